/-
  machine.merged: the loops.
  machine.merged: the loops over the states.
  The automaton that machine.merged makes: it is valid, and it accepts all that the machine accepts. Plain Lean.
-/
import Derived.Test.YtnimlcbgeiajiaaQD
import Derived.Test.YtnimlcbgeiajiaaVE

namespace Go.Proofs.Ytnimlcbgeiajiaa
open Go.RowKit

def clN (cl : List Nat) (i : Nat) : Nat := cl.getD i 0
def mgAcc (ac : List Bool) (cl : List Nat) (k : Nat) : List Nat := ((List.range k).filter fun i => macc ac i).map (clN cl)
def mgSt (cl : List Nat) (k : Nat) : Nat := (List.range k).foldl (fun m i => max m (clN cl i + 1)) 0
def mgLv (lf cl : List Nat) (k : Nat) : List Leaf := (List.range k).map fun (x : Nat) => ⟨(x : Int), (clN cl (mleaf lf x) : Int)⟩
def mgX (t : List (List (List Nat))) (cl : List Nat) (i j k : Nat) : List Branch := (List.range k).map fun (x : Nat) => ⟨(x : Int), (clN cl i : Int), (clN cl j : Int), (clN cl (mbr t x i j) : Int)⟩
def mgJ (L : Nat) (t : List (List (List Nat))) (cl : List Nat) (i k : Nat) : List Branch := (List.range k).flatMap fun (j : Nat) => mgX t cl i j L
def mgI (L n : Nat) (t : List (List (List Nat))) (cl : List Nat) (k : Nat) : List Branch := (List.range k).flatMap fun (i : Nat) => mgJ L t cl i n
theorem blk_eq {g g' n n' c c' : Nat} (h : Value.slice (some ⟨g, 0, none⟩) n c = Value.slice (some ⟨g', 0, none⟩) n' c') : g' = g := by
  injection h with h
  injection h with h
  injection h with h
  exact h.symm
theorem mgSt_succ (cl : List Nat) (k : Nat) : mgSt cl (k + 1) = max (mgSt cl k) (clN cl k + 1) := by
  unfold mgSt
  rw [List.range_succ, List.foldl_append]
  rfl
theorem PlS.setN {wb w : World} {g3 L n n' : Nat} {vacc vlv vbr : Value} {al : List Nat} {lv : List Leaf} {br : List Branch} (h : PlS wb w g3 L n vacc vlv vbr al lv br) : PlS wb (w.setCell ⟨g3, 1, none⟩ (.int .i64 (n' : Int))) g3 L n' vacc vlv vbr al lv br := by
  have hks := (Kept.refl w (fun k => k = g3)).setCell (p := ⟨g3, 1, none⟩) (fun _ => rfl) (.int .i64 (n' : Int))
  have hX : ∀ e, e ≠ 26 → ∀ g cs, g = g3 → ¬ Blk w g e cs := fun e he g cs eg hb => by subst eg; exact h.blk.ne_ hb (fun h => he h.symm) rfl
  exact ⟨h.kept.trans hks (fun _ _ h => h), by simpa using h.blk.set_ 1 (.int .i64 (n' : Int)), own_ty hks h.acc (hX 3 (by decide)), own_ty hks h.lvs (hX 36 (by decide)), own_ty hks h.brs (hX 59 (by decide))⟩

set_option maxHeartbeats 4000000 in
set_option maxRecDepth 100000 in
theorem mg_accept {wb w : World} {base base2 gM g3 go L : Nat} {vacc vleaf vbr v4 v5 : Value} {ac : List Bool} {lf cl : List Nat} {t : List (List (List Nat))} {lv : List Leaf} {br : List Branch} (hM : MachA wb base gM L vacc vleaf vbr ac lf t) (hn : ac.length ≤ 200)
    (hcl : wb.ownsRow base2 3 1 (.slice (some ⟨go, 0, none⟩) ac.length ac.length) ac.length (cl.map encN)) (hcs : ∀ i, clN cl i ≤ 200)
    (hP : PlS wb w g3 L 0 (.slice none 0 0) v4 v5 [] lv br) (hg3 : Blk wb g3 26 #[.int .i64 L, .int .i64 0, .slice none 0 0, .slice none 0 0, .slice none 0 0])
    {u0 u1 u2 u3 u4 u5 u6 u9 u10 u11 u12 u13 u14 u15 u16 u17 u18 u19 u20 u21 u22 u23 u24 u25 u26 u27 u31 u32 u33 u34 u35 u36 u37 u38 u39 u40 u41 u42 u43 u44 u45 u46 u47 u48 u49 u50 u51 u52 u53 u54 u55 u56 u57 u58 u59 u60 u61 u62 u63 u64 u65 u66 u67 u68 u69 u70 u71 u72 u73 u74 u75 u76 u77 u78 u79 u80 u81 u82 u83 u84 u85 u86 u87 u88 u89 u90 u91 u92 u93 u94 u95 u96 u97 u98 u99 u100 u101 u102 u103 u104 u105 u106 u107 u108 u109 u110 u111 u112 u113 u114 u115 u116 u117 u118 u119 u120 u121 u122 u123 u124 u125 u126 u127 u128 u129 u130 u131 u132 u133 u134 u135 u136 u137 u138 u139 u140 : Value}
    {Q : Exit → Act → World → Prop} (hNQ : Reg.NoQ Q)
    (hQ : ∀ (x9 x10 x30 x31 x32 x33 x34 x35 x36 x37 x38 x39 x40 x41 x42 x43 x44 x45 x46 x47 x48 x49 x50 x51 x52 x53 x54 : Value) (w' : World) (v : Value), PlS wb w' g3 L (mgSt cl ac.length) v v4 v5 (mgAcc ac cl ac.length) lv br → Q (.exit 0) ⟨List.toArray (u0 :: u1 :: u2 :: u3 :: u4 :: u5 :: u6 :: (.slice (some ⟨go, 0, none⟩) ac.length ac.length) :: (.pointer (some ⟨g3, 0, none⟩)) :: x9 :: x10 :: u11 :: u12 :: u13 :: u14 :: u15 :: u16 :: u17 :: u18 :: u19 :: u20 :: u21 :: u22 :: u23 :: u24 :: u25 :: u26 :: u27 :: 
      vacc :: (.int .i64 ac.length) :: x30 :: x31 :: x32 :: x33 :: x34 :: x35 :: x36 :: x37 :: x38 :: x39 :: x40 :: x41 :: x42 :: x43 :: x44 :: x45 :: x46 :: x47 :: x48 :: x49 :: x50 :: x51 :: x52 :: x53 :: x54 :: u55 :: u56 :: u57 :: u58 :: u59 :: u60 :: u61 :: u62 :: 
      u63 :: u64 :: u65 :: u66 :: u67 :: u68 :: u69 :: u70 :: u71 :: u72 :: u73 :: u74 :: u75 :: u76 :: u77 :: u78 :: u79 :: u80 :: u81 :: u82 :: u83 :: u84 :: u85 :: u86 :: u87 :: u88 :: u89 :: u90 :: u91 :: u92 :: u93 :: u94 :: u95 :: u96 :: u97 :: u98 :: u99 :: 
      u100 :: u101 :: u102 :: u103 :: u104 :: u105 :: u106 :: u107 :: u108 :: u109 :: u110 :: u111 :: u112 :: u113 :: u114 :: u115 :: u116 :: u117 :: u118 :: u119 :: u120 :: u121 :: u122 :: u123 :: u124 :: u125 :: u126 :: u127 :: u128 :: u129 :: u130 :: u131 :: u132 :: 
      u133 :: u134 :: u135 :: u136 :: u137 :: u138 :: u139 :: u140 :: []), []⟩ w') :
    (Code.loop (loopBody Try.f51 0)).wp Try.prog Q ⟨List.toArray (u0 :: u1 :: u2 :: u3 :: u4 :: u5 :: u6 :: (.slice (some ⟨go, 0, none⟩) ac.length ac.length) :: (.pointer (some ⟨g3, 0, none⟩)) :: u9 :: u10 :: u11 :: u12 :: u13 :: u14 :: u15 :: u16 :: u17 :: u18 :: u19 :: u20 :: u21 :: u22 :: u23 :: u24 :: u25 :: u26 :: u27 :: 
      vacc :: (.int .i64 ac.length) :: (.int .i64 0) :: u31 :: u32 :: u33 :: u34 :: u35 :: u36 :: u37 :: u38 :: u39 :: u40 :: u41 :: u42 :: u43 :: u44 :: u45 :: u46 :: u47 :: u48 :: u49 :: u50 :: u51 :: u52 :: u53 :: u54 :: u55 :: u56 :: u57 :: u58 :: u59 :: u60 :: 
      u61 :: u62 :: u63 :: u64 :: u65 :: u66 :: u67 :: u68 :: u69 :: u70 :: u71 :: u72 :: u73 :: u74 :: u75 :: u76 :: u77 :: u78 :: u79 :: u80 :: u81 :: u82 :: u83 :: u84 :: u85 :: u86 :: u87 :: u88 :: u89 :: u90 :: u91 :: u92 :: u93 :: u94 :: u95 :: u96 :: u97 :: 
      u98 :: u99 :: u100 :: u101 :: u102 :: u103 :: u104 :: u105 :: u106 :: u107 :: u108 :: u109 :: u110 :: u111 :: u112 :: u113 :: u114 :: u115 :: u116 :: u117 :: u118 :: u119 :: u120 :: u121 :: u122 :: u123 :: u124 :: u125 :: u126 :: u127 :: u128 :: u129 :: u130 :: 
      u131 :: u132 :: u133 :: u134 :: u135 :: u136 :: u137 :: u138 :: u139 :: u140 :: []), []⟩ w := by
  conv => arg 2; arg 1; whnf
  go_loopw [30] (fun ii wr => ∃ (k : Nat) (v : Value) (al : List Nat), ii = .int .i64 (k : Int) ∧ k ≤ ac.length ∧ al.length ≤ k ∧ PlS wb wr g3 L (mgSt cl k) v v4 v5 al lv br ∧ Hid (al = mgAcc ac cl k) ∧ Hid (mgSt cl k ≤ 201)) (fun ii _ => ac.length - (intOf ii).toNat)
  case atStart => exact ⟨0, _, [], rfl, Nat.zero_le _, by simp, hP, rfl, by show _ ≤ _; simp [mgSt]⟩
  case round =>
    obtain ⟨k, v, al, rfl, hk, hal, hPP, hl, hst⟩ := hrel
    have hM' := hM.keep hPP.kept (fun k t cs hx hb => by
      subst hx
      have := blk_ty hg3 hb
      subst this
      decide)
    have hcl' := own_ty hPP.kept hcl (fun g cs eg hb => by subst eg; exact hg3.ne_ hb (by decide) rfl)
    obtain ⟨A, c, rfl⟩ := slice_of_own hPP.acc
    have hc3 := hPP.blk.cell
    have hf3 := hPP.blk.frozen
    have hl3 := hPP.blk.lt
    have hwb := hPP.kept.size
    by_cases hlt : k < ac.length
    · obtain ⟨b, hb⟩ := get_lt hlt
      obtain ⟨ga, ca, rfl, hcb⟩ := own_get hM'.acc (map_get (f := Value.bool) hb)
      obtain ⟨e, he⟩ := get_lt (l := cl) (i := k) (by have := hcl.1; simp at this; omega)
      obtain ⟨gc, cc, hvc, hce⟩ := own_get hcl' (map_get (f := encN) he)
      have hgc := blk_eq hvc
      clear hvc
      subst hgc
      simp only [encN] at hce
      have hme := hide (show clN cl k = e from getD_some he)
      have he200 := hcs k
      rw [hme.out] at he200
      have hmb := hide (show macc ac k = b from getD_some hb)
      have hrs : Hid (mgAcc ac cl (k + 1) = al ++ (if b = true then [e] else [])) := by
        show _ = _
        unfold mgAcc
        rw [List.range_succ, List.filter_append, List.map_append, hl.out]
        unfold mgAcc
        cases b <;> simp [hmb.out, hme.out]
      have hss : Hid (mgSt cl (k + 1) = max (mgSt cl k) (e + 1)) := by
        show _ = _
        rw [mgSt_succ, hme.out]
      have hst2 := hst.out
      have heN := hide (map_get (f := encN) he)
      clear hb he
      generalize mgSt cl k = st at *
      rcases Nat.lt_or_ge st (e + 1) with hmx | hmx
      · have hPA : PlS wb (wr.setCell ⟨g3, 1, none⟩ (.int .i64 ((e : Int) + 1))).drew g3 L (e + 1) (.slice A al.length c) v4 v5 al lv br := by
          have := (hPP.setN (n' := e + 1)).keep0 ((Kept.refl _ (fun _ => False)).drew)
          simpa using this
        have hsn : Hid (mgSt cl (k + 1) = e + 1) := by show _ = _; rw [hss.out]; omega
        have hclA := own_ty hPA.kept hcl (fun g cs eg hb => by subst eg; exact hg3.ne_ hb (by decide) rfl)
        obtain ⟨gc2, cc2, hvc2, hceA⟩ := own_get hclA heN.out
        have hgc2 := blk_eq hvc2
        clear hvc2
        subst hgc2
        simp only [encN] at hceA
        have hcA := hPA.blk.cell
        have hfA := hPA.blk.frozen
        have hlA := hPA.blk.lt
        have hPB := hPA.keep0 ((Kept.refl _ (fun _ => False)).drew)
        have hwA := hPB.kept.size
        cases b
        · go_wp2_with fail
          refine Reg.region_ints' [0, 1, 0, 0, 12, 28, 60, 127, 255, 511] (by kernel_rfl) (by repeat (first | exact hNQ | refine Reg.NoQ.then ?_ | refine Reg.NoQ.inBlock ?_)) ?_
          intro Qf hQf
          go_wp2_with fail
          refine ⟨rfl, ?_⟩
          go_wp2_with fail
          refine ⟨⟨k + 1, .slice A al.length c, al, by simp, by omega, by omega, ?_, by show _ = _; rw [hrs.out]; simp, by show _ ≤ _; rw [hsn.out]; omega⟩, by simp [intOf]; omega⟩
          rw [hsn.out]
          exact hPA
        · go_wp2_with fail
          refine Reg.region_ints' [0, 1, 0, 0, 12, 28, 60, 127, 255, 511] (by kernel_rfl) (by repeat (first | exact hNQ | refine Reg.NoQ.then ?_ | refine Reg.NoQ.inBlock ?_)) ?_
          intro Qf hQf
          go_wp2_with fail
          refine ⟨rfl, ?_⟩
          go_wp2_with fail
          generalize hwe : (wr.setCell ⟨g3, 1, none⟩ (.int .i64 ((e : Int) + 1))).drew = wA at *
          clear hwe
          refine Reg.region_plain [0, 1, 0, 0, 12, 28, 60, 127, 255, 511] (by kernel_rfl) (by repeat (first | exact hNQ | refine Reg.NoQ.then ?_ | refine Reg.NoQ.inBlock ?_)) ?_
          go_wp2_with (at_builtin; refine wpList_app_new row22 rfl _ _ rfl wb.heap.size (.slice A al.length c) al.length _ rfl hPB.acc [.int .i64 (e : Int)] 1 rfl rfl (by simp [Value.oneCell']) (by omega) hwA ?_; intro g cap' w3 hown hk3 hmv3 hg3'; have hm3 := hPB.blk.kept hk3 (fun e => own_blk_ne hPB.acc hPB.blk (by decide) e); have hcm3 := hm3.cell; have hfm3 := hm3.frozen; have hgl3 := hm3.lt)
          refine ⟨⟨k + 1, .slice (some ⟨g, 0, none⟩) (al.length + 1) cap', al ++ [e], by simp, by omega, by simp; omega, ?_, by show _ = _; rw [hrs.out]; simp, by show _ ≤ _; rw [hsn.out]; omega⟩, by simp [intOf]; omega⟩
          rw [hsn.out]
          exact hPB.addAcc hk3 hown
      · have hPA : PlS wb (wr.setCell ⟨g3, 1, none⟩ (.int .i64 ((st : Int)))).drew g3 L (st) (.slice A al.length c) v4 v5 al lv br := by
          have := (hPP.setN (n' := st)).keep0 ((Kept.refl _ (fun _ => False)).drew)
          simpa using this
        have hsn : Hid (mgSt cl (k + 1) = st) := by show _ = _; rw [hss.out]; omega
        have hclA := own_ty hPA.kept hcl (fun g cs eg hb => by subst eg; exact hg3.ne_ hb (by decide) rfl)
        obtain ⟨gc2, cc2, hvc2, hceA⟩ := own_get hclA heN.out
        have hgc2 := blk_eq hvc2
        clear hvc2
        subst hgc2
        simp only [encN] at hceA
        have hcA := hPA.blk.cell
        have hfA := hPA.blk.frozen
        have hlA := hPA.blk.lt
        have hPB := hPA.keep0 ((Kept.refl _ (fun _ => False)).drew)
        have hwA := hPB.kept.size
        cases b
        · go_wp2_with fail
          refine Reg.region_ints' [0, 1, 0, 0, 12, 28, 60, 127, 255, 511] (by kernel_rfl) (by repeat (first | exact hNQ | refine Reg.NoQ.then ?_ | refine Reg.NoQ.inBlock ?_)) ?_
          intro Qf hQf
          go_wp2_with fail
          refine ⟨rfl, ?_⟩
          go_wp2_with fail
          refine ⟨⟨k + 1, .slice A al.length c, al, by simp, by omega, by omega, ?_, by show _ = _; rw [hrs.out]; simp, by show _ ≤ _; rw [hsn.out]; omega⟩, by simp [intOf]; omega⟩
          rw [hsn.out]
          exact hPA
        · go_wp2_with fail
          refine Reg.region_ints' [0, 1, 0, 0, 12, 28, 60, 127, 255, 511] (by kernel_rfl) (by repeat (first | exact hNQ | refine Reg.NoQ.then ?_ | refine Reg.NoQ.inBlock ?_)) ?_
          intro Qf hQf
          go_wp2_with fail
          refine ⟨rfl, ?_⟩
          go_wp2_with fail
          generalize hwe : (wr.setCell ⟨g3, 1, none⟩ (.int .i64 ((st : Int)))).drew = wA at *
          clear hwe
          refine Reg.region_plain [0, 1, 0, 0, 12, 28, 60, 127, 255, 511] (by kernel_rfl) (by repeat (first | exact hNQ | refine Reg.NoQ.then ?_ | refine Reg.NoQ.inBlock ?_)) ?_
          go_wp2_with (at_builtin; refine wpList_app_new row22 rfl _ _ rfl wb.heap.size (.slice A al.length c) al.length _ rfl hPB.acc [.int .i64 (e : Int)] 1 rfl rfl (by simp [Value.oneCell']) (by omega) hwA ?_; intro g cap' w3 hown hk3 hmv3 hg3'; have hm3 := hPB.blk.kept hk3 (fun e => own_blk_ne hPB.acc hPB.blk (by decide) e); have hcm3 := hm3.cell; have hfm3 := hm3.frozen; have hgl3 := hm3.lt)
          refine ⟨⟨k + 1, .slice (some ⟨g, 0, none⟩) (al.length + 1) cap', al ++ [e], by simp, by omega, by simp; omega, ?_, by show _ = _; rw [hrs.out]; simp, by show _ ≤ _; rw [hsn.out]; omega⟩, by simp [intOf]; omega⟩
          rw [hsn.out]
          exact hPB.addAcc hk3 hown
    · have e : k = ac.length := by omega
      have he := hide e
      clear e
      go_wp2_with fail
      have h1 := hl.out
      rw [he.out] at h1
      rw [h1, he.out] at hPP
      exact hQ _ _ _ _ _ _ _ _ _ _ _ _ _ _ _ _ _ _ _ _ _ _ _ _ _ _ _ wr _ hPP


set_option maxHeartbeats 4000000 in
set_option maxRecDepth 100000 in
theorem mg_leaves {wb w : World} {base base2 gM g3 go L st : Nat} {vacc vleaf vbr v3 v5 d2 d3 d4 d5 : Value} {ac : List Bool} {lf al cl : List Nat} {t : List (List (List Nat))} {br : List Branch} (hM : MachA wb base gM L vacc vleaf vbr ac lf t) (hok : MOK L ac lf t) (hL : L ≤ 8)
    (hcl : wb.ownsRow base2 3 1 (.slice (some ⟨go, 0, none⟩) ac.length ac.length) ac.length (cl.map encN)) (hcn : cl.length = ac.length)
    (hP : PlS wb w g3 L st v3 (.slice none 0 0) v5 al [] br) (hg3 : Blk wb g3 26 #[.int .i64 L, d2, d3, d4, d5])
    {u0 u1 u2 u3 u4 u5 u6 u9 u10 u11 u12 u13 u14 u15 u16 u17 u18 u19 u20 u21 u22 u23 u24 u25 u26 u27 u28 u29 u30 u31 u32 u33 u34 u35 u36 u37 u38 u39 u40 u41 u42 u43 u44 u45 u46 u47 u48 u49 u50 u51 u52 u53 u54 u55 u56 u57 u61 u62 u63 u64 u65 u66 u67 u68 u69 u70 u71 u72 u73 u74 u75 u76 u77 u78 u79 u80 u81 u82 u83 u84 u85 u86 u87 u88 u89 u90 u91 u92 u93 u94 u95 u96 u97 u98 u99 u100 u101 u102 u103 u104 u105 u106 u107 u108 u109 u110 u111 u112 u113 u114 u115 u116 u117 u118 u119 u120 u121 u122 u123 u124 u125 u126 u127 u128 u129 u130 u131 u132 u133 u134 u135 u136 u137 u138 u139 u140 : Value}
    {Q : Exit → Act → World → Prop} (hNQ : Reg.NoQ Q)
    (hQ : ∀ (x11 x12 x60 x61 x62 x63 x64 x65 x66 x67 x68 x69 x70 x71 x72 x73 x74 x75 x76 : Value) (w' : World) (v : Value), PlS wb w' g3 L st v3 v v5 al (mgLv lf cl lf.length) br → Q (.exit 2) ⟨List.toArray (u0 :: u1 :: u2 :: u3 :: u4 :: u5 :: u6 :: (.slice (some ⟨go, 0, none⟩) ac.length ac.length) :: (.pointer (some ⟨g3, 0, none⟩)) :: u9 :: u10 :: x11 :: x12 :: u13 :: u14 :: u15 :: u16 :: u17 :: u18 :: u19 :: u20 :: u21 :: u22 :: u23 :: u24 :: u25 :: u26 :: u27 :: 
      u28 :: u29 :: u30 :: u31 :: u32 :: u33 :: u34 :: u35 :: u36 :: u37 :: u38 :: u39 :: u40 :: u41 :: u42 :: u43 :: u44 :: u45 :: u46 :: u47 :: u48 :: u49 :: u50 :: u51 :: u52 :: u53 :: u54 :: u55 :: u56 :: u57 :: vleaf :: (.int .i64 lf.length) :: x60 :: x61 :: 
      x62 :: x63 :: x64 :: x65 :: x66 :: x67 :: x68 :: x69 :: x70 :: x71 :: x72 :: x73 :: x74 :: x75 :: x76 :: u77 :: u78 :: u79 :: u80 :: u81 :: u82 :: u83 :: u84 :: u85 :: u86 :: u87 :: u88 :: u89 :: u90 :: u91 :: u92 :: u93 :: u94 :: u95 :: u96 :: u97 :: u98 :: 
      u99 :: u100 :: u101 :: u102 :: u103 :: u104 :: u105 :: u106 :: u107 :: u108 :: u109 :: u110 :: u111 :: u112 :: u113 :: u114 :: u115 :: u116 :: u117 :: u118 :: u119 :: u120 :: u121 :: u122 :: u123 :: u124 :: u125 :: u126 :: u127 :: u128 :: u129 :: u130 :: u131 :: 
      u132 :: u133 :: u134 :: u135 :: u136 :: u137 :: u138 :: u139 :: u140 :: []), []⟩ w') :
    (Code.loop (loopBody Try.f51 1)).wp Try.prog Q ⟨List.toArray (u0 :: u1 :: u2 :: u3 :: u4 :: u5 :: u6 :: (.slice (some ⟨go, 0, none⟩) ac.length ac.length) :: (.pointer (some ⟨g3, 0, none⟩)) :: u9 :: u10 :: u11 :: u12 :: u13 :: u14 :: u15 :: u16 :: u17 :: u18 :: u19 :: u20 :: u21 :: u22 :: u23 :: u24 :: u25 :: u26 :: u27 :: 
      u28 :: u29 :: u30 :: u31 :: u32 :: u33 :: u34 :: u35 :: u36 :: u37 :: u38 :: u39 :: u40 :: u41 :: u42 :: u43 :: u44 :: u45 :: u46 :: u47 :: u48 :: u49 :: u50 :: u51 :: u52 :: u53 :: u54 :: u55 :: u56 :: u57 :: vleaf :: (.int .i64 lf.length) :: (.int .i64 0) :: 
      u61 :: u62 :: u63 :: u64 :: u65 :: u66 :: u67 :: u68 :: u69 :: u70 :: u71 :: u72 :: u73 :: u74 :: u75 :: u76 :: u77 :: u78 :: u79 :: u80 :: u81 :: u82 :: u83 :: u84 :: u85 :: u86 :: u87 :: u88 :: u89 :: u90 :: u91 :: u92 :: u93 :: u94 :: u95 :: u96 :: u97 :: 
      u98 :: u99 :: u100 :: u101 :: u102 :: u103 :: u104 :: u105 :: u106 :: u107 :: u108 :: u109 :: u110 :: u111 :: u112 :: u113 :: u114 :: u115 :: u116 :: u117 :: u118 :: u119 :: u120 :: u121 :: u122 :: u123 :: u124 :: u125 :: u126 :: u127 :: u128 :: u129 :: u130 :: 
      u131 :: u132 :: u133 :: u134 :: u135 :: u136 :: u137 :: u138 :: u139 :: u140 :: []), []⟩ w := by
  conv => arg 2; arg 1; whnf
  have hok2 := hide hok
  have hlL : lf.length ≤ 8 := by have := hok.lfl; omega
  have hcN := hide hcn
  clear hok hcn
  go_loopw [60] (fun ii wr => ∃ (k : Nat) (v : Value) (lv : List Leaf), ii = .int .i64 (k : Int) ∧ k ≤ lf.length ∧ lv.length ≤ k ∧ PlS wb wr g3 L st v3 v v5 al lv br ∧ Hid (lv = mgLv lf cl k)) (fun ii _ => lf.length - (intOf ii).toNat)
  case atStart => exact ⟨0, _, [], rfl, Nat.zero_le _, by simp, hP, rfl⟩
  case round =>
    obtain ⟨k, v, lv, rfl, hk, hlv, hPP, hl⟩ := hrel
    have hM' := hM.keep hPP.kept (fun k t cs hx hb => by
      subst hx
      have := blk_ty hg3 hb
      subst this
      decide)
    have hcl' := own_ty hPP.kept hcl (fun g cs eg hb => by subst eg; exact hg3.ne_ hb (by decide) rfl)
    obtain ⟨A, c, rfl⟩ := slice_of_own hPP.lvs
    have hc3 := hPP.blk.cell
    have hf3 := hPP.blk.frozen
    have hl3 := hPP.blk.lt
    have hwb := hPP.kept.size
    by_cases hlt : k < lf.length
    · obtain ⟨q, hq⟩ := get_lt hlt
      obtain ⟨ga, ca, rfl, hcq⟩ := own_get hM'.lfs (map_get (f := encN) hq)
      have hmq := hide (show mleaf lf k = q from getD_some hq)
      have hqn : q < ac.length := by
        have := hok2.out.isM.leaf_lt k (by rw [← hok2.out.lfl]; exact hlt)
        rwa [hmq.out] at this
      obtain ⟨e, he⟩ := get_lt (l := cl) (i := q) (by rw [hcN.out]; exact hqn)
      obtain ⟨gc, cc, hvc, hce⟩ := own_get hcl' (map_get (f := encN) he)
      have hgc := blk_eq hvc
      clear hvc
      subst hgc
      simp only [encN] at hce hcq
      have hme := hide (show clN cl q = e from getD_some he)
      have hrs : Hid (mgLv lf cl (k + 1) = lv ++ [⟨(k : Int), (e : Int)⟩]) := by
        show _ = _
        unfold mgLv
        rw [List.range_succ, List.map_append, hl.out]
        simp [mgLv, hmq.out, hme.out]
      clear hq he
      go_wp2_with fail
      refine Reg.region_cut [0, 1, 0, 0, 0, 24, 56, 124, 252, 511, 1023, 2047] [0, 1, 2, 3, 4, 5, 6, 7, 8, 9, 10, 11] (by kernel_rfl) (by repeat (first | exact hNQ | refine Reg.NoQ.then ?_ | refine Reg.NoQ.inBlock ?_)) ?_
      refine Reg.rest_walk' [0, 1, 2, 3, 4, 5, 6] [7, 8, 9, 10, 11] rfl (by kernel_rfl) ?_
      intro Qf hQf
      go_wp2_with fail
      rw [List.filterMap_nil]
      go_wp2_with fail
      refine Reg.rest_act' 7 [8, 9, 10, 11] [1] rfl (by kernel_rfl) ?_
      intro Qf hQf
      simp only [List.getElem_toArray, List.getElem_cons_succ, List.getElem_cons_zero]
      go_wp2_with fail
      refine ⟨Reg.same_below (Below.refl _ _) [1] rfl, ?_⟩
      refine Reg.rest_walk' [8] [9, 10, 11] rfl (by kernel_rfl) ?_
      intro Qf hQf
      go_wp2_with fail
      rw [List.filterMap_nil]
      go_wp2_with fail
      refine Reg.rest_act' 9 [10, 11] [] rfl (by kernel_rfl) ?_
      intro Qf hQf
      simp only [List.getElem_toArray, List.getElem_cons_succ, List.getElem_cons_zero]
      have hPd := hPP.keep0 ((Kept.refl wr (fun _ => False)).drew)
      refine wpList_app_new (w := wr.drew) row23 rfl _ _ rfl wb.heap.size (.slice A lv.length c) lv.length _ rfl hPd.lvs [.int .i64 (k : Int), .int .i64 (e : Int)] 1 rfl rfl (by simp [Value.oneCell']) (by omega) hwb ?_
      intro g cap' w3 hown hk3 hmv3 hg3'
      have hm3 := hPd.blk.kept hk3 (fun e => own_blk_ne hPd.lvs hPd.blk (by decide) e)
      have hcm3 := hm3.cell
      have hfm3 := hm3.frozen
      have hgl3 := hm3.lt
      have hPf := hPd.addLv (e := ⟨(k : Int), (e : Int)⟩) hk3 hown
      refine hQf _ _ ⟨fun r hr => absurd hr (List.not_mem_nil), ?_⟩
      clear hQf
      refine Reg.rest_walk' [10, 11] [] rfl (by kernel_rfl) ?_
      intro Qf hQf
      go_wp2_with fail
      rw [List.filterMap_nil]
      go_wp2_with fail
      refine Reg.rest_end ?_
      go_wp2_with fail
      refine ⟨⟨k + 1, _, lv ++ [⟨(k : Int), (e : Int)⟩], by simp, by omega, by simp; omega, hPf, by show _ = _; exact hrs.out.symm⟩, by simp [intOf]; omega⟩
    · have e : k = lf.length := by omega
      have he := hide e
      clear e
      go_wp2_with fail
      have h1 := hl.out
      rw [he.out] at h1
      rw [h1] at hPP
      exact hQ _ _ _ _ _ _ _ _ _ _ _ _ _ _ _ _ _ _ _ wr _ hPP

set_option maxHeartbeats 4000000 in
set_option maxRecDepth 100000 in
theorem mg_x {wb w : World} {base base2 gM g3 go L st i j : Nat} {vacc vleaf vbr v3 v4 v5 d2 d3 d4 d5 : Value} {ac : List Bool} {lf al cl : List Nat} {t : List (List (List Nat))} {lv : List Leaf} {br : List Branch} (hM : MachA wb base gM L vacc vleaf vbr ac lf t) (hok : MOK L ac lf t) (hL : L ≤ 8)
    (hcl : wb.ownsRow base2 3 1 (.slice (some ⟨go, 0, none⟩) ac.length ac.length) ac.length (cl.map encN)) (hcn : cl.length = ac.length) (hi : i < ac.length) (hj : j < ac.length) (_ : ac.length ≤ 200)
    (hP : PlS wb w g3 L st v3 v4 v5 al lv br) (hg3 : Blk wb g3 26 #[.int .i64 L, d2, d3, d4, d5]) (hbr : br.length ≤ 600000)
    {u1 u2 u3 u4 u5 u6 u9 u10 u11 u12 u15 u16 u17 u18 u19 u20 u21 u22 u23 u24 u25 u26 u27 u28 u29 u30 u31 u32 u33 u34 u35 u36 u37 u38 u39 u40 u41 u42 u43 u44 u45 u46 u47 u48 u49 u50 u51 u52 u53 u54 u55 u56 u57 u58 u59 u60 u61 u62 u63 u64 u65 u66 u67 u68 u69 u70 u71 u72 u73 u74 u75 u76 u77 u78 u79 u80 u81 u82 u83 u84 u85 u86 u87 u88 u89 u90 u91 u92 u93 u94 u95 u98 u99 u100 u101 u102 u103 u104 u105 u106 u107 u108 u109 u110 u111 u112 u113 u114 u115 u116 u117 u118 u119 u120 u121 u122 u123 u124 u125 u126 u127 u128 u129 u130 u131 u132 u133 u134 u135 u136 u137 u138 u139 u140 : Value}
    {Q : Exit → Act → World → Prop} (hNQ : Reg.NoQ Q)
    (hQ : ∀ (x15 x97 x98 x99 x100 x101 x102 x103 x104 x105 x106 x107 x108 x109 x110 x111 x112 x113 x114 x115 x116 x117 x118 x119 x120 x121 x122 x123 x124 x125 x126 x127 x128 x129 x130 x131 : Value) (w' : World) (v : Value), PlS wb w' g3 L st v3 v4 v al lv (br ++ mgX t cl i j L) → Q (.exit 8) ⟨List.toArray ((.pointer (some ⟨gM, 0, none⟩)) :: u1 :: u2 :: u3 :: u4 :: u5 :: u6 :: (.slice (some ⟨go, 0, none⟩) ac.length ac.length) :: (.pointer (some ⟨g3, 0, none⟩)) :: u9 :: u10 :: u11 :: u12 :: (.int .i64 i) :: (.int .i64 j) :: x15 :: u16 :: u17 :: u18 :: u19 :: u20 :: 
      u21 :: u22 :: u23 :: u24 :: u25 :: u26 :: u27 :: u28 :: u29 :: u30 :: u31 :: u32 :: u33 :: u34 :: u35 :: u36 :: u37 :: u38 :: u39 :: u40 :: u41 :: u42 :: u43 :: u44 :: u45 :: u46 :: u47 :: u48 :: u49 :: u50 :: u51 :: u52 :: u53 :: u54 :: u55 :: u56 :: u57 :: 
      u58 :: u59 :: u60 :: u61 :: u62 :: u63 :: u64 :: u65 :: u66 :: u67 :: u68 :: u69 :: u70 :: u71 :: u72 :: u73 :: u74 :: u75 :: u76 :: u77 :: u78 :: u79 :: u80 :: u81 :: u82 :: u83 :: u84 :: u85 :: u86 :: u87 :: u88 :: u89 :: u90 :: u91 :: u92 :: u93 :: u94 :: 
      u95 :: (.int .i64 L) :: x97 :: x98 :: x99 :: x100 :: x101 :: x102 :: x103 :: x104 :: x105 :: x106 :: x107 :: x108 :: x109 :: x110 :: x111 :: x112 :: x113 :: x114 :: x115 :: x116 :: x117 :: x118 :: x119 :: x120 :: x121 :: x122 :: x123 :: x124 :: x125 :: x126 :: 
      x127 :: x128 :: x129 :: x130 :: x131 :: u132 :: u133 :: u134 :: u135 :: u136 :: u137 :: u138 :: u139 :: u140 :: []), []⟩ w') :
    (Code.loop (loopBody Try.f51 4)).wp Try.prog Q ⟨List.toArray ((.pointer (some ⟨gM, 0, none⟩)) :: u1 :: u2 :: u3 :: u4 :: u5 :: u6 :: (.slice (some ⟨go, 0, none⟩) ac.length ac.length) :: (.pointer (some ⟨g3, 0, none⟩)) :: u9 :: u10 :: u11 :: u12 :: (.int .i64 i) :: (.int .i64 j) :: u15 :: u16 :: u17 :: u18 :: u19 :: u20 :: 
      u21 :: u22 :: u23 :: u24 :: u25 :: u26 :: u27 :: u28 :: u29 :: u30 :: u31 :: u32 :: u33 :: u34 :: u35 :: u36 :: u37 :: u38 :: u39 :: u40 :: u41 :: u42 :: u43 :: u44 :: u45 :: u46 :: u47 :: u48 :: u49 :: u50 :: u51 :: u52 :: u53 :: u54 :: u55 :: u56 :: u57 :: 
      u58 :: u59 :: u60 :: u61 :: u62 :: u63 :: u64 :: u65 :: u66 :: u67 :: u68 :: u69 :: u70 :: u71 :: u72 :: u73 :: u74 :: u75 :: u76 :: u77 :: u78 :: u79 :: u80 :: u81 :: u82 :: u83 :: u84 :: u85 :: u86 :: u87 :: u88 :: u89 :: u90 :: u91 :: u92 :: u93 :: u94 :: 
      u95 :: (.int .i64 L) :: (.int .i64 0) :: u98 :: u99 :: u100 :: u101 :: u102 :: u103 :: u104 :: u105 :: u106 :: u107 :: u108 :: u109 :: u110 :: u111 :: u112 :: u113 :: u114 :: u115 :: u116 :: u117 :: u118 :: u119 :: u120 :: u121 :: u122 :: u123 :: u124 :: u125 :: 
      u126 :: u127 :: u128 :: u129 :: u130 :: u131 :: u132 :: u133 :: u134 :: u135 :: u136 :: u137 :: u138 :: u139 :: u140 :: []), []⟩ w := by
  conv => arg 2; arg 1; whnf
  have hok2 := hide hok
  have hcN := hide hcn
  clear hok hcn
  go_loopw [97] (fun ii wr => ∃ (x : Nat) (v : Value) (br' : List Branch), ii = .int .i64 (x : Int) ∧ x ≤ L ∧ br'.length ≤ br.length + x ∧ PlS wb wr g3 L st v3 v4 v al lv br' ∧ Hid (br' = br ++ mgX t cl i j x)) (fun ii _ => L - (intOf ii).toNat)
  case atStart => exact ⟨0, _, br, rfl, Nat.zero_le _, by simp, hP, by show _ = _; simp [mgX]⟩
  case round =>
    obtain ⟨x, v, br', rfl, hx, hbl, hPP, hl⟩ := hrel
    have hM' := hM.keep hPP.kept (fun k t cs hx hb => by
      subst hx
      have := blk_ty hg3 hb
      subst this
      decide)
    have hcl' := own_ty hPP.kept hcl (fun g cs eg hb => by subst eg; exact hg3.ne_ hb (by decide) rfl)
    obtain ⟨A, c, rfl⟩ := slice_of_own hPP.brs
    by_cases hlt : x < L
    · obtain ⟨gv, cv, gi, ci, gj, cj, rfl, h1, h2, h3⟩ := hM'.at hok2.out hi hj hlt
      have hcm := hM'.blk.cell
      have hc3 := hPP.blk.cell
      have hwb := hPP.kept.size
      have hqn := hok2.out.isM.br_lt x i j hlt hi hj
      have hfin := hide (show mgX t cl i j (x + 1) = mgX t cl i j x ++ [⟨(x : Int), (clN cl i : Int), (clN cl j : Int), (clN cl (mbr t x i j) : Int)⟩] by unfold mgX; rw [List.range_succ, List.map_append]; rfl)
      generalize mbr t x i j = q at *
      obtain ⟨e1, he1⟩ := get_lt (l := cl) (i := i) (by rw [hcN.out]; exact hi)
      obtain ⟨e2, he2⟩ := get_lt (l := cl) (i := j) (by rw [hcN.out]; exact hj)
      obtain ⟨e3, he3⟩ := get_lt (l := cl) (i := q) (by rw [hcN.out]; exact hqn)
      obtain ⟨gc1, cc1, hvc1, hce1⟩ := own_get hcl' (map_get (f := encN) he1)
      obtain ⟨gc2, cc2, hvc2, hce2⟩ := own_get hcl' (map_get (f := encN) he2)
      obtain ⟨gc3, cc3, hvc3, hce3⟩ := own_get hcl' (map_get (f := encN) he3)
      have hgc1 := blk_eq hvc1
      have hgc2 := blk_eq hvc2
      have hgc3 := blk_eq hvc3
      clear hvc1 hvc2 hvc3
      subst hgc1 hgc2 hgc3
      simp only [encN] at hce1 hce2 hce3
      have hm1 := hide (show clN cl i = e1 from getD_some he1)
      have hm2 := hide (show clN cl j = e2 from getD_some he2)
      have hm3' := hide (show clN cl q = e3 from getD_some he3)
      have hfin2 := hfin.out
      rw [hm1.out, hm2.out, hm3'.out] at hfin2
      have hfin3 := hide hfin2
      clear he1 he2 he3 hfin hfin2
      go_wp2_with fail
      refine Reg.region_cut [0, 1, 0, 0, 0, 24, 56, 0, 0, 384, 896, 0, 0, 4096, 12288, 28672, 0, 126976, 258048, 0, 1044480, 2093056, 0, 8384512, 16773120, 33552384, 67106816, 134217724, 268435452, 536870911, 1073741823, 2147483647] [0, 1, 2, 3, 4, 5, 6, 7, 8, 9, 10, 11, 12, 13, 14, 15, 16, 17, 18, 19, 20, 21, 22, 23, 24, 25, 26, 27, 28, 29, 30, 31] (by kernel_rfl) (by repeat (first | exact hNQ | refine Reg.NoQ.then ?_ | refine Reg.NoQ.inBlock ?_)) ?_
      refine Reg.rest_walk' [0, 1, 2, 3, 4, 5, 6, 7, 8, 9, 10, 11, 12, 13, 14, 15, 16, 17, 18, 19, 20, 21, 22, 23, 24, 25, 26] [27, 28, 29, 30, 31] rfl (by kernel_rfl) ?_
      intro Qf hQf
      go_wp2_with fail
      rw [List.filterMap_nil]
      go_wp2_with fail
      refine Reg.rest_act' 27 [28, 29, 30, 31] [1] rfl (by kernel_rfl) ?_
      intro Qf hQf
      simp only [List.getElem_toArray, List.getElem_cons_succ, List.getElem_cons_zero]
      go_wp2_with fail
      refine ⟨Reg.same_below (Below.refl _ _) [1] rfl, ?_⟩
      refine Reg.rest_walk' [28] [29, 30, 31] rfl (by kernel_rfl) ?_
      intro Qf hQf
      go_wp2_with fail
      rw [List.filterMap_nil]
      go_wp2_with fail
      refine Reg.rest_act' 29 [30, 31] [] rfl (by kernel_rfl) ?_
      intro Qf hQf
      simp only [List.getElem_toArray, List.getElem_cons_succ, List.getElem_cons_zero]
      have hPd := hPP.keep0 ((Kept.refl wr (fun _ => False)).drew)
      refine wpList_app_new (w := wr.drew) row24 rfl _ _ rfl wb.heap.size (.slice A br'.length c) br'.length _ rfl hPd.brs [.int .i64 (x : Int), .int .i64 (e1 : Int), .int .i64 (e2 : Int), .int .i64 (e3 : Int)] 1 rfl rfl (by simp [Value.oneCell']) (by omega) hwb ?_
      intro g cap' w3 hown hk3 hmv3 hg3'
      have hm3 := hPd.blk.kept hk3 (fun e => own_blk_ne hPd.brs hPd.blk (by decide) e)
      have hcm3 := hm3.cell
      have hfm3 := hm3.frozen
      have hgl3 := hm3.lt
      have hPf := hPd.addBr (e := ⟨(x : Int), (e1 : Int), (e2 : Int), (e3 : Int)⟩) hk3 hown
      refine hQf _ _ ⟨fun r hr => absurd hr (List.not_mem_nil), ?_⟩
      clear hQf
      refine Reg.rest_walk' [30, 31] [] rfl (by kernel_rfl) ?_
      intro Qf hQf
      go_wp2_with fail
      rw [List.filterMap_nil]
      go_wp2_with fail
      refine Reg.rest_end ?_
      go_wp2_with fail
      refine ⟨⟨x + 1, _, br' ++ [⟨(x : Int), (e1 : Int), (e2 : Int), (e3 : Int)⟩], by simp, by omega, by simp; omega, hPf, ?_⟩, by simp [intOf]; omega⟩
      show _ = _
      rw [hfin3.out, ← List.append_assoc, ← hl.out]
    · have e : x = L := by omega
      have he := hide e
      clear e
      go_wp2_with fail
      have h1 := hl.out
      rw [he.out] at h1
      subst h1
      exact hQ _ _ _ _ _ _ _ _ _ _ _ _ _ _ _ _ _ _ _ _ _ _ _ _ _ _ _ _ _ _ _ _ _ _ _ _ wr _ hPP
end Go.Proofs.Ytnimlcbgeiajiaa

namespace Go.Proofs.Ytnimlcbgeiajiaa
open Go.RowKit

theorem mgX_len (t : List (List (List Nat))) (cl : List Nat) (i j k : Nat) : (mgX t cl i j k).length = k := by simp [mgX]
theorem mgJ_len (L : Nat) (t : List (List (List Nat))) (cl : List Nat) (i k : Nat) : (mgJ L t cl i k).length ≤ k * L := by
  have := flat_len (fun (j : Nat) => mgX t cl i j L) L (fun j => by rw [mgX_len]; omega) (List.range k)
  simpa [mgJ] using this
theorem mgI_len (L n : Nat) (t : List (List (List Nat))) (cl : List Nat) (k : Nat) : (mgI L n t cl k).length ≤ k * (n * L) := by
  have := flat_len (fun (i : Nat) => mgJ L t cl i n) (n * L) (fun i => mgJ_len L t cl i n) (List.range k)
  simpa [mgI] using this
theorem mgJ_succ (L : Nat) (t : List (List (List Nat))) (cl : List Nat) (i k : Nat) : mgJ L t cl i (k + 1) = mgJ L t cl i k ++ mgX t cl i k L := by
  unfold mgJ
  rw [rangeSnoc]
theorem mgI_succ (L n : Nat) (t : List (List (List Nat))) (cl : List Nat) (k : Nat) : mgI L n t cl (k + 1) = mgI L n t cl k ++ mgJ L t cl k n := by
  unfold mgI
  rw [rangeSnoc]

set_option maxHeartbeats 4000000 in
set_option maxRecDepth 100000 in
theorem mg_j {wb w : World} {base base2 gM g3 go L st i : Nat} {vacc vleaf vbr v3 v4 v5 d2 d3 d4 d5 : Value} {ac : List Bool} {lf al cl : List Nat} {t : List (List (List Nat))} {lv : List Leaf} {br : List Branch} (hM : MachA wb base gM L vacc vleaf vbr ac lf t) (hok : MOK L ac lf t) (hL : L ≤ 8)
    (hcl : wb.ownsRow base2 3 1 (.slice (some ⟨go, 0, none⟩) ac.length ac.length) ac.length (cl.map encN)) (hcn : cl.length = ac.length) (hi : i < ac.length) (hn : ac.length ≤ 200)
    (hP : PlS wb w g3 L st v3 v4 v5 al lv br) (hg3 : Blk wb g3 26 #[.int .i64 L, d2, d3, d4, d5]) (hbr : br.length ≤ 500000)
    {u1 u2 u3 u4 u5 u6 u9 u10 u11 u12 u14 u15 u16 u17 u18 u19 u20 u21 u22 u23 u24 u25 u26 u27 u28 u29 u30 u31 u32 u33 u34 u35 u36 u37 u38 u39 u40 u41 u42 u43 u44 u45 u46 u47 u48 u49 u50 u51 u52 u53 u54 u55 u56 u57 u58 u59 u60 u61 u62 u63 u64 u65 u66 u67 u68 u69 u70 u71 u72 u73 u74 u75 u76 u77 u78 u79 u80 u81 u82 u83 u84 u85 u86 u87 u88 u91 u92 u93 u94 u95 u96 u97 u98 u99 u100 u101 u102 u103 u104 u105 u106 u107 u108 u109 u110 u111 u112 u113 u114 u115 u116 u117 u118 u119 u120 u121 u122 u123 u124 u125 u126 u127 u128 u129 u130 u131 u132 u133 u134 u135 u136 u137 u138 u139 u140 : Value}
    {Q : Exit → Act → World → Prop} (hNQ : Reg.NoQ Q)
    (hQ : ∀ (x14 x15 x90 x91 x92 x93 x94 x95 x96 x97 x98 x99 x100 x101 x102 x103 x104 x105 x106 x107 x108 x109 x110 x111 x112 x113 x114 x115 x116 x117 x118 x119 x120 x121 x122 x123 x124 x125 x126 x127 x128 x129 x130 x131 x132 : Value) (w' : World) (v : Value), PlS wb w' g3 L st v3 v4 v al lv (br ++ mgJ L t cl i ac.length) → Q (.exit 6) ⟨List.toArray ((.pointer (some ⟨gM, 0, none⟩)) :: u1 :: u2 :: u3 :: u4 :: u5 :: u6 :: (.slice (some ⟨go, 0, none⟩) ac.length ac.length) :: (.pointer (some ⟨g3, 0, none⟩)) :: u9 :: u10 :: u11 :: u12 :: (.int .i64 i) :: x14 :: x15 :: u16 :: u17 :: u18 :: u19 :: u20 :: u21 :: 
      u22 :: u23 :: u24 :: u25 :: u26 :: u27 :: u28 :: u29 :: u30 :: u31 :: u32 :: u33 :: u34 :: u35 :: u36 :: u37 :: u38 :: u39 :: u40 :: u41 :: u42 :: u43 :: u44 :: u45 :: u46 :: u47 :: u48 :: u49 :: u50 :: u51 :: u52 :: u53 :: u54 :: u55 :: u56 :: u57 :: u58 :: 
      u59 :: u60 :: u61 :: u62 :: u63 :: u64 :: u65 :: u66 :: u67 :: u68 :: u69 :: u70 :: u71 :: u72 :: u73 :: u74 :: u75 :: u76 :: u77 :: u78 :: u79 :: u80 :: u81 :: u82 :: u83 :: u84 :: u85 :: u86 :: u87 :: u88 :: (.int .i64 ac.length) :: x90 :: x91 :: x92 :: x93 :: 
      x94 :: x95 :: x96 :: x97 :: x98 :: x99 :: x100 :: x101 :: x102 :: x103 :: x104 :: x105 :: x106 :: x107 :: x108 :: x109 :: x110 :: x111 :: x112 :: x113 :: x114 :: x115 :: x116 :: x117 :: x118 :: x119 :: x120 :: x121 :: x122 :: x123 :: x124 :: x125 :: x126 :: 
      x127 :: x128 :: x129 :: x130 :: x131 :: x132 :: u133 :: u134 :: u135 :: u136 :: u137 :: u138 :: u139 :: u140 :: []), []⟩ w') :
    (Code.loop (loopBody Try.f51 3)).wp Try.prog Q ⟨List.toArray ((.pointer (some ⟨gM, 0, none⟩)) :: u1 :: u2 :: u3 :: u4 :: u5 :: u6 :: (.slice (some ⟨go, 0, none⟩) ac.length ac.length) :: (.pointer (some ⟨g3, 0, none⟩)) :: u9 :: u10 :: u11 :: u12 :: (.int .i64 i) :: u14 :: u15 :: u16 :: u17 :: u18 :: u19 :: u20 :: u21 :: 
      u22 :: u23 :: u24 :: u25 :: u26 :: u27 :: u28 :: u29 :: u30 :: u31 :: u32 :: u33 :: u34 :: u35 :: u36 :: u37 :: u38 :: u39 :: u40 :: u41 :: u42 :: u43 :: u44 :: u45 :: u46 :: u47 :: u48 :: u49 :: u50 :: u51 :: u52 :: u53 :: u54 :: u55 :: u56 :: u57 :: u58 :: 
      u59 :: u60 :: u61 :: u62 :: u63 :: u64 :: u65 :: u66 :: u67 :: u68 :: u69 :: u70 :: u71 :: u72 :: u73 :: u74 :: u75 :: u76 :: u77 :: u78 :: u79 :: u80 :: u81 :: u82 :: u83 :: u84 :: u85 :: u86 :: u87 :: u88 :: (.int .i64 ac.length) :: (.int .i64 0) :: u91 :: 
      u92 :: u93 :: u94 :: u95 :: u96 :: u97 :: u98 :: u99 :: u100 :: u101 :: u102 :: u103 :: u104 :: u105 :: u106 :: u107 :: u108 :: u109 :: u110 :: u111 :: u112 :: u113 :: u114 :: u115 :: u116 :: u117 :: u118 :: u119 :: u120 :: u121 :: u122 :: u123 :: u124 :: u125 :: 
      u126 :: u127 :: u128 :: u129 :: u130 :: u131 :: u132 :: u133 :: u134 :: u135 :: u136 :: u137 :: u138 :: u139 :: u140 :: []), []⟩ w := by
  conv => arg 2; arg 1; whnf
  go_loopw [90] (fun ii wr => ∃ (j : Nat) (v : Value) (br' : List Branch), ii = .int .i64 (j : Int) ∧ j ≤ ac.length ∧ PlS wb wr g3 L st v3 v4 v al lv br' ∧ Hid (br' = br ++ mgJ L t cl i j)) (fun ii _ => ac.length - (intOf ii).toNat)
  case atStart => exact ⟨0, _, br, rfl, Nat.zero_le _, hP, by show _ = _; simp [mgJ]⟩
  case round =>
    obtain ⟨j, v, br', rfl, hj, hPP, hl⟩ := hrel
    have hM' := hM.keep hPP.kept (fun k t cs hx hb => by
      subst hx
      have := blk_ty hg3 hb
      subst this
      decide)
    obtain ⟨A, c, rfl⟩ := slice_of_own hM'.acc
    have hcm := hM'.blk.cell
    have hlen : br'.length ≤ 600000 := by
      rw [hl.out, List.length_append]
      have h1 := mgJ_len L t cl i j
      have h2 : j * L ≤ 200 * 8 := Nat.mul_le_mul (by omega) hL
      omega
    by_cases hlt : j < ac.length
    · go_wp2_with fail
      refine mg_x hM hok hL hcl hcn hi hlt hn hPP hg3 hlen ?_ ?_
      · repeat (first | exact hNQ | refine Reg.NoQ.then ?_ | refine Reg.NoQ.inBlock ?_)
      iterate 36 (intro _)
      intro w2 v2 hP2
      have hP3 := hide hP2
      clear hP2
      go_wp2_with fail
      refine ⟨⟨j + 1, _, _, by simp, by omega, hP3.out, ?_⟩, by simp [intOf]; omega⟩
      show _ = _
      rw [mgJ_succ, ← List.append_assoc, ← hl.out]
    · have e : j = ac.length := by omega
      have he := hide e
      clear e
      go_wp2_with fail
      have h1 := hl.out
      rw [he.out] at h1
      subst h1
      exact hQ _ _ _ _ _ _ _ _ _ _ _ _ _ _ _ _ _ _ _ _ _ _ _ _ _ _ _ _ _ _ _ _ _ _ _ _ _ _ _ _ _ _ _ _ _ wr _ hPP

set_option maxHeartbeats 4000000 in
set_option maxRecDepth 100000 in
theorem mg_i {wb w : World} {base base2 gM g3 go L st : Nat} {vacc vleaf vbr v3 v4 d2 d3 d4 d5 : Value} {ac : List Bool} {lf al cl : List Nat} {t : List (List (List Nat))} {lv : List Leaf} (hM : MachA wb base gM L vacc vleaf vbr ac lf t) (hok : MOK L ac lf t) (hL : L ≤ 8)
    (hcl : wb.ownsRow base2 3 1 (.slice (some ⟨go, 0, none⟩) ac.length ac.length) ac.length (cl.map encN)) (hcn : cl.length = ac.length) (hn : ac.length ≤ 200)
    (hP : PlS wb w g3 L st v3 v4 (.slice none 0 0) al lv []) (hg3 : Blk wb g3 26 #[.int .i64 L, d2, d3, d4, d5])
    {u1 u2 u3 u4 u5 u6 u9 u10 u11 u12 u13 u14 u15 u16 u17 u18 u19 u20 u21 u22 u23 u24 u25 u26 u27 u28 u29 u30 u31 u32 u33 u34 u35 u36 u37 u38 u39 u40 u41 u42 u43 u44 u45 u46 u47 u48 u49 u50 u51 u52 u53 u54 u55 u56 u57 u58 u59 u60 u61 u62 u63 u64 u65 u66 u67 u68 u69 u70 u71 u72 u73 u74 u75 u76 u77 u78 u79 u80 u83 u84 u85 u86 u87 u88 u89 u90 u91 u92 u93 u94 u95 u96 u97 u98 u99 u100 u101 u102 u103 u104 u105 u106 u107 u108 u109 u110 u111 u112 u113 u114 u115 u116 u117 u118 u119 u120 u121 u122 u123 u124 u125 u126 u127 u128 u129 u130 u131 u132 u133 u134 u135 u136 u137 u138 u139 u140 : Value}
    {Q : Exit → Act → World → Prop} (hNQ : Reg.NoQ Q)
    (hQ : ∀ (x13 x14 x15 x82 x83 x84 x85 x86 x87 x88 x89 x90 x91 x92 x93 x94 x95 x96 x97 x98 x99 x100 x101 x102 x103 x104 x105 x106 x107 x108 x109 x110 x111 x112 x113 x114 x115 x116 x117 x118 x119 x120 x121 x122 x123 x124 x125 x126 x127 x128 x129 x130 x131 x132 x133 : Value) (w' : World) (v : Value), PlS wb w' g3 L st v3 v4 v al lv (mgI L ac.length t cl ac.length) → Q (.exit 4) ⟨List.toArray ((.pointer (some ⟨gM, 0, none⟩)) :: u1 :: u2 :: u3 :: u4 :: u5 :: u6 :: (.slice (some ⟨go, 0, none⟩) ac.length ac.length) :: (.pointer (some ⟨g3, 0, none⟩)) :: u9 :: u10 :: u11 :: u12 :: x13 :: x14 :: x15 :: u16 :: u17 :: u18 :: u19 :: u20 :: u21 :: u22 :: u23 :: 
      u24 :: u25 :: u26 :: u27 :: u28 :: u29 :: u30 :: u31 :: u32 :: u33 :: u34 :: u35 :: u36 :: u37 :: u38 :: u39 :: u40 :: u41 :: u42 :: u43 :: u44 :: u45 :: u46 :: u47 :: u48 :: u49 :: u50 :: u51 :: u52 :: u53 :: u54 :: u55 :: u56 :: u57 :: u58 :: u59 :: u60 :: 
      u61 :: u62 :: u63 :: u64 :: u65 :: u66 :: u67 :: u68 :: u69 :: u70 :: u71 :: u72 :: u73 :: u74 :: u75 :: u76 :: u77 :: u78 :: u79 :: u80 :: (.int .i64 ac.length) :: x82 :: x83 :: x84 :: x85 :: x86 :: x87 :: x88 :: x89 :: x90 :: x91 :: x92 :: x93 :: x94 :: x95 :: 
      x96 :: x97 :: x98 :: x99 :: x100 :: x101 :: x102 :: x103 :: x104 :: x105 :: x106 :: x107 :: x108 :: x109 :: x110 :: x111 :: x112 :: x113 :: x114 :: x115 :: x116 :: x117 :: x118 :: x119 :: x120 :: x121 :: x122 :: x123 :: x124 :: x125 :: x126 :: x127 :: x128 :: 
      x129 :: x130 :: x131 :: x132 :: x133 :: u134 :: u135 :: u136 :: u137 :: u138 :: u139 :: u140 :: []), []⟩ w') :
    (Code.loop (loopBody Try.f51 2)).wp Try.prog Q ⟨List.toArray ((.pointer (some ⟨gM, 0, none⟩)) :: u1 :: u2 :: u3 :: u4 :: u5 :: u6 :: (.slice (some ⟨go, 0, none⟩) ac.length ac.length) :: (.pointer (some ⟨g3, 0, none⟩)) :: u9 :: u10 :: u11 :: u12 :: u13 :: u14 :: u15 :: u16 :: u17 :: u18 :: u19 :: u20 :: u21 :: u22 :: u23 :: 
      u24 :: u25 :: u26 :: u27 :: u28 :: u29 :: u30 :: u31 :: u32 :: u33 :: u34 :: u35 :: u36 :: u37 :: u38 :: u39 :: u40 :: u41 :: u42 :: u43 :: u44 :: u45 :: u46 :: u47 :: u48 :: u49 :: u50 :: u51 :: u52 :: u53 :: u54 :: u55 :: u56 :: u57 :: u58 :: u59 :: u60 :: 
      u61 :: u62 :: u63 :: u64 :: u65 :: u66 :: u67 :: u68 :: u69 :: u70 :: u71 :: u72 :: u73 :: u74 :: u75 :: u76 :: u77 :: u78 :: u79 :: u80 :: (.int .i64 ac.length) :: (.int .i64 0) :: u83 :: u84 :: u85 :: u86 :: u87 :: u88 :: u89 :: u90 :: u91 :: u92 :: u93 :: 
      u94 :: u95 :: u96 :: u97 :: u98 :: u99 :: u100 :: u101 :: u102 :: u103 :: u104 :: u105 :: u106 :: u107 :: u108 :: u109 :: u110 :: u111 :: u112 :: u113 :: u114 :: u115 :: u116 :: u117 :: u118 :: u119 :: u120 :: u121 :: u122 :: u123 :: u124 :: u125 :: u126 :: 
      u127 :: u128 :: u129 :: u130 :: u131 :: u132 :: u133 :: u134 :: u135 :: u136 :: u137 :: u138 :: u139 :: u140 :: []), []⟩ w := by
  conv => arg 2; arg 1; whnf
  go_loopw [82] (fun ii wr => ∃ (i : Nat) (v : Value) (br' : List Branch), ii = .int .i64 (i : Int) ∧ i ≤ ac.length ∧ PlS wb wr g3 L st v3 v4 v al lv br' ∧ Hid (br' = mgI L ac.length t cl i)) (fun ii _ => ac.length - (intOf ii).toNat)
  case atStart => exact ⟨0, _, [], rfl, Nat.zero_le _, hP, rfl⟩
  case round =>
    obtain ⟨i, v, br', rfl, hi, hPP, hl⟩ := hrel
    have hM' := hM.keep hPP.kept (fun k t cs hx hb => by
      subst hx
      have := blk_ty hg3 hb
      subst this
      decide)
    obtain ⟨A, c, rfl⟩ := slice_of_own hM'.acc
    have hcm := hM'.blk.cell
    have hlen : br'.length ≤ 500000 := by
      rw [hl.out]
      have h1 := mgI_len L ac.length t cl i
      have h3 : ac.length * L ≤ 200 * 8 := Nat.mul_le_mul hn hL
      have h2 : i * (ac.length * L) ≤ 200 * (200 * 8) := Nat.mul_le_mul (by omega) h3
      omega
    by_cases hlt : i < ac.length
    · go_wp2_with fail
      refine mg_j hM hok hL hcl hcn hlt hn hPP hg3 hlen ?_ ?_
      · repeat (first | exact hNQ | refine Reg.NoQ.then ?_ | refine Reg.NoQ.inBlock ?_)
      iterate 45 (intro _)
      intro w2 v2 hP2
      have hP3 := hide hP2
      clear hP2
      go_wp2_with fail
      refine ⟨⟨i + 1, _, _, by simp, by omega, hP3.out, ?_⟩, by simp [intOf]; omega⟩
      show _ = _
      rw [mgI_succ, ← hl.out]
    · have e : i = ac.length := by omega
      have he := hide e
      clear e
      go_wp2_with fail
      have h1 := hl.out
      rw [he.out] at h1
      subst h1
      exact hQ _ _ _ _ _ _ _ _ _ _ _ _ _ _ _ _ _ _ _ _ _ _ _ _ _ _ _ _ _ _ _ _ _ _ _ _ _ _ _ _ _ _ _ _ _ _ _ _ _ _ _ _ _ _ _ wr _ hPP
end Go.Proofs.Ytnimlcbgeiajiaa

namespace Go.Proofs.Ytnimlcbgeiajiaa
open Go.RowKit

def mergedA (L : Nat) (ac : List Bool) (lf cl : List Nat) (t : List (List (List Nat))) : TA :=
  { letters := L, states := mgSt cl ac.length, accept := (mgAcc ac cl ac.length).map fun (i : Nat) => (i : Int), leaves := mgLv lf cl lf.length, branches := mgI L ac.length t cl ac.length }
theorem mgSt_le {cl : List Nat} {n : Nat} (h : ∀ i, i < n → clN cl i < n) : ∀ k, k ≤ n → mgSt cl k ≤ n
  | 0, _ => by simp [mgSt]
  | k + 1, hk => by
    rw [mgSt_succ]
    have := mgSt_le h k (by omega)
    have := h k (by omega)
    omega
theorem mgSt_ge {cl : List Nat} : ∀ (k i : Nat), i < k → clN cl i < mgSt cl k
  | 0, i, h => by omega
  | k + 1, i, h => by
    rw [mgSt_succ]
    by_cases e : i = k
    · subst e; omega
    · have := mgSt_ge (cl := cl) k i (by omega)
      omega
theorem mem_mgLv {lf cl : List Nat} {k : Nat} {e : Leaf} : e ∈ mgLv lf cl k ↔ ∃ x, x < k ∧ e = ⟨(x : Int), (clN cl (mleaf lf x) : Int)⟩ := by
  simp only [mgLv, List.mem_map, List.mem_range]
  constructor
  · rintro ⟨x, hx, rfl⟩; exact ⟨x, hx, rfl⟩
  · rintro ⟨x, hx, rfl⟩; exact ⟨x, hx, rfl⟩
theorem mem_mgI {L n : Nat} {t : List (List (List Nat))} {cl : List Nat} {e : Branch} : e ∈ mgI L n t cl n ↔ ∃ x i j, x < L ∧ i < n ∧ j < n ∧ e = ⟨(x : Int), (clN cl i : Int), (clN cl j : Int), (clN cl (mbr t x i j) : Int)⟩ := by
  simp only [mgI, mgJ, mgX, List.mem_flatMap, List.mem_map, List.mem_range]
  constructor
  · rintro ⟨i, hi, j, hj, x, hx, rfl⟩; exact ⟨x, i, j, hx, hi, hj, rfl⟩
  · rintro ⟨x, i, j, hx, hi, hj, rfl⟩; exact ⟨i, hi, j, hj, x, hx, rfl⟩
theorem mem_mgAcc {ac : List Bool} {cl : List Nat} {k v : Nat} : v ∈ mgAcc ac cl k ↔ ∃ i, i < k ∧ macc ac i = true ∧ clN cl i = v := by
  simp only [mgAcc, List.mem_map, List.mem_filter, List.mem_range]
  constructor
  · rintro ⟨i, ⟨h1, h2⟩, rfl⟩; exact ⟨i, h1, h2, rfl⟩
  · rintro ⟨i, h1, h2, rfl⟩; exact ⟨i, ⟨h1, h2⟩, rfl⟩

section
variable {L : Nat} {ac : List Bool} {lf cl : List Nat} {t : List (List (List Nat))}
theorem merged_valid (h : MOK L ac lf t) (h1 : 1 ≤ L) (h8 : L ≤ 8) (hn : ac.length ≤ 64) (hc : ∀ i, i < ac.length → clN cl i < ac.length) : (mergedA L ac lf cl t).valid = true := by
  have hs := mgSt_le hc ac.length (Nat.le_refl _)
  have hg := fun i hi => mgSt_ge (cl := cl) ac.length i hi
  simp only [TA.valid, TA.head, mergedA, Bool.and_eq_true]
  refine ⟨⟨⟨⟨⟨⟨decide_eq_true (by omega), decide_eq_true (by omega)⟩, decide_eq_true (by omega)⟩, decide_eq_true (by omega)⟩, ?_⟩, ?_⟩, ?_⟩
  · rw [List.all_eq_true]
    intro q hq
    obtain ⟨v, hv, rfl⟩ := List.mem_map.1 hq
    obtain ⟨i, hi, -, rfl⟩ := mem_mgAcc.1 hv
    have := hg i hi
    simp [inR]; omega
  · rw [List.all_eq_true]
    intro e he
    obtain ⟨x, hx, rfl⟩ := mem_mgLv.1 he
    rw [h.lfl] at hx
    have := hg _ (h.isM.leaf_lt x hx)
    simp [okLeaf, inR]; omega
  · rw [List.all_eq_true]
    intro e he
    obtain ⟨x, i, j, hx, hi, hj, rfl⟩ := mem_mgI.1 he
    have := hg _ (h.isM.br_lt x i j hx hi hj)
    have := hg i hi
    have := hg j hj
    simp [okBranch, inR]; omega
theorem merged_bit (h : MOK L ac lf t) : ∀ tr : Tr, tr.ok L → ((mergedA L ac lf cl t).mask tr).testBit (clN cl (runT (mleaf lf) (mbr t) tr)) = true
  | .leaf x, hx => by
    show (leafM (mgLv lf cl lf.length) x).testBit _ = true
    have := tb_fold (f := fun e : Leaf => e.to) (c := fun e => decide (e.letter = (x : Int))) (clN cl (mleaf lf x)) (mgLv lf cl lf.length) 0
    simp only [decide_eq_true_eq] at this
    unfold leafM
    rw [show runT (mleaf lf) (mbr t) (.leaf x) = mleaf lf x from rfl, this, Nat.zero_testBit, Bool.false_or, List.any_eq_true]
    exact ⟨_, mem_mgLv.2 ⟨x, by rw [h.lfl]; exact hx, rfl⟩, by simp⟩
  | .node x a b, hx => by
    have ha := merged_bit h a hx.2.1
    have hb := merged_bit h b hx.2.2
    have hla := h.isM.run_lt a hx.2.1
    have hlb := h.isM.run_lt b hx.2.2
    show (brM ((mergedA L ac lf cl t).mask a) ((mergedA L ac lf cl t).mask b) (byL (mgI L ac.length t cl ac.length) x)).testBit (clN cl (mbr t x (runT (mleaf lf) (mbr t) a) (runT (mleaf lf) (mbr t) b))) = true
    generalize runT (mleaf lf) (mbr t) a = p at *
    generalize runT (mleaf lf) (mbr t) b = q at *
    have := tb_fold (f := fun e : Branch => e.to) (c := fun e => mBit ((mergedA L ac lf cl t).mask a) e.first && mBit ((mergedA L ac lf cl t).mask b) e.second) (clN cl (mbr t x p q)) (byL (mgI L ac.length t cl ac.length) x) 0
    unfold brM
    rw [this, Nat.zero_testBit, Bool.false_or, List.any_eq_true]
    exact ⟨_, List.mem_filter.2 ⟨mem_mgI.2 ⟨x, p, q, hx.1, hla, hlb, rfl⟩, by simp⟩, by simp [mBit, ha, hb]⟩
theorem merged_lang (h : MOK L ac lf t) (tr : Tr) (ht : tr.ok L) (ha : macc ac (runT (mleaf lf) (mbr t) tr) = true) : (mergedA L ac lf cl t).lang tr = true := by
  show (mergedA L ac lf cl t).accS ((mergedA L ac lf cl t).mask tr) = true
  rw [accS_any _ _ (fun q hq => by
    obtain ⟨i, -, rfl⟩ := List.mem_map.1 hq
    omega), List.any_eq_true]
  exact ⟨_, List.mem_map.2 ⟨_, mem_mgAcc.2 ⟨_, h.isM.run_lt tr ht, ha, rfl⟩, rfl⟩, by simpa [mBit] using merged_bit h tr ht⟩
end
/-- Its memory. -/
theorem merged_ta {w wb : World} {g3 L : Nat} {ac : List Bool} {lf cl : List Nat} {t : List (List (List Nat))} {va vl vb : Value} (h : PlS wb w g3 L (mgSt cl ac.length) va vl vb (mgAcc ac cl ac.length) (mgLv lf cl lf.length) (mgI L ac.length t cl ac.length)) :
    IsTA w w.heap.size (.agg #[.int .i64 L, .int .i64 (mgSt cl ac.length), va, vl, vb]) (mergedA L ac lf cl t) := by
  have h1' : w.ownsRow wb.heap.size 3 1 va ((mgAcc ac cl ac.length).map fun i : Nat => (i : Int)).length ((mgAcc ac cl ac.length).map encN) := by simpa using h.acc
  obtain ⟨A1, c1, rfl, s1⟩ := sl_own (enc := encI) h1' (fun k j d hd hj => by
    have hj0 : j = 0 := by omega
    subst hj0
    rw [List.getElem?_map] at hd
    rw [Nat.mul_one, Nat.add_zero, List.getElem?_map]
    cases hk : (mgAcc ac cl ac.length)[k]? with
    | none => rw [hk] at hd; cases hd
    | some i =>
      rw [hk] at hd
      have := Option.some.inj hd
      subst this
      rfl)
  obtain ⟨A2, c2, rfl, s2⟩ := sl_own (enc := encL) h.lvs (fun k j d hd hj => flat2 _ k j d hd hj)
  obtain ⟨A3, c3, rfl, s3⟩ := sl_own (enc := encBr) h.brs (fun k j d hd hj => flat4 _ k j d hd hj)
  exact ⟨A1, c1, A2, c2, A3, c3, rfl, s1, s2, s3⟩
end Go.Proofs.Ytnimlcbgeiajiaa
