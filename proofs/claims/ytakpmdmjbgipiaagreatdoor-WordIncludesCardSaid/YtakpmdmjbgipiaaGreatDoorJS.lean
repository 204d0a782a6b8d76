/-
  Part JS of a proof.
-/
import Derived.Test.YtakpmdmjbgipiaaGreatDoorPA
import Derived.Test.YtakpmdmjbgipiaaGreatDoorPB
import Derived.Test.YtakpmdmjbgipiaaGreatDoorPJ
import Derived.Test.YtakpmdmjbgipiaaGreatDoorJB
import Derived.Test.YtakpmdmjbgipiaaGreatDoorJA
import Derived.Test.YtakpmdmjbgipiaaGreatDoorJT
set_option maxHeartbeats 16000000
set_option maxRecDepth 100000
set_option linter.unusedVariables false
set_option linter.unusedSimpArgs false
namespace Go.Proofs.YtakpmdmjbgipiaaGreatDoor
def slLe (u v : List Nat) : Prop := u.length < v.length ∨ u.length = v.length ∧ lexLe u v
theorem lexLe.rfl' : ∀ (u : List Nat), lexLe u u
 | [] => trivial
 | _ :: u => .inr ⟨rfl, lexLe.rfl' u⟩
theorem lexLe.trans' : ∀ {u v z : List Nat}, lexLe u v → lexLe v z → lexLe u z
 | [], _, _, _, _ => trivial
 | _ :: _, [], _, h, _ => h.elim
 | _ :: _, _ :: _, [], _, h => h.elim
 | x :: u, y :: v, t :: z, h, h' => by
  rcases h with h | ⟨rfl, h⟩
  ·rcases h' with h' | ⟨rfl, -⟩
   ·exact .inl (Nat.lt_trans h h')
   ·exact .inl h
  ·rcases h' with h' | ⟨rfl, h'⟩
   ·exact .inl h'
   ·exact .inr ⟨rfl, h.trans' h'⟩
theorem lexLe.both : ∀ {u v : List Nat} (y : Nat), u.length = v.length → lexLe u v → lexLe (u ++ [y]) (v ++ [y])
 | [], [], _, _, _ => .inr ⟨rfl, trivial⟩
 | [], _ :: _, _, h, _ => absurd h (by simp)
 | _ :: _, [], _, h, _ => absurd h (by simp)
 | _ :: _, _ :: _, y, hl, h => h.elim .inl fun h => .inr ⟨h.1, lexLe.both y (by simpa using hl) h.2⟩
theorem lexLe.ne : ∀ {u v : List Nat} (y x : Nat), u.length = v.length → lexLe u v → u ≠ v → lexLe (u ++ [y]) (v ++ [x])
 | [], [], _, _, _, _, h => absurd rfl h
 | [], _ :: _, _, _, h, _, _ => absurd h (by simp)
 | _ :: _, [], _, _, h, _, _ => absurd h (by simp)
 | _ :: _, _ :: _, y, x, hl, h, hne => h.elim .inl fun h => .inr ⟨h.1, lexLe.ne y x (by simpa using hl) h.2 fun e => hne (by rw [h.1, e])⟩
theorem lexLe.last : ∀ (u : List Nat) {y x : Nat}, y < x → lexLe (u ++ [y]) (u ++ [x])
 | [], _, _, h => .inl h
 | _ :: u, _, _, h => .inr ⟨rfl, lexLe.last u h⟩
theorem slLe.rfl' (u : List Nat) : slLe u u := .inr ⟨rfl, lexLe.rfl' u⟩
theorem slLe.trans' {u v z : List Nat} (h : slLe u v) (h' : slLe v z) : slLe u z := by
 rcases h with h | ⟨h1, h2⟩
 ·rcases h' with h' | ⟨h3, -⟩
  ·exact .inl (by omega)
  ·exact .inl (by omega)
 ·rcases h' with h' | ⟨h3, h4⟩
  ·exact .inl (by omega)
  ·exact .inr ⟨by omega, h2.trans' h4⟩
theorem slLe.both {u v : List Nat} (y : Nat) (h : slLe u v) : slLe (u ++ [y]) (v ++ [y]) := by
 rcases h with h | ⟨h1, h2⟩
 ·exact .inl (by simp; omega)
 ·exact .inr ⟨by simp [h1], h2.both y h1⟩
theorem slLe.ne {u v : List Nat} (y x : Nat) (h : slLe u v) (hne : u ≠ v) : slLe (u ++ [y]) (v ++ [x]) := by
 rcases h with h | ⟨h1, h2⟩
 ·exact .inl (by simp; omega)
 ·exact .inr ⟨by simp [h1], h2.ne y x h1 hne⟩
theorem slLe.last (u : List Nat) {y x : Nat} (h : y < x) : slLe (u ++ [y]) (u ++ [x]) := .inr ⟨by simp, lexLe.last u h⟩
theorem slLe.snoc (u : List Nat) (y : Nat) : slLe u (u ++ [y]) := .inl (by simp)
theorem slLe.nil (u : List Nat) : slLe [] u := by
 cases u
 ·exact slLe.rfl' _
 ·exact .inl (by simp)
structure BF (L : Nat) (nx : Nat → Nat → Nat) (i x : Nat) (all : List Nat) (ws : List (List Nat)) : Prop where
 len : ws.length = all.length
 run : ∀ (k : Nat) w s, ws[k]? = some w → all[k]? = some s → okW L w ∧ runW nx 0 w = s
 nd : all.Nodup
 head : ws[0]? = some []
 org : ∀ (k : Nat) w, ws[k]? = some w → w = [] ∨ ∃ (j : Nat) (u : List Nat) (y : Nat), ws[j]? = some u ∧ w = u ++ [y] ∧ (j < i ∨ j = i ∧ y < x)
 srt : ∀ (j k : Nat) u v, ws[j]? = some u → ws[k]? = some v → j ≤ k → slLe u v
 short : ∀ (k : Nat) w, ws[k]? = some w → w.length ≤ k
 seen : ∀ (j : Nat) u y, ws[j]? = some u → y < L → (j < i ∨ j = i ∧ y < x) → ∃ (k : Nat) (v : List Nat), ws[k]? = some v ∧ all[k]? = some (runW nx 0 (u ++ [y])) ∧ slLe v (u ++ [y])
section
variable {L i x : Nat} {nx : Nat → Nat → Nat} {all : List Nat} {ws : List (List Nat)}
theorem BF.start : BF L nx 0 0 [0] [[]] := by
 refine ⟨rfl, fun k w s h1 h2 => ?_, by simp, rfl, fun k w h => ?_, fun j k u v h1 h2 _ => ?_, fun k w h => ?_, fun j u y h hy hj => by omega⟩
 ·cases k with
  | zero => exact ⟨by injection h1 with h1; subst h1; exact okW.nil L, by injection h1 with h1; injection h2 with h2; subst h1 h2; rfl⟩
  | succ k => simp at h1
 ·cases k with
  | zero => injection h with h; exact .inl h.symm
  | succ k => simp at h
 ·cases j with
  | zero => injection h1 with h1; subst h1; exact slLe.nil _
  | succ j => simp at h1
 ·cases k with
  | zero => injection h with h; subst h; exact Nat.le_refl _
  | succ k => simp at h
theorem BF.row (h : BF L nx i L all ws) : BF L nx (i + 1) 0 all ws :=
 ⟨h.len, h.run, h.nd, h.head, fun k w hw => (h.org k w hw).imp id fun ⟨j, u, y, h1, h2, h3⟩ => ⟨j, u, y, h1, h2, .inl (by omega)⟩, h.srt, h.short, fun j u y h1 hy hj => h.seen j u y h1 hy (by omega)⟩
theorem BF.le (h : BF L nx i x all ws) {wi v : List Nat} {k : Nat} (hi : ws[i]? = some wi) (hk : ws[k]? = some v) : slLe v (wi ++ [x]) := by
 rcases h.org k v hk with rfl | ⟨j, u, y, hj, rfl, hji⟩
 ·exact slLe.nil _
 ·rcases hji with hlt | ⟨rfl, hy⟩
  ·refine (h.srt j i u wi hj hi (by omega)).ne y x fun e => ?_
   subst e
   obtain ⟨s, hs⟩ := get_lt (l := all) (i := j) (by rw [← h.len]; exact lt_of_get hj)
   obtain ⟨s', hs'⟩ := get_lt (l := all) (i := i) (by rw [← h.len]; exact lt_of_get hi)
   have e : s = s' := (h.run j u s hj hs).2.symm.trans (h.run i u s' hi hs').2
   subst e
   obtain ⟨q1, q2⟩ := List.getElem?_eq_some_iff.1 hs
   obtain ⟨q3, q4⟩ := List.getElem?_eq_some_iff.1 hs'
   have := (List.getElem_inj h.nd).1 (q2.trans q4.symm)
   omega
  ·rw [hi] at hj
   have := Option.some.inj hj
   subst this
   exact slLe.last _ hy
theorem BF.old (h : BF L nx i x all ws) {s : Nat} {wi : List Nat} (hs : all[i]? = some s) (hw : ws[i]? = some wi) (hm : nx s x ∈ all) : BF L nx i (x + 1) all ws := by
 refine ⟨h.len, h.run, h.nd, h.head, fun k w hk => (h.org k w hk).imp id fun ⟨j, u, y, h1, h2, h3⟩ => ⟨j, u, y, h1, h2, by omega⟩, h.srt, h.short, fun j u y h1 hy hj => ?_⟩
 by_cases hnew : j = i ∧ y = x
 ·obtain ⟨rfl, rfl⟩ := hnew
  rw [hw] at h1
  have := Option.some.inj h1
  subst this
  obtain ⟨k, hk⟩ := List.mem_iff_getElem?.1 hm
  obtain ⟨v, hv⟩ := get_lt (l := ws) (i := k) (by rw [h.len]; exact lt_of_get hk)
  exact ⟨k, v, hv, by rw [hk, runW_snoc, (h.run j wi s hw hs).2], h.le hw hv⟩
 ·exact h.seen j u y h1 hy (by omega)
theorem BF.new (h : BF L nx i x all ws) {s : Nat} {wi : List Nat} (hs : all[i]? = some s) (hw : ws[i]? = some wi) (hx : x < L) (hm : nx s x ∉ all) : BF L nx i (x + 1) (all ++ [nx s x]) (ws ++ [wi ++ [x]]) := by
 obtain ⟨hwo, hwr⟩ := h.run i wi s hw hs
 have hcase : ∀ {k : Nat} {w : List Nat}, (ws ++ [wi ++ [x]])[k]? = some w → ws[k]? = some w ∨ k = ws.length ∧ w = wi ++ [x] := fun {k w} hk => by
  rcases Nat.lt_trichotomy k ws.length with hl | rfl | hl
  ·rw [List.getElem?_append_left hl] at hk
   exact .inl hk
  ·rw [List.getElem?_append_right (Nat.le_refl _)] at hk
   simp at hk
   exact .inr ⟨rfl, hk.symm⟩
  ·rw [List.getElem?_eq_none (by simp; omega)] at hk
   cases hk
 have hup : ∀ {k : Nat} {w : List Nat}, ws[k]? = some w → (ws ++ [wi ++ [x]])[k]? = some w := fun hk => by rw [List.getElem?_append_left (lt_of_get hk)]; exact hk
 have hupa : ∀ {k s' : Nat}, all[k]? = some s' → (all ++ [nx s x])[k]? = some s' := fun hk => by rw [List.getElem?_append_left (lt_of_get hk)]; exact hk
 have hil := lt_of_get hw
 refine ⟨by simp [h.len], fun k w s' h1 h2 => ?_, List.nodup_append.2 ⟨h.nd, by simp, fun a ha b hb e => hm (by rw [← List.mem_singleton.1 hb, ← e]; exact ha)⟩, hup h.head, fun k w hk => ?_, fun j k u v hj hk hle => ?_, fun k w hk => ?_, fun j u y hj hy hji => ?_⟩
 ·rcases hcase h1 with h1 | ⟨rfl, rfl⟩
  ·rw [List.getElem?_append_left (by rw [← h.len]; exact lt_of_get h1)] at h2
   exact h.run k w s' h1 h2
  ·rw [h.len, List.getElem?_append_right (Nat.le_refl _)] at h2
   simp at h2
   exact ⟨hwo.snoc hx, by rw [runW_snoc, hwr, h2]⟩
 ·rcases hcase hk with hk | ⟨rfl, rfl⟩
  ·rcases h.org k w hk with rfl | ⟨j, u, y, h1, h2, h3⟩
   ·exact .inl rfl
   ·exact .inr ⟨j, u, y, hup h1, h2, by omega⟩
  ·exact .inr ⟨i, wi, x, hup hw, rfl, .inr ⟨rfl, by omega⟩⟩
 ·rcases hcase hj with hj | ⟨rfl, rfl⟩
  ·rcases hcase hk with hk | ⟨rfl, rfl⟩
   ·exact h.srt j k u v hj hk hle
   ·exact h.le hw hj
  ·rcases hcase hk with hk | ⟨-, rfl⟩
   ·have := lt_of_get hk
    omega
   ·exact slLe.rfl' _
 ·rcases hcase hk with hk | ⟨rfl, rfl⟩
  ·exact h.short k w hk
  ·have := h.short i wi hw
   simp
   omega
 ·rcases hcase hj with hj' | ⟨rfl, rfl⟩
  ·by_cases hnew : j = i ∧ y = x
   ·obtain ⟨rfl, rfl⟩ := hnew
    rw [hw] at hj'
    have := Option.some.inj hj'
    subst this
    refine ⟨ws.length, wi ++ [y], by simp, ?_, slLe.rfl' _⟩
    rw [h.len]
    simp [runW_snoc, hwr]
   ·obtain ⟨k, v, h1, h2, h3⟩ := h.seen j u y hj' hy (by omega)
    exact ⟨k, v, hup h1, hupa h2, h3⟩
  ·omega
theorem BF.reach (h : BF L nx i 0 all ws) (hi : i ≤ all.length) : ∀ (n : Nat) (v : List Nat), v.length = n → okW L v → (∃ (k : Nat) (u : List Nat), k < i ∧ ws[k]? = some u ∧ all[k]? = some (runW nx 0 v) ∧ slLe u v) ∨ ∃ u, ws[i]? = some u ∧ slLe u v := by
 intro n
 induction n with
 | zero =>
  intro v hv _
  have := List.length_eq_zero_iff.1 hv
  subst this
  rcases Nat.eq_zero_or_pos i with rfl | hp
  ·exact .inr ⟨[], h.head, slLe.nil _⟩
  ·obtain ⟨s, hs⟩ := get_lt (l := all) (i := 0) (by rw [← h.len]; exact lt_of_get h.head)
   exact .inl ⟨0, [], hp, h.head, by rw [hs, ← (h.run 0 [] s h.head hs).2], slLe.nil _⟩
 | succ n ih =>
  intro v hv hok
  have hne : v ≠ [] := fun e => by subst e; simp at hv
  obtain ⟨u, y, rfl⟩ : ∃ u y, v = u ++ [y] := ⟨_, _, (List.dropLast_concat_getLast hne).symm⟩
  have huo : okW L u := fun z hz => hok z (List.mem_append_left _ hz)
  have hy : y < L := hok y (by simp)
  rcases ih u (by simpa using hv) huo with ⟨k, u', hk, h1, h2, h3⟩ | ⟨u', h1, h2⟩
  ·obtain ⟨k', v', g1, g2, g3⟩ := h.seen k u' y h1 hy (.inl hk)
   have e : runW nx 0 (u' ++ [y]) = runW nx 0 (u ++ [y]) := by rw [runW_snoc, runW_snoc, (h.run k u' _ h1 h2).2]
   rw [e] at g2
   have g4 := g3.trans' (h3.both y)
   rcases Nat.lt_or_ge k' i with hlt | hge
   ·exact .inl ⟨k', v', hlt, g1, g2, g4⟩
   ·obtain ⟨wi, hwi⟩ := get_lt (l := ws) (i := i) (Nat.lt_of_le_of_lt hge (lt_of_get g1))
    exact .inr ⟨wi, hwi, (h.srt i k' wi v' hwi g1 hge).trans' g4⟩
  ·exact .inr ⟨u', h1, h2.trans' (slLe.snoc u y)⟩
theorem BF.first (h : BF L nx i 0 all ws) {acc : Nat → Bool} {wi : List Nat} {s : Nat} (hw : ws[i]? = some wi) (hs : all[i]? = some s) (hno : ∀ (k s' : Nat), k < i → all[k]? = some s' → acc s' = false) (ha : acc s = true) : FirstW L (fun z => acc (runW nx 0 z)) wi := by
 obtain ⟨h1, h2⟩ := h.run i wi s hw hs
 refine ⟨h1, by show acc _ = true; rw [h2]; exact ha, fun v hv hA => ?_⟩
 rcases h.reach (Nat.le_of_lt (lt_of_get hs)) _ v rfl hv with ⟨k, u, hk, g1, g2, g3⟩ | ⟨u, g1, g2⟩
 ·have := hno k _ hk g2
  exact absurd ((show acc (runW nx 0 v) = true from hA).symm.trans this) (by decide)
 ·rw [hw] at g1
  have := Option.some.inj g1
  subst this
  exact g2
theorem BF.none (h : BF L nx i 0 all ws) (hi : i = all.length) {acc : Nat → Bool} (hno : ∀ (k s' : Nat), k < i → all[k]? = some s' → acc s' = false) {v : List Nat} (hv : okW L v) : acc (runW nx 0 v) = false := by
 rcases h.reach (by omega) _ v rfl hv with ⟨k, u, hk, g1, g2, g3⟩ | ⟨u, g1, g2⟩
 ·exact hno k _ hk g2
 ·have := lt_of_get g1
  rw [h.len] at this
  omega
theorem lexLe.anti : ∀ {u v : List Nat}, u.length = v.length → lexLe u v → lexLe v u → u = v
 | [], [], _, _, _ => rfl
 | [], _ :: _, h, _, _ => absurd h (by simp)
 | _ :: _, [], h, _, _ => absurd h (by simp)
 | x :: u, y :: v, hl, h, h' => by
  rcases h with h | ⟨rfl, h⟩
  ·rcases h' with h' | ⟨e, -⟩ <;> omega
  ·rcases h' with h' | ⟨-, h'⟩
   ·omega
   ·rw [lexLe.anti (by simpa using hl) h h']
theorem FirstW.unique {Λ Λ' : List Nat → Bool} {u v : List Nat} (h : FirstW L Λ u) (h' : FirstW L Λ' v) (hΛ : ∀ z, okW L z → Λ z = Λ' z) : u = v := by
 obtain ⟨h1, h2, h3⟩ := h
 obtain ⟨g1, g2, g3⟩ := h'
 have e1 := h3 v g1 (by rw [hΛ v g1]; exact g2)
 have e2 := g3 u h1 (by rw [← hΛ u h1]; exact h2)
 rcases e1 with e1 | ⟨l1, e1⟩
 ·omega
 ·rcases e2 with e2 | ⟨l2, e2⟩
  ·omega
  ·exact lexLe.anti l1 e1 e2
end
end Go.Proofs.YtakpmdmjbgipiaaGreatDoor
namespace Go.Proofs.YtakpmdmjbgipiaaGreatDoor
open Go.RowKit
set_option maxHeartbeats 16000000
set_option maxRecDepth 100000
theorem own_empty (w : World) (e : TypeId) (size : Nat) : (w.alloc (.cells #[] e)).ownsRow w.heap.size e size (.slice (some ⟨w.heap.size, 0, none⟩) 0 0) 0 [] :=
 ⟨by simp, .inr ⟨w.heap.size, 0, #[], rfl, Nat.le_refl _, heap_alloc_new w _, Nat.le_refl _, by unfold maxLen; omega, by simp, by simp⟩⟩
theorem news_of {D : Type} {w : World} {B sz b off : Nat} {enc : D → Nat → Value} {ds : List D} {xs : List Value} (hs : Sl w B sz enc (some ⟨b, off, none⟩) ds) (hne : ds ≠ []) (hz : 0 < sz) (hlen : xs.length = ds.length * sz)
  (hx : ∀ (k j : Nat) (d : D), ds[k]? = some d → j < sz → xs[k * sz + j]? = some (enc d j)) : ∀ (j : Nat) (u : Value), xs[j]? = some u → w.cell? ((⟨b, off, none⟩ : Addr).add j) = some u := by
 intro j u hu
 have hj := lt_of_get hu
 obtain ⟨b', o', e, hb', hall⟩ := hs.2 hne
 have e := Option.some.inj e
 injection e with e1 e2 _
 subst e1 e2
 have hk : j / sz < ds.length := Nat.div_lt_of_lt_mul (by rw [Nat.mul_comm, ← hlen]; exact hj)
 obtain ⟨d, hd⟩ := get_lt hk
 have hr := Nat.mod_lt j hz
 have hsum : j / sz * sz + j % sz = j := by rw [Nat.mul_comm]; exact Nat.div_add_mod j sz
 have h1 := hx (j / sz) (j % sz) d hd hr
 rw [hsum, hu] at h1
 have h2 := hall (j / sz) d hd (j % sz) hr
 rw [show off + j / sz * sz + j % sz = off + j from by omega] at h2
 have hadd : (⟨b, off, none⟩ : Addr).add j = ⟨b, off + j, none⟩ := by unfold Addr.add; split <;> simp_all
 rw [hadd, h2, ← Option.some.inj h1]
section
variable {P : Program} {ops : Array Oper} {rest : List Oper} {o : Oper} {a : Act} {Q : Exit → Act → World → Prop}
theorem wpList_copy {D : Type} {w : World} {t e sz B n c : Nat} {enc : D → Nat → Value} {ds : List D} {xs : List Value} {A : Option Addr} (R : RowTy P t e sz) (hgd : o.guard = none) (s x : Operand)
  (ho : o.op = .call { callee := .builtin .append, args := #[s, x], argTypes := #[t, t] }) (hs : a.eval s = .slice (some ⟨w.heap.size, 0, none⟩) 0 0) (hx : a.eval x = .slice A n c) (hn : n = ds.length)
  (hsl : Sl w B sz enc A ds) (hB : B ≤ w.heap.size) (hne : ds ≠ []) (hlen : xs.length = ds.length * sz) (hxs : ∀ (k j : Nat) (d : D), ds[k]? = some d → j < sz → xs[k * sz + j]? = some (enc d j)) (h1 : ∀ u ∈ xs, u.oneCell' = true) (hbig : ds.length ≤ 4000000)
  (h : ∀ g cap w', w'.ownsRow w.heap.size e sz (.slice (some ⟨g, 0, none⟩) n cap) n xs → Below w.heap.size w w' → g < w'.heap.size → wpList P ops Q rest (a.put o.dst (.slice (some ⟨g, 0, none⟩) n cap)) w') :
  wpList P ops Q (o :: rest) a (w.alloc (.cells #[] e)) := by
 obtain ⟨b, off, rfl, hb, -⟩ := hsl.2 hne
 subst hn
 have hb0 := (Below.refl w.heap.size w).alloc (Nat.le_refl _) (.cells #[] e)
 have hsl' : Sl (w.alloc (.cells #[] e)) B sz enc (some ⟨b, off, none⟩) ds := hsl.keep (fun p hp => World.cell?_alloc_lt w _ p (by omega)) (Nat.le_refl _)
 have hpos : 0 < ds.length := by cases ds; exact absurd rfl hne; simp
 refine wpList_app R hgd s x ho w.heap.size _ 0 [] hs (own_empty w e sz) ⟨b, off, none⟩ ds.length c xs hx hlen (news_of hsl' hne R.pos hlen hxs) h1 hpos (by omega) (by simp) ?_
 intro g cap w' hown hk hmv hg
 have e0 : 0 + ds.length = ds.length := Nat.zero_add _
 rw [e0, List.nil_append] at hown
 rw [e0]
 exact h g cap w' hown (hb0.trans (hk.below (by simp) (fun b' hb' e => by simp [Value.ownBlock] at e; omega))) hg
end
section
variable {ops : Array Oper} {rest : List Oper} {o : Oper} {a : Act} {Q : Exit → Act → World → Prop}
theorem wpList_zero {w : World} {c t : Nat} {g : Addr} {A : Option Addr} (ht : t = 22 ∨ t = 26) (hgd : o.guard = none) (s x : Operand)
  (ho : o.op = .call { callee := .builtin .append, args := #[s, x], argTypes := #[t, t] }) (hs : a.eval s = .slice (some g) 0 0) (hx : a.eval x = .slice A 0 c)
  (h : wpList Tryz.prog ops Q rest (a.put o.dst (.slice (some g) 0 0)) w) : wpList Tryz.prog ops Q (o :: rest) a w := by
 refine wpList_plain hgd fun K hK => ?_
 have e1 : ∀ w' : World, Sem.run Tryz.prog (pure (#[] : Array Value)) w' = .ok #[] w' := fun _ => rfl
 have e2 : ∀ (ad : Addr) (w' : World), Sem.run Tryz.prog (storeCells ad ([] : List Value)) w' = .ok () w' := fun _ _ => rfl
 have hk := hK _ _ h
 obtain ⟨dst, op, type, pos, after, guard⟩ := o
 dsimp only at ho hgd
 subst ho hgd
 unfold Oper.wp execOp
 rcases ht with rfl | rfl
 all_goals
  cases A
  all_goals
   simp only [resolve, invoke, builtin, Sem.run_bind, Sem.run_pure, Result.andThen_ok, List.map_toArray, List.map_cons, List.map_nil, hs, hx]
   go_simp
   exact hk
theorem wpList_cp {D : Type} {w : World} {B n c t e sz : Nat} {enc : D → Nat → Value} {ds : List D} {xs : List Value} {A : Option Addr} (R : RowTy Tryz.prog t e sz) (ht : t = 22 ∨ t = 26) (hgd : o.guard = none) (s x : Operand)
  (ho : o.op = .call { callee := .builtin .append, args := #[s, x], argTypes := #[t, t] }) (hs : a.eval s = .slice (some ⟨w.heap.size, 0, none⟩) 0 0) (hx : a.eval x = .slice A n c) (hn : n = ds.length)
  (hsl : Sl w B sz enc A ds) (hB : B ≤ w.heap.size) (hlen : xs.length = ds.length * sz) (hxs : ∀ (k j : Nat) (d : D), ds[k]? = some d → j < sz → xs[k * sz + j]? = some (enc d j)) (h1 : ∀ u ∈ xs, u.oneCell' = true) (hbig : ds.length ≤ 4000000)
  (h : ∀ g cap w', w'.ownsRow w.heap.size e sz (.slice (some ⟨g, 0, none⟩) n cap) n xs → Below w.heap.size w w' → g < w'.heap.size → wpList Tryz.prog ops Q rest (a.put o.dst (.slice (some ⟨g, 0, none⟩) n cap)) w') :
  wpList Tryz.prog ops Q (o :: rest) a (w.alloc (.cells #[] e)) := by
 by_cases hne : ds = []
 ·subst hne hn
  have hx0 : xs = [] := List.length_eq_zero_iff.1 (by simpa using hlen)
  subst hx0
  exact wpList_zero ht hgd s x ho hs hx (h _ _ _ (own_empty w e sz) ((Below.refl w.heap.size w).alloc (Nat.le_refl _) _) (by simp))
 ·exact wpList_copy R hgd s x ho hs hx hn hsl hB hne hlen hxs h1 hbig h
end
theorem ints_get (xs : List Int) : ∀ (k j : Nat) (d : Int), xs[k]? = some d → j < 1 → (xs.map (Value.int .i64))[k * 1 + j]? = some (encI d j) := fun k j d hd hj => by
 have hj0 : j = 0 := by omega
 subst hj0
 rw [Nat.mul_one, Nat.add_zero, List.getElem?_map, hd]
 rfl
theorem eC_len (l : List Edg) : (l.flatMap eC).length = l.length * 3 := by
 induction l with
 | nil => rfl
 | cons x l ih => rw [List.flatMap_cons, List.length_append, ih, List.length_cons, Nat.succ_mul]; simp [eC]; omega
theorem eC_one (l : List Edg) : ∀ u ∈ l.flatMap eC, u.oneCell' = true := by
 intro u hu
 obtain ⟨x, -, hx⟩ := List.mem_flatMap.1 hu
 simp [eC] at hx
 rcases hx with rfl | rfl | rfl <;> rfl
theorem copyInts_any {w : World} {B c n : Nat} {A : Option Addr} {xs : List Int} (h : Sl w B 1 encI A xs) (hB : B ≤ w.heap.size) (hl : n = xs.length) (hn : xs.length ≤ 4000000) :
  Calls Tryz.prog 65 #[.slice A n c] w (Ret fun r w' => Below w.heap.size w w' ∧ w'.ownsRow w.heap.size 3 1 r n (xs.map (Value.int .i64))) := by
 have hH := hide h
 have hlH := hide hl
 clear h hl
 go_enter Tryz.func65, Tryz.ntmps65
 go_wp2_with (at_builtin; refine wpList_cp (w := w) (xs := xs.map (Value.int .i64)) row3 (.inl rfl) rfl _ _ rfl rfl rfl hlH.out hH.out hB (by simp) (ints_get xs) (by simp [Value.oneCell']) hn ?_; intro g cap w' hown hb hg; have hoH := hide hown; have hbH := hide hb; clear hown hb)
 go_ret
 exact ⟨hbH.out, hoH.out⟩
theorem own_cap {w : World} {base e size n c : Nat} {A : Option Addr} {xs : List Value} (h : w.ownsRow base e size (.slice A n c) n xs) : n ≤ c := by
 rcases h.2 with ⟨h0, hn⟩ | ⟨g, cap, cur, hv, hb, hh, hc, _⟩
 ·omega
 ·injection hv with _ _ h3
  omega
end Go.Proofs.YtakpmdmjbgipiaaGreatDoor
namespace Go.Proofs.YtakpmdmjbgipiaaGreatDoor
open Go.RowKit
set_option maxHeartbeats 16000000
set_option maxRecDepth 100000
structure MkS (n : Nat) (m : List Bool) (all : List Nat) : Prop where
 len : m.length = n
 at_ : ∀ q, q < n → m[q]? = some (decide (q ∈ all))
 lt : ∀ q ∈ all, q < n
theorem MkS.add {n y : Nat} {m : List Bool} {all : List Nat} (h : MkS n m all) (hy : y < n) : MkS n (m.set y true) (all ++ [y]) := by
 refine ⟨by rw [List.length_set]; exact h.len, fun q hq => ?_, fun q hq => (List.mem_append.1 hq).elim (h.lt q) fun e => by rw [List.mem_singleton.1 e]; exact hy⟩
 rw [List.getElem?_set]
 by_cases e : y = q
 ·subst e
  rw [if_pos rfl, if_pos (by rw [h.len]; exact hq)]
  simp
 ·rw [if_neg e, h.at_ q hq]
  have : q ≠ y := fun e' => e e'.symm
  simp [this]
theorem marksB_put {w : World} {g : Nat} {m : List Bool} (h : Blk w g 4 (m.map Value.bool).toArray) (i : Nat) (b : Bool) : Blk (w.setCell ⟨g, i, none⟩ (.bool b)) g 4 ((m.set i b).map Value.bool).toArray := by
 have := h.set_ i (.bool b)
 rw [show (m.map Value.bool).toArray.setIfInBounds i (.bool b) = ((m.set i b).map Value.bool).toArray from by rw [List.map_set]; simp] at this
 exact this
structure FiM (w0 wr : World) (gs : Nat) (vW vA : Value) (m : List Bool) (all : List Nat) (wds : List (List Nat)) (us : List Value) (N : Nat → Prop) : Prop where
 below : Below w0.heap.size w0 wr
 sn : Blk wr gs 4 (m.map Value.bool).toArray
 at_ : wr.ownsRow w0.heap.size 3 1 vA all.length ((natL all).map (Value.int .i64))
 wd : wr.ownsRow w0.heap.size 22 1 vW wds.length us
 wdR : RowsI wr w0.heap.size N us (wds.map natL)
 nA : ∀ k, N k → vA.ownBlock ≠ some k
 nl : ∀ k, N k → k < wr.heap.size
 ge : w0.heap.size ≤ gs
section
variable {w0 wr w' w1 : World} {gs : Nat} {vW vA vW' vA' : Value} {m : List Bool} {all : List Nat} {wds : List (List Nat)} {us : List Value} {N : Nat → Prop}
theorem FiM.keep (h : FiM w0 wr gs vW vA m all wds us N) (hb : Below wr.heap.size wr w') : FiM w0 w' gs vW vA m all wds us N :=
 ⟨h.below.trans (hb.mono h.below.size), h.sn.below hb, own_below h.at_ hb, own_below h.wd hb, h.wdR.keep (Kept.of_below hb (fun _ => False)) (fun _ _ _ e => e.elim) (fun _ _ x => x) (Nat.le_refl _), h.nA, fun k hk => Nat.lt_of_lt_of_le (h.nl k hk) hb.size, h.ge⟩
theorem FiM.mark (h : FiM w0 wr gs vW vA m all wds us N) (y : Nat) : FiM w0 (wr.setCell ⟨gs, y, none⟩ (.bool true)) gs vW vA (m.set y true) all wds us N := by
 have hk := (Kept.refl wr (fun k => k = gs)).setCell (p := ⟨gs, y, none⟩) (fun _ => rfl) (.bool true)
 have hty : ∀ {e : TypeId}, e ≠ 4 → ∀ g cs, g = gs → ¬ Blk wr g e cs := fun h1 g cs e1 hB => hB.ne_ h.sn h1 e1
 have hge := h.ge
 exact ⟨h.below.trans (hk.below h.below.size fun b hb e => by omega), marksB_put h.sn y true, own_ty hk h.at_ (hty (by decide)), own_ty hk h.wd (hty (by decide)), h.wdR.keep hk (fun g cs _ e => hty (by decide) g cs e) (fun _ _ x => x) (Nat.le_refl _), h.nA, fun k hk' => Nat.lt_of_lt_of_le (h.nl k hk') hk.size, h.ge⟩
theorem FiM.addA {y : Nat} (h : FiM w0 wr gs vW vA m all wds us N) (hk : Kept wr w1 (fun k => vA.ownBlock = some k)) (ho : w1.ownsRow w0.heap.size 3 1 vA' (all.length + 1) ((natL all).map (Value.int .i64) ++ [.int .i64 (y : Int)])) (hm : Moved wr vA vA') : FiM w0 w1 gs vW vA' m (all ++ [y]) wds us N := by
 have hty : ∀ {e : TypeId}, e ≠ 3 → ∀ g cs, vA.ownBlock = some g → ¬ Blk wr g e cs := fun h1 g cs e1 hB => own_blk_ne h.at_ hB (fun hh => h1 hh.symm) e1
 have hs := hk.size
 refine ⟨h.below.trans (hk.below h.below.size fun b hb e => by have := own_base h.at_ e; omega), h.sn.kept hk fun e => hty (by decide) _ _ e h.sn, ?_, own_ty hk h.wd (hty (by decide)), h.wdR.keep hk (fun g cs hn e => (h.nA g hn e).elim) (fun _ _ x => x) (Nat.le_refl _), fun k hn e => ?_, fun k hk' => Nat.lt_of_lt_of_le (h.nl k hk') hs, h.ge⟩
 ·rw [List.length_append, natL_snoc, List.map_append]
  exact ho
 ·rcases hm with hh | ⟨g', hh, hlt⟩
  ·exact h.nA k hn (by rw [← hh]; exact e)
  ·rw [e] at hh
   have := Option.some.inj hh
   have := h.nl k hn
   omega
theorem FiM.addW {z : List Nat} {v : Value} (h : FiM w0 wr gs vW vA m all wds us N) (hr : wr.ownsRow w0.heap.size 3 1 v z.length ((natL z).map (Value.int .i64))) (hv : ∀ k, v.ownBlock = some k → vA.ownBlock ≠ some k) (hk : Kept wr w1 (fun k => vW.ownBlock = some k)) (ho : w1.ownsRow w0.heap.size 22 1 vW' (wds.length + 1) (us ++ [v])) :
  FiM w0 w1 gs vW' vA m all (wds ++ [z]) (us ++ [v]) (fun k => N k ∨ v.ownBlock = some k) := by
 have hty : ∀ {e : TypeId}, e ≠ 22 → ∀ g cs, vW.ownBlock = some g → ¬ Blk wr g e cs := fun h1 g cs e1 hB => own_blk_ne h.wd hB (fun hh => h1 hh.symm) e1
 have hs := hk.size
 refine ⟨h.below.trans (hk.below h.below.size fun b hb e => by have := own_base h.wd e; omega), h.sn.kept hk fun e => hty (by decide) _ _ e h.sn, own_ty hk h.at_ (hty (by decide)), ?_, ?_, fun k hn e => hn.elim (fun hn => h.nA k hn e) fun hn => hv k hn e, fun k hn => hn.elim (fun hn => Nat.lt_of_lt_of_le (h.nl k hn) hs) fun hn => Nat.lt_of_lt_of_le (own_lt hr hn) hs, h.ge⟩
 ·rw [List.length_append]
  exact ho
 ·rw [List.map_append]
  refine RowsI.snoc (h.wdR.keep hk (fun g cs _ e => hty (by decide) g cs e) (fun g _ x => .inl x) (Nat.le_refl _)) ?_ fun g e => .inr e
  have el : (natL z).length = z.length := by simp [natL]
  rw [el]
  exact own_ty hk hr (hty (by decide))
theorem FiM.word (h : FiM w0 wr gs vW vA m all wds us N) {k : Nat} {z : List Nat} (hk : wds[k]? = some z) (hz : z.length ≤ 4000000) : ∃ gW cW A c, vW = .slice (some ⟨gW, 0, none⟩) wds.length cW ∧ wr.cell? ⟨gW, k, none⟩ = some (.slice A z.length c) ∧ Sl wr wr.heap.size 1 encI A (natL z) := by
 obtain ⟨u, hu, h1, -⟩ := F2.at h.wdR (map_get (f := natL) hk)
 obtain ⟨gW, cW, e1, e2⟩ := own_get h.wd hu
 obtain ⟨A, c, e3, e4⟩ := own_slI h1 rfl (Nat.le_refl _) (by simp [natL]; omega)
 have el : (natL z).length = z.length := by simp [natL]
 rw [el] at e3
 exact ⟨gW, cW, A, c, e1, by rw [← e3]; exact e2, e4⟩
theorem FiM.state (h : FiM w0 wr gs vW vA m all wds us N) {k s : Nat} (hk : all[k]? = some s) : ∃ gA cA, vA = .slice (some ⟨gA, 0, none⟩) all.length cA ∧ wr.cell? ⟨gA, k, none⟩ = some (.int .i64 (s : Int)) :=
 own_get h.at_ (map_get (f := Value.int .i64) (map_get (f := fun x : Nat => (x : Int)) hk))
theorem FiM.mark_at (h : FiM w0 wr gs vW vA m all wds us N) {n q : Nat} (hm : MkS n m all) (hq : q < n) : wr.cell? ⟨gs, q, none⟩ = some (.bool (decide (q ∈ all))) :=
 (h.sn.cell q).trans (by rw [List.getElem?_toArray]; exact map_get (hm.at_ q hq))
end
theorem fi_x {w0 w : World} {g2 gs i n L cW cA s kW kA : Nat} {vN vC : Value} {AW AA : Option Addr} {t : List (List Nat)} {ac m : List Bool} {all : List Nat} {wds : List (List Nat)} {us : List Value} {N : Nat → Prop}
    (eW : kW = wds.length) (eA : kA = all.length) (hM : FiM w0 w gs (.slice AW wds.length cW) (.slice AA all.length cA) m all wds us N) (hT : TabF w0 L n vN vC t ac) (h2 : Blk w0 g2 77 #[vN, vC]) (hL : L ≤ 8) (hn : n ≤ 200000)
    (hB : BF L (dnx t) i 0 all wds) (hk : MkS n m all) (hs : all[i]? = some s)
    {u0 u3 u4 u5 u11 u12 u13 u14 u15 u16 u17 u18 u19 u20 u21 u22 u23 u24 u25 u26 u27 u28 u29 u30 u31 u32 u33 u34 u35 u36 u37 u38 u39 u40 u41 u42 u43 u44 u45 u46 u47 u48 u49 u50 u51 u52 u53 u54 u55 u56 u57 u58 u59 u60 u61 u62 u63 u64 u65 u66 u67 u68 u69 u70 u71 u72 u73 u74 u75 u76 u77 : Value}
    {Q : Exit → Act → World → Prop} (hN : Reg.NoQ Q)
    (hQ : ∀ (x10 x11 x39 x40 x41 x42 x43 x44 x45 x46 x47 x48 x49 x50 x51 x52 x53 x54 x55 x56 x57 x58 x59 x60 x61 x62 x63 x64 x65 x66 x67 x68 x69 x70 x71 x72 x73 x74 x75 x76 x77 : Value) (w' : World) (vW' vA' : Value) (m' : List Bool) (all' : List Nat) (wds' : List (List Nat)) (us' : List Value) (N' : Nat → Prop), FiM w0 w' gs vW' vA' m' all' wds' us' N' → BF L (dnx t) i L all' wds' → MkS n m' all' → all <+: all' →
      Q (.exit 2) ⟨List.toArray (u0 :: (.int .i64 (L : Int)) :: (.pointer (some ⟨g2, 0, none⟩)) :: u3 :: u4 :: u5 :: (.slice (some ⟨gs, 0, none⟩) n n) :: vW' :: vA' :: (.int .i64 i) :: x10 :: x11 :: u12 :: u13 :: u14 :: u15 :: u16 :: u17 :: u18 :: u19 :: u20 :: u21 :: u22 :: u23 :: u24 :: u25 ::
      u26 :: u27 :: u28 :: u29 :: u30 :: u31 :: u32 :: u33 :: u34 :: u35 :: u36 :: u37 :: u38 :: x39 :: x40 :: x41 :: x42 :: x43 :: x44 :: x45 :: x46 :: x47 :: x48 :: x49 :: x50 :: x51 :: x52 :: x53 :: x54 :: x55 :: x56 :: x57 :: x58 :: x59 :: x60 :: x61 :: x62 ::
      x63 :: x64 :: x65 :: x66 :: x67 :: x68 :: x69 :: x70 :: x71 :: x72 :: x73 :: x74 :: x75 :: x76 :: x77 :: []), []⟩ w') :
    (Code.loop (loopBody Tryz.f39 1)).wp Tryz.prog Q ⟨List.toArray (u0 :: (.int .i64 (L : Int)) :: (.pointer (some ⟨g2, 0, none⟩)) :: u3 :: u4 :: u5 :: (.slice (some ⟨gs, 0, none⟩) n n) :: (.slice AW kW cW) :: (.slice AA kA cA) :: (.int .i64 i) :: (.int .i64 0) :: u11 :: u12 :: u13 :: u14 :: u15 :: u16 :: u17 :: u18 :: u19 ::
      u20 :: u21 :: u22 :: u23 :: u24 :: u25 :: u26 :: u27 :: u28 :: u29 :: u30 :: u31 :: u32 :: u33 :: u34 :: u35 :: u36 :: u37 :: u38 :: u39 :: u40 :: u41 :: u42 :: u43 :: u44 :: u45 :: u46 :: u47 :: u48 :: u49 :: u50 :: u51 :: u52 :: u53 :: u54 :: u55 :: u56 ::
      u57 :: u58 :: u59 :: u60 :: u61 :: u62 :: u63 :: u64 :: u65 :: u66 :: u67 :: u68 :: u69 :: u70 :: u71 :: u72 :: u73 :: u74 :: u75 :: u76 :: u77 :: []), []⟩ w := by
  conv => arg 2; arg 1; whnf
  subst eW eA
  obtain ⟨tb, to, tc, rfl, htb, htr⟩ := hT.at
  obtain ⟨At, ct, hct, htx⟩ := htr s (hk.lt s (List.mem_of_getElem? hs))
  have hMH := hide hM
  have h2H := hide h2
  have hBH := hide hB
  have hkH := hide hk
  have hsH := hide hs
  have hctH := hide hct
  have htxH := hide htx
  clear hM h2 hB hk hs hct htx htr hT
  go_loopw [7, 8, 10] (fun ww aa xx wr => ∃ (x : Nat) (m' : List Bool) (all' : List Nat) (wds' : List (List Nat)) (us' : List Value) (N' : Nat → Prop), xx = .int .i64 (x : Int) ∧ x ≤ L ∧ Hid (FiM w0 wr gs ww aa m' all' wds' us' N') ∧ Hid (BF L (dnx t) i x all' wds') ∧ Hid (MkS n m' all') ∧ Hid (all <+: all')) (fun _ _ xx _ => L - (intOf xx).toNat)
  case atStart => exact ⟨0, m, all, wds, us, N, rfl, Nat.zero_le _, hMH, hBH, hkH, hide (List.prefix_refl _)⟩
  case round =>
    obtain ⟨x, m', all', wds', us', N', rfl, hx, hI, hB, hk, hp⟩ := hrel
    obtain ⟨AW', cW', rfl⟩ := slice_of_own hI.out.wd
    obtain ⟨AA', cA', rfl⟩ := slice_of_own hI.out.at_
    have h0 := hI.out.below
    have hc2 := (h2H.out.below h0).cell
    by_cases hxL : x < L
    · have hs' := prefix_get hp.out hsH.out
      have hil := lt_of_get hs'
      have hsn : s < n := hk.out.lt s (List.mem_of_getElem? hs')
      have hlen : all'.length ≤ n := by
        have := sub_len all' (List.range n) hB.out.nd fun a ha => List.mem_range.2 (hk.out.lt a ha)
        simpa using this
      have hwl : wds'.length = all'.length := hB.out.len
      obtain ⟨wi, hwi⟩ := get_lt (l := wds') (i := i) (by rw [hwl]; exact hil)
      have hwn := hB.out.short i wi hwi
      obtain ⟨gA, c1, e1, e2⟩ := hI.out.state hs'
      injection e1 with e1 e11 e12
      subst e1 e12
      obtain ⟨b2, o2, rfl, hb2, hy, hylt⟩ := htxH.out x hxL
      have hy1 := (h0.cell (p := ⟨b2, o2 + x, none⟩) hb2).trans hy
      have hct1 := (h0.cell (p := ⟨tb, to + s, none⟩) htb).trans hctH.out
      obtain ⟨y, hye⟩ : ∃ y, y = dnx t s x := ⟨_, rfl⟩
      rw [← hye] at hy1 hylt
      have hyeH := hide hye
      have hmk := (hI.out.keep (drewB wr)).mark_at hk.out hylt
      have hsH' := hide hs'
      have hwiH := hide hwi
      have hwlH := hide hwl
      obtain ⟨n', hn'⟩ : ∃ n', n' = all'.length := ⟨_, rfl⟩
      rw [hwl]
      rw [← hn'] at hlen hil ⊢
      have hnH := hide hn'
      have hId := hide (hI.out.keep (drewB wr))
      clear hs' hwi hwl h0 hy hye hn' e11
      by_cases hmem : y ∈ all'
      · rw [decide_eq_true hmem] at hmk
        have hBn := hide (hB.out.old hsH'.out hwiH.out (by rw [← hyeH.out]; exact hmem))
        clear hmem
        go_wp2_with fail
        refine Reg.cP [0, 1, 0, 0, 12, 28, 63, 127, 0, 511, 1023, 2047] ?_ (by kernel_rfl) (by repeat (first | exact hN | refine Reg.NoQ.then ?_ | refine Reg.NoQ.inBlock ?_))
        go_wp2_with fail
        refine ⟨⟨x + 1, m', all', wds', us', N', by go_num, by omega, ?_, hBn, hk, hp⟩, by simp [intOf]; omega⟩
        have := hId.out
        rw [hwlH.out, ← hnH.out] at this
        exact this
      · rw [decide_eq_false hmem] at hmk
        have hBn := hide (hB.out.new hsH'.out hwiH.out hxL (by rw [← hyeH.out]; exact hmem))
        rw [← hyeH.out] at hBn
        have hkn := hide (hk.out.add hylt)
        have hpn := hide (hp.out.trans (List.prefix_append all' [y]))
        have hI3 := hide (hId.out.mark y)
        obtain ⟨w3, hw3⟩ : ∃ w3, wr.drew.setCell ⟨gs, y, none⟩ (.bool true) = w3 := ⟨_, rfl⟩
        rw [hw3] at hI3
        have hsf := hId.out.sn.frozen y
        have hslt := hId.out.sn.lt
        have hat3 := hI3.out.at_
        rw [← hnH.out] at hat3
        have hs3 := hI3.out.below.size
        have hk1 : n' + 1 ≤ 4000000 := by omega
        have hwn1 : wi.length + 1 ≤ 4000000 := by omega
        obtain ⟨lw, hlw⟩ : ∃ lw, lw = wi.length := ⟨_, rfl⟩
        rw [← hlw] at hwn1
        have hlwH := hide hlw
        clear hmem hwn hlw
        go_wp2_with fail
        refine Reg.cP [0, 1, 0, 0, 12, 28, 63, 127, 0, 511, 1023, 2047] ?_ (by kernel_rfl) (by repeat (first | exact hN | refine Reg.NoQ.then ?_ | refine Reg.NoQ.inBlock ?_))
        go_wp2_with (
          at_builtin
          refine wpList_app_new (w := w3) row3 rfl _ _ rfl w0.heap.size (.slice (some ⟨gA, 0, none⟩) n' cA') n' _ rfl hat3 [.int .i64 (y : Int)] 1 rfl rfl (by simp [Value.oneCell']) hk1 hs3 ?_
          intro g4 cap4 w4 hown4 hk4 hmv4 hg4
          have hI4 := hI3.out.addA (y := y) (vA' := .slice (some ⟨g4, 0, none⟩) (n' + 1) cap4) (by rw [← hnH.out]; exact hk4) (by rw [← hnH.out]; exact hown4) (by rw [← hnH.out]; exact hmv4)
          obtain ⟨gW, q1, A, c, q2, q3, q4⟩ := hI4.word hwiH.out (by rw [← hlwH.out]; omega)
          injection q2 with q2 q21 q22
          subst q2 q22
          rw [← hlwH.out] at q3
          have hcp := copyInts_any (c := c) (n := lw) q4 (Nat.le_refl _) (by rw [hlwH.out]; simp [natL]) (by rw [show (natL wi).length = wi.length from by simp [natL], ← hlwH.out]; omega)
          have hI4H := hide hI4
          clear hown4 hk4 hmv4 hI4 q4 q21)
        refine Calls.ret hcp ?_
        rintro r w5 ⟨hb5, hown5⟩
        obtain ⟨Ar, cr, rfl⟩ := slice_of_own hown5
        have s45 := hb5.size
        have hb5H := hide hb5
        clear hcp hb5
        go_wp2_with (
          at_builtin
          first
          | (refine wpList_app_new (w := w5) row3 rfl _ _ rfl w4.heap.size (.slice Ar lw cr) lw _ rfl hown5 [.int .i64 (x : Int)] 1 rfl rfl (by simp [Value.oneCell']) hwn1 s45 ?_
             intro g6 cap6 w6 hown6 hk6 hmv6 hg6
             have hb46 := hb5H.out.trans (hk6.below s45 fun b hb e => by have := own_base hown5 e; omega)
             have hI6 := hI4H.out.keep hb46
             have hW6 := hI6.wd
             rw [hwlH.out, ← hnH.out] at hW6
             have hs6 := hI6.below.size
             have hr6 : w6.ownsRow w0.heap.size 3 1 (.slice (some ⟨g6, 0, none⟩) (lw + 1) cap6) (wi ++ [x]).length ((natL (wi ++ [x])).map (Value.int .i64)) := (by
               rw [List.length_append, natL_snoc, List.map_append, ← hlwH.out]
               exact own_mono hown6 hI4H.out.below.size)
             have hbase := own_base hown6 (k := g6) (by simp [Value.ownBlock])
             have hA4 := hI4H.out.at_
             have hI6H := hide hI6
             have hr6H := hide hr6
             have hne : Hid (∀ k, (Value.slice (some ⟨g6, 0, none⟩) (lw + 1) cap6).ownBlock = some k → (Value.slice (some ⟨g4, 0, none⟩) (n' + 1) cap4).ownBlock ≠ some k) := hide fun k e1 e2 => (by
               have := own_lt hA4 e2
               have := own_base hown6 e1
               omega)
             clear hown6 hk6 hmv6 hg6 hb46 hI6 hr6 hA4 hbase)
          | (refine wpList_app_new (w := w6) row22 rfl _ _ rfl w0.heap.size (.slice (some ⟨gW, 0, none⟩) n' cW') n' _ rfl hW6 [.slice (some ⟨g6, 0, none⟩) (lw + 1) cap6] 1 rfl rfl (by simp [Value.oneCell']) hk1 hs6 ?_
             intro g7 cap7 w7 hown7 hk7 hmv7 hg7
             have hI7 := hide (hI6H.out.addW (z := wi ++ [x]) (vW' := .slice (some ⟨g7, 0, none⟩) (n' + 1) cap7) hr6H.out hne.out (by rw [hwlH.out, ← hnH.out]; exact hk7) (by rw [hwlH.out, ← hnH.out]; exact hown7))
             clear hown7 hk7 hmv7 hg7))
        exact ⟨⟨x + 1, _, _, _, _, _, by go_num, by omega, hI7, hBn, hkn, hpn⟩, by simp [intOf]; omega⟩
    · obtain rfl : x = L := by omega
      have hIo := hI.out
      go_wp2_with fail
      refine hQ _ _ _ _ _ _ _ _ _ _ _ _ _ _ _ _ _ _ _ _ _ _ _ _ _ _ _ _ _ _ _ _ _ _ _ _ _ _ _ _ _ wr _ _ m' all' wds' us' N' hIo hB.out hk.out hp.out
end Go.Proofs.YtakpmdmjbgipiaaGreatDoor
namespace Go.Proofs.YtakpmdmjbgipiaaGreatDoor
open Go.RowKit
set_option maxHeartbeats 16000000
set_option maxRecDepth 100000
theorem fi_start {w1 w2 : World} {gs n : Nat} (hb : Below w1.heap.size w1 w2) (hB : Blk w2 gs 4 (Array.replicate n (.bool false))) (hg : w1.heap.size ≤ gs) (hn : 0 < n) : ∃ w3 w4 w5 w6, w2.alloc (.cells #[] 3) = w3 ∧ w3.alloc (.cells #[.slice (some ⟨w2.heap.size, 0, none⟩) 0 0] 22) = w4 ∧ w4.alloc (.cells #[.int .i64 0] 3) = w5 ∧ w5.setCell ⟨gs, 0, none⟩ (.bool true) = w6 ∧
  w5.frozen? ⟨gs, 0, none⟩ = false ∧ gs < w5.heap.size ∧ w5.cell? ⟨gs, 0, none⟩ = some (.bool false) ∧
  FiM w1 w6 gs (.slice (some ⟨w3.heap.size, 0, none⟩) 1 1) (.slice (some ⟨w4.heap.size, 0, none⟩) 1 1) ((List.replicate n false).set 0 true) [0] [[]] [.slice (some ⟨w2.heap.size, 0, none⟩) 0 0] (fun k => k = w2.heap.size) ∧ MkS n ((List.replicate n false).set 0 true) [0] := by
 obtain ⟨w3, h3, hb3, hB3, -⟩ := box_blk w2 #[] 3
 obtain ⟨w4, h4, hb4, hB4, -⟩ := box_blk w3 #[.slice (some ⟨w2.heap.size, 0, none⟩) 0 0] 22
 obtain ⟨w5, h5, hb5, hB5, -⟩ := box_blk w4 #[.int .i64 0] 3
 have s2 := hb.size
 have s3 := hb3.size
 have s4 := hb4.size
 have s5 := hb5.size
 have l3 := hB3.lt
 have l4 := hB4.lt
 have hb25 : Below w2.heap.size w2 w5 := hb3.trans ((hb4.mono s3).trans (hb5.mono (by omega)))
 have hG := hB.below hb25
 have er : Array.replicate n (Value.bool false) = ((List.replicate n false).map Value.bool).toArray := by rw [List.map_replicate, repl_list]
 rw [er] at hG
 have hI : FiM w1 w5 gs (.slice (some ⟨w3.heap.size, 0, none⟩) 1 1) (.slice (some ⟨w4.heap.size, 0, none⟩) 1 1) (List.replicate n false) [0] [[]] [.slice (some ⟨w2.heap.size, 0, none⟩) 0 0] (fun k => k = w2.heap.size) := by
  refine ⟨hb.trans (hb25.mono s2), hG, own_of_blk (base := w1.heap.size) (n := 1) hB5 (by omega) rfl (by omega), own_of_blk (base := w1.heap.size) (n := 1) (hB4.below hb5) (by omega) rfl (by omega), ?_, ?_, ?_, hg⟩
  ·exact .cons ⟨own_of_blk (base := w1.heap.size) (n := 0) ((hB3.below hb4).below hb5) (by omega) rfl (by omega), fun g e => by simp [Value.ownBlock] at e; omega⟩ .nil
  ·intro k hk e
   simp [Value.ownBlock] at e
   omega
  ·intro k hk
   omega
 have hm : MkS n (List.replicate n false) [] := ⟨by simp, fun q hq => by rw [List.getElem?_replicate, if_pos hq]; simp, fun _ h => absurd h (List.not_mem_nil)⟩
 refine ⟨w3, w4, w5, _, h3, h4, h5, rfl, hG.frozen 0, hG.lt, ?_, hI.mark 0, hm.add hn⟩
 rw [hG.cell 0, List.getElem?_toArray, List.getElem?_map, List.getElem?_replicate, if_pos hn]
 rfl
theorem refFirst_any {w : World} {vN vC : Value} {L n : Nat} {t : List (List Nat)} {ac : List Bool} (hT : TabF w L n vN vC t ac) (hL : L ≤ 8) (hn : n ≤ 200000) :
  Calls Tryz.prog 39 #[.agg #[vN, vC], .int .i64 (L : Int)] w (Ret fun r w' => DifRet w L (fun z => langT t ac z) r w') := by
 have hpos : 0 < n := by have := hT.ok.pos; have := hT.n; omega
 obtain ⟨tb, to, tc, rfl, htb, htr⟩ := hT.at
 obtain ⟨mb, mo, mc, rfl, hmb, hmk⟩ := hT.mark
 obtain ⟨w1, hw1, hb1, hB1, -⟩ := box_blk w #[.slice (some ⟨tb, to, none⟩) n tc, .slice (some ⟨mb, mo, none⟩) n mc] 77
 obtain ⟨gs, w2, hmk2, hbl2, hb2, hg2⟩ := mk_bools w1 n (by omega)
 obtain ⟨w3, w4, w5, w6, h3, h4, h5, h6, q1, q2, q3, hI0, hm0⟩ := fi_start hb2 hbl2 hg2 hpos
 have hT1 := hide (hT.below hb1)
 have hB1H := hide hB1
 have f1 := hB1.cell
 have b01 := hide hb1
 have hmkH := hide hmk
 have hI0H := hide hI0
 have hm0H := hide hm0
 clear hT htr hmk hb1 hB1 hbl2 hb2 hg2 hI0 hm0
 go_enter Tryz.func39, Tryz.ntmps39
 go_wp2_with fail
 go_loopw [7, 8, 9] (fun ww aa ii wr => ∃ (i : Nat) (m : List Bool) (all : List Nat) (wds : List (List Nat)) (us : List Value) (N : Nat → Prop), ii = .int .i64 (i : Int) ∧ i ≤ n ∧ i ≤ all.length ∧ Hid (FiM w1 wr gs ww aa m all wds us N) ∧ Hid (BF L (dnx t) i 0 all wds) ∧ Hid (MkS n m all) ∧ Hid (∀ k s : Nat, k < i → all[k]? = some s → dac ac s = false)) (fun _ _ ii _ => n + 1 - (intOf ii).toNat)
 case atStart => exact ⟨0, _, _, _, _, _, rfl, Nat.zero_le _, Nat.zero_le _, hI0H, hide .start, hm0H, hide fun k s hk => by omega⟩
 case round =>
  obtain ⟨i, m, all, wds, us, N, rfl, hin, hil0, hI, hB, hk, hno⟩ := hrel
  obtain ⟨AW, cW, rfl⟩ := slice_of_own hI.out.wd
  obtain ⟨AA, cA, rfl⟩ := slice_of_own hI.out.at_
  have hc1 := (hB1H.out.below hI.out.below).cell
  have bwr := hide (b01.out.trans (hI.out.below.mono b01.out.size))
  by_cases hil : i < all.length
  ·obtain ⟨s, hs⟩ := get_lt hil
   have hsn : s < n := hk.out.lt s (List.mem_of_getElem? hs)
   have hwl : wds.length = all.length := hB.out.len
   obtain ⟨wi, hwi⟩ := get_lt (l := wds) (i := i) (by rw [hwl]; exact hil)
   have hwn := hB.out.short i wi hwi
   have hlen : all.length ≤ n := by
    have := sub_len all (List.range n) hB.out.nd fun a ha => List.mem_range.2 (hk.out.lt a ha)
    simpa using this
   obtain ⟨gA, c1, e1, e2⟩ := hI.out.state hs
   injection e1 with e1 e11 e12
   subst e1 e12
   have hac := (bwr.out.cell (p := ⟨mb, mo + s, none⟩) hmb).trans (hmkH.out s hsn)
   have hin1 : i + 1 ≤ n := by omega
   have hsH := hide hs
   have hwiH := hide hwi
   have hwlH := hide hwl
   obtain ⟨n', hn'⟩ : ∃ n', n' = all.length := ⟨_, rfl⟩
   have hnH := hide hn'
   have hId := hide (hI.out.keep (drewB wr))
   by_cases ha : dac ac s = true
   ·rw [ha] at hac
    have hfw := hide (hB.out.first hwi hs hno.out ha)
    obtain ⟨gW, q1', A, c, e3, e4, e5⟩ := hId.out.word hwi (by omega)
    injection e3 with e3 e31 e32
    subst e3 e32
    have e5H := hide e5
    have bfin := hide (bwr.out.trans ((drewB wr).mono bwr.out.size))
    rw [hwl]
    rw [← hn'] at hil ⊢
    obtain ⟨lw, hlw⟩ : ∃ lw, lw = wi.length := ⟨_, rfl⟩
    rw [← hlw] at e4
    have hlwH := hide hlw
    clear hs hwi hwl hn' e11 e31 e5 ha hlw hwn hlen
    go_wp2_with fail
    refine Reg.cP [0, 1, 0, 0, 12, 28, 63, 127] ?_
    go_wp2_with fail
    refine bodyPost_ret (v := .tuple #[.slice A lw c, .bool true]) (by simp [results, Tryz.results39, go_sem]) rfl ⟨bfin.out, .inr ⟨wi, A, c, hfw.out, by rw [hlwH.out], e5H.out⟩⟩
   ·have ha' : dac ac s = false := by simpa using ha
    rw [ha'] at hac
    have hnoN := hide (fun (all' : List Nat) (hp : all <+: all') (k s' : Nat) (hk : k < i + 1) (h : all'[k]? = some s') => show dac ac s' = false from by
     rcases Nat.lt_or_ge k i with hlt | hge
     ·obtain ⟨s2, hs2⟩ := get_lt (l := all) (i := k) (by omega)
      rw [prefix_get hp hs2] at h
      have := Option.some.inj h
      subst this
      exact hno.out k _ hlt hs2
     ·have : k = i := by omega
      subst this
      rw [prefix_get hp hs] at h
      have := Option.some.inj h
      subst this
      exact ha')
    rw [hwl]
    rw [← hn'] at hil ⊢
    clear hs hwi hwl hn' e11 ha ha' hwn hlen
    go_wp2_with fail
    refine Reg.cP [0, 1, 0, 0, 12, 28, 63, 127] ?_
    go_wp2_with fail
    have hId2 := hId.out
    refine fi_x (by rw [hnH.out, hwlH.out]) hnH.out hId2 hT1.out hB1H.out hL hn hB.out hk.out hsH.out ?_ ?_
    ·repeat (first | exact Reg.NoQ.body (fun _ _ h => h) (fun _ h => h) | refine Reg.NoQ.then ?_ | refine Reg.NoQ.inBlock ?_)
    ·iterate 41 (intro _)
     intro w9 vW' vA' m' all' wds' us' N' hM9 hB9 hk9 hp9
     have h1 := hide (hnoN.out all' hp9)
     have hle9 := hp9.length_le
     have hM9H := hide hM9
     have hB9H := hide hB9.row
     have hk9H := hide hk9
     clear hM9 hB9 hk9 hp9
     go_wp2_with fail
     exact ⟨⟨i + 1, m', all', wds', us', N', by go_num, hin1, by have := hnH.out; omega, hM9H, hB9H, hk9H, h1⟩, by simp [intOf]; omega⟩
  ·obtain rfl : i = all.length := by omega
   have hnn := hide (fun (z : List Nat) (hz : okW L z) => hB.out.none rfl hno.out hz)
   have hwl := hB.out.len
   obtain ⟨n', hn'⟩ : ∃ n', n' = all.length := ⟨_, rfl⟩
   rw [← hn'] at hin ⊢
   clear hn' hwl hil
   go_wp2_with fail
   refine bodyPost_ret (v := .tuple #[.slice none 0 0, .bool false]) (by simp [results, Tryz.results39, go_sem]) rfl ⟨bwr.out, .inl ⟨fun z hz => hnn.out z hz, rfl⟩⟩
end Go.Proofs.YtakpmdmjbgipiaaGreatDoor
