/-
  Part PA of a proof.
-/
import Derived.WalkKit
import Derived.Laws.Panics
import Derived.Deep.MidRow
import Derived.Test.YtakpmdmjbgipiaaGreatDoorRows
import Derived.WalkSpells
import Derived.WalkLawsBesides
import Derived.Lib.Hide
import Derived.Deep.AppendLies
import Derived.Deep.Draws
import Derived.Deep.LoopGhost
import Derived.Deep.QuietTactic
import Derived.BigQuiet
import Derived.BigCall
import Derived.Maps.AppendAt
set_option maxHeartbeats 16000000
set_option maxRecDepth 100000
set_option linter.unusedVariables false
set_option linter.unusedSimpArgs false
namespace Go.Proofs.YtakpmdmjbgipiaaGreatDoor
namespace Reg
def Ext (w w' : World) : Prop := ∀ k, k < w.heap.size → w'.heap[k]? = w.heap[k]?
theorem Ext.refl (w : World) : Ext w w := fun _ _ => rfl
theorem Ext.some {w w' : World} (h : Ext w w') {k : Nat} {o : Obj} (hk : w.heap[k]? = some o) : w'.heap[k]? = some o := by
 rw [h k (Array.getElem?_eq_some_iff.1 hk).1]; exact hk
def Calm {α : Type} (P : Program) (s : Sem α) : Prop := (∃ v, ∀ w, s.run P w = .ok v w) ∨ (∀ w, ∃ h w', s.run P w = .halt h w')
section
variable {α β : Type} {P : Program}
theorem Calm.pure (v : α) : Calm P (Pure.pure v : Sem α) := .inl ⟨v, fun _ => rfl⟩
theorem Calm.halt (h : Halt) : Calm P (Sem.halt h : Sem α) := .inr fun w => ⟨h, w, rfl⟩
theorem Calm.haltBind (h : Halt) (f : α → Sem β) : Calm P (Sem.halt h >>= f) := .inr fun w => ⟨h, w, rfl⟩
theorem Calm.stuckBind (s : String) (f : α → Sem β) : Calm P (Go.stuck s >>= f) := Calm.haltBind _ f
theorem Calm.stuck (s : String) : Calm P (Go.stuck s : Sem α) := Calm.halt _
theorem Calm.unsupported (s : Unsupported) : Calm P (Go.unsupported s : Sem α) := Calm.halt _
theorem Calm.bind {s : Sem α} {f : α → Sem β} (hs : Calm P s) (hf : ∀ v, Calm P (f v)) : Calm P (s >>= f) := by
 rcases hs with ⟨v, hv⟩ | hh
 ·rcases hf v with ⟨u, hu⟩ | hh
  ·exact .inl ⟨u, fun w => by rw [Sem.run_bind, hv]; exact hu w⟩
  ·exact .inr fun w => by rw [Sem.run_bind, hv]; exact hh w
 ·exact .inr fun w => by
   obtain ⟨h, w', e⟩ := hh w
   exact ⟨h, w', by rw [Sem.run_bind, e]; rfl⟩
theorem Calm.program {f : Program → Sem β} (hf : Calm P (f P)) : Calm P (Go.program >>= f) := by
 rcases hf with ⟨u, hu⟩ | hh
 ·exact .inl ⟨u, fun w => by rw [Sem.run_bind, run_program]; exact hu w⟩
 ·exact .inr fun w => by rw [Sem.run_bind, run_program]; exact hh w
theorem Calm.ite {c : Prop} [Decidable c] {x y : Sem α} (hx : Calm P x) (hy : Calm P y) : Calm P (if c then x else y) := by
 split
 ·exact hx
 ·exact hy
theorem Calm.boundsPanic (k : IntKind) (x y : Int) (code : BoundsCode) : Calm P (Go.boundsPanic k x y code : Sem α) := .inr fun w => by
 obtain ⟨s, w', h⟩ := run_boundsPanic (α := α) (P := P) (w := w) k x y code
 exact ⟨_, w', h⟩
theorem Calm.underlying (t : TypeId) : Calm P (Go.underlying t) := by
 unfold Go.underlying
 refine Calm.program ?_
 split
 ·exact Calm.pure _
 ·exact Calm.stuck _
theorem Calm.typeInfo (t : TypeId) : Calm P (Go.typeInfo t) := by
 unfold Go.typeInfo
 refine Calm.program ?_
 split
 ·exact Calm.pure _
 ·exact Calm.stuck _
theorem Calm.sizeOf (t : TypeId) : Calm P (Go.sizeOf t) := Calm.bind (Calm.typeInfo t) fun _ => Calm.pure _
theorem Calm.nilDeref : Calm P (Go.runtimePanic .nilDeref : Sem α) := by
 unfold Go.runtimePanic
 exact Calm.program (Calm.halt _)
theorem Calm.error (s : String) : Calm P (Go.runtimePanic (.error s) : Sem α) := by
 unfold Go.runtimePanic
 exact Calm.program (Calm.halt _)
theorem Calm.asIntOf (v : Value) : Calm P (Go.asIntOf v) := by
 unfold Go.asIntOf
 split
 ·exact Calm.pure _
 ·exact Calm.unsupported _
 ·exact Calm.stuck _
theorem Calm.asBool (v : Value) : Calm P (Go.asBool v) := by
 unfold Go.asBool
 split
 ·exact Calm.pure _
 ·exact Calm.stuck _
theorem Calm.sureAddr (v : Value) : Calm P (Instr.sureAddr v) := by
 unfold Instr.sureAddr
 split
 ·exact Calm.pure _
 ·exact Calm.stuck _
theorem Calm.ok {s : Sem α} (h : Calm P s) {w w1 : World} {v : α} (e : s.run P w = .ok v w1) : w1 = w ∧ ∀ w', s.run P w' = .ok v w' := by
 rcases h with ⟨u, hu⟩ | hh
 ·have := hu w
  rw [e] at this
  injection this with h1 h2
  subst h1; subst h2
  exact ⟨rfl, hu⟩
 ·obtain ⟨x, y, hx⟩ := hh w
  rw [e] at hx; cases hx
end
def fieldOk (P : Program) (s : TypeId) (f : Nat) : Bool :=
 match P.underlying s with
 | some (.struct fs) => match fs[f]? with
  | some fl => match P.info? fl.type with
   | some i => i.size != 0
   | none => true
  | none => true
 | _ => true
def lenOk (P : Program) (ts : Array TypeId) : Bool :=
 match ts[0]? with
 | some t => match P.underlying t with
  | some (.slice _) => true
  | some .string => true
  | _ => false
 | none => false
def calmOp (P : Program) : Op → Bool
 | .move _ | .assign _ | .pick .. | .extract .. | .makeFunc .. | .unOp .. | .indexAddr .. | .nilCheck _ => true
 | .fieldAddr s _ f => fieldOk P s f
 | .call { callee := .builtin .len, argTypes := ts, .. } => lenOk P ts
 | _ => false
def intOp : Op → Bool
 | .binOp .. => true
 | _ => false
def isInt : Value → Bool
 | .int .. => true
 | _ => false
def intFine (ρ : Operand → Value) : Op → Bool
 | .binOp _ _ x y _ => isInt (ρ x) && isInt (ρ y)
 | _ => true
theorem Calm.value {P : Program} {s : Sem Value} (h : Calm P s) : Calm P (s >>= fun v => (Pure.pure (Next.value v) : Sem Next)) := Calm.bind h fun _ => Calm.pure _
def CalmV (P : Program) (s : Sem Next) : Prop := (∃ u, ∀ w, s.run P w = .ok (.value u) w) ∨ (∀ w, ∃ h w', s.run P w = .halt h w')
theorem Calm.valueV {P : Program} {s : Sem Value} (h : Calm P s) : CalmV P (s >>= fun v => (Pure.pure (Next.value v) : Sem Next)) := by
  rcases h with ⟨v, hv⟩ | hh
  · exact .inl ⟨v, fun w => by rw [Sem.run_bind, hv]; rfl⟩
  · exact .inr fun w => by
      obtain ⟨x, y, e⟩ := hh w
      exact ⟨x, y, by rw [Sem.run_bind, e]; rfl⟩
theorem calm_unary {P : Program} (op : UnOp) (x : Value) : Calm P (Op.unary op x) := by
 unfold Op.unary
 split
 all_goals first
  | exact Calm.pure _
  | exact Calm.stuck _
  | exact Calm.unsupported _
  | (unfold Op.intArith; split <;> first | exact Calm.pure _ | exact Calm.stuck _)
  | (unfold Op.intBits; dsimp only; split <;> first | exact Calm.pure _ | exact Calm.stuck _)
theorem calm_extract {P : Program} (t : Value) (i : Nat) : Calm P (Instr.extract t i) := by
 unfold Instr.extract
 split
 ·split
  ·exact Calm.pure _
  ·exact Calm.stuck _
 ·exact Calm.stuck _
theorem calm_indexAt {P : Program} (t : TypeId) (x i : Value) : Calm P (Instr.indexAt t x i) := by
 unfold Instr.indexAt
 refine Calm.bind (Calm.asIntOf i) ?_
 rintro ⟨k, n⟩
 refine Calm.bind (Calm.underlying t) ?_
 intro d
 have key : ∀ (msg : String) (base : Option Addr) (len : Nat) (elem : TypeId), Calm P (do
   let d' ← Go.underlying t
   have tiny : Bool := decide (len ≤ 1) && (match d' with | .array .. => true | _ => false)
   match base with
   | some a =>
    if 0 ≤ n ∧ n < (len : Int) then do
     let z ← Go.sizeOf elem
     pure (Value.pointer (some (a.add (n.toNat * z))))
    else if tiny = true then Go.unsupported (.noEntry msg)
    else Go.boundsPanic k n (len : Int) .index
   | none => Go.boundsPanic k n 0 .index) := by
  intro msg base len elem
  refine Calm.bind (Calm.underlying t) ?_
  intro d'
  dsimp only
  split
  ·exact Calm.ite (Calm.bind (Calm.sizeOf _) fun _ => Calm.pure _) (Calm.ite (Calm.unsupported _) (Calm.boundsPanic _ _ _ _))
  ·exact Calm.boundsPanic _ _ _ _
 dsimp only
 split
 ·exact Calm.bind (Calm.sureAddr _) fun a => key _ (some a) _ _
 ·exact key _ _ _ _
 ·exact Calm.stuckBind _ _
theorem calm_fieldAt {P : Program} (s : TypeId) (x : Value) (f : Nat) (h : fieldOk P s f = true) : Calm P (Instr.fieldAt s x f) := by
 unfold Instr.fieldAt Go.underlying
 rw [bind_assoc]
 refine Calm.program ?_
 unfold fieldOk at h
 cases hd : P.underlying s with
 | none => exact Calm.stuckBind _ _
 | some d =>
  rw [hd] at h
  dsimp only at h ⊢
  rw [pure_bind]
  cases d <;> try exact Calm.stuck _
  rename_i fs
  dsimp only at h ⊢
  cases hf : fs[f]? with
  | none => exact Calm.stuck _
  | some fl =>
   rw [hf] at h
   dsimp only at h ⊢
   refine Calm.bind (Calm.sureAddr _) ?_
   intro a
   refine Calm.bind ?_ fun _ => Calm.pure _
   unfold fieldPlace Go.sizeOf Go.typeInfo
   simp only [bind_assoc]
   refine Calm.program ?_
   cases hi : P.info? fl.type with
   | none => exact Calm.stuckBind _ _
   | some i =>
    rw [hi] at h
    dsimp only at h ⊢
    simp only [pure_bind]
    have : i.size ≠ 0 := by simpa using h
    rw [if_neg this]
    exact Calm.pure _
theorem calm_len {P : Program} (ts : Array TypeId) (ty : TypeId) (args : Array Value) (h : lenOk P ts = true) : Calm P (Builtin.len_ ts ty args) := by
 unfold Builtin.len_
 unfold lenOk at h
 cases ht : ts[0]? with
 | none => rw [ht] at h; simp at h
 | some t =>
 rw [ht] at h
 cases hx : args[0]? with
 | none => exact Calm.stuck _
 | some x =>
  dsimp only at h ⊢
  unfold Go.underlying
  rw [bind_assoc]
  refine Calm.program ?_
  cases hd : P.underlying t with
  | none => exact Calm.stuckBind _ _
  | some d =>
   rw [hd] at h
   dsimp only at h ⊢
   rw [pure_bind]
   cases d <;> first | (simp at h; done) | skip
   all_goals (cases x <;> first | exact Calm.pure _ | exact Calm.stuck _)
theorem calm_binInt {P : Program} (op : BinOp) (t : TypeId) (x y : Operand) (k k' : IntKind) (a b : Int) :
    Calm P (do eqGuard op t x y (.int k a) (.int k' b); binOp op t (.int k a) (.int k' b)) := by
  have h1 : Calm P (eqGuard op t x y (.int k a) (.int k' b)) := by
    unfold eqGuard
    cases op <;> exact Calm.pure _
  refine Calm.bind h1 fun _ => ?_
  have hA : ∀ o, Calm P (Op.intArith o k a b) := fun o => by unfold Op.intArith; split <;> first | exact Calm.pure _ | exact Calm.stuck _
  have hD : ∀ o, Calm P (Op.intDiv o k a b) := fun o => by
    unfold Op.intDiv; split
    · exact Calm.error _
    · split <;> first | exact Calm.pure _ | exact Calm.stuck _
  have hB : ∀ o, Calm P (Op.intBits o k a b) := fun o => by unfold Op.intBits; dsimp only; split <;> first | exact Calm.pure _ | exact Calm.stuck _
  have hC : ∀ o, Calm P (Op.intCmp o a b) := fun o => by unfold Op.intCmp; split <;> first | exact Calm.pure _ | exact Calm.stuck _
  have hS : ∀ o, Calm P (Op.shift o k a k' b) := fun o => by
    unfold Op.shift; split
    · exact Calm.error _
    · dsimp only; split <;> first | exact Calm.pure _ | exact Calm.stuck _
  cases op <;> simp only [binOp] <;> first
    | exact hS _
    | (split
       · exact Calm.stuck _
       · first | exact hA _ | exact hD _ | exact hB _ | exact hC _)
theorem calm_isAgg {P : Program} (t : TypeId) : Calm P (isAgg t) := by
 unfold isAgg
 refine Calm.bind (Calm.underlying t) fun d => ?_
 split <;> exact Calm.pure _
theorem calm_part {P : Program} (t : TypeId) (cs : Array Value) (off : Nat) : Calm P (part t cs off) := by
 unfold part
 refine Calm.bind (calm_isAgg t) fun b => ?_
 split
 ·exact Calm.bind (Calm.sizeOf _) fun _ => Calm.pure _
 ·split
  ·exact Calm.pure _
  ·exact Calm.stuck _
theorem calm_followBlind {P : Program} (l : List FieldStep) : ∀ (t : TypeId) (x : Option Value), Calm P (followBlind l t x) := by
 induction l with
 | nil => exact fun t x => Calm.pure _
 | cons s rest ih =>
  intro t x
  unfold followBlind
  refine Calm.bind (Calm.underlying _) fun d => ?_
  split
  ·split
   ·split
    ·exact Calm.pure _
    ·exact ih _ _
    ·exact Calm.stuck _
    ·exact Calm.pure _
    ·exact Calm.bind (calm_part _ _ _) fun _ => ih _ _
    ·exact Calm.stuck _
    ·exact ih _ _
   ·exact Calm.stuck _
  ·exact Calm.stuck _
theorem calm_nilAhead {P : Program} (n : Nat) : ∀ (t : TypeId) (v : Value) (name : String), Calm P (nilAhead n t v name) := by
 induction n with
 | zero => exact fun _ _ _ => Calm.pure _
 | succ n ih =>
  intro t v name
  unfold nilAhead
  refine Calm.bind (Calm.typeInfo _) fun i => ?_
  split
  ·refine Calm.bind (calm_followBlind _ _ _) fun r => ?_
   split
   ·exact Calm.pure _
   ·split
    ·exact ih _ _ _
    ·exact Calm.pure _
    ·exact Calm.stuck _
    ·exact Calm.pure _
    ·exact Calm.pure _
    ·refine Calm.bind (Calm.underlying _) fun d => ?_
     split <;> exact Calm.pure _
  ·exact Calm.stuck _
theorem calm_nilCheck {P : Program} (msg : String) (v : Value) : CalmV P (match v with
  | .pointer none | .nilIface | .nilFunc => runtimePanic .nilDeref
  | .func (.method name) first captured =>
   match (first[0]? : Option Value) with
   | some .nilIface => runtimePanic .nilDeref
   | some (.iface t w) => do
    if (← nilAhead ((← program).types.size + Made.depth) t w name) != some false then
     unsupported (.noEntry msg)
    pure (.value (.func (.method name) first captured))
   | _ => pure (.value (.func (.method name) first captured))
  | x => pure (.value x)) := by
 have halts : ∀ {s : Sem Next}, Calm P s → (∀ w r w1, s.run P w = .ok r w1 → False) → CalmV P s := fun {s} hs hn => by
  rcases hs with ⟨v, hv⟩ | hh
  ·exact (hn default v default (hv default)).elim
  ·exact .inr hh
 have hdef : CalmV P (runtimePanic .nilDeref : Sem Next) := .inr fun w => by
  rcases Calm.nilDeref (P := P) (α := Next) with ⟨v, hv⟩ | hh
  ·have := hv w
   simp [runtimePanic, goPanic] at this
  ·exact hh w
 split
 ·exact hdef
 ·exact hdef
 ·exact hdef
 ·split
  ·exact hdef
  ·rename_i name first captured _ t w _
   rcases calm_nilAhead (P := P) (P.types.size + Made.depth) t w name with ⟨r, hr⟩ | hh
   ·by_cases hb : (r != some false) = true
    ·exact .inr fun w => by
      simp only [Sem.run_bind, run_program, Result.andThen_ok, hr, hb, if_true]
      exact ⟨_, _, rfl⟩
    ·refine .inl ⟨.func (.method name) first captured, fun w => ?_⟩
     simp only [Sem.run_bind, run_program, Result.andThen_ok, hr, hb]
     rfl
   ·exact .inr fun w => by
     obtain ⟨x, y, e⟩ := hh w
     simp only [Sem.run_bind, run_program, Result.andThen_ok, e]
     exact ⟨_, _, rfl⟩
  ·exact .inl ⟨_, fun _ => rfl⟩
 ·exact .inl ⟨_, fun _ => rfl⟩
theorem calm_exec {P : Program} (o : Oper) (ρ : Operand → Value) (h : calmOp P o.op = true) : CalmV P (execOp ρ o) := by
  obtain ⟨dst, op, type, pos, after, guard⟩ := o
  cases op <;> simp only [calmOp, Bool.false_eq_true] at h
  case move => exact .inl ⟨_, fun _ => rfl⟩
  case assign => exact .inl ⟨_, fun _ => rfl⟩
  case pick c x y =>
    show CalmV P (asBool (ρ c) >>= fun b => (Pure.pure (Next.value (if b then ρ x else ρ y)) : Sem Next))
    rcases Calm.asBool (P := P) (ρ c) with ⟨v, hv⟩ | hh
    · exact .inl ⟨if v = true then ρ x else ρ y, fun w => by rw [Sem.run_bind, hv]; rfl⟩
    · exact .inr fun w => by
        obtain ⟨x, y, e⟩ := hh w
        exact ⟨x, y, by rw [Sem.run_bind, e]; rfl⟩
  case unOp => exact Calm.valueV (calm_unary _ _)
  case makeFunc => exact Calm.valueV (Calm.pure _)
  case fieldAddr => exact Calm.valueV (calm_fieldAt _ _ _ h)
  case indexAddr => exact Calm.valueV (calm_indexAt _ _ _)
  case extract => exact Calm.valueV (calm_extract _ _)
  case nilCheck => exact calm_nilCheck _ _
  case call c =>
    obtain ⟨callee, args, ts⟩ := c
    cases callee with
    | builtin b => cases b <;> first | exact Calm.valueV (calm_len _ _ _ h) | (simp at h; done)
    | value f => simp at h
    | invoke r m => simp at h
theorem calm_exec_int {P : Program} (o : Oper) (ρ : Operand → Value) (h : intOp o.op = true) (hf : intFine ρ o.op = true) : CalmV P (execOp ρ o) := by
 obtain ⟨dst, op, type, pos, after, guard⟩ := o
 cases op <;> simp only [intOp, Bool.false_eq_true] at h
 rename_i op t x y yt
 show CalmV P ((do eqGuard op t x y (ρ x) (ρ y); binOp op t (ρ x) (ρ y)) >>= fun v => (pure (Next.value v) : Sem Next))
 simp only [intFine, Bool.and_eq_true] at hf
 obtain ⟨h1, h2⟩ := hf
 generalize ρ x = u at *
 generalize ρ y = v at *
 cases u <;> simp only [isInt, Bool.false_eq_true] at h1
 cases v <;> simp only [isInt, Bool.false_eq_true] at h2
 exact Calm.valueV (calm_binInt _ _ _ _ _ _ _ _)
def Reads {α : Type} (P : Program) (s : Sem α) : Prop :=
 ∀ (w w1 : World) (v : α), s.run P w = .ok v w1 → w1 = w ∧ ∀ w', Ext w w' → s.run P w' = .ok v w'
section
variable {α β : Type} {P : Program}
theorem Reads.of_calm {s : Sem α} (h : Calm P s) : Reads P s := fun w w1 v e => by
 obtain ⟨h1, h2⟩ := h.ok e
 exact ⟨h1, fun w' _ => h2 w'⟩
theorem Reads.bind {s : Sem α} {f : α → Sem β} (hs : Reads P s) (hf : ∀ v, Reads P (f v)) : Reads P (s >>= f) := by
 intro w w1 v e
 rw [Sem.run_bind] at e
 cases hr : s.run P w with
 | halt x y => rw [hr] at e; cases e
 | ok u w2 =>
  rw [hr] at e
  obtain ⟨rfl, h2⟩ := hs w w2 u hr
  obtain ⟨rfl, h4⟩ := hf u w2 w1 v e
  exact ⟨rfl, fun w' hx => by rw [Sem.run_bind, h2 w' hx]; exact h4 w' hx⟩
theorem ext_cell {w w' : World} (h : Ext w w') {a : Addr} {v : Value} (hc : w.cell? a = some v) : w'.cell? a = some v := by
 unfold World.cell? at hc ⊢
 cases ho : w.heap[a.block]? with
 | none => rw [ho] at hc; cases hc
 | some o => rw [ho] at hc; rw [h.some ho]; exact hc
theorem seen_ext {w w' : World} (h : Ext w w') (at_ : Addr) (u : TypeId) (k : Addr) (b : Bool) {x : Array Value × TypeId × (Nat × Nat) × Nat × Value × List (Nat × Nat × List UInt8)}
  (hs : w.seen P at_ u k b = .ok x) : w'.seen P at_ u k b = .ok x := by
 cases ho : w.heap[at_.block]? with
 | some o =>
  have h' := h.some ho
  unfold World.seen at hs ⊢
  rw [ho] at hs
  rw [h']
  exact hs
 | none =>
  exfalso
  unfold World.seen at hs
  rw [ho] at hs
  simp only [bind, Except.bind, throwThe, MonadExceptOf.throw, MonadExcept.throw] at hs
  repeat' (split at hs)
  all_goals first | (cases hs; done) | (simp at hs; done)
theorem viewLoad_ext {w w' : World} (h : Ext w w') (at_ : Addr) (u : TypeId) (k : Addr) (b : Bool) {x : Value × List Addr}
  (hs : w.viewLoad P at_ u k b = .ok x) : w'.viewLoad P at_ u k b = .ok x := by
 unfold World.viewLoad at hs ⊢
 cases h1 : w.seen P at_ u k b with
 | error e => rw [h1] at hs; cases hs
 | ok y => rw [h1] at hs; rw [seen_ext h at_ u k b h1]; exact hs
theorem reads_load (a : Addr) (m : Mode) : Reads P (Go.load a m) := by
 intro w w1 v e
 simp only [Go.load, Sem.run] at e ⊢
 cases hc : w.cell? a with
 | some u =>
  rw [hc] at e
  simp only [Result.ok.injEq] at e
  obtain ⟨rfl, rfl⟩ := e
  exact ⟨rfl, fun w' h => by rw [ext_cell h hc]⟩
 | none =>
  rw [hc] at e
  dsimp only at e
  cases hf : w.farLoad P a (m == .atomic) with
  | error x => rw [hf] at e; cases e
  | ok y =>
   rw [hf] at e
   obtain ⟨y, l⟩ := y
   simp only [Result.ok.injEq] at e
   obtain ⟨rfl, rfl⟩ := e
   refine ⟨rfl, fun w' h => ?_⟩
   have hf' := hf
   unfold World.farLoad at hf'
   split at hf'
   ·rename_i at_ u ho
    have ho' := h.some ho
    have hc' : w'.cell? a = none := by unfold World.cell?; rw [ho']
    rw [hc']
    dsimp only
    have : w'.farLoad P a (m == .atomic) = .ok (y, l) := by
     unfold World.farLoad
     rw [ho']
     dsimp only
     split at hf'
     ·rename_i r hr
      rw [viewLoad_ext h _ _ _ _ hr]
      exact hf'
     ·cases hf'
    rw [this]
   ·cases hf'
theorem reads_loadCellsFrom (a : Addr) (n : Nat) : ∀ (i : Nat) (acc : Array Value), Reads P (loadCellsFrom a i n acc) := by
 induction n with
 | zero => exact fun i acc => Reads.of_calm (Calm.pure _)
 | succ n ih => exact fun i acc => Reads.bind (reads_load _ _) fun v => ih _ _
theorem reads_loadAt (t : TypeId) (v : Value) : Reads P (Instr.loadAt t v) := by
 unfold Instr.loadAt
 refine Reads.bind (Reads.of_calm (Calm.sureAddr _)) fun a => ?_
 unfold loadVar
 refine Reads.bind (Reads.of_calm (calm_isAgg t)) fun b => ?_
 split
 ·exact Reads.bind (Reads.of_calm (Calm.sizeOf _)) fun n => Reads.bind (reads_loadCellsFrom _ _ _ _) fun c => Reads.of_calm (Calm.pure _)
 ·exact reads_load _ _
def loadOp : Op → Bool
 | .load .. => true
 | _ => false
theorem reads_exec (o : Oper) (ρ : Operand → Value) (h : loadOp o.op = true) : ∃ s : Sem Value, Reads P s ∧ execOp ρ o = (s >>= fun v => (Pure.pure (Next.value v) : Sem Next)) := by
 obtain ⟨dst, op, type, pos, after, guard⟩ := o
 cases op <;> simp only [loadOp, Bool.false_eq_true] at h
 exact ⟨_, reads_loadAt _ _, rfl⟩
theorem value_of_bind {s : Sem Value} {w w1 : World} {r : Next} (h : (s >>= fun v => (Pure.pure (Next.value v) : Sem Next)).run P w = .ok r w1) : ∃ u, r = .value u ∧ s.run P w = .ok u w1 := by
 rw [Sem.run_bind] at h
 cases hr : s.run P w with
 | halt x y => rw [hr] at h; cases h
 | ok u w2 =>
  rw [hr] at h
  simp only [Result.andThen_ok, Sem.run_pure, Result.ok.injEq] at h
  obtain ⟨rfl, rfl⟩ := h
  exact ⟨u, rfl, rfl⟩
theorem run_value {s : Sem Value} {w w1 : World} {u : Value} (h : s.run P w = .ok u w1) : (s >>= fun v => (Pure.pure (Next.value v) : Sem Next)).run P w = .ok (.value u) w1 := by
 rw [Sem.run_bind, h]; rfl
def Makes (P : Program) (s : Sem α) : Prop := ∀ (w w1 : World) (v : α), s.run P w = .ok v w1 → Ext w w1 ∧ w.heap.size ≤ w1.heap.size
theorem Makes.of_calm {s : Sem α} (h : Calm P s) : Makes P s := fun w w1 v e => by
 obtain ⟨rfl, _⟩ := h.ok e
 exact ⟨Ext.refl _, Nat.le_refl _⟩
theorem Ext.trans {a b c : World} (h : Ext a b) (hs : a.heap.size ≤ b.heap.size) (k : Ext b c) : Ext a c := fun i hi => (k i (by omega)).trans (h i hi)
theorem Makes.bind {s : Sem α} {f : α → Sem β} (hs : Makes P s) (hf : ∀ v, Makes P (f v)) : Makes P (s >>= f) := by
 intro w w1 v e
 rw [Sem.run_bind] at e
 cases hr : s.run P w with
 | halt x y => rw [hr] at e; cases e
 | ok u w2 =>
  rw [hr] at e
  obtain ⟨h1, h2⟩ := hs w w2 u hr
  obtain ⟨h3, h4⟩ := hf u w2 w1 v e
  exact ⟨h1.trans h2 h3, by omega⟩
theorem makes_newObj (o : Obj) : Makes P (newObj o) := by
 intro w w1 v e
 simp only [newObj, Sem.run, Result.ok.injEq] at e
 obtain ⟨_, rfl⟩ := e
 refine ⟨fun k hk => ?_, by simp⟩
 show (w.heap.push o)[k]? = _
 rw [Array.getElem?_push, if_neg (by omega)]
theorem makes_newRow (t : TypeId) (c : Array Value) : Makes P (newRow t c) := Makes.bind (makes_newObj _) fun _ => Makes.of_calm (Calm.pure _)
theorem calm_zeroValue (t : TypeId) : Calm P (zeroValue t) := by
 unfold zeroValue
 refine Calm.bind (Calm.typeInfo t) fun i => ?_
 split
 ·exact Calm.pure _
 ·exact Calm.unsupported _
theorem makes_alloc (t : TypeId) : Makes P (Instr.alloc t true (.tuple #[])) := by
 unfold Instr.alloc
 exact Makes.bind (Makes.of_calm (calm_zeroValue t)) fun v => Makes.bind (makes_newRow _ _) fun _ => Makes.of_calm (Calm.pure _)
theorem makes_box (t : TypeId) (v : Value) : Makes P (Instr.box t v) := Makes.bind (makes_newRow _ _) fun _ => Makes.of_calm (Calm.pure _)
theorem makes_buildSlice (t : TypeId) (n : Nat) (ps : Array (Nat × Value)) : Makes P (Instr.buildSlice t n ps) := by
 unfold Instr.buildSlice
 refine Makes.bind (Makes.of_calm (Calm.underlying t)) fun d => ?_
 split
 ·rename_i elem
  refine Makes.bind (Makes.of_calm (Calm.sizeOf _)) fun z => ?_
  dsimp only
  split
  ·exact Makes.of_calm (Calm.haltBind _ _)
  ·have key : ∀ (msg : String) (zero : Array Value), Makes P (match
     Instr.fill (fun i => some (i * z, z)) (Array.map (fun x => zero[x % zero.size]!) (Array.range (n * z))) ps.toList with
    | some cells => do
     let r ← newRow elem cells
     pure (Value.slice (some r) n n)
    | _ => Go.stuck msg) := fun msg zero => by
    split
    ·exact Makes.bind (makes_newRow _ _) fun _ => Makes.of_calm (Calm.pure _)
    ·exact Makes.of_calm (Calm.stuck _)
   split
   ·rw [pure_bind]; exact key _ _
   ·exact Makes.bind (Makes.of_calm (calm_zeroValue _)) fun _ => by rw [pure_bind]; exact key _ _
 ·exact Makes.of_calm (Calm.stuck _)
def makeOp : Op → Bool
 | .alloc _ | .box .. | .buildSlice .. => true
 | _ => false
theorem makes_exec (o : Oper) (ρ : Operand → Value) (h : makeOp o.op = true) : ∃ s : Sem Value, Makes P s ∧ execOp ρ o = (s >>= fun v => (Pure.pure (Next.value v) : Sem Next)) := by
 obtain ⟨dst, op, type, pos, after, guard⟩ := o
 cases op <;> simp only [makeOp, Bool.false_eq_true] at h
 case alloc => exact ⟨_, makes_alloc _, rfl⟩
 case box => exact ⟨_, makes_box _ _, rfl⟩
 case buildSlice => exact ⟨_, makes_buildSlice _ _ _, rfl⟩
end
end Reg
end Go.Proofs.YtakpmdmjbgipiaaGreatDoor
namespace Go.Proofs.YtakpmdmjbgipiaaGreatDoor
namespace Reg
theorem getD_set_ne (ts : Array Value) (d t : Nat) (v : Value) (h : d ≠ t) : (ts.setIfInBounds d v)[t]? = ts[t]? := by
 rw [Array.getElem?_setIfInBounds_ne h]
def dis (d : Option Tmp) (l : List Tmp) : Bool := match d with | some x => !l.contains x | none => true
def disD (d d' : Option Tmp) : Bool := match d, d' with | some x, some y => x != y | _, _ => true
theorem tmps_put (a : Act) (d : Option Tmp) (v : Value) (t : Tmp) (h : d ≠ some t) : (a.put d v).tmps[t]? = a.tmps[t]? := by
 cases d with
 | none => rfl
 | some x => exact getD_set_ne _ _ _ _ (fun e => h (by rw [e]))
theorem dis_ne {d : Option Tmp} {l : List Tmp} (h : dis d l = true) {t : Tmp} (ht : t ∈ l) : d ≠ some t := by
 rintro rfl
 simp [dis] at h
 exact h ht
def tmpsOf (o : Op) : List Tmp := o.operands.toList.filterMap fun | .tmp t => some t | _ => none
def guardOf (ops : Array Oper) (o : Oper) : List Tmp :=
 match o.guard with
 | some (j, _) => ((ops[j]?).bind (·.dst)).toList
 | none => []
def readsOf (ops : Array Oper) (o : Oper) : List Tmp := guardOf ops o ++ tmpsOf o.op
def Agree (ops : Array Oper) (o : Oper) (a b : Act) : Prop := ∀ t ∈ readsOf ops o, a.tmps[t]? = b.tmps[t]?
theorem Agree.symm {ops : Array Oper} {o : Oper} {a b : Act} (h : Agree ops o a b) : Agree ops o b a := fun t ht => (h t ht).symm
theorem Agree.trans {ops : Array Oper} {o : Oper} {a b c : Act} (h : Agree ops o a b) (k : Agree ops o b c) : Agree ops o a c := fun t ht => (h t ht).trans (k t ht)
theorem agree_eval {ops : Array Oper} {o : Oper} {a b : Act} (h : Agree ops o a b) : ∀ x ∈ o.op.operands.toList, a.eval x = b.eval x := by
 intro x hx
 cases x with
 | tmp t =>
  have ht : t ∈ readsOf ops o := by
   unfold readsOf
   refine List.mem_append.2 (.inr ?_)
   unfold tmpsOf
   exact List.mem_filterMap.2 ⟨.tmp t, hx, rfl⟩
  have := h t ht
  simp only [Act.eval, Array.getD_eq_getD_getElem?, this]
 | const v => rfl
 | global g => rfl
 | func f => rfl
theorem agree_wanted {ops : Array Oper} {o : Oper} {a b : Act} (h : Agree ops o a b) : Region.wanted o (yielded ops a.tmps) = Region.wanted o (yielded ops b.tmps) := by
 unfold Region.wanted
 cases hg : o.guard with
 | none => rfl
 | some g =>
  obtain ⟨j, want⟩ := g
  dsimp only
  have : yielded ops a.tmps j = yielded ops b.tmps j := by
   unfold yielded
   cases hd : (ops[j]?).bind (·.dst) with
   | none => rfl
   | some t =>
    have ht : t ∈ readsOf ops o := by
     unfold readsOf guardOf
     rw [hg]
     exact List.mem_append.2 (.inl (by simp [hd]))
    simp only [Option.bind_some, h t ht]
  rw [this]
def okOp : Op → Bool
 | .move _ | .assign _ | .pick .. | .alloc _ | .box .. | .build .. | .buildSlice .. | .load .. | .store .. | .nilCheck _ | .binOp .. | .unOp .. | .convert .. | .makeInterface .. | .makeFunc .. | .makeMap ..
 | .makeSlice .. | .slice .. | .fieldAddr .. | .field .. | .indexAddr .. | .index .. | .lookup .. | .mapUpdate .. | .extract .. | .call _ => true
 | _ => false
theorem map_parts (l : Array (Nat × Operand)) (ρ ρ' : Operand → Value) (h : ∀ x ∈ (l.toList.map (·.2)), ρ x = ρ' x) :
  (l.map fun (i, x) => (i, ρ x)) = (l.map fun (i, x) => (i, ρ' x)) := by
 refine Array.map_congr_left fun p hp => ?_
 obtain ⟨i, x⟩ := p
 have := h x (List.mem_map.2 ⟨(i, x), by simpa using hp, rfl⟩)
 simp only [this]
theorem map_ops (l : Array Operand) (ρ ρ' : Operand → Value) (h : ∀ x ∈ l.toList, ρ x = ρ' x) : l.map ρ = l.map ρ' :=
 Array.map_congr_left fun x hx => h x (by simpa using hx)
theorem map_opt (l : Option Operand) (ρ ρ' : Operand → Value) (h : ∀ x ∈ l.toList, ρ x = ρ' x) : l.map ρ = l.map ρ' := by
 cases l with
 | none => rfl
 | some x => simp [h x (by simp)]
theorem exec_congr (o : Oper) (ρ ρ' : Operand → Value) (hk : okOp o.op = true) (h : ∀ x ∈ o.op.operands.toList, ρ x = ρ' x) : execOp ρ o = execOp ρ' o := by
 obtain ⟨dst, op, type, pos, after, guard⟩ := o
 dsimp only at h hk
 cases op <;> simp only [okOp, Bool.false_eq_true] at hk
 case build t ps => simp only [execOp]; rw [map_parts ps ρ ρ' (by simpa [Op.operands] using h)]
 case buildSlice t n ps => simp only [execOp]; rw [map_parts ps ρ ρ' (by simpa [Op.operands] using h)]
 case makeFunc fn f c =>
  simp only [Op.operands, Array.toList_append, List.mem_append] at h
  simp only [execOp]
  rw [map_ops f ρ ρ' (fun x hx => h x (.inl hx)), map_ops c ρ ρ' (fun x hx => h x (.inr hx))]
 case makeMap t r => simp only [execOp]; rw [map_opt r ρ ρ' (by simpa [Op.operands] using h)]
 case slice t x lo hi mx =>
  simp only [Op.operands, Array.toList_append, List.mem_append] at h
  simp only [execOp]
  rw [h x (by simp), map_opt lo ρ ρ' (fun x hx => h x (by simp at hx; simp [hx])), map_opt hi ρ ρ' (fun x hx => h x (by simp at hx; simp [hx])), map_opt mx ρ ρ' (fun x hx => h x (by simp at hx; simp [hx]))]
 case call c =>
  obtain ⟨callee, args, ts⟩ := c
  simp only [Op.operands, Call.operands, Array.toList_append, List.mem_append] at h
  have ha := map_ops args ρ ρ' fun x hx => h x (.inr hx)
  simp only [execOp, resolve, ha]
  cases callee with
  | builtin b => rfl
  | value f => simp only [h f (.inl (by simp))]
  | invoke r m => simp only [h r (.inl (by simp))]
 all_goals (simp only [Op.operands, List.mem_cons, List.not_mem_nil, or_false, forall_eq_or_imp, forall_eq] at h; try simp only [execOp, h])
abbrev Post := Exit → Act → World → Prop
def NoQ (Q : Post) : Prop := (∀ c a w, ¬ Q (.panic c) a w) ∧ (∀ a w, ¬ Q .outgrown a w)
def upd (a : Act) (d : Option Tmp) (ds : List Deferred) (v : Value) : Act := { tmps := (a.put d v).tmps, defers := ds ++ a.defers }
theorem upd_nil (a : Act) (d : Option Tmp) (v : Value) : upd a d [] v = a.put d v := by
 cases d <;> rfl
theorem upd_cons (a : Act) (d : Option Tmp) (x : Deferred) (v : Value) : upd a d [x] v = ({ a with defers := x :: a.defers } : Act).put d v := by
 cases d <;> rfl
theorem tmps_upd (a : Act) (d : Option Tmp) (ds : List Deferred) (v : Value) (t : Tmp) (h : d ≠ some t) : (upd a d ds v).tmps[t]? = a.tmps[t]? := tmps_put a d v t h
theorem agree_upd {ops : Array Oper} {o : Oper} {d : Option Tmp} (h : dis d (readsOf ops o) = true) (a : Act) (ds : List Deferred) (v : Value) : Agree ops o (upd a d ds v) a :=
 fun _ ht => tmps_upd _ _ _ _ _ (dis_ne h ht)
theorem agree_put {ops : Array Oper} {o : Oper} {d : Option Tmp} (h : dis d (readsOf ops o) = true) (a : Act) (v : Value) : Agree ops o (a.put d v) a :=
 fun _ ht => tmps_put _ _ _ _ (dis_ne h ht)
theorem put_upd_comm {d d' : Option Tmp} (h : disD d d' = true) (a : Act) (ds : List Deferred) (u v : Value) : upd (a.put d u) d' ds v = (upd a d' ds v).put d u := by
 cases d with
 | none => rfl
 | some x =>
  cases d' with
  | none => rfl
  | some y =>
   have hne : x ≠ y := by simpa [disD] using h
   simp only [upd, Act.put]
   congr 1
   exact (Array.setIfInBounds_comm _ _ hne)
theorem put_put_comm {d d' : Option Tmp} (h : disD d d' = true) (a : Act) (u v : Value) : (a.put d u).put d' v = (a.put d' v).put d u := by
 rw [← upd_nil, put_upd_comm h, upd_nil]
section
variable {P : Program} {Q Q' : Post} {o : Oper} {a a' : Act} {w : World} {N N' : Act → World → Prop}
theorem upon_map (hQ : NoQ Q) {r : Result Next} (h : o.upon P a N Q r) (hn : ∀ v ds w', N (upd a o.dst ds v) w' → N' (upd a' o.dst ds v) w') : o.upon P a' N' Q' r := by
  cases r with
  | halt x w' => cases x <;> first | exact h | exact absurd h (hQ.1 _ _ _)
  | ok x w' =>
    cases x with
    | value v =>
      have := hn v [] w' (by rw [upd_nil]; exact h)
      rw [upd_nil] at this; exact this
    | skip =>
      have := hn undef [] w' (by rw [upd_nil]; exact h)
      rw [upd_nil] at this; exact this
    | enter f args =>
      refine Calls.mono (R := fun
        | .returned v, w'' => N (a.put o.dst v) w''
        | .panicked chain, w'' => Q (.panic chain) a w''
        | .outgrown, _ => LetsOut Q) h ?_
      intro e w'' he
      cases e with
      | returned v =>
        have := hn v [] w'' (by rw [upd_nil]; exact he)
        rw [upd_nil] at this; exact this
      | panicked c => exact absurd he (hQ.1 _ _ _)
      | outgrown => obtain ⟨x, y, hx⟩ := he; exact absurd hx (hQ.2 _ _)
    | row s args =>
      refine Rows.mono (R := fun v w'' => N (a.put o.dst v) w'') h ?_
      intro v w'' he
      have := hn v [] w'' (by rw [upd_nil]; exact he)
      rw [upd_nil] at this; exact this
    | _ =>
      first
      | exact h
      | (rename_i d
         have := hn undef [d] w' (by rw [upd_cons]; exact h)
         rw [upd_cons] at this; exact this)
theorem upon_ex (hQ : NoQ Q) {r : Result Next} (h : o.upon P a N Q r) : ∃ v ds w', N (upd a o.dst ds v) w' := by
 cases r with
 | halt x w' => cases x <;> first | exact h.elim | exact absurd h (hQ.1 _ _ _)
 | ok x w' =>
  cases x with
  | value v => exact ⟨v, [], w', by rw [upd_nil]; exact h⟩
  | skip => exact ⟨undef, [], w', by rw [upd_nil]; exact h⟩
  | enter f args =>
   obtain ⟨e, w'', fr, he, _⟩ := h []
   cases e with
   | returned v => exact ⟨v, [], w'', by rw [upd_nil]; exact he⟩
   | panicked c => exact absurd he (hQ.1 _ _ _)
   | outgrown => obtain ⟨x, y, hx⟩ := he; exact absurd hx (hQ.2 _ _)
  | row s args =>
   obtain ⟨v, w'', he, _⟩ := h default []
   exact ⟨v, [], w'', by rw [upd_nil]; exact he⟩
  | _ =>
   first
   | exact h.elim
   | (rename_i d; exact ⟨undef, [d], w', by rw [upd_cons]; exact h⟩)
end
def calmC (P : Program) (ib : Bool) (o : Oper) : Bool := calmOp P o.op || (ib && intOp o.op)
def eff (P : Program) (ib : Bool) (o : Oper) : Bool := !calmC P ib o && !loadOp o.op && !makeOp o.op
def Step (P : Program) (ib : Bool) (ops : Array Oper) (Q : Post) (o : Oper) (N : Act → World → Prop) (a : Act) (w : World) : Prop :=
 if Region.wanted o (yielded ops a.tmps) = true then ((ib && intOp o.op) = true → intFine a.eval o.op = true) ∧ o.wp P a w N Q else N (a.put o.dst undef) w
theorem intFine_agree {ops : Array Oper} {o : Oper} {a b : Act} (h : Agree ops o a b) : intFine a.eval o.op = intFine b.eval o.op := by
 have he := agree_eval h
 cases hop : o.op <;> simp only [intFine]
 rw [hop] at he
 simp only [Op.operands] at he
 rw [he _ (by simp), he _ (by simp)]
section
variable {P : Program} {ib : Bool} {ops : Array Oper} {Q : Post} (hQ : NoQ Q) {o : Oper} {a a' b : Act} {w : World} {N N' : Act → World → Prop}
include hQ
theorem step_mono (h : Step P ib ops Q o N a w) (hn : ∀ v ds w', N (upd a o.dst ds v) w' → N' (upd a o.dst ds v) w') : Step P ib ops Q o N' a w := by
 unfold Step at h ⊢
 split
 ·rename_i hw
  rw [if_pos hw] at h
  exact ⟨h.1, upon_map hQ h.2 hn⟩
 ·rename_i hw
  rw [if_neg hw] at h
  have := hn undef [] w (by rw [upd_nil]; exact h)
  rwa [upd_nil] at this
theorem step_ex (h : Step P ib ops Q o N a w) : ∃ v ds w', N (upd a o.dst ds v) w' := by
 unfold Step at h
 split at h
 ·exact upon_ex hQ h.2
 ·exact ⟨undef, [], w, by rw [upd_nil]; exact h⟩
theorem step_frame (hk : okOp o.op = true) {d : Option Tmp} (hd : dis d (readsOf ops o) = true) (hd' : disD d o.dst = true) (u : Value) (h : Step P ib ops Q o N (a.put d u) w) :
  Step P ib ops Q o (fun x w' => N (x.put d u) w') a w := by
 have hag := agree_put hd a u
 unfold Step at h ⊢
 rw [agree_wanted hag] at h
 split
 ·rename_i hw
  rw [if_pos hw] at h
  refine ⟨fun hi => by rw [← intFine_agree hag]; exact h.1 hi, ?_⟩
  have h2 := h.2
  unfold Oper.wp at h2 ⊢
  rw [exec_congr o _ _ hk (agree_eval hag)] at h2
  exact upon_map hQ h2 fun v ds w' hx => by rw [put_upd_comm hd'] at hx; exact hx
 ·rename_i hw
  rw [if_neg hw] at h
  rw [put_put_comm hd'] at h
  exact h
theorem step_frame' (hk : okOp o.op = true) {d : Option Tmp} (hd : dis d (readsOf ops o) = true) (hd' : disD d o.dst = true) (u : Value) (h : Step P ib ops Q o (fun x w' => N (x.put d u) w') a w) :
  Step P ib ops Q o N (a.put d u) w := by
 have hag := agree_put hd a u
 unfold Step at h ⊢
 rw [agree_wanted hag]
 split
 ·rename_i hw
  rw [if_pos hw] at h
  refine ⟨fun hi => by rw [intFine_agree hag]; exact h.1 hi, ?_⟩
  have h2 := h.2
  unfold Oper.wp at h2 ⊢
  rw [exec_congr o _ _ hk (agree_eval hag)]
  exact upon_map hQ h2 fun v ds w' hx => by rw [put_upd_comm hd']; exact hx
 ·rename_i hw
  rw [if_neg hw] at h
  rw [put_put_comm hd']
  exact h
theorem step_calm (hk : okOp o.op = true) (hc : calmC P ib o = true) (h : Step P ib ops Q o N b w) :
  ∃ u, N (b.put o.dst u) w ∧ ∀ (a : Act) (w' : World) (M : Act → World → Prop), Agree ops o a b → (Step P ib ops Q o M a w' ↔ M (a.put o.dst u) w') := by
 unfold Step at h
 split at h
 ·rename_i hw
  have hcalm : CalmV P (execOp b.eval o) := by
   simp only [calmC, Bool.or_eq_true] at hc
   by_cases hi : (ib && intOp o.op) = true
   ·exact calm_exec_int o _ (by simp only [Bool.and_eq_true] at hi; exact hi.2) (h.1 hi)
   ·exact calm_exec o _ (hc.resolve_right hi)
  have h2 := h.2
  unfold Oper.wp at h2
  rcases hcalm with ⟨u, hu⟩ | hh
  ·rw [hu] at h2
   refine ⟨u, h2, fun a w' M hag => ?_⟩
   unfold Step
   rw [agree_wanted hag, if_pos hw]
   unfold Oper.wp
   rw [exec_congr o _ _ hk (agree_eval hag), hu]
   exact ⟨fun x => x.2, fun x => ⟨fun hi => by rw [intFine_agree hag]; exact h.1 hi, x⟩⟩
  ·obtain ⟨x, y, e⟩ := hh w
   rw [e] at h2
   cases x <;> first | exact h2.elim | exact absurd h2 (hQ.1 _ _ _)
 ·rename_i hw
  refine ⟨undef, h, fun a w' M hag => ?_⟩
  unfold Step
  rw [agree_wanted hag, if_neg hw]
def Same (P : Program) (ops : Array Oper) (o : Oper) (a : Act) (w w' : World) : Prop :=
 Region.wanted o (yielded ops a.tmps) = true → ∀ v, (execOp a.eval o).run P w = .ok (.value v) w → (execOp a.eval o).run P w' = .ok (.value v) w'
omit hQ in
theorem same_agree (hk : okOp o.op = true) (hag : Agree ops o a b) {w w' : World} (h : Same P ops o a w w') : Same P ops o b w w' := by
 unfold Same at h ⊢
 rw [exec_congr o _ _ hk (agree_eval hag), agree_wanted hag] at h
 exact h
omit hQ in
theorem same_ext (hl : loadOp o.op = true) {w w' : World} (h : Ext w w') : Same P ops o a w w' := by
 intro _ v hv
 obtain ⟨s, hs, he⟩ := reads_exec (P := P) o a.eval hl
 rw [he] at hv ⊢
 obtain ⟨u, hu, hr⟩ := value_of_bind hv
 injection hu with hu
 subst hu
 exact run_value ((hs w w v hr).2 w' h)
theorem step_load (hk : okOp o.op = true) (hl : loadOp o.op = true) (h : Step P ib ops Q o N b w) :
  ∃ u, N (b.put o.dst u) w ∧ ∀ (a : Act) (w' : World) (M : Act → World → Prop), Agree ops o a b → Same P ops o a w w' → M (a.put o.dst u) w' → Step P ib ops Q o M a w' := by
 have hni : intOp o.op = false := by
  cases hop : o.op <;> rw [hop] at hl <;> simp only [loadOp, Bool.false_eq_true] at hl <;> rfl
 unfold Step at h
 split at h
 ·rename_i hw
  have h2 := h.2
  unfold Oper.wp at h2
  obtain ⟨s, hs, he⟩ := reads_exec (P := P) o b.eval hl
  cases hr : (execOp b.eval o).run P w with
  | halt x y =>
   rw [hr] at h2
   cases x <;> first | exact h2.elim | exact absurd h2 (hQ.1 _ _ _)
  | ok r w1 =>
   rw [hr] at h2
   rw [he] at hr
   obtain ⟨u, rfl, hsr⟩ := value_of_bind hr
   obtain ⟨rfl, _⟩ := hs _ _ _ hsr
   refine ⟨u, h2, fun a w' M hag hsame hm => ?_⟩
   unfold Step
   rw [agree_wanted hag, if_pos hw]
   refine ⟨fun hi => absurd hi (by rw [hni]; simp), ?_⟩
   unfold Oper.wp
   have hq := hsame (by rw [agree_wanted hag]; exact hw) u (by rw [exec_congr o _ _ hk (agree_eval hag), he]; exact hr)
   rw [hq]
   exact hm
 ·rename_i hw
  refine ⟨undef, h, fun a w' M hag _ hm => ?_⟩
  unfold Step
  rw [agree_wanted hag, if_neg hw]
  exact hm
theorem step_make (hm : makeOp o.op = true) (h : Step P ib ops Q o N a w) : Step P ib ops Q o (fun x w' => N x w' ∧ Ext w w') a w := by
 unfold Step at h ⊢
 split
 ·rename_i hw
  rw [if_pos hw] at h
  refine ⟨h.1, ?_⟩
  have h2 := h.2
  unfold Oper.wp at h2 ⊢
  obtain ⟨s, hs, he⟩ := makes_exec (P := P) o a.eval hm
  cases hr : (execOp a.eval o).run P w with
  | halt x y =>
   rw [hr] at h2
   cases x <;> first | exact h2.elim | exact absurd h2 (hQ.1 _ _ _)
  | ok r w1 =>
   rw [hr] at h2
   rw [he] at hr
   obtain ⟨u, rfl, hsr⟩ := value_of_bind hr
   exact ⟨h2, (hs _ _ _ hsr).1⟩
 ·rename_i hw
  rw [if_neg hw] at h
  exact ⟨h, Ext.refl _⟩
end
def Obl (P : Program) (ib : Bool) (ops : Array Oper) (bef : Nat → Nat → Bool) (D : Nat → Prop) (i : Nat) (b : Act) (w w' : World) : Prop :=
 ∀ o, ops[i]? = some o → eff P ib o = true → ∀ r q, D r → ops[r]? = some q → loadOp q.op = true → bef r i = false → Same P ops q b w w'
def WT (P : Program) (ib : Bool) (ops : Array Oper) (bef : Nat → Nat → Bool) (Q : Post) : (Nat → Prop) → List Nat → Act → World → Prop
 | _, [], a, w => Q .normal a w
 | D, i :: l, a, w => ∃ o, ops[i]? = some o ∧ Step P ib ops Q o (fun b w' => Obl P ib ops bef D i b w w' ∧ WT P ib ops bef Q (fun k => k = i ∨ D k) l b w') a w
def compat (P : Program) (ib : Bool) (ops : Array Oper) (x y : Oper) : Bool :=
 dis x.dst (readsOf ops y) && dis y.dst (readsOf ops x) && disD x.dst y.dst && (calmC P ib x || calmC P ib y || loadOp x.op)
section
variable {P : Program} {ib : Bool} {ops : Array Oper} {bef : Nat → Nat → Bool} {Q : Post} (hQ : NoQ Q)
theorem disD_symm {d d' : Option Tmp} (h : disD d d' = true) : disD d' d = true := by
 cases d <;> cases d' <;> first | rfl | (simp only [disD, bne_iff_ne, ne_eq] at h ⊢; exact fun e => h e.symm)
theorem or_swap (A B : Nat) (D : Nat → Prop) : (fun k => k = A ∨ k = B ∨ D k) = (fun k => k = B ∨ k = A ∨ D k) := by
 funext k; exact propext ⟨fun h => by rcases h with h | h | h <;> simp [h], fun h => by rcases h with h | h | h <;> simp [h]⟩
include hQ in
theorem swap {A B : Nat} {oA oB : Oper} (hA : ops[A]? = some oA) (hB : ops[B]? = some oB) (hkA : okOp oA.op = true) (hkB : okOp oB.op = true) (hc : compat P ib ops oA oB = true) (hnb : bef A B = false)
  {D : Nat → Prop} (hD : ∀ r q, D r → ops[r]? = some q → loadOp q.op = true → okOp q.op = true ∧ dis oA.dst (readsOf ops q) = true ∧ dis oB.dst (readsOf ops q) = true)
  (hself : loadOp oA.op = true → dis oA.dst (readsOf ops oA) = true)
  {l : List Nat} {a : Act} {w : World} (h : WT P ib ops bef Q D (A :: B :: l) a w) : WT P ib ops bef Q D (B :: A :: l) a w := by
 simp only [compat, Bool.and_eq_true] at hc
 obtain ⟨⟨⟨hAB, hBA⟩, hdd⟩, hcase⟩ := hc
 obtain ⟨oA', hA', h⟩ := h
 obtain rfl : oA' = oA := by rw [hA] at hA'; injection hA' with e; exact e.symm
 have noEff : ∀ (i : Nat) (o : Oper), ops[i]? = some o → eff P ib o = false → ∀ (E : Nat → Prop) (b : Act) (w w' : World), Obl P ib ops bef E i b w w' := fun i o ho he E b w w' o' ho' he' => by
  rw [ho] at ho'; injection ho' with e; subst e; rw [he] at he'; cases he'
 have h' : Step P ib ops Q oA' (fun b w1 => Obl P ib ops bef D A b w w1 ∧ Step P ib ops Q oB (fun b2 w2 => Obl P ib ops bef (fun k => k = A ∨ D k) B b2 w1 w2 ∧ WT P ib ops bef Q (fun k => k = B ∨ k = A ∨ D k) l b2 w2) b w1) a w :=
  step_mono hQ h fun v ds w' hx => by
   obtain ⟨h1, o, ho, h2⟩ := hx
   rw [hB] at ho; injection ho with e; subst e
   exact ⟨h1, h2⟩
 clear h
 refine ⟨oB, hB, ?_⟩
 suffices hs : Step P ib ops Q oB (fun b w1 => Obl P ib ops bef D B b w w1 ∧ Step P ib ops Q oA' (fun b2 w2 => Obl P ib ops bef (fun k => k = B ∨ D k) A b2 w1 w2 ∧ WT P ib ops bef Q (fun k => k = B ∨ k = A ∨ D k) l b2 w2) b w1) a w from
  step_mono hQ hs fun v ds w' hx => ⟨hx.1, oA', hA, by rw [or_swap A B D]; exact hx.2⟩
 by_cases cB : calmC P ib oB = true
 ·-- B is calm
  have eB : eff P ib oB = false := by simp [eff, cB]
  obtain ⟨v0, ds0, w0, _, hs0⟩ := step_ex hQ h'
  obtain ⟨u, _, hu⟩ := step_calm hQ hkB cB hs0
  refine (hu a w _ (agree_upd hAB a ds0 v0).symm).2 ⟨noEff B oB hB eB _ _ _ _, ?_⟩
  refine step_frame' hQ hkA hBA (disD_symm hdd) u ?_
  refine step_mono hQ h' fun v ds w1 hx => ?_
  obtain ⟨h1, h2⟩ := hx
  have h3 := (hu _ w1 _ ((agree_upd hAB a ds v).trans (agree_upd hAB a ds0 v0).symm)).1 h2
  refine ⟨fun o ho he r q hr hq hl hb => ?_, h3.2⟩
  rcases hr with rfl | hr
  ·rw [hB] at hq; injection hq with e; subst e
   exfalso
   cases hop : oB.op <;> rw [hop] at hl <;> simp only [loadOp, Bool.false_eq_true] at hl
   simp [calmC, calmOp, intOp, hop] at cB
  ·obtain ⟨k1, k2, k3⟩ := hD r q hr hq hl
   exact same_agree k1 (agree_put k3 _ _).symm (h1 o ho he r q hr hq hl hb)
 ·by_cases cA : calmC P ib oA' = true
  ·-- A is calm
   have eA : eff P ib oA' = false := by simp [eff, cA]
   obtain ⟨u, hu0, hu⟩ := step_calm hQ hkA cA h'
   have h2 := step_frame hQ hkB hAB hdd u hu0.2
   refine step_mono hQ h2 fun v ds w1 hx => ?_
   obtain ⟨h3, h4⟩ := hx
   refine ⟨fun o ho he r q hr hq hl hb => ?_, (hu _ w1 _ (agree_upd hBA a ds v)).2 ⟨noEff A oA' hA eA _ _ _ _, h4⟩⟩
   obtain ⟨k1, k2, k3⟩ := hD r q hr hq hl
   exact same_agree k1 (agree_put k2 _ _) (h3 o ho he r q (.inr hr) hq hl hb)
  ·have lA : loadOp oA'.op = true := by simpa [cA, cB] using hcase
   have eA : eff P ib oA' = false := by simp [eff, lA]
   obtain ⟨u, hu0, hu⟩ := step_load hQ hkA lA h'
   by_cases lB : loadOp oB.op = true
   ·have eB : eff P ib oB = false := by simp [eff, lB]
    obtain ⟨u2, hv0, hv⟩ := step_load hQ hkB lB hu0.2
    refine hv a w _ (agree_put hAB a u).symm (same_ext lB (Ext.refl _)) ⟨noEff B oB hB eB _ _ _ _, ?_⟩
    refine hu _ w _ (agree_put hBA a u2) (same_ext lA (Ext.refl _)) ⟨noEff A oA' hA eA _ _ _ _, ?_⟩
    rw [put_put_comm (disD_symm hdd)]
    exact hv0.2
   ·have h2 := step_frame hQ hkB hAB hdd u hu0.2
    have fin : ∀ (v : Value) (ds : List Deferred) (w1 : World), Obl P ib ops bef (fun k => k = A ∨ D k) B ((upd a oB.dst ds v).put oA'.dst u) w w1 → Same P ops oA' (upd a oB.dst ds v) w w1 →
      WT P ib ops bef Q (fun k => k = B ∨ k = A ∨ D k) l ((upd a oB.dst ds v).put oA'.dst u) w1 →
      Obl P ib ops bef D B (upd a oB.dst ds v) w w1 ∧ Step P ib ops Q oA' (fun b2 w2 => Obl P ib ops bef (fun k => k = B ∨ D k) A b2 w1 w2 ∧ WT P ib ops bef Q (fun k => k = B ∨ k = A ∨ D k) l b2 w2) (upd a oB.dst ds v) w1 := by
     intro v ds w1 h3 hsame h4
     refine ⟨fun o ho he r q hr hq hl hb => ?_, hu _ w1 _ (agree_upd hBA a ds v) hsame ⟨noEff A oA' hA eA _ _ _ _, h4⟩⟩
     obtain ⟨k1, k2, k3⟩ := hD r q hr hq hl
     exact same_agree k1 (agree_put k2 _ _) (h3 o ho he r q (.inr hr) hq hl hb)
    by_cases mB : makeOp oB.op = true
    ·refine step_mono hQ (step_make hQ mB h2) fun v ds w1 hx => ?_
     obtain ⟨⟨h3, h4⟩, hx⟩ := hx
     exact fin v ds w1 h3 (same_ext lA hx) h4
    ·have eB : eff P ib oB = true := by simp [eff, cB, lB, mB]
     refine step_mono hQ h2 fun v ds w1 hx => ?_
     obtain ⟨h3, h4⟩ := hx
     exact fin v ds w1 h3 (same_agree hkA (agree_put (hself lA) _ _) (h3 oB hB eB A oA' (.inl rfl) hA lA hnb)) h4
end
end Reg
end Go.Proofs.YtakpmdmjbgipiaaGreatDoor
namespace Go.Proofs.YtakpmdmjbgipiaaGreatDoor
namespace Reg
structure Stat (P : Program) (ops : Array Oper) (bef : Nat → Nat → Bool) : Prop where
 ok : ∀ (i : Nat) (o : Oper), ops[i]? = some o → okOp o.op = true
 self : ∀ (i : Nat) (o : Oper), ops[i]? = some o → loadOp o.op = true → dis o.dst (readsOf ops o) = true
 war : ∀ (x y : Nat) (ox oy : Oper), x ≠ y → ops[x]? = some ox → ops[y]? = some oy → loadOp ox.op = true → bef y x = false → dis oy.dst (readsOf ops ox) = true
def Rel (P : Program) (ib : Bool) (ops : Array Oper) (bef : Nat → Nat → Bool) (x y : Nat) : Prop :=
 x ≠ y ∧ bef y x = false ∧ (bef x y = true ∨ ∀ (ox oy : Oper), ops[x]? = some ox → ops[y]? = some oy → compat P ib ops ox oy = true)
section
variable {P : Program} {ib : Bool} {ops : Array Oper} {bef : Nat → Nat → Bool} {Q : Post} (hQ : NoQ Q) (hS : Stat P ops bef)
include hQ hS
theorem bubble {A : Nat} {oA : Oper} (hA : ops[A]? = some oA) (l2 : List Nat) : ∀ (l1 : List Nat) (D : Nat → Prop) (a : Act) (w : World),
  (∀ x ∈ l1, ∃ ox, ops[x]? = some ox ∧ bef A x = false ∧ compat P ib ops oA ox = true) → (l1 ++ A :: l2).Pairwise (fun x y => x ≠ y ∧ bef y x = false) →
  (∀ r q, D r → ops[r]? = some q → loadOp q.op = true → ∀ y ∈ l1 ++ A :: l2, ∀ oy, ops[y]? = some oy → dis oy.dst (readsOf ops q) = true) →
  WT P ib ops bef Q D (A :: (l1 ++ l2)) a w → WT P ib ops bef Q D (l1 ++ A :: l2) a w := by
 intro l1
 induction l1 with
 | nil => intro D a w _ _ _ h; exact h
 | cons x l1 ih =>
  intro D a w hx hl hD h
  obtain ⟨ox, hox, hnb, hc⟩ := hx x (by simp)
  have h1 := swap hQ hA hox (hS.ok _ _ hA) (hS.ok _ _ hox) hc hnb (fun r q hr hq hlq => ⟨hS.ok _ _ hq, hD r q hr hq hlq A (by simp) oA hA, hD r q hr hq hlq x (by simp) ox hox⟩) (hS.self _ _ hA) h
  obtain ⟨o, ho, h2⟩ := h1
  rw [hox] at ho; injection ho with e; subst e
  refine ⟨ox, hox, step_mono hQ h2 fun v ds w' hz => ⟨hz.1, ih _ _ _ (fun y hy => hx y (by simp [hy])) (List.Pairwise.of_cons hl) ?_ hz.2⟩⟩
  intro r q hr hq hlq y hy oy hoy
  rcases hr with rfl | hr
  ·have := (List.pairwise_cons.1 hl).1 y hy
   exact hS.war _ _ _ _ this.1 hq hoy hlq this.2
  ·exact hD r q hr hq hlq y (by simp at hy ⊢; exact .inr hy) oy hoy
theorem perm (T : List Nat) : ∀ (l : List Nat) (D : Nat → Prop) (a : Act) (w : World), l.Perm T → T.Pairwise (Rel P ib ops bef) → (∀ x ∈ T, x < ops.size) → l.Pairwise (fun x y => x ≠ y ∧ bef y x = false) →
  (∀ r q, D r → ops[r]? = some q → loadOp q.op = true → ∀ y ∈ T, ∀ oy, ops[y]? = some oy → dis oy.dst (readsOf ops q) = true) →
  WT P ib ops bef Q D T a w → WT P ib ops bef Q D l a w := by
 induction T with
 | nil =>
  intro l D a w hp _ _ _ _ h
  rw [hp.eq_nil]
  exact h
 | cons A T ih =>
  intro l D a w hp hT hin hl hD h
  have hmem : A ∈ l := hp.symm.subset (by simp)
  obtain ⟨l1, l2, rfl⟩ := List.append_of_mem hmem
  have hp' : (l1 ++ l2).Perm T := by
   have h1 : (l1 ++ A :: l2).Perm (A :: (l1 ++ l2)) := List.perm_middle
   exact (List.perm_cons A).1 (h1.symm.trans hp)
  obtain ⟨oA, hA, h2⟩ := h
  have hl' : (l1 ++ l2).Pairwise (fun x y => x ≠ y ∧ bef y x = false) := hl.sublist (List.Sublist.append_left (List.sublist_cons_self A l2) l1)
  have hTA := (List.pairwise_cons.1 hT).1
  refine bubble hQ hS hA l2 l1 D a w ?_ hl (fun r q hr hq hlq y hy oy hoy => hD r q hr hq hlq y (hp.subset hy) oy hoy) ⟨oA, hA, step_mono hQ h2 fun v ds w' hz => ⟨hz.1, ih _ _ _ _ hp' (List.Pairwise.of_cons hT) (fun x hx => hin x (by simp [hx])) hl' ?_ hz.2⟩⟩
  ·intro x hx
   have hxT : x ∈ T := hp'.subset (by simp [hx])
   have hb : bef A x = false := by
    have := List.pairwise_append.1 hl
    exact (this.2.2 x hx A (by simp)).2
   have hR := hTA x hxT
   cases hox : ops[x]? with
   | none =>
    exfalso
    have := hin x (by simp [hxT])
    rw [Array.getElem?_eq_getElem this] at hox
    cases hox
   | some ox =>
    refine ⟨ox, rfl, hb, ?_⟩
    rcases hR.2.2 with h3 | h3
    ·rw [hb] at h3; cases h3
    ·exact h3 oA ox hA hox
  ·intro r q hr hq hlq y hy oy hoy
   rcases hr with rfl | hr
   ·have := hTA y hy
    exact hS.war _ _ _ _ this.1 hq hoy hlq this.2.1
   ·exact hD r q hr hq hlq y (by simp [hy]) oy hoy
end
def Lin (m : Region.Mode) (ops : Array Oper) (done : List Nat) (l : List Nat) : Prop :=
 match l with
 | [] => True
 | i :: l => i < ops.size ∧ i ∉ done ∧ (∀ o, ops[i]? = some o → ∀ e ∈ o.after.toList, Region.binds m e = true → e.on ∈ done) ∧ Lin m ops (i :: done) l
theorem binds_any {m : Region.Mode} {e : Edge} (h : Region.binds .any e = true) : Region.binds m e = true := by
 obtain ⟨on, g⟩ := e
 cases g <;> first | rfl | (simp [Region.binds] at h)
theorem lin_bef {m : Region.Mode} {ops : Array Oper} {bef : Nat → Nat → Bool} (hb : ∀ {i j : Nat}, j < ops.size → i < ops.size → bef i j = true →
  ∃ o, ops[j]? = some o ∧ ∃ e ∈ o.after.toList, Region.binds .any e = true ∧ (e.on = i ∨ bef i e.on = true) ∧ e.on < j) (l : List Nat) : ∀ (done : List Nat), Lin m ops done l →
  (∀ j ∈ done, j < ops.size ∧ ∀ i, i < ops.size → bef i j = true → i ∈ done) →
  l.Pairwise (fun x y => x ≠ y ∧ bef y x = false) ∧ l.Nodup ∧ (∀ i ∈ l, i < ops.size ∧ i ∉ done) := by
 induction l with
 | nil => exact fun _ _ _ => ⟨List.Pairwise.nil, List.nodup_nil, fun i hi => by simp at hi⟩
 | cons i l ih =>
  intro done h hd
  obtain ⟨h1, h2, h3, h4⟩ := h
  have hclosed : ∀ k, k < ops.size → bef k i = true → k ∈ done := by
   intro k hk hki
   obtain ⟨o, ho, e, he, hbe, hc, hlt⟩ := hb h1 hk hki
   have hin := h3 o ho e he (binds_any hbe)
   rcases hc with rfl | hc
   ·exact hin
   ·exact (hd _ hin).2 k hk hc
  obtain ⟨p1, p2, p3⟩ := ih (i :: done) h4 (by
   intro j hj
   rcases List.mem_cons.1 hj with rfl | hj
   ·exact ⟨h1, fun k hk hb => List.mem_cons.2 (.inr (hclosed k hk hb))⟩
   ·exact ⟨(hd j hj).1, fun k hk hb => List.mem_cons.2 (.inr ((hd j hj).2 k hk hb))⟩)
  refine ⟨List.pairwise_cons.2 ⟨fun y hy => ?_, p1⟩, List.nodup_cons.2 ⟨fun hi => (p3 i hi).2 (by simp), p2⟩, ?_⟩
  ·have hy' := p3 y hy
   refine ⟨fun e => hy'.2 (by simp [e]), ?_⟩
   cases hbb : bef y i with
   | false => rfl
   | true => exact absurd (List.mem_cons.2 (.inr (hclosed y hy'.1 hbb))) hy'.2
  ·intro k hk
   rcases List.mem_cons.1 hk with rfl | hk
   ·exact ⟨h1, h2⟩
   ·exact ⟨(p3 k hk).1, fun hn => (p3 k hk).2 (List.mem_cons.2 (.inr hn))⟩
def missing (n : Nat) (done : List Nat) : List Nat := (List.range n).filter fun i => !done.contains i
theorem missing_lt {n i : Nat} {done : List Nat} (hi : i < n) (hd : i ∉ done) : (missing n (i :: done)).length < (missing n done).length := by
 have e : missing n (i :: done) = (missing n done).filter fun k => !(k == i) := by
  unfold missing
  rw [List.filter_filter]
  congr 1
  funext k
  by_cases hk : k = i <;> simp [hk]
 rw [e, List.length_filter_lt_length_iff_exists]
 exact ⟨i, by simp [missing, hi, hd], by simp⟩
def Prog (m : Region.Mode) (ops : Array Oper) : Prop :=
 ∀ done : List Nat, (∃ i, i < ops.size ∧ i ∉ done) → ∃ i, i < ops.size ∧ i ∉ done ∧ ∀ o, ops[i]? = some o → ∀ e ∈ o.after.toList, Region.binds m e = true → e.on ∈ done
theorem lin_prog {m : Region.Mode} {ops : Array Oper} (T : List Nat) : ∀ (d0 : List Nat), Lin m ops d0 T → ∀ done : List Nat, (∀ i ∈ d0, i ∈ done) → (∃ i, i ∈ T ∧ i ∉ done) →
  ∃ i, i < ops.size ∧ i ∉ done ∧ ∀ o, ops[i]? = some o → ∀ e ∈ o.after.toList, Region.binds m e = true → e.on ∈ done := by
 induction T with
 | nil => exact fun _ _ _ _ h => by obtain ⟨i, hi, _⟩ := h; simp at hi
 | cons k T ih =>
  intro d0 h done hd hex
  obtain ⟨h1, h2, h3, h4⟩ := h
  by_cases hk : k ∈ done
  ·refine ih (k :: d0) h4 done (fun i hi => ?_) ?_
   ·rcases List.mem_cons.1 hi with rfl | hi
    ·exact hk
    ·exact hd i hi
   ·obtain ⟨i, hi, hn⟩ := hex
    rcases List.mem_cons.1 hi with rfl | hi
    ·exact absurd hk hn
    ·exact ⟨i, hi, hn⟩
  ·exact ⟨k, h1, hk, fun o ho e he hb => hd _ (h3 o ho e he hb)⟩
theorem prog_of {m : Region.Mode} {ops : Array Oper} {T : List Nat} (hT : Lin m ops [] T) (hall : ∀ i, i < ops.size → i ∈ T) : Prog m ops :=
 fun done ⟨i, hi, hn⟩ => lin_prog T [] hT done (fun _ h => by simp at h) ⟨i, hall i hi, hn⟩
theorem go_lin {m : Region.Mode} {ops : Array Oper} (hp : Prog m ops) : ∀ (fuel t : Nat) (listed : Array Bool) (acc : List Nat), listed.size = ops.size →
  (∀ i, i < ops.size → (listed[i]? = some true ↔ i ∈ acc)) → (∀ i ∈ acc, i < ops.size) → (missing ops.size acc).length ≤ fuel →
  ∃ l, Region.linearise.go m ops fuel t listed acc = acc.reverse ++ l ∧ Lin m ops acc l ∧ ∀ i, i < ops.size → i ∈ acc ∨ i ∈ l := by
 intro fuel
 induction fuel with
 | zero =>
  intro t listed acc _ _ _ hm
  refine ⟨[], by simp [Region.linearise.go], trivial, fun i hi => ?_⟩
  have h0 : missing ops.size acc = [] := List.eq_nil_of_length_eq_zero (by omega)
  by_cases hia : i ∈ acc
  ·exact .inl hia
  ·exfalso
   have : i ∈ missing ops.size acc := by simp [missing, hi, hia]
   rw [h0] at this; simp at this
 | succ fuel ih =>
  intro t listed acc hsz hL hacc hm
  rw [Region.linearise.go]
  generalize hrs : ((List.range ops.size).filter fun i => !listed.getD i true && ((ops[i]?).map (·.after.all fun e => !Region.binds m e || listed.getD e.on false)).getD false) = rs
  have hmem : ∀ i, i ∈ rs ↔ i < ops.size ∧ i ∉ acc ∧ ∀ o, ops[i]? = some o → ∀ e ∈ o.after.toList, Region.binds m e = true → e.on ∈ acc := by
   intro i
   rw [← hrs, List.mem_filter, List.mem_range]
   constructor
   ·rintro ⟨h1, h2⟩
    have hl := hL i h1
    have hli : listed[i]? = some (listed[i]'(by omega)) := Array.getElem?_eq_getElem (by omega)
    simp only [Bool.and_eq_true, Bool.not_eq_true'] at h2
    obtain ⟨h2, h3⟩ := h2
    refine ⟨h1, fun hia => ?_, fun o ho e he hb => ?_⟩
    ·have := hl.2 hia
     rw [Array.getD_eq_getD_getElem?, this] at h2
     simp at h2
    ·rw [ho] at h3
     simp only [Option.map_some, Option.getD_some, Array.all_eq_true'] at h3
     have := h3 e (by simpa using he)
     rw [hb] at this
     simp only [Bool.not_true, Bool.false_or] at this
     rw [Array.getD_eq_getD_getElem?] at this
     by_cases hon : e.on < ops.size
     ·have h4 := hL e.on hon
      cases hle : listed[e.on]? with
      | none => rw [hle] at this; simp at this
      | some b => rw [hle] at this; simp at this; subst this; exact h4.1 hle
     ·rw [Array.getElem?_eq_none (by omega)] at this
      simp at this
   ·rintro ⟨h1, h2, h3⟩
    refine ⟨h1, ?_⟩
    have hli : listed[i]? = some (listed[i]'(by omega)) := Array.getElem?_eq_getElem (by omega)
    have hb : listed[i]'(by omega) = false := by
     cases hh : listed[i]'(by omega) with
     | false => rfl
     | true => exact absurd ((hL i h1).1 (by rw [hli, hh])) h2
    simp only [Bool.and_eq_true, Bool.not_eq_true', Array.getD_eq_getD_getElem?, hli, hb, Option.getD_some, true_and]
    have ho : ops[i]? = some (ops[i]'h1) := Array.getElem?_eq_getElem h1
    rw [ho]
    simp only [Option.map_some, Option.getD_some, Array.all_eq_true']
    intro e he
    cases hbe : Region.binds m e with
    | false => rfl
    | true =>
     have hin := h3 _ ho e (by simpa using he) hbe
     have := (hL e.on (hacc _ hin)).2 hin
     simp [this]
  cases hget : rs[t % rs.length]? with
  | none =>
   dsimp only
   refine ⟨[], by simp, trivial, fun i hi => ?_⟩
   by_cases hia : i ∈ acc
   ·exact .inl hia
   ·exfalso
    obtain ⟨k, h1, h2, h3⟩ := hp acc ⟨i, hi, hia⟩
    have hk : k ∈ rs := (hmem k).2 ⟨h1, h2, h3⟩
    have hpos : 0 < rs.length := List.length_pos_of_mem hk
    rw [List.getElem?_eq_none_iff] at hget
    have := Nat.mod_lt t hpos
    omega
  | some i =>
   dsimp only
   obtain ⟨h1, h2, h3⟩ := (hmem i).1 (List.mem_of_getElem? hget)
   have hA : ∀ k, k < ops.size → ((listed.setIfInBounds i true)[k]? = some true ↔ k ∈ i :: acc) := by
    intro k hk
    by_cases hki : k = i
    ·subst hki
     simp [hsz, hk]
    ·rw [Array.getElem?_setIfInBounds_ne (fun e => hki e.symm), hL k hk]
     simp [hki]
   have hB : ∀ k ∈ i :: acc, k < ops.size := by
    intro k hk
    rcases List.mem_cons.1 hk with rfl | hk
    ·exact h1
    ·exact hacc k hk
   obtain ⟨l, e1, e2, e3⟩ := ih (t / rs.length) (listed.setIfInBounds i true) (i :: acc) (by simpa using hsz) hA hB (by have := missing_lt (n := ops.size) h1 h2; omega)
   refine ⟨i :: l, by rw [e1]; simp, ⟨h1, h2, h3, e2⟩, fun k hk => ?_⟩
   rcases e3 k hk with hh | hh
   ·rcases List.mem_cons.1 hh with rfl | hh
    ·exact .inr (by simp)
    ·exact .inl hh
   ·exact .inr (by simp [hh])
theorem linearise_lin {m : Region.Mode} {ops : Array Oper} (hp : Prog m ops) (t : Nat) : Lin m ops [] (Region.linearise m ops t) ∧ ∀ i, i < ops.size → i ∈ Region.linearise m ops t := by
 obtain ⟨l, h1, h2, h3⟩ := go_lin hp ops.size t (Array.replicate ops.size false) [] (by simp) (fun i hi => by simp [hi]) (fun i hi => by simp at hi) (by
  unfold missing
  exact Nat.le_trans (List.length_filter_le _ _) (by simp))
 unfold Region.linearise
 rw [h1]
 refine ⟨by simpa using h2, fun i hi => ?_⟩
 rcases h3 i hi with h | h
 ·simp at h
 ·simpa using h
end Reg
end Go.Proofs.YtakpmdmjbgipiaaGreatDoor
namespace Go.Proofs.YtakpmdmjbgipiaaGreatDoor
namespace Reg
def befT (tab : List Nat) : Nat → Nat → Bool := fun i j => (tab.getD j 0).testBit i
def befOkT (ops : Array Oper) (tab : List Nat) : Bool :=
 (List.range ops.size).all fun j => (List.range ops.size).all fun i =>
  !befT tab i j || (match ops[j]? with
   | some o => o.after.any fun e => Region.binds .any e && (e.on == i || befT tab i e.on) && decide (e.on < j)
   | none => false)
def linB (m : Region.Mode) (ops : Array Oper) : List Nat → List Nat → Bool
  | _, [] => true
  | done, i :: l => decide (i < ops.size) && !done.contains i && (match ops[i]? with
      | some o => o.after.all fun e => !Region.binds m e || done.contains e.on
      | none => true) && linB m ops (i :: done) l
def fullB (ops : Array Oper) (l : List Nat) : Bool := (List.range ops.size).all fun i => l.contains i
def drawB (ops : Array Oper) : Bool :=
 linB .any ops [] (List.range ops.size) &&
  (!Region.departs ops || (linB .text ops [] (List.range ops.size) && linB .gc ops [] (Region.linearise .gc ops 0) && fullB ops (Region.linearise .gc ops 0)))
def relB (P : Program) (ib : Bool) (ops : Array Oper) (tab : List Nat) (x y : Nat) : Bool :=
 x != y && !befT tab y x && (befT tab x y || (match ops[x]?, ops[y]? with
  | some ox, some oy => compat P ib ops ox oy
  | _, _ => true))
def pairB (f : Nat → Nat → Bool) : List Nat → Bool
 | [] => true
 | x :: l => l.all (f x) && pairB f l
def statB (ops : Array Oper) (tab : List Nat) : Bool :=
 (ops.all fun o => okOp o.op && (!loadOp o.op || dis o.dst (readsOf ops o))) &&
 (List.range ops.size).all fun x => match ops[x]? with
  | some ox => !loadOp ox.op || (List.range ops.size).all fun y => match ops[y]? with
   | some oy => x == y || befT tab y x || dis oy.dst (readsOf ops ox)
   | none => true
  | none => true
def chk (P : Program) (ib : Bool) (ops : Array Oper) (tab T : List Nat) : Bool :=
 statB ops tab && befOkT ops tab && drawB ops && pairB (relB P ib ops tab) T && T.all (fun i => decide (i < ops.size)) && fullB ops T
def plainB (P : Program) (ib : Bool) (ops : Array Oper) (tab T : List Nat) : Bool :=
 pairB (fun x y => match ops[x]?, ops[y]? with
  | some ox, some oy => !loadOp ox.op || !eff P ib oy || befT tab x y
  | _, _ => true) T
theorem pairB_pairwise {f : Nat → Nat → Bool} (l : List Nat) (h : pairB f l = true) : l.Pairwise (fun x y => f x y = true) := by
 induction l with
 | nil => exact List.Pairwise.nil
 | cons x l ih =>
  simp only [pairB, Bool.and_eq_true, List.all_eq_true] at h
  exact List.pairwise_cons.2 ⟨h.1, ih h.2⟩
theorem linB_lin {m : Region.Mode} {ops : Array Oper} (l : List Nat) : ∀ done, linB m ops done l = true → Lin m ops done l := by
 induction l with
 | nil => exact fun _ _ => trivial
 | cons i l ih =>
  intro done h
  simp only [linB, Bool.and_eq_true, decide_eq_true_eq, Bool.not_eq_true', List.contains_eq_mem, decide_eq_false_iff_not] at h
  obtain ⟨⟨⟨h1, h2⟩, h3⟩, h4⟩ := h
  refine ⟨h1, h2, fun o ho e he hb => ?_, ih _ h4⟩
  rw [ho] at h3
  simp only [Array.all_eq_true'] at h3
  have := h3 e (by simpa using he)
  simpa [hb] using this
theorem fullB_mem {ops : Array Oper} {l : List Nat} (h : fullB ops l = true) : ∀ i, i < ops.size → i ∈ l := by
 intro i hi
 unfold fullB at h
 rw [List.all_eq_true] at h
 simpa using h i (List.mem_range.2 hi)
theorem schedule_lin {ops : Array Oper} (h : drawB ops = true) (mixed : Bool) (t : Nat) : (∃ m, Lin m ops [] (Region.schedule mixed ops t)) ∧ ∀ i, i < ops.size → i ∈ Region.schedule mixed ops t := by
 simp only [drawB, Bool.and_eq_true, Bool.or_eq_true, Bool.not_eq_true'] at h
 obtain ⟨h1, h2⟩ := h
 have hall : ∀ i, i < ops.size → i ∈ List.range ops.size := fun i hi => List.mem_range.2 hi
 unfold Region.schedule
 split
 ·have := linearise_lin (prog_of (linB_lin _ _ h1) hall) t
  exact ⟨⟨_, this.1⟩, this.2⟩
 ·rename_i hne
  rcases h2 with h2 | h2
  ·rw [h2] at hne; simp at hne
  ·split
   ·have := linearise_lin (prog_of (linB_lin _ _ h2.1.1) hall) (t / 2)
    exact ⟨⟨_, this.1⟩, this.2⟩
   ·have := linearise_lin (prog_of (linB_lin _ _ h2.1.2) (fullB_mem h2.2)) (t / 2)
    exact ⟨⟨_, this.1⟩, this.2⟩
theorem befOkT_edge {ops : Array Oper} {tab : List Nat} (hb : befOkT ops tab = true) {i j : Nat} (hj : j < ops.size) (hi : i < ops.size) (h : befT tab i j = true) :
  ∃ o, ops[j]? = some o ∧ ∃ e ∈ o.after.toList, Region.binds .any e = true ∧ (e.on = i ∨ befT tab i e.on = true) ∧ e.on < j := by
 unfold befOkT at hb
 rw [List.all_eq_true] at hb
 have h1 := hb j (List.mem_range.2 hj)
 rw [List.all_eq_true] at h1
 have h2 := h1 i (List.mem_range.2 hi)
 rw [h] at h2
 cases ho : ops[j]? with
 | none => rw [ho] at h2; simp at h2
 | some o =>
  rw [ho] at h2
  refine ⟨o, rfl, ?_⟩
  simp only [Bool.not_true, Bool.false_or] at h2
  rw [Array.any_eq_true'] at h2
  obtain ⟨e, he, h3⟩ := h2
  simp only [Bool.and_eq_true, Bool.or_eq_true, beq_iff_eq, decide_eq_true_eq] at h3
  exact ⟨e, by simpa using he, h3.1.1, h3.1.2, h3.2⟩
theorem stat_of {P : Program} {ops : Array Oper} {tab : List Nat} (h : statB ops tab = true) : Stat P ops (befT tab) := by
 simp only [statB, Bool.and_eq_true] at h
 obtain ⟨h1, h2⟩ := h
 rw [Array.all_eq_true'] at h1
 have hm : ∀ i (o : Oper), ops[i]? = some o → o ∈ ops := fun i o ho => Array.mem_of_getElem? ho
 refine ⟨fun i o ho => ?_, fun i o ho hl => ?_, fun x y ox oy hne hx hy hl hb => ?_⟩
 ·have := h1 o (hm i o ho)
  simp only [Bool.and_eq_true] at this
  exact this.1
 ·have := h1 o (hm i o ho)
  simp only [Bool.and_eq_true, Bool.or_eq_true, Bool.not_eq_true'] at this
  rcases this.2 with h | h
  ·rw [hl] at h; cases h
  ·exact h
 ·rw [List.all_eq_true] at h2
  have := h2 x (List.mem_range.2 (Array.getElem?_eq_some_iff.1 hx).1)
  rw [hx] at this
  dsimp only at this
  rw [hl] at this
  simp only [Bool.not_true, Bool.false_or, List.all_eq_true] at this
  have := this y (List.mem_range.2 (Array.getElem?_eq_some_iff.1 hy).1)
  rw [hy] at this
  dsimp only at this
  rw [hb] at this
  have hxy : (x == y) = false := by simpa using hne
  simpa [hxy] using this
theorem WT_ops {P : Program} {ib : Bool} {ops : Array Oper} {bef : Nat → Nat → Bool} {Q : Post} (hQ : NoQ Q) (l : List Nat) : ∀ (D : Nat → Prop) (a : Act) (w : World), WT P ib ops bef Q D l a w → wpOps P ops Q l a w := by
 induction l with
 | nil => exact fun _ _ _ h => h
 | cons i l ih =>
  intro D a w h
  obtain ⟨o, ho, hs⟩ := h
  simp only [wpOps, ho]
  unfold Step at hs
  split
  ·rename_i hw
   rw [if_pos hw] at hs
   exact .inl (upon_map hQ hs.2 fun v ds w' hx => ih _ _ _ hx.2)
  ·rename_i hw
   rw [if_neg hw] at hs
   exact ih _ _ _ hs.2
theorem region_WT {P : Program} {ib : Bool} {ops : Array Oper} {id : Nat} {Q : Post} {a : Act} {w : World} (tab T : List Nat) (hc : chk P ib ops tab T = true) (hQ : NoQ Q)
  (h : WT P ib ops (befT tab) Q (fun _ => False) T a w.drew) : (Code.region id ops true).wp P Q a w := by
 simp only [chk, Bool.and_eq_true] at hc
 obtain ⟨⟨⟨⟨⟨h1, h2⟩, h3⟩, h4⟩, h5⟩, h6⟩ := hc
 have hS : Stat P ops (befT tab) := stat_of h1
 have hT : T.Pairwise (Rel P ib ops (befT tab)) := (pairB_pairwise T h4).imp fun {x y} hxy => by
  simp only [relB, Bool.and_eq_true, bne_iff_ne, ne_eq, Bool.not_eq_true', Bool.or_eq_true] at hxy
  refine ⟨hxy.1.1, hxy.1.2, ?_⟩
  rcases hxy.2 with h | h
  ·exact .inl h
  ·exact .inr fun ox oy hx hy => by rw [hx, hy] at h; exact h
 have hin : ∀ x ∈ T, x < ops.size := fun x hx => by
  rw [List.all_eq_true] at h5
  simpa using h5 x hx
 refine wp_region_draw fun t => ?_
 obtain ⟨⟨m, hlin⟩, hfull⟩ := schedule_lin h3 (P.follows .mixedOrders) t
 obtain ⟨p1, p2, p3⟩ := lin_bef (fun {i j} => befOkT_edge h2) _ [] hlin (fun j hj => by simp at hj)
 have hTn : T.Nodup := (hT.imp fun {x y} hxy => hxy.1)
 have hperm : (Region.schedule (P.follows .mixedOrders) ops t).Perm T :=
  (List.perm_ext_iff_of_nodup p2 hTn).2 fun i => ⟨fun hi => fullB_mem h6 i (p3 i hi).1, fun hi => hfull i (hin i hi)⟩
 exact WT_ops hQ _ _ _ _ (perm hQ hS T _ _ _ _ hperm hT hin p1 (fun r q hr => hr.elim) h)
def pick (ops : Array Oper) (T : List Nat) : List Oper := T.filterMap (ops[·]?)
def fineAll (ops : Array Oper) (a : Act) : Bool := ops.toList.all fun o => !intOp o.op || !Region.wanted o (yielded ops a.tmps) || intFine a.eval o.op
def fineB (ops : Array Oper) (T : List Nat) : Bool :=
 T.all (fun x => match ops[x]? with | some o => !intOp o.op || dis o.dst (readsOf ops o) | none => true) &&
 pairB (fun x y => match ops[x]?, ops[y]? with
  | some ox, some oy => !intOp ox.op || dis oy.dst (readsOf ops ox)
  | _, _ => true) T
def finQ (ops : Array Oper) (Q : Post) : Post
 | .normal, a, w => fineAll ops a = true ∧ Q .normal a w
 | e, a, w => Q e a w
def postN (next : Act → World → Prop) : Post := Exit.then next (fun _ _ _ => False)
theorem NoQ.then {K : Act → World → Prop} {Q : Post} (h : NoQ Q) : NoQ (Exit.then K Q) := ⟨fun c a w x => h.1 c a w x, fun a w x => h.2 a w x⟩
theorem NoQ.inBlock {i : Nat} {Q : Post} (h : NoQ Q) : NoQ (Exit.inBlock i Q) := ⟨fun c a w x => h.1 c a w x, fun a w x => h.2 a w x⟩
theorem NoQ.body {P : Program} {fn : Func} {R : Ending → World → Prop} (h1 : ∀ c w, ¬ R (.panicked c) w) (h2 : ∀ w, ¬ R .outgrown w) : NoQ (bodyPost P fn R) := ⟨fun c _ w x => h1 c w x.2, fun _ w x => h2 w x⟩
theorem NoQ.postN (next : Act → World → Prop) : NoQ (Reg.postN next) := ⟨fun _ _ _ x => x, fun _ _ x => x⟩
theorem NoQ.finQ {ops : Array Oper} {Q : Post} (h : NoQ Q) : NoQ (Reg.finQ ops Q) := ⟨fun c a w x => h.1 c a w x, fun a w x => h.2 a w x⟩
theorem letsOut_no {Q : Post} (h : NoQ Q) : ¬ LetsOut Q := fun ⟨a, w, x⟩ => h.2 a w x
section
variable {P : Program} {ib : Bool} {ops : Array Oper} {bef : Nat → Nat → Bool} {Q Qf : Post}
theorem wpList_final (hQ : NoQ Qf) (l : List Oper) : ∀ (a : Act) (w : World), wpList P ops Qf l a w → ∃ aF wF, Qf .normal aF wF ∧ ∀ t, (∀ o ∈ l, o.dst ≠ some t) → aF.tmps[t]? = a.tmps[t]? := by
 induction l with
 | nil => exact fun a w h => ⟨a, w, h, fun _ _ => rfl⟩
 | cons o l ih =>
  intro a w h
  have key : ∃ v ds w', wpList P ops Qf l (upd a o.dst ds v) w' := by
   unfold wpList at h
   split at h
   ·rcases h with h | h
    ·exact upon_ex hQ h
    ·exact absurd h.2 (letsOut_no hQ)
   ·exact ⟨undef, [], w, by rw [upd_nil]; exact h⟩
  obtain ⟨v, ds, w', h⟩ := key
  obtain ⟨aF, wF, h1, h2⟩ := ih _ _ h
  exact ⟨aF, wF, h1, fun t ht => (h2 t fun x hx => ht x (by simp [hx])).trans (tmps_upd _ _ _ _ _ (ht o (by simp)))⟩
theorem pick_cons {i : Nat} {o : Oper} (h : ops[i]? = some o) (T : List Nat) : pick ops (i :: T) = o :: pick ops T := by
 simp [pick, h]
theorem mem_pick {T : List Nat} {o : Oper} (h : o ∈ pick ops T) : ∃ i, i ∈ T ∧ ops[i]? = some o := by
 simpa [pick] using h
theorem WT_seg (hQf : NoQ Qf) (T2 : List Nat) (T1 : List Nat) : ∀ (D : Nat → Prop) (a : Act) (w : World),
  (∀ i ∈ T1, i < ops.size) →
  (T1.Pairwise fun x y => ∀ (ox oy : Oper), ops[x]? = some ox → ops[y]? = some oy → loadOp ox.op = true → eff P ib oy = true → bef x y = true) →
  (∀ r q, D r → ops[r]? = some q → loadOp q.op = true → ∀ y ∈ T1, ∀ oy, ops[y]? = some oy → eff P ib oy = true → bef r y = true) →
  (∀ a w, Qf .normal a w → WT P ib ops bef Q (fun k => k ∈ T1 ∨ D k) T2 a w) →
  (ib = true → (∀ a w, Qf .normal a w → fineAll ops a = true) ∧ (∀ x ∈ T1, ∀ o, ops[x]? = some o → intOp o.op = true → dis o.dst (readsOf ops o) = true) ∧
   (T1.Pairwise fun x y => ∀ (ox oy : Oper), ops[x]? = some ox → ops[y]? = some oy → intOp ox.op = true → dis oy.dst (readsOf ops ox) = true)) →
  wpList P ops Qf (pick ops T1) a w → WT P ib ops bef Q D (T1 ++ T2) a w := by
 induction T1 with
 | nil =>
  intro D a w _ _ _ hn _ h
  have := hn a w h
  have e : (fun k => k ∈ ([] : List Nat) ∨ D k) = D := by funext k; simp
  rw [e] at this
  exact this
 | cons i T1 ih =>
  intro D a w hin hp hD hn hf h
  have hi := hin i (by simp)
  have ho : ops[i]? = some ops[i] := Array.getElem?_eq_getElem hi
  rw [pick_cons ho] at h
  obtain ⟨hp1, hp2⟩ := List.pairwise_cons.1 hp
  refine ⟨ops[i], ho, ?_⟩
  have hrest : ∀ b w', wpList P ops Qf (pick ops T1) b w' → Obl P ib ops bef D i b w w' ∧ WT P ib ops bef Q (fun k => k = i ∨ D k) (T1 ++ T2) b w' := by
   intro b w' hb
   refine ⟨fun o ho' he r q hr hq hl hb' => ?_, ih _ b w' (fun x hx => hin x (by simp [hx])) hp2 ?_ ?_ ?_ hb⟩
   ·have := hD r q hr hq hl i (by simp) o ho' he
    rw [hb'] at this; cases this
   ·intro r q hr hq hl y hy oy hoy he
    rcases hr with rfl | hr
    ·exact hp1 y hy q oy hq hoy hl he
    ·exact hD r q hr hq hl y (by simp [hy]) oy hoy he
   ·intro a' w'' hx
    have := hn a' w'' hx
    have e : (fun k => k ∈ i :: T1 ∨ D k) = (fun k => k ∈ T1 ∨ k = i ∨ D k) := by
     funext k; simp only [List.mem_cons, eq_iff_iff]; constructor
     ·rintro ((h | h) | h) <;> simp [h]
     ·rintro (h | h | h) <;> simp [h]
    rw [e] at this
    exact this
   ·intro hib
    obtain ⟨f1, f2, f3⟩ := hf hib
    exact ⟨f1, fun x hx => f2 x (by simp [hx]), (List.pairwise_cons.1 f3).2⟩
  unfold wpList at h
  unfold Step
  split at h
  ·rename_i hw
   rw [if_pos hw]
   rcases h with h | h
   ·refine ⟨fun hib => ?_, upon_map hQf h fun v ds w' hx => hrest _ _ hx⟩
    simp only [Bool.and_eq_true] at hib
    obtain ⟨f1, f2, f3⟩ := hf hib.1
    obtain ⟨v, ds, w', hx⟩ := upon_ex hQf h
    obtain ⟨aF, wF, g1, g2⟩ := wpList_final hQf _ _ _ hx
    have hag : Agree ops ops[i] aF a := by
     intro t ht
     have hd := f2 i (by simp) _ ho hib.2
     rw [g2 t fun o hom => ?_, tmps_upd _ _ _ _ _ (dis_ne hd ht)]
     obtain ⟨y, hy, hoy⟩ := mem_pick hom
     exact dis_ne ((List.pairwise_cons.1 f3).1 y hy _ _ ho hoy hib.2) ht
    have hfa := f1 _ _ g1
    unfold fineAll at hfa
    rw [List.all_eq_true] at hfa
    have := hfa ops[i] (by simp)
    rw [agree_wanted hag, hw, hib.2, intFine_agree hag] at this
    simpa using this
   ·exact absurd h.2 (letsOut_no hQf)
  ·rename_i hw
   rw [if_neg hw]
   exact hrest _ _ h
theorem WT_act {i : Nat} {o : Oper} (ho : ops[i]? = some o) (hz : List Nat) (T : List Nat) {D : Nat → Prop} {a : Act} {w : World} (hni : (ib && intOp o.op) = false)
  (hcov : ∀ r q, D r → ops[r]? = some q → loadOp q.op = true → bef r i = false → r ∈ hz)
  (h : wpList P ops (postN fun b w' => (∀ r ∈ hz, ∀ q, ops[r]? = some q → Same P ops q b w w') ∧ WT P ib ops bef Q (fun k => k = i ∨ D k) T b w') [o] a w) : WT P ib ops bef Q D (i :: T) a w := by
 refine ⟨o, ho, ?_⟩
 have hrest : ∀ b w', wpList P ops (postN fun b w' => (∀ r ∈ hz, ∀ q, ops[r]? = some q → Same P ops q b w w') ∧ WT P ib ops bef Q (fun k => k = i ∨ D k) T b w') [] b w' →
   Obl P ib ops bef D i b w w' ∧ WT P ib ops bef Q (fun k => k = i ∨ D k) T b w' := fun b w' hb =>
  ⟨fun o' _ _ r q hr hq hl hb' => hb.1 r (hcov r q hr hq hl hb') q hq, hb.2⟩
 unfold wpList at h
 unfold Step
 split at h
 ·rename_i hw
  rw [if_pos hw]
  rcases h with h | h
  ·exact ⟨fun hib => absurd hib (by rw [hni]; simp), upon_map (NoQ.postN _) h fun v ds w' hx => hrest _ _ hx⟩
  ·exact absurd h.2 (letsOut_no (NoQ.postN _))
 ·rename_i hw
  rw [if_neg hw]
  exact hrest _ _ h
end
section
variable {P : Program} {id : Nat} {Q : Post} {a : Act} {w : World}
theorem plainB_pairwise {ib : Bool} {ops : Array Oper} {tab T : List Nat} (h : plainB P ib ops tab T = true) :
  T.Pairwise fun x y => ∀ (ox oy : Oper), ops[x]? = some ox → ops[y]? = some oy → loadOp ox.op = true → eff P ib oy = true → befT tab x y = true :=
 (pairB_pairwise T h).imp fun {x y} hxy ox oy hx hy hl he => by
  rw [hx, hy] at hxy
  dsimp only at hxy
  rw [hl, he] at hxy
  simpa using hxy
theorem chk_in {ib : Bool} {ops : Array Oper} {tab T : List Nat} (h : chk P ib ops tab T = true) : ∀ i ∈ T, i < ops.size := fun i hi => by
 simp only [chk, Bool.and_eq_true] at h
 have := h.1.2
 rw [List.all_eq_true] at this
 simpa using this i hi
theorem pick_range_aux (l : List Oper) : ∀ (p : List Oper) (k : Nat), p.length = k → (List.range' k l.length).filterMap (fun i => (p ++ l)[i]?) = l := by
 induction l with
 | nil => intro p k _; rfl
 | cons x l ih =>
  intro p k hk
  have h0 : (p ++ x :: l)[k]? = some x := by rw [← hk]; simp
  have := ih (p ++ [x]) (k + 1) (by simp [hk])
  rw [List.append_assoc] at this
  simp only [List.length_cons, List.range'_succ, List.filterMap_cons, h0]
  rw [List.singleton_append] at this
  rw [this]
theorem pick_range (l : List Oper) : pick l.toArray (List.range l.length) = l := by
 have := pick_range_aux l [] 0 rfl
 rw [List.nil_append] at this
 unfold pick
 rw [List.range_eq_range']
 simpa using this
theorem region_plain {l : List Oper} (tab : List Nat) (hc : (chk P false l.toArray tab (List.range l.length) && plainB P false l.toArray tab (List.range l.length)) = true) (hQ : NoQ Q)
  (h : wpList P l.toArray Q l a w.drew) : (Code.region id l.toArray true).wp P Q a w := by
 simp only [Bool.and_eq_true] at hc
 refine region_WT tab _ hc.1 hQ ?_
 have := WT_seg (ib := false) (bef := befT tab) hQ [] (List.range l.length) (fun _ => False) a w.drew (chk_in hc.1) (plainB_pairwise hc.2) (fun r q hr => hr.elim) (fun a w h => h) (fun h => by cases h)
 rw [List.append_nil] at this
 exact this (by rw [pick_range]; exact h)
theorem region_ints {l : List Oper} (tab : List Nat)
  (hc : (chk P true l.toArray tab (List.range l.length) && plainB P true l.toArray tab (List.range l.length) && fineB l.toArray (List.range l.length)) = true) (hQ : NoQ Q)
  (h : wpList P l.toArray (finQ l.toArray Q) l a w.drew) : (Code.region id l.toArray true).wp P Q a w := by
 simp only [Bool.and_eq_true] at hc
 obtain ⟨⟨h1, h2⟩, h3⟩ := hc
 simp only [fineB, Bool.and_eq_true, List.all_eq_true] at h3
 refine region_WT tab _ h1 hQ ?_
 have := WT_seg (ib := true) (bef := befT tab) (Q := Q) hQ.finQ [] (List.range l.length) (fun _ => False) a w.drew (chk_in h1) (plainB_pairwise h2) (fun r q hr => hr.elim) (fun a w h => h.2)
  (fun _ => ⟨fun a w h => h.1, fun x hx o ho hi => by have := h3.1 x hx; rw [ho] at this; dsimp only at this; rw [hi] at this; simpa using this, (pairB_pairwise _ h3.2).imp fun {x y} hxy ox oy hx hy hi => by
   rw [hx, hy] at hxy; dsimp only at hxy; rw [hi] at hxy; simpa using hxy⟩)
 rw [List.append_nil] at this
 exact this (by rw [pick_range]; exact h)
def Rest (P : Program) (ops : Array Oper) (tab : List Nat) (Q : Post) (D T : List Nat) (a : Act) (w : World) : Prop := WT P false ops (befT tab) Q (fun k => k ∈ D) T a w
theorem region_cut {l : List Oper} (tab T : List Nat) (hc : chk P false l.toArray tab T = true) (hQ : NoQ Q) (h : Rest P l.toArray tab Q [] T a w.drew) : (Code.region id l.toArray true).wp P Q a w := by
 refine region_WT tab T hc hQ ?_
 have e : (fun k => k ∈ ([] : List Nat)) = fun _ => False := by funext k; simp
 unfold Rest at h
 rw [e] at h
 exact h
theorem rest_walk {l l1 : List Oper} {tab D : List Nat} (T1 T2 : List Nat) (hl : pick l.toArray T1 = l1)
  (hc : (T1.all (fun i => decide (i < l.length)) && plainB P false l.toArray tab T1 && D.all (fun r => T1.all fun y => match l.toArray[r]?, l.toArray[y]? with
   | some q, some oy => !loadOp q.op || !eff P false oy || befT tab r y
   | _, _ => true)) = true)
  (h : wpList P l.toArray (postN fun a w => Rest P l.toArray tab Q (T1 ++ D) T2 a w) l1 a w) : Rest P l.toArray tab Q D (T1 ++ T2) a w := by
 simp only [Bool.and_eq_true, List.all_eq_true] at hc
 obtain ⟨⟨h1, h2⟩, h3⟩ := hc
 refine WT_seg (ib := false) (bef := befT tab) (Qf := postN fun a w => Rest P l.toArray tab Q (T1 ++ D) T2 a w) (NoQ.postN _) T2 T1 _ a w (fun i hi => by simpa using h1 i hi) (plainB_pairwise h2) ?_ ?_ (fun h => by cases h) (by rw [hl]; exact h)
 ·intro r q hr hq hlq y hy oy hoy he
  have := h3 r hr y hy
  rw [hq, hoy] at this
  dsimp only at this
  rw [hlq, he] at this
  simpa using this
 ·intro a' w' hx
  have e : (fun k => k ∈ T1 ∨ k ∈ D) = fun k => k ∈ T1 ++ D := by funext k; simp
  rw [e]
  exact hx
theorem rest_act {l : List Oper} {o : Oper} {tab D : List Nat} (i : Nat) (T : List Nat) (hz : List Nat) (ho : l.toArray[i]? = some o)
  (hc : D.all (fun r => match l.toArray[r]? with
   | some q => !loadOp q.op || befT tab r i || hz.contains r
   | none => true) = true)
  (h : wpList P l.toArray (postN fun b w' => (∀ r ∈ hz, ∀ q, l.toArray[r]? = some q → Same P l.toArray q b w w') ∧ Rest P l.toArray tab Q (i :: D) T b w') [o] a w) : Rest P l.toArray tab Q D (i :: T) a w := by
 rw [List.all_eq_true] at hc
 refine WT_act ho hz T (by simp) (fun r q hr hq hl hb => ?_) ?_
 ·have := hc r hr
  rw [hq] at this
  dsimp only at this
  rw [hl, hb] at this
  simpa using this
 ·have e : (fun k => k = i ∨ k ∈ D) = fun k => k ∈ i :: D := by funext k; simp
  rw [e]
  exact h
theorem rest_end {l : List Oper} {tab D : List Nat} (h : Q .normal a w) : Rest P l.toArray tab Q D [] a w := h
theorem region_ints' {l : List Oper} (tab : List Nat)
  (hc : (chk P true l.toArray tab (List.range l.length) && plainB P true l.toArray tab (List.range l.length) && fineB l.toArray (List.range l.length)) = true) (hQ : NoQ Q)
  (h : ∀ Qf : Post, (∀ a w, fineAll l.toArray a = true ∧ Q .normal a w → Qf .normal a w) → wpList P l.toArray Qf l a w.drew) : (Code.region id l.toArray true).wp P Q a w :=
 region_ints tab hc hQ (h _ fun _ _ x => x)
theorem rest_walk' {l l1 : List Oper} {tab D : List Nat} (T1 T2 : List Nat) (hl : pick l.toArray T1 = l1)
  (hc : (T1.all (fun i => decide (i < l.length)) && plainB P false l.toArray tab T1 && D.all (fun r => T1.all fun y => match l.toArray[r]?, l.toArray[y]? with
   | some q, some oy => !loadOp q.op || !eff P false oy || befT tab r y
   | _, _ => true)) = true)
  (h : ∀ Qf : Post, (∀ a w, Rest P l.toArray tab Q (T1 ++ D) T2 a w → Qf .normal a w) → wpList P l.toArray Qf l1 a w) : Rest P l.toArray tab Q D (T1 ++ T2) a w :=
 rest_walk T1 T2 hl hc (h _ fun _ _ x => x)
theorem rest_act' {l : List Oper} {o : Oper} {tab D : List Nat} (i : Nat) (T : List Nat) (hz : List Nat) (ho : l.toArray[i]? = some o)
  (hc : D.all (fun r => match l.toArray[r]? with
   | some q => !loadOp q.op || befT tab r i || hz.contains r
   | none => true) = true)
  (h : ∀ Qf : Post, (∀ b w', (∀ r ∈ hz, ∀ q, l.toArray[r]? = some q → Same P l.toArray q b w w') ∧ Rest P l.toArray tab Q (i :: D) T b w' → Qf .normal b w') → wpList P l.toArray Qf [o] a w) : Rest P l.toArray tab Q D (i :: T) a w :=
 rest_act i T hz ho hc (h _ fun _ _ x => x)
theorem same_below {ops : Array Oper} {b : Act} {w w' : World} (h : RowKit.Below w.heap.size w w') (hz : List Nat) (hl : hz.all (fun r => match ops[r]? with | some q => loadOp q.op | none => true) = true) :
  ∀ r ∈ hz, ∀ q, ops[r]? = some q → Same P ops q b w w' := fun r hr q hq => by
 rw [List.all_eq_true] at hl
 have := hl r hr
 rw [hq] at this
 exact same_ext this h.block
end
end Reg
end Go.Proofs.YtakpmdmjbgipiaaGreatDoor
namespace Go.Proofs.YtakpmdmjbgipiaaGreatDoor
namespace Reg
theorem run_load1 {P : Program} {w : World} {p : Addr} {v : Value} {ty : TypeId} {d : TypeDesc} (hc : w.cell? p = some v) (hu : P.underlying ty = some d) (hd : d.isRow = false) :
  (Instr.loadAt ty (.pointer (some p))).run P w = .ok v w := by
 have hagg : (isAgg ty).run P w = .ok false w := by
  unfold isAgg
  rw [Sem.run_bind, run_underlying hu w]
  cases d <;> simp_all
 simp [Instr.loadAt, Instr.sureAddr, Sem.run_bind, loadVar, hagg, hc]
theorem same_load1 {P : Program} {ops : Array Oper} {q : Oper} {b : Act} {w w' : World} {ty : TypeId} {x : Operand} {p : Addr} {u : Value} {d : TypeDesc} (ho : q.op = .load ty x) (hx : b.eval x = .pointer (some p))
  (hc : w.cell? p = some u) (hc' : w'.cell? p = some u) (hu : P.underlying ty = some d) (hd : d.isRow = false) : Same P ops q b w w' := by
 intro _ v hv
 obtain ⟨dst, op, type, pos, after, guard⟩ := q
 dsimp only at ho
 subst ho
 have e : ∀ w1, w1.cell? p = some u → (execOp b.eval { dst, op := .load ty x, type, pos, after, guard }).run P w1 = .ok (.value u) w1 := fun w1 h => by
  show ((Instr.loadAt ty (b.eval x)) >>= fun v => (Pure.pure (Next.value v) : Sem Next)).run P w1 = _
  rw [hx]
  exact run_value (run_load1 h hu hd)
 rw [e w hc] at hv
 injection hv with hv _
 rw [← hv]
 exact e w' hc'
end Reg
end Go.Proofs.YtakpmdmjbgipiaaGreatDoor
namespace Go.Proofs.YtakpmdmjbgipiaaGreatDoor
namespace Reg
def addT (tab : List Nat) (i j : Nat) : List Nat := tab.mapIdx fun y s => if y == j || s.testBit j then s ||| 2 ^ i ||| tab.getD i 0 else s
theorem befT_add {tab : List Nat} {i j x y : Nat} (h : befT (addT tab i j) x y = true) : befT tab x y = true ∨ ((y = j ∨ befT tab j y = true) ∧ (x = i ∨ befT tab x i = true)) := by
 unfold befT at *
 by_cases hy : y < tab.length
 ·have e : (addT tab i j).getD y 0 = if y == j || (tab.getD y 0).testBit j then tab.getD y 0 ||| 2 ^ i ||| tab.getD i 0 else tab.getD y 0 := by
   simp [addT, List.getD, hy]
  rw [e] at h
  split at h
  ·rename_i hc
   simp only [Bool.or_eq_true, beq_iff_eq] at hc
   rw [Nat.testBit_or, Nat.testBit_or, Nat.testBit_two_pow] at h
   simp only [Bool.or_eq_true, decide_eq_true_eq] at h
   rcases h with (h | h) | h
   ·exact .inl h
   ·exact .inr ⟨hc, .inl h.symm⟩
   ·exact .inr ⟨hc, .inr h⟩
  ·exact .inl h
 ·have e : (addT tab i j).getD y 0 = 0 := by
   simp [addT, List.getD, List.getElem?_eq_none (Nat.le_of_not_lt hy)]
  rw [e] at h
  simp at h
def Con (tab : List Nat) (l : List Nat) : Prop := l.Pairwise fun x y => x ≠ y ∧ befT tab y x = false
theorem con_add {tab l : List Nat} {p q i j : Nat} (h : Con tab l) (hp : l[p]? = some i) (hq : l[q]? = some j) (hpq : p < q) : Con (addT tab i j) l := by
 have hb := List.pairwise_iff_getElem.1 h
 have hpl := (List.getElem?_eq_some_iff.1 hp)
 have hql := (List.getElem?_eq_some_iff.1 hq)
 obtain ⟨hp1, hp2⟩ := hpl
 obtain ⟨hq1, hq2⟩ := hql
 refine List.pairwise_iff_getElem.2 fun a b ha hb' hab => ⟨(hb a b ha hb' hab).1, ?_⟩
 cases hx : befT (addT tab i j) l[b] l[a] with
 | false => rfl
 | true =>
  exfalso
  rcases befT_add hx with h1 | ⟨h1, h2⟩
  ·rw [(hb a b ha hb' hab).2] at h1; cases h1
  ·have c1 : q ≤ a := by
    refine Nat.le_of_not_lt fun hlt => ?_
    have := hb a q ha hq1 hlt
    rcases h1 with h1 | h1
    ·exact this.1 (h1.trans hq2.symm)
    ·rw [hq2] at this; rw [this.2] at h1; cases h1
   have c2 : b ≤ p := by
    refine Nat.le_of_not_lt fun hlt => ?_
    have := hb p b hp1 hb' hlt
    rcases h2 with h2 | h2
    ·exact this.1 (hp2.trans h2.symm)
    ·rw [hp2] at this; rw [this.2] at h2; cases h2
   omega
inductive Spl where
 | leaf (T : List Nat)
 | node (i j : Nat) (s t : Spl)
def Spl.chk (P : Program) (ops : Array Oper) : Spl → List Nat → Bool
 | .leaf T, tab => statB ops tab && pairB (relB P false ops tab) T && T.all (fun i => decide (i < ops.size)) && fullB ops T
 | .node i j s t, tab => decide (i < ops.size) && decide (j < ops.size) && i != j && s.chk P ops (addT tab i j) && t.chk P ops (addT tab j i)
def Spl.goal (P : Program) (ops : Array Oper) (Q : Post) (a : Act) (w : World) : Spl → List Nat → Prop
 | .leaf T, tab => Rest P ops tab Q [] T a w
 | .node i j s t, tab => s.goal P ops Q a w (addT tab i j) ∧ t.goal P ops Q a w (addT tab j i)
theorem spl_ops {P : Program} {ops : Array Oper} {Q : Post} {a : Act} {w : World} (hQ : NoQ Q) (s : Spl) : ∀ (tab l : List Nat), s.chk P ops tab = true → Con tab l → l.Nodup → (∀ i ∈ l, i < ops.size) → (∀ i, i < ops.size → i ∈ l) → s.goal P ops Q a w tab →
  wpOps P ops Q l a w := by
 induction s with
 | leaf T =>
  intro tab l hc hl hn hin hall hg
  simp only [Spl.chk, Bool.and_eq_true] at hc
  obtain ⟨⟨⟨h1, h4⟩, h5⟩, h6⟩ := hc
  have hS : Stat P ops (befT tab) := stat_of h1
  have hT : T.Pairwise (Rel P false ops (befT tab)) := (pairB_pairwise T h4).imp fun {x y} hxy => by
   simp only [relB, Bool.and_eq_true, bne_iff_ne, ne_eq, Bool.not_eq_true', Bool.or_eq_true] at hxy
   refine ⟨hxy.1.1, hxy.1.2, ?_⟩
   rcases hxy.2 with h | h
   ·exact .inl h
   ·exact .inr fun ox oy hx hy => by rw [hx, hy] at h; exact h
  have hin' : ∀ x ∈ T, x < ops.size := fun x hx => by
   rw [List.all_eq_true] at h5
   simpa using h5 x hx
  have hTn : T.Nodup := (hT.imp fun {x y} hxy => hxy.1)
  have hperm : l.Perm T := (List.perm_ext_iff_of_nodup hn hTn).2 fun i => ⟨fun hi => fullB_mem h6 i (hin i hi), fun hi => hall i (hin' i hi)⟩
  have e : (fun k => k ∈ ([] : List Nat)) = fun _ => False := by funext k; simp
  have hg' : Rest P ops tab Q [] T a w := hg
  unfold Rest at hg'
  rw [e] at hg'
  exact WT_ops hQ _ _ _ _ (perm hQ hS T _ _ _ _ hperm hT hin' hl (fun r q hr => hr.elim) hg')
 | node i j s t ihs iht =>
  intro tab l hc hl hn hin hall hg
  simp only [Spl.chk, Bool.and_eq_true, bne_iff_ne, ne_eq, decide_eq_true_eq] at hc
  obtain ⟨⟨⟨⟨h1, h2⟩, h3⟩, h4⟩, h5⟩ := hc
  obtain ⟨p, hp⟩ := List.mem_iff_getElem?.1 (hall i h1)
  obtain ⟨q, hq⟩ := List.mem_iff_getElem?.1 (hall j h2)
  rcases Nat.lt_trichotomy p q with h | h | h
  ·exact ihs _ l h4 (con_add hl hp hq h) hn hin hall hg.1
  ·subst h
   rw [hp] at hq
   exact absurd (Option.some.inj hq) h3
  ·exact iht _ l h5 (con_add hl hq hp h) hn hin hall hg.2
theorem region_spl {P : Program} {l : List Oper} {id : Nat} {Q : Post} {a : Act} {w : World} (tab : List Nat) (s : Spl) (hc : (befOkT l.toArray tab && drawB l.toArray && s.chk P l.toArray tab) = true) (hQ : NoQ Q)
  (h : s.goal P l.toArray Q a w.drew tab) : (Code.region id l.toArray true).wp P Q a w := by
 simp only [Bool.and_eq_true] at hc
 obtain ⟨⟨h2, h3⟩, h4⟩ := hc
 refine wp_region_draw fun t => ?_
 obtain ⟨⟨m, hlin⟩, hfull⟩ := schedule_lin h3 (P.follows .mixedOrders) t
 obtain ⟨p1, p2, p3⟩ := lin_bef (fun {i j} => befOkT_edge h2) _ [] hlin (fun j hj => by simp at hj)
 exact spl_ops hQ s tab _ h4 p1 p2 (fun i hi => (p3 i hi).1) (fun i hi => hfull i hi) h
end Reg
end Go.Proofs.YtakpmdmjbgipiaaGreatDoor
namespace Go.Proofs.YtakpmdmjbgipiaaGreatDoor
namespace Reg
def fineT (ops : Array Oper) (T : List Nat) (a : Act) : Bool := T.all fun x => match ops[x]? with
 | some o => !intOp o.op || !Region.wanted o (yielded ops a.tmps) || intFine a.eval o.op
 | none => true
section
variable {P : Program} {ib : Bool} {ops : Array Oper} {bef : Nat → Nat → Bool} {Q Qf : Post}
theorem WT_segI (T0 : List Nat) (hQf : NoQ Qf) (T2 : List Nat) (T1 : List Nat) : ∀ (D : Nat → Prop) (a : Act) (w : World),
  (∀ x ∈ T1, x ∈ T0) → (∀ i ∈ T1, i < ops.size) →
  (T1.Pairwise fun x y => ∀ (ox oy : Oper), ops[x]? = some ox → ops[y]? = some oy → loadOp ox.op = true → eff P ib oy = true → bef x y = true) →
  (∀ r q, D r → ops[r]? = some q → loadOp q.op = true → ∀ y ∈ T1, ∀ oy, ops[y]? = some oy → eff P ib oy = true → bef r y = true) →
  (∀ a w, Qf .normal a w → WT P ib ops bef Q (fun k => k ∈ T1 ∨ D k) T2 a w) →
  (ib = true → (∀ a w, Qf .normal a w → fineT ops T0 a = true) ∧ (∀ x ∈ T1, ∀ o, ops[x]? = some o → intOp o.op = true → dis o.dst (readsOf ops o) = true) ∧
   (T1.Pairwise fun x y => ∀ (ox oy : Oper), ops[x]? = some ox → ops[y]? = some oy → intOp ox.op = true → dis oy.dst (readsOf ops ox) = true)) →
  wpList P ops Qf (pick ops T1) a w → WT P ib ops bef Q D (T1 ++ T2) a w := by
 induction T1 with
 | nil =>
  intro D a w _ _ _ _ hn _ h
  have := hn a w h
  have e : (fun k => k ∈ ([] : List Nat) ∨ D k) = D := by funext k; simp
  rw [e] at this
  exact this
 | cons i T1 ih =>
  intro D a w hsub hin hp hD hn hf h
  have hi := hin i (by simp)
  have ho : ops[i]? = some ops[i] := Array.getElem?_eq_getElem hi
  rw [pick_cons ho] at h
  obtain ⟨hp1, hp2⟩ := List.pairwise_cons.1 hp
  refine ⟨ops[i], ho, ?_⟩
  have hrest : ∀ b w', wpList P ops Qf (pick ops T1) b w' → Obl P ib ops bef D i b w w' ∧ WT P ib ops bef Q (fun k => k = i ∨ D k) (T1 ++ T2) b w' := by
   intro b w' hb
   refine ⟨fun o ho' he r q hr hq hl hb' => ?_, ih _ b w' (fun x hx => hsub x (by simp [hx])) (fun x hx => hin x (by simp [hx])) hp2 ?_ ?_ ?_ hb⟩
   ·have := hD r q hr hq hl i (by simp) o ho' he
    rw [hb'] at this; cases this
   ·intro r q hr hq hl y hy oy hoy he
    rcases hr with rfl | hr
    ·exact hp1 y hy q oy hq hoy hl he
    ·exact hD r q hr hq hl y (by simp [hy]) oy hoy he
   ·intro a' w'' hx
    have := hn a' w'' hx
    have e : (fun k => k ∈ i :: T1 ∨ D k) = (fun k => k ∈ T1 ∨ k = i ∨ D k) := by
     funext k; simp only [List.mem_cons, eq_iff_iff]; constructor
     ·rintro ((h | h) | h) <;> simp [h]
     ·rintro (h | h | h) <;> simp [h]
    rw [e] at this
    exact this
   ·intro hib
    obtain ⟨f1, f2, f3⟩ := hf hib
    exact ⟨f1, fun x hx => f2 x (by simp [hx]), (List.pairwise_cons.1 f3).2⟩
  unfold wpList at h
  unfold Step
  split at h
  ·rename_i hw
   rw [if_pos hw]
   rcases h with h | h
   ·refine ⟨fun hib => ?_, upon_map hQf h fun v ds w' hx => hrest _ _ hx⟩
    simp only [Bool.and_eq_true] at hib
    obtain ⟨f1, f2, f3⟩ := hf hib.1
    obtain ⟨v, ds, w', hx⟩ := upon_ex hQf h
    obtain ⟨aF, wF, g1, g2⟩ := wpList_final hQf _ _ _ hx
    have hag : Agree ops ops[i] aF a := by
     intro t ht
     have hd := f2 i (by simp) _ ho hib.2
     rw [g2 t fun o hom => ?_, tmps_upd _ _ _ _ _ (dis_ne hd ht)]
     obtain ⟨y, hy, hoy⟩ := mem_pick hom
     exact dis_ne ((List.pairwise_cons.1 f3).1 y hy _ _ ho hoy hib.2) ht
    have hfa := f1 _ _ g1
    unfold fineT at hfa
    rw [List.all_eq_true] at hfa
    have := hfa i (hsub i (by simp))
    rw [ho] at this
    dsimp only at this
    rw [agree_wanted hag, hw, hib.2, intFine_agree hag] at this
    simpa using this
   ·exact absurd h.2 (letsOut_no hQf)
  ·rename_i hw
   rw [if_neg hw]
   exact hrest _ _ h
end
section
variable {P : Program} {Q : Post} {id : Nat} {a : Act} {w : World}
def RestI (P : Program) (ops : Array Oper) (tab : List Nat) (Q : Post) (D T : List Nat) (a : Act) (w : World) : Prop := WT P true ops (befT tab) Q (fun k => k ∈ D) T a w
theorem region_cutI {l : List Oper} (tab T : List Nat) (hc : chk P true l.toArray tab T = true) (hQ : NoQ Q) (h : RestI P l.toArray tab Q [] T a w.drew) : (Code.region id l.toArray true).wp P Q a w := by
 refine region_WT tab T hc hQ ?_
 have e : (fun k => k ∈ ([] : List Nat)) = fun _ => False := by funext k; simp
 unfold RestI at h
 rw [e] at h
 exact h
theorem restI_walk {l l1 : List Oper} {tab D : List Nat} (T1 T2 : List Nat) (hl : pick l.toArray T1 = l1)
  (hc : (T1.all (fun i => decide (i < l.length)) && plainB P true l.toArray tab T1 && D.all (fun r => T1.all fun y => match l.toArray[r]?, l.toArray[y]? with
   | some q, some oy => !loadOp q.op || !eff P true oy || befT tab r y
   | _, _ => true) && fineB l.toArray T1) = true)
  (h : ∀ Qf : Post, (∀ a w, fineT l.toArray T1 a = true ∧ RestI P l.toArray tab Q (T1 ++ D) T2 a w → Qf .normal a w) → wpList P l.toArray Qf l1 a w) : RestI P l.toArray tab Q D (T1 ++ T2) a w := by
 simp only [Bool.and_eq_true, List.all_eq_true] at hc
 obtain ⟨⟨⟨h1, h2⟩, h3⟩, h4⟩ := hc
 simp only [fineB, Bool.and_eq_true, List.all_eq_true] at h4
 refine WT_segI (ib := true) (bef := befT tab) (Qf := postN fun a w => fineT l.toArray T1 a = true ∧ RestI P l.toArray tab Q (T1 ++ D) T2 a w) T1 (NoQ.postN _) T2 T1 _ a w (fun _ hx => hx) (fun i hi => by simpa using h1 i hi) (plainB_pairwise h2) ?_ ?_ ?_ (by rw [hl]; exact h _ fun _ _ x => x)
 ·intro r q hr hq hlq y hy oy hoy he
  have := h3 r hr y hy
  rw [hq, hoy] at this
  simp only [hlq, he, Bool.not_true, Bool.or_false, Bool.false_or] at this
  simpa using this
 ·intro a w hx
  have hx2 := hx.2
  unfold RestI at hx2
  have e : (fun k => k ∈ T1 ++ D) = (fun k => k ∈ T1 ∨ k ∈ D) := by funext k; simp
  rw [e] at hx2
  exact hx2
 ·exact fun _ => ⟨fun a w h => h.1, fun x hx o ho hi => by have := h4.1 x hx; rw [ho] at this; dsimp only at this; rw [hi] at this; simpa using this, (pairB_pairwise _ h4.2).imp fun {x y} hxy ox oy hx hy hi => by
   rw [hx, hy] at hxy; dsimp only at hxy; rw [hi] at hxy; simpa using hxy⟩
theorem restI_act {l : List Oper} {o : Oper} {tab D : List Nat} (i : Nat) (T : List Nat) (hz : List Nat) (ho : l.toArray[i]? = some o)
  (hc : (D.all (fun r => match l.toArray[r]? with
   | some q => !loadOp q.op || befT tab r i || hz.contains r
   | none => true) && !intOp o.op) = true)
  (h : ∀ Qf : Post, (∀ b w', (∀ r ∈ hz, ∀ q, l.toArray[r]? = some q → Same P l.toArray q b w w') ∧ RestI P l.toArray tab Q (i :: D) T b w' → Qf .normal b w') → wpList P l.toArray Qf [o] a w) : RestI P l.toArray tab Q D (i :: T) a w := by
 simp only [Bool.and_eq_true, List.all_eq_true, Bool.not_eq_true'] at hc
 obtain ⟨hc, hni⟩ := hc
 refine WT_act ho hz T (by rw [hni]; rfl) (fun r q hr hq hl hb => ?_) ?_
 ·have := hc r hr
  rw [hq] at this
  simp only [hl, hb, Bool.not_true, Bool.false_or] at this
  simpa using this
 ·have := h (postN fun b w' => (∀ r ∈ hz, ∀ q, l.toArray[r]? = some q → Same P l.toArray q b w w') ∧ RestI P l.toArray tab Q (i :: D) T b w') fun _ _ x => x
  have e : (fun k => k ∈ i :: D) = (fun k => k = i ∨ k ∈ D) := by funext k; simp
  unfold RestI at this
  rw [e] at this
  exact this
theorem restI_end {l : List Oper} {tab D : List Nat} (h : Q .normal a w) : RestI P l.toArray tab Q D [] a w := h
end
end Reg
end Go.Proofs.YtakpmdmjbgipiaaGreatDoor
namespace Go.Proofs.YtakpmdmjbgipiaaGreatDoor
namespace Reg
section
variable {P : Program} {Q : Post} {id : Nat} {a : Act} {w : World}
theorem cI {l : List Oper} (tab T : List Nat) (h : RestI P l.toArray tab Q [] T a w.drew) (hc : chk P true l.toArray tab T = true := by kernel_rfl) (hQ : NoQ Q := by repeat (first | exact Reg.NoQ.body (fun _ _ h => h) (fun _ h => h) | refine Reg.NoQ.then ?_ | refine Reg.NoQ.inBlock ?_)) : (Code.region id l.toArray true).wp P Q a w := region_cutI tab T hc hQ h
theorem cC {l : List Oper} (tab T : List Nat) (h : Rest P l.toArray tab Q [] T a w.drew) (hc : chk P false l.toArray tab T = true := by kernel_rfl) (hQ : NoQ Q := by repeat (first | exact Reg.NoQ.body (fun _ _ h => h) (fun _ h => h) | refine Reg.NoQ.then ?_ | refine Reg.NoQ.inBlock ?_)) : (Code.region id l.toArray true).wp P Q a w := region_cut tab T hc hQ h
theorem cP {l : List Oper} (tab : List Nat) (h : wpList P l.toArray Q l a w.drew) (hc : (chk P false l.toArray tab (List.range l.length) && plainB P false l.toArray tab (List.range l.length)) = true := by kernel_rfl) (hQ : NoQ Q := by repeat (first | exact Reg.NoQ.body (fun _ _ h => h) (fun _ h => h) | refine Reg.NoQ.then ?_ | refine Reg.NoQ.inBlock ?_)) : (Code.region id l.toArray true).wp P Q a w := region_plain tab hc hQ h
theorem cN {l : List Oper} (tab : List Nat) (h : ∀ Qf : Post, (∀ a w, fineAll l.toArray a = true ∧ Q .normal a w → Qf .normal a w) → wpList P l.toArray Qf l a w.drew) (hc : (chk P true l.toArray tab (List.range l.length) && plainB P true l.toArray tab (List.range l.length) && fineB l.toArray (List.range l.length)) = true := by kernel_rfl) (hQ : NoQ Q := by repeat (first | exact Reg.NoQ.body (fun _ _ h => h) (fun _ h => h) | refine Reg.NoQ.then ?_ | refine Reg.NoQ.inBlock ?_)) : (Code.region id l.toArray true).wp P Q a w := region_ints' tab hc hQ h
theorem wI {l l1 : List Oper} {tab D : List Nat} (T1 T2 : List Nat) (hl : pick l.toArray T1 = l1)
  (h : ∀ Qf : Post, (∀ a w, fineT l.toArray T1 a = true ∧ RestI P l.toArray tab Q (T1 ++ D) T2 a w → Qf .normal a w) → wpList P l.toArray Qf l1 a w)
  (hc : (T1.all (fun i => decide (i < l.length)) && plainB P true l.toArray tab T1 && D.all (fun r => T1.all fun y => match l.toArray[r]?, l.toArray[y]? with
   | some q, some oy => !loadOp q.op || !eff P true oy || befT tab r y
   | _, _ => true) && fineB l.toArray T1) = true := by kernel_rfl) : RestI P l.toArray tab Q D (T1 ++ T2) a w := restI_walk T1 T2 hl hc h
theorem aI {l : List Oper} {o : Oper} {tab D : List Nat} (i : Nat) (T : List Nat) (hz : List Nat) (ho : l.toArray[i]? = some o)
  (h : ∀ Qf : Post, (∀ b w', (∀ r ∈ hz, ∀ q, l.toArray[r]? = some q → Same P l.toArray q b w w') ∧ RestI P l.toArray tab Q (i :: D) T b w' → Qf .normal b w') → wpList P l.toArray Qf [o] a w)
  (hc : (D.all (fun r => match l.toArray[r]? with
   | some q => !loadOp q.op || befT tab r i || hz.contains r
   | none => true) && !intOp o.op) = true := by kernel_rfl) : RestI P l.toArray tab Q D (i :: T) a w := restI_act i T hz ho hc h
end
theorem nm {α : Type} {q : α → Prop} : ∀ r ∈ ([] : List α), q r := fun _ hr => absurd hr List.not_mem_nil
end Reg
theorem gT {α : Type} {l : List α} {i : Nat} (h : i < l.toArray.size) : l.toArray[i] = l[i]'(by simpa using h) := List.getElem_toArray h
theorem gS {α : Type} {a : α} {l : List α} {i : Nat} (h : i + 1 < (a :: l).length) : (a :: l)[i + 1] = l[i]'(Nat.lt_of_succ_lt_succ h) := rfl
theorem gZ {α : Type} {a : α} {l : List α} (h : 0 < (a :: l).length) : (a :: l)[0] = a := rfl
end Go.Proofs.YtakpmdmjbgipiaaGreatDoor
namespace Go.Proofs.YtakpmdmjbgipiaaGreatDoor
open Go.RowKit
def Sl {D : Type} (w : World) (B sz : Nat) (enc : D → Nat → Value) (A : Option Addr) (ds : List D) : Prop :=
 ds.length ≤ 9223372036854775807 ∧ (ds ≠ [] → ∃ b off, A = some ⟨b, off, none⟩ ∧ b < B ∧ ∀ k d, ds[k]? = some d → ∀ j, j < sz → w.cell? ⟨b, off + k * sz + j, none⟩ = some (enc d j))
section
variable {D : Type} {w w' : World} {B B' sz : Nat} {enc : D → Nat → Value} {A : Option Addr} {ds : List D}
theorem Sl.nil (h : ds = []) : Sl w B sz enc A ds := by subst h; exact ⟨by simp, fun h => absurd rfl h⟩
theorem Sl.at (h : Sl w B sz enc A ds) {k : Nat} (hk : k < ds.length) :
  ∃ b off d, A = some ⟨b, off, none⟩ ∧ b < B ∧ ds[k]? = some d ∧ ∀ j, j < sz → w.cell? ⟨b, off + k * sz + j, none⟩ = some (enc d j) := by
 obtain ⟨b, off, e, hb, hc⟩ := h.2 (by rintro rfl; simp at hk)
 exact ⟨b, off, ds[k], e, hb, List.getElem?_eq_getElem hk, fun j hj => hc k _ (List.getElem?_eq_getElem hk) j hj⟩
theorem Sl.keep (h : Sl w B sz enc A ds) (hk : ∀ p : Addr, p.block < B → w'.cell? p = w.cell? p) (hB : B ≤ B') : Sl w' B' sz enc A ds :=
 ⟨h.1, fun hn => by
  obtain ⟨b, off, e, hb, hc⟩ := h.2 hn
  exact ⟨b, off, e, by omega, fun k d hd j hj => (hk _ hb).trans (hc k d hd j hj)⟩⟩
theorem Sl.below (h : Sl w B sz enc A ds) (hb : Below B w w') : Sl w' B sz enc A ds := h.keep (fun _ hp => hb.cell hp) (Nat.le_refl _)
theorem Sl.mono (h : Sl w B sz enc A ds) (hB : B ≤ B') : Sl w B' sz enc A ds := h.keep (fun _ _ => rfl) hB
end
def encI (x : Int) (_ : Nat) : Value := .int .i64 x
def encB (x : Bool) (_ : Nat) : Value := .bool x
structure Leaf where
 letter : Int
 to : Int
structure Branch where
 letter : Int
 first : Int
 second : Int
 to : Int
def encL (l : Leaf) : Nat → Value
 | 0 => .int .i64 l.letter
 | _ => .int .i64 l.to
def encBr (b : Branch) : Nat → Value
 | 0 => .int .i64 b.letter
 | 1 => .int .i64 b.first
 | 2 => .int .i64 b.second
 | _ => .int .i64 b.to
structure TA where
 letters : Int
 states : Int
 accept : List Int
 leaves : List Leaf
 branches : List Branch
def IsTA (w : World) (B : Nat) (v : Value) (a : TA) : Prop :=
 ∃ A1 c1 A2 c2 A3 c3, v = .agg #[.int .i64 a.letters, .int .i64 a.states, .slice A1 a.accept.length c1, .slice A2 a.leaves.length c2, .slice A3 a.branches.length c3] ∧
  Sl w B 1 encI A1 a.accept ∧ Sl w B 2 encL A2 a.leaves ∧ Sl w B 4 encBr A3 a.branches
theorem IsTA.keep {w w' : World} {B B' : Nat} {v : Value} {a : TA} (h : IsTA w B v a) (hk : ∀ p : Addr, p.block < B → w'.cell? p = w.cell? p) (hB : B ≤ B') : IsTA w' B' v a := by
 obtain ⟨A1, c1, A2, c2, A3, c3, e, h1, h2, h3⟩ := h
 exact ⟨A1, c1, A2, c2, A3, c3, e, h1.keep hk hB, h2.keep hk hB, h3.keep hk hB⟩
theorem IsTA.below {w w' : World} {B : Nat} {v : Value} {a : TA} (h : IsTA w B v a) (hb : Below B w w') : IsTA w' B v a := h.keep (fun _ hp => hb.cell hp) (Nat.le_refl _)
theorem hide {p : Prop} (h : p) : Hid p := h
theorem run_mf (fn : Fn) (first cap : Array Value) (w : World) : (Instr.makeFunc fn first cap).run Tryz.prog w = .ok (.func fn first cap) w := rfl
def callVal (f : Value) (args : Array Value) : Sem Next := do
 let d ← Deferred.ofValue f args
 invoke d.target d.args
theorem execOp_call_tmp (ρ : Operand → Value) (dst : Option Tmp) (t : Tmp) (xs : Array Operand) (ats : Array TypeId) (ty : TypeId) (pos : String) (after : Array Edge) (guard : Option (Nat × Bool)) :
  execOp ρ { dst, op := .call { callee := .value (.tmp t), args := xs, argTypes := ats }, type := ty, pos, after, guard } = callVal (ρ (.tmp t)) (xs.map ρ) := rfl
theorem callVal_func (n : FuncId) (first caps args : Array Value) : callVal (.func (.func n) first caps) args = callFunc n (first ++ args ++ caps) := rfl
theorem run_callFunc_go {P : Program} {f : FuncId} {fn : Func} (hf : P.funcs[f]? = some fn) (hn : (fn.name == "runtime.NumGoroutine") = false) (hb : fn.body.isNone = false) (args : Array Value) (w : World) :
  (callFunc f args).run P w = .ok (.enter f args) w := by
 unfold callFunc
 simp only [Sem.run_bind, run_program, Result.andThen_ok, hf, hn, hb]
 rfl
theorem enter3 (args : Array Value) (w : World) : (callFunc 3 args).run Tryz.prog w = .ok (.enter 3 args) w := run_callFunc_go Tryz.func3 (by kernel_rfl) (by kernel_rfl) args w
theorem enter4 (args : Array Value) (w : World) : (callFunc 4 args).run Tryz.prog w = .ok (.enter 4 args) w := run_callFunc_go Tryz.func4 (by kernel_rfl) (by kernel_rfl) args w
theorem enter5 (args : Array Value) (w : World) : (callFunc 5 args).run Tryz.prog w = .ok (.enter 5 args) w := run_callFunc_go Tryz.func5 (by kernel_rfl) (by kernel_rfl) args w
theorem enter6 (args : Array Value) (w : World) : (callFunc 6 args).run Tryz.prog w = .ok (.enter 6 args) w := run_callFunc_go Tryz.func6 (by kernel_rfl) (by kernel_rfl) args w
theorem enter7 (args : Array Value) (w : World) : (callFunc 7 args).run Tryz.prog w = .ok (.enter 7 args) w := run_callFunc_go Tryz.func7 (by kernel_rfl) (by kernel_rfl) args w
theorem enter8 (args : Array Value) (w : World) : (callFunc 8 args).run Tryz.prog w = .ok (.enter 8 args) w := run_callFunc_go Tryz.func8 (by kernel_rfl) (by kernel_rfl) args w
theorem enter9 (args : Array Value) (w : World) : (callFunc 9 args).run Tryz.prog w = .ok (.enter 9 args) w := run_callFunc_go Tryz.func9 (by kernel_rfl) (by kernel_rfl) args w
theorem enter10 (args : Array Value) (w : World) : (callFunc 10 args).run Tryz.prog w = .ok (.enter 10 args) w := run_callFunc_go Tryz.func10 (by kernel_rfl) (by kernel_rfl) args w
theorem enter11 (args : Array Value) (w : World) : (callFunc 11 args).run Tryz.prog w = .ok (.enter 11 args) w := run_callFunc_go Tryz.func11 (by kernel_rfl) (by kernel_rfl) args w
theorem enter12 (args : Array Value) (w : World) : (callFunc 12 args).run Tryz.prog w = .ok (.enter 12 args) w := run_callFunc_go Tryz.func12 (by kernel_rfl) (by kernel_rfl) args w
theorem enter13 (args : Array Value) (w : World) : (callFunc 13 args).run Tryz.prog w = .ok (.enter 13 args) w := run_callFunc_go Tryz.func13 (by kernel_rfl) (by kernel_rfl) args w
theorem enter14 (args : Array Value) (w : World) : (callFunc 14 args).run Tryz.prog w = .ok (.enter 14 args) w := run_callFunc_go Tryz.func14 (by kernel_rfl) (by kernel_rfl) args w
theorem enter15 (args : Array Value) (w : World) : (callFunc 15 args).run Tryz.prog w = .ok (.enter 15 args) w := run_callFunc_go Tryz.func15 (by kernel_rfl) (by kernel_rfl) args w
theorem enter16 (args : Array Value) (w : World) : (callFunc 16 args).run Tryz.prog w = .ok (.enter 16 args) w := run_callFunc_go Tryz.func16 (by kernel_rfl) (by kernel_rfl) args w
theorem enter17 (args : Array Value) (w : World) : (callFunc 17 args).run Tryz.prog w = .ok (.enter 17 args) w := run_callFunc_go Tryz.func17 (by kernel_rfl) (by kernel_rfl) args w
theorem enter18 (args : Array Value) (w : World) : (callFunc 18 args).run Tryz.prog w = .ok (.enter 18 args) w := run_callFunc_go Tryz.func18 (by kernel_rfl) (by kernel_rfl) args w
theorem enter19 (args : Array Value) (w : World) : (callFunc 19 args).run Tryz.prog w = .ok (.enter 19 args) w := run_callFunc_go Tryz.func19 (by kernel_rfl) (by kernel_rfl) args w
theorem enter20 (args : Array Value) (w : World) : (callFunc 20 args).run Tryz.prog w = .ok (.enter 20 args) w := run_callFunc_go Tryz.func20 (by kernel_rfl) (by kernel_rfl) args w
theorem enter21 (args : Array Value) (w : World) : (callFunc 21 args).run Tryz.prog w = .ok (.enter 21 args) w := run_callFunc_go Tryz.func21 (by kernel_rfl) (by kernel_rfl) args w
theorem enter22 (args : Array Value) (w : World) : (callFunc 22 args).run Tryz.prog w = .ok (.enter 22 args) w := run_callFunc_go Tryz.func22 (by kernel_rfl) (by kernel_rfl) args w
theorem enter23 (args : Array Value) (w : World) : (callFunc 23 args).run Tryz.prog w = .ok (.enter 23 args) w := run_callFunc_go Tryz.func23 (by kernel_rfl) (by kernel_rfl) args w
theorem enter24 (args : Array Value) (w : World) : (callFunc 24 args).run Tryz.prog w = .ok (.enter 24 args) w := run_callFunc_go Tryz.func24 (by kernel_rfl) (by kernel_rfl) args w
theorem enter25 (args : Array Value) (w : World) : (callFunc 25 args).run Tryz.prog w = .ok (.enter 25 args) w := run_callFunc_go Tryz.func25 (by kernel_rfl) (by kernel_rfl) args w
theorem enter26 (args : Array Value) (w : World) : (callFunc 26 args).run Tryz.prog w = .ok (.enter 26 args) w := run_callFunc_go Tryz.func26 (by kernel_rfl) (by kernel_rfl) args w
theorem enter27 (args : Array Value) (w : World) : (callFunc 27 args).run Tryz.prog w = .ok (.enter 27 args) w := run_callFunc_go Tryz.func27 (by kernel_rfl) (by kernel_rfl) args w
theorem enter28 (args : Array Value) (w : World) : (callFunc 28 args).run Tryz.prog w = .ok (.enter 28 args) w := run_callFunc_go Tryz.func28 (by kernel_rfl) (by kernel_rfl) args w
theorem enter29 (args : Array Value) (w : World) : (callFunc 29 args).run Tryz.prog w = .ok (.enter 29 args) w := run_callFunc_go Tryz.func29 (by kernel_rfl) (by kernel_rfl) args w
theorem enter30 (args : Array Value) (w : World) : (callFunc 30 args).run Tryz.prog w = .ok (.enter 30 args) w := run_callFunc_go Tryz.func30 (by kernel_rfl) (by kernel_rfl) args w
theorem enter31 (args : Array Value) (w : World) : (callFunc 31 args).run Tryz.prog w = .ok (.enter 31 args) w := run_callFunc_go Tryz.func31 (by kernel_rfl) (by kernel_rfl) args w
theorem enter32 (args : Array Value) (w : World) : (callFunc 32 args).run Tryz.prog w = .ok (.enter 32 args) w := run_callFunc_go Tryz.func32 (by kernel_rfl) (by kernel_rfl) args w
theorem enter33 (args : Array Value) (w : World) : (callFunc 33 args).run Tryz.prog w = .ok (.enter 33 args) w := run_callFunc_go Tryz.func33 (by kernel_rfl) (by kernel_rfl) args w
theorem enter34 (args : Array Value) (w : World) : (callFunc 34 args).run Tryz.prog w = .ok (.enter 34 args) w := run_callFunc_go Tryz.func34 (by kernel_rfl) (by kernel_rfl) args w
theorem enter35 (args : Array Value) (w : World) : (callFunc 35 args).run Tryz.prog w = .ok (.enter 35 args) w := run_callFunc_go Tryz.func35 (by kernel_rfl) (by kernel_rfl) args w
theorem enter36 (args : Array Value) (w : World) : (callFunc 36 args).run Tryz.prog w = .ok (.enter 36 args) w := run_callFunc_go Tryz.func36 (by kernel_rfl) (by kernel_rfl) args w
theorem enter37 (args : Array Value) (w : World) : (callFunc 37 args).run Tryz.prog w = .ok (.enter 37 args) w := run_callFunc_go Tryz.func37 (by kernel_rfl) (by kernel_rfl) args w
theorem enter38 (args : Array Value) (w : World) : (callFunc 38 args).run Tryz.prog w = .ok (.enter 38 args) w := run_callFunc_go Tryz.func38 (by kernel_rfl) (by kernel_rfl) args w
theorem enter39 (args : Array Value) (w : World) : (callFunc 39 args).run Tryz.prog w = .ok (.enter 39 args) w := run_callFunc_go Tryz.func39 (by kernel_rfl) (by kernel_rfl) args w
theorem enter40 (args : Array Value) (w : World) : (callFunc 40 args).run Tryz.prog w = .ok (.enter 40 args) w := run_callFunc_go Tryz.func40 (by kernel_rfl) (by kernel_rfl) args w
theorem enter41 (args : Array Value) (w : World) : (callFunc 41 args).run Tryz.prog w = .ok (.enter 41 args) w := run_callFunc_go Tryz.func41 (by kernel_rfl) (by kernel_rfl) args w
theorem enter42 (args : Array Value) (w : World) : (callFunc 42 args).run Tryz.prog w = .ok (.enter 42 args) w := run_callFunc_go Tryz.func42 (by kernel_rfl) (by kernel_rfl) args w
theorem enter43 (args : Array Value) (w : World) : (callFunc 43 args).run Tryz.prog w = .ok (.enter 43 args) w := run_callFunc_go Tryz.func43 (by kernel_rfl) (by kernel_rfl) args w
theorem enter44 (args : Array Value) (w : World) : (callFunc 44 args).run Tryz.prog w = .ok (.enter 44 args) w := run_callFunc_go Tryz.func44 (by kernel_rfl) (by kernel_rfl) args w
theorem enter45 (args : Array Value) (w : World) : (callFunc 45 args).run Tryz.prog w = .ok (.enter 45 args) w := run_callFunc_go Tryz.func45 (by kernel_rfl) (by kernel_rfl) args w
theorem enter46 (args : Array Value) (w : World) : (callFunc 46 args).run Tryz.prog w = .ok (.enter 46 args) w := run_callFunc_go Tryz.func46 (by kernel_rfl) (by kernel_rfl) args w
theorem enter47 (args : Array Value) (w : World) : (callFunc 47 args).run Tryz.prog w = .ok (.enter 47 args) w := run_callFunc_go Tryz.func47 (by kernel_rfl) (by kernel_rfl) args w
theorem enter48 (args : Array Value) (w : World) : (callFunc 48 args).run Tryz.prog w = .ok (.enter 48 args) w := run_callFunc_go Tryz.func48 (by kernel_rfl) (by kernel_rfl) args w
theorem enter49 (args : Array Value) (w : World) : (callFunc 49 args).run Tryz.prog w = .ok (.enter 49 args) w := run_callFunc_go Tryz.func49 (by kernel_rfl) (by kernel_rfl) args w
theorem enter50 (args : Array Value) (w : World) : (callFunc 50 args).run Tryz.prog w = .ok (.enter 50 args) w := run_callFunc_go Tryz.func50 (by kernel_rfl) (by kernel_rfl) args w
theorem enter51 (args : Array Value) (w : World) : (callFunc 51 args).run Tryz.prog w = .ok (.enter 51 args) w := run_callFunc_go Tryz.func51 (by kernel_rfl) (by kernel_rfl) args w
theorem enter52 (args : Array Value) (w : World) : (callFunc 52 args).run Tryz.prog w = .ok (.enter 52 args) w := run_callFunc_go Tryz.func52 (by kernel_rfl) (by kernel_rfl) args w
theorem enter53 (args : Array Value) (w : World) : (callFunc 53 args).run Tryz.prog w = .ok (.enter 53 args) w := run_callFunc_go Tryz.func53 (by kernel_rfl) (by kernel_rfl) args w
theorem enter54 (args : Array Value) (w : World) : (callFunc 54 args).run Tryz.prog w = .ok (.enter 54 args) w := run_callFunc_go Tryz.func54 (by kernel_rfl) (by kernel_rfl) args w
theorem enter55 (args : Array Value) (w : World) : (callFunc 55 args).run Tryz.prog w = .ok (.enter 55 args) w := run_callFunc_go Tryz.func55 (by kernel_rfl) (by kernel_rfl) args w
theorem enter56 (args : Array Value) (w : World) : (callFunc 56 args).run Tryz.prog w = .ok (.enter 56 args) w := run_callFunc_go Tryz.func56 (by kernel_rfl) (by kernel_rfl) args w
theorem enter57 (args : Array Value) (w : World) : (callFunc 57 args).run Tryz.prog w = .ok (.enter 57 args) w := run_callFunc_go Tryz.func57 (by kernel_rfl) (by kernel_rfl) args w
theorem enter58 (args : Array Value) (w : World) : (callFunc 58 args).run Tryz.prog w = .ok (.enter 58 args) w := run_callFunc_go Tryz.func58 (by kernel_rfl) (by kernel_rfl) args w
theorem enter59 (args : Array Value) (w : World) : (callFunc 59 args).run Tryz.prog w = .ok (.enter 59 args) w := run_callFunc_go Tryz.func59 (by kernel_rfl) (by kernel_rfl) args w
theorem enter60 (args : Array Value) (w : World) : (callFunc 60 args).run Tryz.prog w = .ok (.enter 60 args) w := run_callFunc_go Tryz.func60 (by kernel_rfl) (by kernel_rfl) args w
theorem enter61 (args : Array Value) (w : World) : (callFunc 61 args).run Tryz.prog w = .ok (.enter 61 args) w := run_callFunc_go Tryz.func61 (by kernel_rfl) (by kernel_rfl) args w
theorem enter62 (args : Array Value) (w : World) : (callFunc 62 args).run Tryz.prog w = .ok (.enter 62 args) w := run_callFunc_go Tryz.func62 (by kernel_rfl) (by kernel_rfl) args w
theorem enter63 (args : Array Value) (w : World) : (callFunc 63 args).run Tryz.prog w = .ok (.enter 63 args) w := run_callFunc_go Tryz.func63 (by kernel_rfl) (by kernel_rfl) args w
theorem enter64 (args : Array Value) (w : World) : (callFunc 64 args).run Tryz.prog w = .ok (.enter 64 args) w := run_callFunc_go Tryz.func64 (by kernel_rfl) (by kernel_rfl) args w
theorem enter65 (args : Array Value) (w : World) : (callFunc 65 args).run Tryz.prog w = .ok (.enter 65 args) w := run_callFunc_go Tryz.func65 (by kernel_rfl) (by kernel_rfl) args w
theorem enter66 (args : Array Value) (w : World) : (callFunc 66 args).run Tryz.prog w = .ok (.enter 66 args) w := run_callFunc_go Tryz.func66 (by kernel_rfl) (by kernel_rfl) args w
theorem enter67 (args : Array Value) (w : World) : (callFunc 67 args).run Tryz.prog w = .ok (.enter 67 args) w := run_callFunc_go Tryz.func67 (by kernel_rfl) (by kernel_rfl) args w
theorem enter68 (args : Array Value) (w : World) : (callFunc 68 args).run Tryz.prog w = .ok (.enter 68 args) w := run_callFunc_go Tryz.func68 (by kernel_rfl) (by kernel_rfl) args w
theorem enter69 (args : Array Value) (w : World) : (callFunc 69 args).run Tryz.prog w = .ok (.enter 69 args) w := run_callFunc_go Tryz.func69 (by kernel_rfl) (by kernel_rfl) args w
theorem enter70 (args : Array Value) (w : World) : (callFunc 70 args).run Tryz.prog w = .ok (.enter 70 args) w := run_callFunc_go Tryz.func70 (by kernel_rfl) (by kernel_rfl) args w
theorem enter71 (args : Array Value) (w : World) : (callFunc 71 args).run Tryz.prog w = .ok (.enter 71 args) w := run_callFunc_go Tryz.func71 (by kernel_rfl) (by kernel_rfl) args w
theorem enter72 (args : Array Value) (w : World) : (callFunc 72 args).run Tryz.prog w = .ok (.enter 72 args) w := run_callFunc_go Tryz.func72 (by kernel_rfl) (by kernel_rfl) args w
theorem enter73 (args : Array Value) (w : World) : (callFunc 73 args).run Tryz.prog w = .ok (.enter 73 args) w := run_callFunc_go Tryz.func73 (by kernel_rfl) (by kernel_rfl) args w
theorem enter74 (args : Array Value) (w : World) : (callFunc 74 args).run Tryz.prog w = .ok (.enter 74 args) w := run_callFunc_go Tryz.func74 (by kernel_rfl) (by kernel_rfl) args w
theorem enter75 (args : Array Value) (w : World) : (callFunc 75 args).run Tryz.prog w = .ok (.enter 75 args) w := run_callFunc_go Tryz.func75 (by kernel_rfl) (by kernel_rfl) args w
theorem enter76 (args : Array Value) (w : World) : (callFunc 76 args).run Tryz.prog w = .ok (.enter 76 args) w := run_callFunc_go Tryz.func76 (by kernel_rfl) (by kernel_rfl) args w
theorem enter77 (args : Array Value) (w : World) : (callFunc 77 args).run Tryz.prog w = .ok (.enter 77 args) w := run_callFunc_go Tryz.func77 (by kernel_rfl) (by kernel_rfl) args w
theorem enter78 (args : Array Value) (w : World) : (callFunc 78 args).run Tryz.prog w = .ok (.enter 78 args) w := run_callFunc_go Tryz.func78 (by kernel_rfl) (by kernel_rfl) args w
theorem enter79 (args : Array Value) (w : World) : (callFunc 79 args).run Tryz.prog w = .ok (.enter 79 args) w := run_callFunc_go Tryz.func79 (by kernel_rfl) (by kernel_rfl) args w
theorem enter80 (args : Array Value) (w : World) : (callFunc 80 args).run Tryz.prog w = .ok (.enter 80 args) w := run_callFunc_go Tryz.func80 (by kernel_rfl) (by kernel_rfl) args w
theorem enter81 (args : Array Value) (w : World) : (callFunc 81 args).run Tryz.prog w = .ok (.enter 81 args) w := run_callFunc_go Tryz.func81 (by kernel_rfl) (by kernel_rfl) args w
theorem enter82 (args : Array Value) (w : World) : (callFunc 82 args).run Tryz.prog w = .ok (.enter 82 args) w := run_callFunc_go Tryz.func82 (by kernel_rfl) (by kernel_rfl) args w
theorem enter83 (args : Array Value) (w : World) : (callFunc 83 args).run Tryz.prog w = .ok (.enter 83 args) w := run_callFunc_go Tryz.func83 (by kernel_rfl) (by kernel_rfl) args w
theorem enter84 (args : Array Value) (w : World) : (callFunc 84 args).run Tryz.prog w = .ok (.enter 84 args) w := run_callFunc_go Tryz.func84 (by kernel_rfl) (by kernel_rfl) args w
theorem enter85 (args : Array Value) (w : World) : (callFunc 85 args).run Tryz.prog w = .ok (.enter 85 args) w := run_callFunc_go Tryz.func85 (by kernel_rfl) (by kernel_rfl) args w
theorem enter86 (args : Array Value) (w : World) : (callFunc 86 args).run Tryz.prog w = .ok (.enter 86 args) w := run_callFunc_go Tryz.func86 (by kernel_rfl) (by kernel_rfl) args w
theorem enter87 (args : Array Value) (w : World) : (callFunc 87 args).run Tryz.prog w = .ok (.enter 87 args) w := run_callFunc_go Tryz.func87 (by kernel_rfl) (by kernel_rfl) args w
theorem enter88 (args : Array Value) (w : World) : (callFunc 88 args).run Tryz.prog w = .ok (.enter 88 args) w := run_callFunc_go Tryz.func88 (by kernel_rfl) (by kernel_rfl) args w
theorem enter89 (args : Array Value) (w : World) : (callFunc 89 args).run Tryz.prog w = .ok (.enter 89 args) w := run_callFunc_go Tryz.func89 (by kernel_rfl) (by kernel_rfl) args w
theorem enter90 (args : Array Value) (w : World) : (callFunc 90 args).run Tryz.prog w = .ok (.enter 90 args) w := run_callFunc_go Tryz.func90 (by kernel_rfl) (by kernel_rfl) args w
theorem enter91 (args : Array Value) (w : World) : (callFunc 91 args).run Tryz.prog w = .ok (.enter 91 args) w := run_callFunc_go Tryz.func91 (by kernel_rfl) (by kernel_rfl) args w
theorem enter92 (args : Array Value) (w : World) : (callFunc 92 args).run Tryz.prog w = .ok (.enter 92 args) w := run_callFunc_go Tryz.func92 (by kernel_rfl) (by kernel_rfl) args w
theorem enter93 (args : Array Value) (w : World) : (callFunc 93 args).run Tryz.prog w = .ok (.enter 93 args) w := run_callFunc_go Tryz.func93 (by kernel_rfl) (by kernel_rfl) args w
theorem enter94 (args : Array Value) (w : World) : (callFunc 94 args).run Tryz.prog w = .ok (.enter 94 args) w := run_callFunc_go Tryz.func94 (by kernel_rfl) (by kernel_rfl) args w
theorem enter96 (args : Array Value) (w : World) : (callFunc 96 args).run Tryz.prog w = .ok (.enter 96 args) w := run_callFunc_go Tryz.func96 (by kernel_rfl) (by kernel_rfl) args w
theorem enter98 (args : Array Value) (w : World) : (callFunc 98 args).run Tryz.prog w = .ok (.enter 98 args) w := run_callFunc_go Tryz.func98 (by kernel_rfl) (by kernel_rfl) args w
theorem enter99 (args : Array Value) (w : World) : (callFunc 99 args).run Tryz.prog w = .ok (.enter 99 args) w := run_callFunc_go Tryz.func99 (by kernel_rfl) (by kernel_rfl) args w
theorem enter100 (args : Array Value) (w : World) : (callFunc 100 args).run Tryz.prog w = .ok (.enter 100 args) w := run_callFunc_go Tryz.func100 (by kernel_rfl) (by kernel_rfl) args w
theorem enter103 (args : Array Value) (w : World) : (callFunc 103 args).run Tryz.prog w = .ok (.enter 103 args) w := run_callFunc_go Tryz.func103 (by kernel_rfl) (by kernel_rfl) args w
theorem enter104 (args : Array Value) (w : World) : (callFunc 104 args).run Tryz.prog w = .ok (.enter 104 args) w := run_callFunc_go Tryz.func104 (by kernel_rfl) (by kernel_rfl) args w
theorem enter105 (args : Array Value) (w : World) : (callFunc 105 args).run Tryz.prog w = .ok (.enter 105 args) w := run_callFunc_go Tryz.func105 (by kernel_rfl) (by kernel_rfl) args w
theorem enter106 (args : Array Value) (w : World) : (callFunc 106 args).run Tryz.prog w = .ok (.enter 106 args) w := run_callFunc_go Tryz.func106 (by kernel_rfl) (by kernel_rfl) args w
theorem enter107 (args : Array Value) (w : World) : (callFunc 107 args).run Tryz.prog w = .ok (.enter 107 args) w := run_callFunc_go Tryz.func107 (by kernel_rfl) (by kernel_rfl) args w
theorem enter108 (args : Array Value) (w : World) : (callFunc 108 args).run Tryz.prog w = .ok (.enter 108 args) w := run_callFunc_go Tryz.func108 (by kernel_rfl) (by kernel_rfl) args w
theorem enter110 (args : Array Value) (w : World) : (callFunc 110 args).run Tryz.prog w = .ok (.enter 110 args) w := run_callFunc_go Tryz.func110 (by kernel_rfl) (by kernel_rfl) args w
theorem enter111 (args : Array Value) (w : World) : (callFunc 111 args).run Tryz.prog w = .ok (.enter 111 args) w := run_callFunc_go Tryz.func111 (by kernel_rfl) (by kernel_rfl) args w
theorem enter118 (args : Array Value) (w : World) : (callFunc 118 args).run Tryz.prog w = .ok (.enter 118 args) w := run_callFunc_go Tryz.func118 (by kernel_rfl) (by kernel_rfl) args w
theorem enter119 (args : Array Value) (w : World) : (callFunc 119 args).run Tryz.prog w = .ok (.enter 119 args) w := run_callFunc_go Tryz.func119 (by kernel_rfl) (by kernel_rfl) args w
theorem enter121 (args : Array Value) (w : World) : (callFunc 121 args).run Tryz.prog w = .ok (.enter 121 args) w := run_callFunc_go Tryz.func121 (by kernel_rfl) (by kernel_rfl) args w
theorem enter122 (args : Array Value) (w : World) : (callFunc 122 args).run Tryz.prog w = .ok (.enter 122 args) w := run_callFunc_go Tryz.func122 (by kernel_rfl) (by kernel_rfl) args w
theorem enter128 (args : Array Value) (w : World) : (callFunc 128 args).run Tryz.prog w = .ok (.enter 128 args) w := run_callFunc_go Tryz.func128 (by kernel_rfl) (by kernel_rfl) args w
attribute [go_sem ↓] execOp_call_tmp enter3 enter4 enter5 enter6 enter7 enter8 enter9 enter10 enter11 enter12 enter13 enter14 enter15 enter16 enter17 enter18 enter19 enter20 enter21 enter22 enter23 enter24 enter25 enter26 enter27 enter28 enter29 enter30 enter31 enter32 enter33 enter34 enter35 enter36 enter37 enter38 enter39 enter40 enter41 enter42 enter43 enter44 enter45 enter46 enter47 enter48 enter49 enter50 enter51 enter52 enter53 enter54 enter55 enter56 enter57 enter58 enter59 enter60 enter61 enter62 enter63 enter64 enter65 enter66 enter67 enter68 enter69 enter70 enter71 enter72 enter73 enter74 enter75 enter76 enter77 enter78 enter79 enter80 enter81 enter82 enter83 enter84 enter85 enter86 enter87 enter88 enter89 enter90 enter91 enter92 enter93 enter94 enter96 enter98 enter99 enter100 enter103 enter104 enter105 enter106 enter107 enter108 enter110 enter111 enter118 enter119 enter121 enter122 enter128
attribute [go_sem] callVal_func
end Go.Proofs.YtakpmdmjbgipiaaGreatDoor
namespace Go.Proofs.YtakpmdmjbgipiaaGreatDoor
open Go.RowKit
def IdxMap (w : World) (g : Nat) (ks : List Value) : Prop :=
 ∃ es clock, w.heap[g]? = some (.map es clock) ∧ es.toList.map (·.key) = ks ∧ es.toList.map (·.val) = (List.range ks.length).map fun (i : Nat) => Value.int .i64 (i : Int)
theorem IdxMap.keep {w w' : World} {g : Nat} {ks : List Value} (h : IdxMap w g ks) (hb : w'.heap[g]? = w.heap[g]?) : IdxMap w' g ks := by
 obtain ⟨es, clock, h1, h2⟩ := h
 exact ⟨es, clock, by rw [hb]; exact h1, h2⟩
theorem IdxMap.lt {w : World} {g : Nat} {ks : List Value} (h : IdxMap w g ks) : g < w.heap.size := by
 obtain ⟨es, clock, h1, h2⟩ := h
 exact (Array.getElem?_eq_some_iff.1 h1).1
theorem IdxMap.made (w : World) : IdxMap (w.alloc (.map #[] 0)) w.heap.size [] := ⟨#[], 0, heap_alloc_new w _, rfl, rfl⟩
structure KeyOK {S : Type} [DecidableEq S] (P : Program) (K : TypeId) (enc : S → Value) : Prop where
 check : ∀ em w s, (Instr.checkKey em 10000 K (enc s)).run P w = .ok () w
 find : ∀ w s (es : List MapEntry) (l : List S), es.map (·.key) = l.map enc →
  (Instr.findKey K (enc s) es).run P w = .ok (if s ∈ l then some (l.idxOf s, ((es[l.idxOf s]?).map (·.val)).getD .nilFunc) else none) w
section
variable {S : Type} [DecidableEq S] {P : Program} {K : TypeId}
theorem findNow_int (q : IntKind) (f : S → Int) (hf : ∀ a b, f a = f b → a = b) (s : S) (es : List MapEntry) : ∀ (l : List S) (i : Nat), es.map (·.key) = l.map (fun s => Value.int q (f s)) →
  Instr.findNow (.int q) (.int q (f s)) es i = some (if s ∈ l then some (i + l.idxOf s, ((es[l.idxOf s]?).map (·.val)).getD .nilFunc) else none) := by
 induction es with
 | nil =>
  intro l i h
  have : l = [] := by cases l <;> simp_all
  subst this
  simp [Instr.findNow]
 | cons e es ih =>
  intro l i h
  cases l with
  | nil => simp at h
  | cons t l =>
   simp only [List.map_cons, List.cons.injEq] at h
   obtain ⟨h1, h2⟩ := h
   unfold Instr.findNow
   rw [h1]
   simp only [Instr.sameNow, if_true]
   by_cases hst : s = t
   ·subst hst
    simp
   ·have hne : (f s == f t) = false := by simpa using fun e => hst (hf _ _ e)
    rw [hne]
    dsimp only
    rw [ih l (i + 1) h2]
    have hidx : (t :: l).idxOf s = l.idxOf s + 1 := by
     rw [List.idxOf_cons]
     have : (t == s) = false := by simpa using fun e => hst e.symm
     rw [this]; rfl
    by_cases hsl : s ∈ l
    ·simp only [hsl, hidx, List.mem_cons, or_true, if_true, List.getElem?_cons_succ, Option.some.injEq, Prod.mk.injEq, and_true]; omega
    ·simp [hsl, hst]
theorem keyOK_int (q : IntKind) (hK : P.underlying K = some (.int q)) (f : S → Int) (hf : ∀ a b, f a = f b → a = b) : KeyOK P K (fun s => Value.int q (f s)) where
 check := fun em w s => by
  rw [show (10000 : Nat) = 9999 + 1 from rfl]
  unfold Instr.checkKey
  simp [run_underlying hK]
 find := fun w s es l h => by
  unfold Instr.findKey
  simp only [Sem.run_bind, run_underlying hK, Result.andThen_ok]
  rw [findNow_int q f hf s es l 0 h]
  simp
theorem bytes_beq (a b : ByteArray) : (a == b) = (a.data == b.data) := rfl
theorem bytes_beq_self (a : ByteArray) : (a == a) = true := by rw [bytes_beq]; simp
theorem bytes_beq_ne {a b : ByteArray} (h : a ≠ b) : (a == b) = false := by rw [bytes_beq]; simp; intro e; exact h (ByteArray.ext e)
theorem findNow_string (f : S → ByteArray) (hf : ∀ a b, f a = f b → a = b) (s : S) (es : List MapEntry) : ∀ (l : List S) (i : Nat), es.map (·.key) = l.map (fun s => Value.string (f s)) →
  Instr.findNow .string (.string (f s)) es i = some (if s ∈ l then some (i + l.idxOf s, ((es[l.idxOf s]?).map (·.val)).getD .nilFunc) else none) := by
 induction es with
 | nil =>
  intro l i h
  have : l = [] := by cases l <;> simp_all
  subst this
  simp [Instr.findNow]
 | cons e es ih =>
  intro l i h
  cases l with
  | nil => simp at h
  | cons t l =>
   simp only [List.map_cons, List.cons.injEq] at h
   obtain ⟨h1, h2⟩ := h
   unfold Instr.findNow
   rw [h1]
   simp only [Instr.sameNow]
   by_cases hst : s = t
   ·subst hst
    have hb : (f s == f s) = true := bytes_beq_self _
    rw [hb]
    simp
   ·have hne : (f s == f t) = false := bytes_beq_ne fun e => hst (hf _ _ e)
    rw [hne]
    dsimp only
    rw [ih l (i + 1) h2]
    have hidx : (t :: l).idxOf s = l.idxOf s + 1 := by
     rw [List.idxOf_cons]
     have : (t == s) = false := by simpa using fun e => hst e.symm
     rw [this]; rfl
    by_cases hsl : s ∈ l
    ·simp only [hsl, hidx, List.mem_cons, or_true, if_true, List.getElem?_cons_succ, Option.some.injEq, Prod.mk.injEq, and_true]; omega
    ·simp [hsl, hst]
theorem keyOK_string (hK : P.underlying K = some .string) (f : S → ByteArray) (hf : ∀ a b, f a = f b → a = b) : KeyOK P K (fun s => Value.string (f s)) where
 check := fun em w s => by
  rw [show (10000 : Nat) = 9999 + 1 from rfl]
  unfold Instr.checkKey
  simp [run_underlying hK]
 find := fun w s es l h => by
  unfold Instr.findKey
  simp only [Sem.run_bind, run_underlying hK, Result.andThen_ok]
  rw [findNow_string f hf s es l 0 h]
  simp
theorem idx_val {es : Array MapEntry} {n i : Nat} (h : es.toList.map (·.val) = (List.range n).map fun (i : Nat) => Value.int .i64 (i : Int)) (hi : i < n) : ((es.toList[i]?).map (·.val)).getD .nilFunc = .int .i64 (i : Int) := by
 have : (es.toList.map (·.val))[i]? = some (Value.int .i64 (i : Int)) := by rw [h]; simp [hi]
 rw [List.getElem?_map] at this
 rw [this]; rfl
theorem run_idx_lookup {enc : S → Value} (hk : KeyOK P K enc) {T E : TypeId} (hT : P.underlying T = some (.map K E)) (hE : ∀ w, (zeroValue E).run P w = .ok (.int .i64 0) w) {w : World} {g : Nat} {l : List S}
  (h : IdxMap w g (l.map enc)) (s : S) :
  (Instr.lookup T (.map (some g)) (enc s) true).run P w = .ok (.tuple #[.int .i64 (if s ∈ l then (l.idxOf s : Int) else 0), .bool (decide (s ∈ l))]) w := by
 obtain ⟨es, clock, h1, h2, h3⟩ := h
 have hg : (getObj g).run P w = .ok (.map es clock) w := by simp [getObj, Sem.run, h1]
 have hf := hk.find w s es.toList l h2
 unfold Instr.lookup
 simp only [Sem.run_bind, run_underlying hT, Result.andThen_ok, hg, Sem.run_pure, hk.check, hf]
 by_cases hs : s ∈ l
 ·simp only [hs, if_true, decide_true]
  rw [idx_val h3 (by rw [List.length_map]; exact List.idxOf_lt_length_of_mem hs)]
  rfl
 ·simp only [hs, if_false, Result.andThen_ok, Sem.run_bind, hE, Sem.run_pure, decide_false, if_true]
theorem run_idx_store {enc : S → Value} (hk : KeyOK P K enc) {T E : TypeId} (hT : P.underlying T = some (.map K E)) {w : World} {g : Nat} {l : List S}
  (h : IdxMap w g (l.map enc)) (s : S) (hs : s ∉ l) :
  ∃ w', (Instr.mapUpdate T (.map (some g)) (enc s) (.int .i64 (l.length : Int))).run P w = .ok () w' ∧ IdxMap w' g ((l ++ [s]).map enc) ∧ w.grownBy w' (some g) ∧ w'.heap.size = w.heap.size := by
 obtain ⟨es, clock, h1, h2, h3⟩ := h
 have hg : (getObj g).run P w = .ok (.map es clock) w := by simp [getObj, Sem.run, h1]
 have hf := hk.find w s es.toList l h2
 rw [if_neg hs] at hf
 have hlt : g < w.heap.size := (Array.getElem?_eq_some_iff.1 h1).1
 have hset : ∀ o : Obj, (setObj g o).run P w = .ok () { w with heap := w.heap.setIfInBounds g o } := fun o => by
  simp [setObj, Sem.run, h1]
 refine ⟨{ w with heap := w.heap.setIfInBounds g (.map (es.push { key := enc s, val := .int .i64 (l.length : Int), born := clock }) (clock + 1)) }, ?_,
  ⟨es.push { key := enc s, val := .int .i64 (l.length : Int), born := clock }, clock + 1, ?_, ?_, ?_⟩, ⟨rfl, rfl, rfl, by simp, fun k hk hne => ?_⟩, by simp⟩
 ·unfold Instr.mapUpdate
  simp only [Sem.run_bind, run_underlying hT, Result.andThen_ok, hg, hk.check, hf, hset]
 ·simp [hlt]
 ·simp [h2]
 ·simp only [Array.toList_push, List.map_append, h3, List.map_cons, List.map_nil, List.length_append, List.length_cons, List.length_nil, List.length_map]
  rw [List.range_succ]
  simp
 ·have : k ≠ g := fun e => hne (by rw [e])
  simp [Array.getElem?_setIfInBounds_ne (fun e => this e.symm)]
end
end Go.Proofs.YtakpmdmjbgipiaaGreatDoor
namespace Go.Proofs.YtakpmdmjbgipiaaGreatDoor
open Go.RowKit
def Ret (V : Value → World → Prop) : Ending → World → Prop
 | .returned v, w => V v w
 | _, _ => False
theorem Calls.ret {P : Program} {f : FuncId} {args : Array Value} {w : World} {V : Value → World → Prop} {K : Ending → World → Prop} (h : Calls P f args w (Ret V)) (hK : ∀ v w', V v w' → K (.returned v) w') : Calls P f args w K :=
 h.mono fun e w' hr => by
  cases e with
  | returned v => exact hK v w' hr
  | panicked c => exact hr.elim
  | outgrown => exact hr.elim
theorem Calls.ret_eq {P : Program} {f : FuncId} {args : Array Value} {w : World} {V : Value → World → Prop} {v : Value} (h : Calls P f args w fun e w' => e = .returned v ∧ V v w') : Calls P f args w (Ret V) :=
 h.mono fun e w' ⟨he, hv⟩ => by subst he; exact hv
structure Kept (w w' : World) (X : Nat → Prop) : Prop where
 os : w'.os = w.os
 tape : w'.tape = w.tape
 output : w'.output = w.output
 size : w.heap.size ≤ w'.heap.size
 block : ∀ k, k < w.heap.size → ¬ X k → w'.heap[k]? = w.heap[k]?
section
variable {w w' w'' : World} {X Y : Nat → Prop}
theorem Kept.refl (w : World) (X : Nat → Prop) : Kept w w X := ⟨rfl, rfl, rfl, Nat.le_refl _, fun _ _ _ => rfl⟩
theorem Kept.trans (h : Kept w w' X) (k : Kept w' w'' Y) (hY : ∀ b, b < w.heap.size → Y b → X b) : Kept w w'' X :=
 ⟨k.os.trans h.os, k.tape.trans h.tape, k.output.trans h.output, Nat.le_trans h.size k.size,
  fun b hb hn => (k.block b (Nat.lt_of_lt_of_le hb h.size) fun hy => hn (hY b hb hy)).trans (h.block b hb hn)⟩
theorem Kept.mono (h : Kept w w' X) (hX : ∀ b, b < w.heap.size → X b → Y b) : Kept w w' Y := ⟨h.os, h.tape, h.output, h.size, fun b hb hn => h.block b hb fun hx => hn (hX b hb hx)⟩
theorem Kept.of_below (h : Below w.heap.size w w') (X : Nat → Prop) : Kept w w' X := ⟨h.os, h.tape, h.output, h.size, fun b hb _ => h.block b hb⟩
theorem Kept.of_grown {row : Option Nat} (h : w.grownBy w' row) : Kept w w' (fun b => row = some b) := ⟨h.os, h.tape, h.output, h.size, fun b hb hn => h.block b hb fun e => hn e.symm⟩
theorem Kept.drew (h : Kept w w' X) : Kept w w'.drew X := ⟨h.os, h.tape, h.output, h.size, h.block⟩
theorem Kept.drewN (h : Kept w w' X) (n : Nat) : Kept w (w'.drewN n) X := ⟨h.os, h.tape, h.output, h.size, h.block⟩
theorem Kept.alloc (h : Kept w w' X) (o : Obj) : Kept w (w'.alloc o) X :=
 ⟨h.os, h.tape, h.output, Nat.le_trans h.size (by simp), fun b hb hn => (Below.heap_alloc _ _ _ (Nat.lt_of_lt_of_le hb h.size)).trans (h.block b hb hn)⟩
theorem Kept.setCell (h : Kept w w' X) {p : Addr} (hp : p.block < w.heap.size → X p.block) (u : Value) : Kept w (w'.setCell p u) X :=
 ⟨h.os, h.tape, h.output, by simpa [World.setCell] using h.size, fun b hb hn => (Below.heap_setCell _ _ _ _ (fun e => hn (by subst e; exact hp hb))).trans (h.block b hb hn)⟩
theorem Kept.below (h : Kept w w' X) {B : Nat} (hB : B ≤ w.heap.size) (hX : ∀ b, b < B → ¬ X b) : Below B w w' := ⟨h.os, h.tape, h.output, h.size, fun b hb => h.block b (by omega) (hX b hb)⟩
theorem Kept.below' (h : Kept w w' X) (hX : ∀ b, b < w.heap.size → ¬ X b) : Below w.heap.size w w' := h.below (Nat.le_refl _) hX
theorem Kept.same (h : Kept w w' X) {o : Obj} {b : Nat} (hb : w.heap[b]? = some o) (hn : ¬ X b) : w'.heap[b]? = some o := by
 rw [h.block b (Array.getElem?_eq_some_iff.1 hb).1 hn]; exact hb
theorem Kept.cell (h : Kept w w' X) {p : Addr} (hb : p.block < w.heap.size) (hn : ¬ X p.block) : w'.cell? p = w.cell? p := World.cell?_of_block (h.block p.block hb hn)
theorem Kept.ownsRow (h : Kept w w' X) {base n size : Nat} {e : TypeId} {v : Value} {xs : List Value} (ho : w.ownsRow base e size v n xs) (hn : ∀ g, v.ownBlock = some g → ¬ X g) : w'.ownsRow base e size v n xs := by
 refine ⟨ho.1, ?_⟩
 rcases ho.2 with hx | ⟨g, cap, cur, rfl, hb, hg, rest⟩
 ·exact .inl hx
 ·exact .inr ⟨g, cap, cur, rfl, hb, h.same hg (hn g rfl), rest⟩
end
def Blk (w : World) (g : Nat) (t : TypeId) (cs : Array Value) : Prop := w.heap[g]? = some (.cells cs t (0, 0))
section
variable {w w' : World} {g : Nat} {t : TypeId} {cs : Array Value} {X : Nat → Prop}
theorem Blk.lt (h : Blk w g t cs) : g < w.heap.size := (Array.getElem?_eq_some_iff.1 h).1
theorem Blk.cell (h : Blk w g t cs) (i : Nat) : w.cell? ⟨g, i, none⟩ = cs[i]? := cell_of_row w g i cs t (0, 0) h
theorem Blk.frozen (h : Blk w g t cs) (i : Nat) : w.frozen? ⟨g, i, none⟩ = false := by
 unfold Blk at h
 simp [World.frozen?, h]
theorem Blk.new (w : World) (t : TypeId) (cs : Array Value) : Blk (w.alloc (.cells cs t)) w.heap.size t cs := heap_alloc_new w _
theorem Blk.set_ (h : Blk w g t cs) (i : Nat) (u : Value) : Blk (w.setCell ⟨g, i, none⟩ u) g t (cs.setIfInBounds i u) := by
 unfold Blk at h ⊢
 simp [World.setCell, Array.getElem?_modify, h]
theorem Blk.kept (h : Blk w g t cs) (hk : Kept w w' X) (hn : ¬ X g) : Blk w' g t cs := hk.same h hn
theorem Blk.ne_ {g' : Nat} {t' : TypeId} {cs' : Array Value} (h : Blk w g t cs) (h' : Blk w g' t' cs') (hne : t ≠ t') : g ≠ g' := by
 rintro rfl
 unfold Blk at h h'
 rw [h] at h'
 injection h' with h'
 injection h' with _ ht
 exact hne ht
theorem own_blk_ne {base size n : Nat} {e : TypeId} {v : Value} {xs : List Value} (h : w.ownsRow base e size v n xs) (hg : Blk w g t cs) (hne : e ≠ t) : v.ownBlock ≠ some g := by
 rcases h.2 with ⟨rfl, _⟩ | ⟨g', cap, cur, rfl, _, hh, _⟩
 ·simp [Value.ownBlock]
 ·intro he
  have : g' = g := by simpa [Value.ownBlock] using he
  subst this
  exact Blk.ne_ (t := e) hh hg hne rfl
theorem own_own_ne {base size n base' size' n' : Nat} {e e' : TypeId} {v v' : Value} {xs xs' : List Value} (h : w.ownsRow base e size v n xs) (h' : w.ownsRow base' e' size' v' n' xs') (hne : e ≠ e') {k : Nat} (hk : v.ownBlock = some k) : v'.ownBlock ≠ some k := by
 rcases h.2 with ⟨rfl, _⟩ | ⟨g', cap, cur, rfl, _, hh, _⟩
 ·simp [Value.ownBlock] at hk
 ·have : g' = k := by simpa [Value.ownBlock] using hk
  subst this
  exact own_blk_ne h' hh fun e => hne e.symm
theorem own_map_ne {base size n : Nat} {e : TypeId} {v : Value} {xs : List Value} {ks : List Value} (h : w.ownsRow base e size v n xs) (hg : IdxMap w g ks) : v.ownBlock ≠ some g := by
 rcases h.2 with ⟨rfl, _⟩ | ⟨g', cap, cur, rfl, _, hh, _⟩
 ·simp [Value.ownBlock]
 ·intro he
  have : g' = g := by simpa [Value.ownBlock] using he
  subst this
  obtain ⟨es, clock, h1, _⟩ := hg
  rw [hh] at h1; cases h1
theorem blk_map_ne {g' : Nat} {ks : List Value} (h : Blk w g t cs) (hg : IdxMap w g' ks) : g ≠ g' := by
 rintro rfl
 obtain ⟨es, clock, h1, _⟩ := hg
 unfold Blk at h
 rw [h] at h1; cases h1
theorem IdxMap.kept {ks : List Value} (h : IdxMap w g ks) (hk : Kept w w' X) (hn : ¬ X g) : IdxMap w' g ks := h.keep (hk.block g h.lt hn)
end
def Moved (w : World) (v v' : Value) : Prop := v'.ownBlock = v.ownBlock ∨ ∃ g, v'.ownBlock = some g ∧ w.heap.size ≤ g
theorem Moved.refl (w : World) (v : Value) : Moved w v v := .inl rfl
theorem Moved.trans {w w' : World} {a b c : Value} (h : Moved w a b) (hs : w.heap.size ≤ w'.heap.size) (k : Moved w' b c) : Moved w a c := by
 rcases k with k | ⟨g, k, hg⟩
 ·rcases h with h | ⟨g, h, hg⟩
  ·exact .inl (k.trans h)
  ·exact .inr ⟨g, k.trans h, hg⟩
 ·exact .inr ⟨g, k, by omega⟩
theorem Moved.ne {w : World} {a b : Value} (h : Moved w a b) {k : Nat} (hk : k < w.heap.size) (hn : a.ownBlock ≠ some k) : b.ownBlock ≠ some k := by
 rcases h with h | ⟨g, h, hg⟩
 ·rw [h]; exact hn
 ·rw [h]; intro e; injection e with e; omega
structure RowTy (P : Program) (t e : TypeId) (size : Nat) : Prop where
 ht : P.underlying t = some (.slice e)
 info : ∃ i z bytes, P.info? e = some i ∧ i.zero = some z ∧ i.size = size ∧ i.bytes = bytes ∧ z.cells.size = size ∧ bytes ≤ 200
 pos : 0 < size
theorem rowTy_of {P : Program} {t e size bytes : Nat} {z : Value} (ht : P.underlying t = some (.slice e)) (hi : (P.info? e).map (fun i => (i.zero, i.size, i.bytes)) = some (some z, size, bytes)) (hz : z.cells.size = size) (hb : bytes ≤ 200) (hp : 0 < size) : RowTy P t e size := by
 obtain ⟨i, h1, h2, h3, h4⟩ := info_parts hi
 exact ⟨ht, ⟨i, z, bytes, h1, h2, h3, h4, hz, hb⟩, hp⟩
theorem slice_of_own {w : World} {base e size n : Nat} {v : Value} {xs : List Value} (h : w.ownsRow base e size v n xs) : ∃ A c, v = .slice A n c := by
 rcases h.2 with ⟨rfl, h0⟩ | ⟨g, cap, cur, rfl, _⟩
 ·exact ⟨none, 0, by rw [h0]⟩
 ·exact ⟨_, _, rfl⟩
section
variable {P : Program} {ops : Array Oper} {rest : List Oper} {o : Oper} {a : Act} {Q : Exit → Act → World → Prop}
theorem wpList_app {w : World} {t e size : Nat} (R : RowTy P t e size) (hgd : o.guard = none) (s x : Operand)
  (ho : o.op = .call { callee := .builtin .append, args := #[s, x], argTypes := #[t, t] })
  (base : Nat) (v : Value) (n : Nat) (xs : List Value) (hs : a.eval s = v) (hown : w.ownsRow base e size v n xs)
  (ad : Addr) (m c : Nat) (news : List Value) (hx : a.eval x = .slice (some ad) m c) (hl : news.length = m * size) (hnews : ∀ j u, news[j]? = some u → w.cell? (ad.add j) = some u) (h1 : ∀ u ∈ news, u.oneCell' = true)
  (hm : 0 < m) (hn : n + m ≤ 4000000) (hbase : base ≤ w.heap.size)
  (h : ∀ g cap w', w'.ownsRow base e size (.slice (some ⟨g, 0, none⟩) (n + m) cap) (n + m) (xs ++ news) → Kept w w' (fun k => v.ownBlock = some k) → Moved w v (.slice (some ⟨g, 0, none⟩) (n + m) cap) → g < w'.heap.size →
   wpList P ops Q rest (a.put o.dst (.slice (some ⟨g, 0, none⟩) (n + m) cap)) w') :
  wpList P ops Q (o :: rest) a w := by
 obtain ⟨i, z, bytes, hi, hz, hsize, hby, hzs, hb⟩ := R.info
 refine wpList_append_own_at w hgd s x t ho base e i z size bytes R.ht hi hz hsize hby hzs R.pos v n xs hs hown ad m c news hx hl hnews h1 (by unfold maxLen; omega) ?_ hbase ?_
 ·exact Nat.le_trans (Nat.mul_le_mul hn hb) (by decide)
 ·intro v' w' hown' hgrow hnil hat
  rcases hown'.2 with ⟨rfl, h0⟩ | ⟨g, cap, cur, rfl, hb2, hh, _⟩
  ·exact absurd h0 (by omega)
  ·refine h g cap w' hown' ?_ ?_ (Array.getElem?_eq_some_iff.1 hh).1
   ·exact ⟨hgrow.os, hgrow.tape, hgrow.output, hgrow.size, fun k hk hn => hgrow.block k hk fun e => hn e.symm⟩
   ·rcases hat with hat | hat
    ·exact .inl hat
    ·exact .inr ⟨_, hat, Nat.le_refl _⟩
theorem wpList_app_new {w : World} {t e size : Nat} (R : RowTy P t e size) (hgd : o.guard = none) (s x : Operand)
  (ho : o.op = .call { callee := .builtin .append, args := #[s, x], argTypes := #[t, t] })
  (base : Nat) (v : Value) (n : Nat) (xs : List Value) (hs : a.eval s = v) (hown : w.ownsRow base e size v n xs) (cs : List Value) (c : Nat)
  (hx : a.eval x = .slice (some ⟨w.heap.size, 0, none⟩) 1 c) (hl : cs.length = size) (h1 : ∀ u ∈ cs, u.oneCell' = true)
  (hn : n + 1 ≤ 4000000) (hbase : base ≤ w.heap.size)
  (h : ∀ g cap w', w'.ownsRow base e size (.slice (some ⟨g, 0, none⟩) (n + 1) cap) (n + 1) (xs ++ cs) → Kept w w' (fun k => v.ownBlock = some k) → Moved w v (.slice (some ⟨g, 0, none⟩) (n + 1) cap) → g < w'.heap.size →
   wpList P ops Q rest (a.put o.dst (.slice (some ⟨g, 0, none⟩) (n + 1) cap)) w') :
  wpList P ops Q (o :: rest) a (w.alloc (.cells cs.toArray e)) := by
 refine wpList_app R hgd s x ho base v n xs hs (hown.alloc _) ⟨w.heap.size, 0, none⟩ 1 c cs hx (by rw [hl]; omega) ?_ h1 (by omega) hn (by simp; omega) ?_
 ·intro j u hj
  have hadd : (⟨w.heap.size, 0, none⟩ : Addr).add j = ⟨w.heap.size, j, none⟩ := by unfold Addr.add; split <;> simp_all
  rw [hadd, cell_of_row _ w.heap.size j cs.toArray e (0, 0) (heap_alloc_new w _)]
  simpa using hj
 ·intro g cap w' hown' hk hmv hg
  refine h g cap w' hown' (((Kept.refl w (fun k => v.ownBlock = some k)).alloc (.cells cs.toArray e)).trans hk fun b _ hb => hb) ?_ hg
  rcases hmv with hmv | ⟨g', hmv, hg'⟩
  ·exact .inl hmv
  ·refine .inr ⟨g', hmv, ?_⟩
   simp at hg'
   omega
end
end Go.Proofs.YtakpmdmjbgipiaaGreatDoor
