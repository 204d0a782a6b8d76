/-
  Part XA of a proof.
-/
import Derived.WalkKit
import Derived.Laws.Panics
import Derived.Deep.MidRow
set_option maxHeartbeats 16000000
set_option maxRecDepth 100000
namespace Go.Proofs.YtbjdgepfhhafjaaDoor
namespace Reg
def Ext (w w' : World) : Prop := ∀ k, k < w.heap.size → w'.heap[k]? = w.heap[k]?
theorem Ext.refl (w : World) : Ext w w := fun _ _ => rfl
theorem Ext.some {w w' : World} (h : Ext w w') {k : Nat} {o : Obj} (hk : w.heap[k]? = some o) : w'.heap[k]? = some o := by
 rw [h k (Array.getElem?_eq_some_iff.1 hk).1]; exact hk
def Calm {α : Type} (P : Program) (s : Sem α) : Prop := (∃ v, ∀ w, s.run P w = .ok v w) ∨ (∀ w, ∃ h w', s.run P w = .halt h w')
section
variable {α β : Type} {P : Program}
theorem Calm.pure (v : α) : Calm P (Pure.pure v : Sem α) := .inl ⟨v, fun _ => rfl⟩
theorem Calm.halt (h : Halt) : Calm P (Sem.halt h : Sem α) := .inr fun w => ⟨h, w, rfl⟩
theorem Calm.haltBind (h : Halt) (f : α → Sem β) : Calm P (Sem.halt h >>= f) := .inr fun w => ⟨h, w, rfl⟩
theorem Calm.stuckBind (s : String) (f : α → Sem β) : Calm P (Go.stuck s >>= f) := Calm.haltBind _ f
theorem Calm.stuck (s : String) : Calm P (Go.stuck s : Sem α) := Calm.halt _
theorem Calm.unsupported (s : Unsupported) : Calm P (Go.unsupported s : Sem α) := Calm.halt _
theorem Calm.bind {s : Sem α} {f : α → Sem β} (hs : Calm P s) (hf : ∀ v, Calm P (f v)) : Calm P (s >>= f) := by
 rcases hs with ⟨v, hv⟩ | hh
 ·rcases hf v with ⟨u, hu⟩ | hh
  ·exact .inl ⟨u, fun w => by rw [Sem.run_bind, hv]; exact hu w⟩
  ·exact .inr fun w => by rw [Sem.run_bind, hv]; exact hh w
 ·exact .inr fun w => by
   obtain ⟨h, w', e⟩ := hh w
   exact ⟨h, w', by rw [Sem.run_bind, e]; rfl⟩
theorem Calm.program {f : Program → Sem β} (hf : Calm P (f P)) : Calm P (Go.program >>= f) := by
 rcases hf with ⟨u, hu⟩ | hh
 ·exact .inl ⟨u, fun w => by rw [Sem.run_bind, run_program]; exact hu w⟩
 ·exact .inr fun w => by rw [Sem.run_bind, run_program]; exact hh w
theorem Calm.ite {c : Prop} [Decidable c] {x y : Sem α} (hx : Calm P x) (hy : Calm P y) : Calm P (if c then x else y) := by
 split
 ·exact hx
 ·exact hy
theorem Calm.boundsPanic (k : IntKind) (x y : Int) (code : BoundsCode) : Calm P (Go.boundsPanic k x y code : Sem α) := .inr fun w => by
 obtain ⟨s, w', h⟩ := run_boundsPanic (α := α) (P := P) (w := w) k x y code
 exact ⟨_, w', h⟩
theorem Calm.underlying (t : TypeId) : Calm P (Go.underlying t) := by
 unfold Go.underlying
 refine Calm.program ?_
 split
 ·exact Calm.pure _
 ·exact Calm.stuck _
theorem Calm.typeInfo (t : TypeId) : Calm P (Go.typeInfo t) := by
 unfold Go.typeInfo
 refine Calm.program ?_
 split
 ·exact Calm.pure _
 ·exact Calm.stuck _
theorem Calm.sizeOf (t : TypeId) : Calm P (Go.sizeOf t) := Calm.bind (Calm.typeInfo t) fun _ => Calm.pure _
theorem Calm.nilDeref : Calm P (Go.runtimePanic .nilDeref : Sem α) := by
 unfold Go.runtimePanic
 exact Calm.program (Calm.halt _)
theorem Calm.error (s : String) : Calm P (Go.runtimePanic (.error s) : Sem α) := by
 unfold Go.runtimePanic
 exact Calm.program (Calm.halt _)
theorem Calm.asIntOf (v : Value) : Calm P (Go.asIntOf v) := by
 unfold Go.asIntOf
 split
 ·exact Calm.pure _
 ·exact Calm.unsupported _
 ·exact Calm.stuck _
theorem Calm.asBool (v : Value) : Calm P (Go.asBool v) := by
 unfold Go.asBool
 split
 ·exact Calm.pure _
 ·exact Calm.stuck _
theorem Calm.sureAddr (v : Value) : Calm P (Instr.sureAddr v) := by
 unfold Instr.sureAddr
 split
 ·exact Calm.pure _
 ·exact Calm.stuck _
theorem Calm.ok {s : Sem α} (h : Calm P s) {w w1 : World} {v : α} (e : s.run P w = .ok v w1) : w1 = w ∧ ∀ w', s.run P w' = .ok v w' := by
 rcases h with ⟨u, hu⟩ | hh
 ·have := hu w
  rw [e] at this
  injection this with h1 h2
  subst h1; subst h2
  exact ⟨rfl, hu⟩
 ·obtain ⟨x, y, hx⟩ := hh w
  rw [e] at hx; cases hx
end
def fieldOk (P : Program) (s : TypeId) (f : Nat) : Bool :=
 match P.underlying s with
 | some (.struct fs) => match fs[f]? with
  | some fl => match P.info? fl.type with
   | some i => i.size != 0
   | none => true
  | none => true
 | _ => true
def lenOk (P : Program) (ts : Array TypeId) : Bool :=
 match ts[0]? with
 | some t => match P.underlying t with
  | some (.slice _) => true
  | some .string => true
  | _ => false
 | none => false
def calmOp (P : Program) : Op → Bool
 | .move _ | .assign _ | .pick .. | .extract .. | .makeFunc .. | .unOp .. | .indexAddr .. | .nilCheck _ => true
 | .fieldAddr s _ f => fieldOk P s f
 | .call { callee := .builtin .len, argTypes := ts, .. } => lenOk P ts
 | _ => false
def intOp : Op → Bool
 | .binOp .. => true
 | _ => false
def isInt : Value → Bool
 | .int .. => true
 | _ => false
def intFine (ρ : Operand → Value) : Op → Bool
 | .binOp _ _ x y _ => isInt (ρ x) && isInt (ρ y)
 | _ => true
theorem Calm.value {P : Program} {s : Sem Value} (h : Calm P s) : Calm P (s >>= fun v => (Pure.pure (Next.value v) : Sem Next)) := Calm.bind h fun _ => Calm.pure _
def CalmV (P : Program) (s : Sem Next) : Prop := (∃ u, ∀ w, s.run P w = .ok (.value u) w) ∨ (∀ w, ∃ h w', s.run P w = .halt h w')
theorem Calm.valueV {P : Program} {s : Sem Value} (h : Calm P s) : CalmV P (s >>= fun v => (Pure.pure (Next.value v) : Sem Next)) := by
  rcases h with ⟨v, hv⟩ | hh
  · exact .inl ⟨v, fun w => by rw [Sem.run_bind, hv]; rfl⟩
  · exact .inr fun w => by
      obtain ⟨x, y, e⟩ := hh w
      exact ⟨x, y, by rw [Sem.run_bind, e]; rfl⟩
theorem calm_unary {P : Program} (op : UnOp) (x : Value) : Calm P (Op.unary op x) := by
 unfold Op.unary
 split
 all_goals first
  | exact Calm.pure _
  | exact Calm.stuck _
  | exact Calm.unsupported _
  | (unfold Op.intArith; split <;> first | exact Calm.pure _ | exact Calm.stuck _)
  | (unfold Op.intBits; dsimp only; split <;> first | exact Calm.pure _ | exact Calm.stuck _)
theorem calm_extract {P : Program} (t : Value) (i : Nat) : Calm P (Instr.extract t i) := by
 unfold Instr.extract
 split
 ·split
  ·exact Calm.pure _
  ·exact Calm.stuck _
 ·exact Calm.stuck _
theorem calm_indexAt {P : Program} (t : TypeId) (x i : Value) : Calm P (Instr.indexAt t x i) := by
 unfold Instr.indexAt
 refine Calm.bind (Calm.asIntOf i) ?_
 rintro ⟨k, n⟩
 refine Calm.bind (Calm.underlying t) ?_
 intro d
 have key : ∀ (msg : String) (base : Option Addr) (len : Nat) (elem : TypeId), Calm P (do
   let d' ← Go.underlying t
   have tiny : Bool := decide (len ≤ 1) && (match d' with | .array .. => true | _ => false)
   match base with
   | some a =>
    if 0 ≤ n ∧ n < (len : Int) then do
     let z ← Go.sizeOf elem
     pure (Value.pointer (some (a.add (n.toNat * z))))
    else if tiny = true then Go.unsupported (.noEntry msg)
    else Go.boundsPanic k n (len : Int) .index
   | none => Go.boundsPanic k n 0 .index) := by
  intro msg base len elem
  refine Calm.bind (Calm.underlying t) ?_
  intro d'
  dsimp only
  split
  ·exact Calm.ite (Calm.bind (Calm.sizeOf _) fun _ => Calm.pure _) (Calm.ite (Calm.unsupported _) (Calm.boundsPanic _ _ _ _))
  ·exact Calm.boundsPanic _ _ _ _
 dsimp only
 split
 ·exact Calm.bind (Calm.sureAddr _) fun a => key _ (some a) _ _
 ·exact key _ _ _ _
 ·exact Calm.stuckBind _ _
theorem calm_fieldAt {P : Program} (s : TypeId) (x : Value) (f : Nat) (h : fieldOk P s f = true) : Calm P (Instr.fieldAt s x f) := by
 unfold Instr.fieldAt Go.underlying
 rw [bind_assoc]
 refine Calm.program ?_
 unfold fieldOk at h
 cases hd : P.underlying s with
 | none => exact Calm.stuckBind _ _
 | some d =>
  rw [hd] at h
  dsimp only at h ⊢
  rw [pure_bind]
  cases d <;> try exact Calm.stuck _
  rename_i fs
  dsimp only at h ⊢
  cases hf : fs[f]? with
  | none => exact Calm.stuck _
  | some fl =>
   rw [hf] at h
   dsimp only at h ⊢
   refine Calm.bind (Calm.sureAddr _) ?_
   intro a
   refine Calm.bind ?_ fun _ => Calm.pure _
   unfold fieldPlace Go.sizeOf Go.typeInfo
   simp only [bind_assoc]
   refine Calm.program ?_
   cases hi : P.info? fl.type with
   | none => exact Calm.stuckBind _ _
   | some i =>
    rw [hi] at h
    dsimp only at h ⊢
    simp only [pure_bind]
    have : i.size ≠ 0 := by simpa using h
    rw [if_neg this]
    exact Calm.pure _
theorem calm_len {P : Program} (ts : Array TypeId) (ty : TypeId) (args : Array Value) (h : lenOk P ts = true) : Calm P (Builtin.len_ ts ty args) := by
 unfold Builtin.len_
 unfold lenOk at h
 cases ht : ts[0]? with
 | none => rw [ht] at h; simp at h
 | some t =>
 rw [ht] at h
 cases hx : args[0]? with
 | none => exact Calm.stuck _
 | some x =>
  dsimp only at h ⊢
  unfold Go.underlying
  rw [bind_assoc]
  refine Calm.program ?_
  cases hd : P.underlying t with
  | none => exact Calm.stuckBind _ _
  | some d =>
   rw [hd] at h
   dsimp only at h ⊢
   rw [pure_bind]
   cases d <;> first | (simp at h; done) | skip
   all_goals (cases x <;> first | exact Calm.pure _ | exact Calm.stuck _)
theorem calm_binInt {P : Program} (op : BinOp) (t : TypeId) (x y : Operand) (k k' : IntKind) (a b : Int) :
    Calm P (do eqGuard op t x y (.int k a) (.int k' b); binOp op t (.int k a) (.int k' b)) := by
  have h1 : Calm P (eqGuard op t x y (.int k a) (.int k' b)) := by
    unfold eqGuard
    cases op <;> exact Calm.pure _
  refine Calm.bind h1 fun _ => ?_
  have hA : ∀ o, Calm P (Op.intArith o k a b) := fun o => by unfold Op.intArith; split <;> first | exact Calm.pure _ | exact Calm.stuck _
  have hD : ∀ o, Calm P (Op.intDiv o k a b) := fun o => by
    unfold Op.intDiv; split
    · exact Calm.error _
    · split <;> first | exact Calm.pure _ | exact Calm.stuck _
  have hB : ∀ o, Calm P (Op.intBits o k a b) := fun o => by unfold Op.intBits; dsimp only; split <;> first | exact Calm.pure _ | exact Calm.stuck _
  have hC : ∀ o, Calm P (Op.intCmp o a b) := fun o => by unfold Op.intCmp; split <;> first | exact Calm.pure _ | exact Calm.stuck _
  have hS : ∀ o, Calm P (Op.shift o k a k' b) := fun o => by
    unfold Op.shift; split
    · exact Calm.error _
    · dsimp only; split <;> first | exact Calm.pure _ | exact Calm.stuck _
  cases op <;> simp only [binOp] <;> first
    | exact hS _
    | (split
       · exact Calm.stuck _
       · first | exact hA _ | exact hD _ | exact hB _ | exact hC _)
theorem calm_isAgg {P : Program} (t : TypeId) : Calm P (isAgg t) := by
 unfold isAgg
 refine Calm.bind (Calm.underlying t) fun d => ?_
 split <;> exact Calm.pure _
theorem calm_part {P : Program} (t : TypeId) (cs : Array Value) (off : Nat) : Calm P (part t cs off) := by
 unfold part
 refine Calm.bind (calm_isAgg t) fun b => ?_
 split
 ·exact Calm.bind (Calm.sizeOf _) fun _ => Calm.pure _
 ·split
  ·exact Calm.pure _
  ·exact Calm.stuck _
theorem calm_followBlind {P : Program} (l : List FieldStep) : ∀ (t : TypeId) (x : Option Value), Calm P (followBlind l t x) := by
 induction l with
 | nil => exact fun t x => Calm.pure _
 | cons s rest ih =>
  intro t x
  unfold followBlind
  refine Calm.bind (Calm.underlying _) fun d => ?_
  split
  ·split
   ·split
    ·exact Calm.pure _
    ·exact ih _ _
    ·exact Calm.stuck _
    ·exact Calm.pure _
    ·exact Calm.bind (calm_part _ _ _) fun _ => ih _ _
    ·exact Calm.stuck _
    ·exact ih _ _
   ·exact Calm.stuck _
  ·exact Calm.stuck _
theorem calm_nilAhead {P : Program} (n : Nat) : ∀ (t : TypeId) (v : Value) (name : String), Calm P (nilAhead n t v name) := by
 induction n with
 | zero => exact fun _ _ _ => Calm.pure _
 | succ n ih =>
  intro t v name
  unfold nilAhead
  refine Calm.bind (Calm.typeInfo _) fun i => ?_
  split
  ·refine Calm.bind (calm_followBlind _ _ _) fun r => ?_
   split
   ·exact Calm.pure _
   ·split
    ·exact ih _ _ _
    ·exact Calm.pure _
    ·exact Calm.stuck _
    ·exact Calm.pure _
    ·exact Calm.pure _
    ·refine Calm.bind (Calm.underlying _) fun d => ?_
     split <;> exact Calm.pure _
  ·exact Calm.stuck _
theorem calm_nilCheck {P : Program} (msg : String) (v : Value) : CalmV P (match v with
  | .pointer none | .nilIface | .nilFunc => runtimePanic .nilDeref
  | .func (.method name) first captured =>
   match (first[0]? : Option Value) with
   | some .nilIface => runtimePanic .nilDeref
   | some (.iface t w) => do
    if (← nilAhead ((← program).types.size + Made.depth) t w name) != some false then
     unsupported (.noEntry msg)
    pure (.value (.func (.method name) first captured))
   | _ => pure (.value (.func (.method name) first captured))
  | x => pure (.value x)) := by
 have halts : ∀ {s : Sem Next}, Calm P s → (∀ w r w1, s.run P w = .ok r w1 → False) → CalmV P s := fun {s} hs hn => by
  rcases hs with ⟨v, hv⟩ | hh
  ·exact (hn default v default (hv default)).elim
  ·exact .inr hh
 have hdef : CalmV P (runtimePanic .nilDeref : Sem Next) := .inr fun w => by
  rcases Calm.nilDeref (P := P) (α := Next) with ⟨v, hv⟩ | hh
  ·have := hv w
   simp [runtimePanic, goPanic] at this
  ·exact hh w
 split
 ·exact hdef
 ·exact hdef
 ·exact hdef
 ·split
  ·exact hdef
  ·rename_i name first captured _ t w _
   rcases calm_nilAhead (P := P) (P.types.size + Made.depth) t w name with ⟨r, hr⟩ | hh
   ·by_cases hb : (r != some false) = true
    ·exact .inr fun w => by
      simp only [Sem.run_bind, run_program, Result.andThen_ok, hr, hb, if_true]
      exact ⟨_, _, rfl⟩
    ·refine .inl ⟨.func (.method name) first captured, fun w => ?_⟩
     simp only [Sem.run_bind, run_program, Result.andThen_ok, hr, hb]
     rfl
   ·exact .inr fun w => by
     obtain ⟨x, y, e⟩ := hh w
     simp only [Sem.run_bind, run_program, Result.andThen_ok, e]
     exact ⟨_, _, rfl⟩
  ·exact .inl ⟨_, fun _ => rfl⟩
 ·exact .inl ⟨_, fun _ => rfl⟩
theorem calm_exec {P : Program} (o : Oper) (ρ : Operand → Value) (h : calmOp P o.op = true) : CalmV P (execOp ρ o) := by
  obtain ⟨dst, op, type, pos, after, guard⟩ := o
  cases op <;> simp only [calmOp, Bool.false_eq_true] at h
  case move => exact .inl ⟨_, fun _ => rfl⟩
  case assign => exact .inl ⟨_, fun _ => rfl⟩
  case pick c x y =>
    show CalmV P (asBool (ρ c) >>= fun b => (Pure.pure (Next.value (if b then ρ x else ρ y)) : Sem Next))
    rcases Calm.asBool (P := P) (ρ c) with ⟨v, hv⟩ | hh
    · exact .inl ⟨if v = true then ρ x else ρ y, fun w => by rw [Sem.run_bind, hv]; rfl⟩
    · exact .inr fun w => by
        obtain ⟨x, y, e⟩ := hh w
        exact ⟨x, y, by rw [Sem.run_bind, e]; rfl⟩
  case unOp => exact Calm.valueV (calm_unary _ _)
  case makeFunc => exact Calm.valueV (Calm.pure _)
  case fieldAddr => exact Calm.valueV (calm_fieldAt _ _ _ h)
  case indexAddr => exact Calm.valueV (calm_indexAt _ _ _)
  case extract => exact Calm.valueV (calm_extract _ _)
  case nilCheck => exact calm_nilCheck _ _
  case call c =>
    obtain ⟨callee, args, ts⟩ := c
    cases callee with
    | builtin b => cases b <;> first | exact Calm.valueV (calm_len _ _ _ h) | (simp at h; done)
    | value f => simp at h
    | invoke r m => simp at h
theorem calm_exec_int {P : Program} (o : Oper) (ρ : Operand → Value) (h : intOp o.op = true) (hf : intFine ρ o.op = true) : CalmV P (execOp ρ o) := by
 obtain ⟨dst, op, type, pos, after, guard⟩ := o
 cases op <;> simp only [intOp, Bool.false_eq_true] at h
 rename_i op t x y yt
 show CalmV P ((do eqGuard op t x y (ρ x) (ρ y); binOp op t (ρ x) (ρ y)) >>= fun v => (pure (Next.value v) : Sem Next))
 simp only [intFine, Bool.and_eq_true] at hf
 obtain ⟨h1, h2⟩ := hf
 generalize ρ x = u at *
 generalize ρ y = v at *
 cases u <;> simp only [isInt, Bool.false_eq_true] at h1
 cases v <;> simp only [isInt, Bool.false_eq_true] at h2
 exact Calm.valueV (calm_binInt _ _ _ _ _ _ _ _)
def Reads {α : Type} (P : Program) (s : Sem α) : Prop :=
 ∀ (w w1 : World) (v : α), s.run P w = .ok v w1 → w1 = w ∧ ∀ w', Ext w w' → s.run P w' = .ok v w'
section
variable {α β : Type} {P : Program}
theorem Reads.of_calm {s : Sem α} (h : Calm P s) : Reads P s := fun w w1 v e => by
 obtain ⟨h1, h2⟩ := h.ok e
 exact ⟨h1, fun w' _ => h2 w'⟩
theorem Reads.bind {s : Sem α} {f : α → Sem β} (hs : Reads P s) (hf : ∀ v, Reads P (f v)) : Reads P (s >>= f) := by
 intro w w1 v e
 rw [Sem.run_bind] at e
 cases hr : s.run P w with
 | halt x y => rw [hr] at e; cases e
 | ok u w2 =>
  rw [hr] at e
  obtain ⟨rfl, h2⟩ := hs w w2 u hr
  obtain ⟨rfl, h4⟩ := hf u w2 w1 v e
  exact ⟨rfl, fun w' hx => by rw [Sem.run_bind, h2 w' hx]; exact h4 w' hx⟩
theorem ext_cell {w w' : World} (h : Ext w w') {a : Addr} {v : Value} (hc : w.cell? a = some v) : w'.cell? a = some v := by
 unfold World.cell? at hc ⊢
 cases ho : w.heap[a.block]? with
 | none => rw [ho] at hc; cases hc
 | some o => rw [ho] at hc; rw [h.some ho]; exact hc
theorem seen_ext {w w' : World} (h : Ext w w') (at_ : Addr) (u : TypeId) (k : Addr) (b : Bool) {x : Array Value × TypeId × (Nat × Nat) × Nat × Value × List (Nat × Nat × List UInt8)}
  (hs : w.seen P at_ u k b = .ok x) : w'.seen P at_ u k b = .ok x := by
 cases ho : w.heap[at_.block]? with
 | some o =>
  have h' := h.some ho
  unfold World.seen at hs ⊢
  rw [ho] at hs
  rw [h']
  exact hs
 | none =>
  exfalso
  unfold World.seen at hs
  rw [ho] at hs
  simp only [bind, Except.bind, throwThe, MonadExceptOf.throw, MonadExcept.throw] at hs
  repeat' (split at hs)
  all_goals first | (cases hs; done) | (simp at hs; done)
theorem viewLoad_ext {w w' : World} (h : Ext w w') (at_ : Addr) (u : TypeId) (k : Addr) (b : Bool) {x : Value × List Addr}
  (hs : w.viewLoad P at_ u k b = .ok x) : w'.viewLoad P at_ u k b = .ok x := by
 unfold World.viewLoad at hs ⊢
 cases h1 : w.seen P at_ u k b with
 | error e => rw [h1] at hs; cases hs
 | ok y => rw [h1] at hs; rw [seen_ext h at_ u k b h1]; exact hs
theorem reads_load (a : Addr) (m : Mode) : Reads P (Go.load a m) := by
 intro w w1 v e
 simp only [Go.load, Sem.run] at e ⊢
 cases hc : w.cell? a with
 | some u =>
  rw [hc] at e
  simp only [Result.ok.injEq] at e
  obtain ⟨rfl, rfl⟩ := e
  exact ⟨rfl, fun w' h => by rw [ext_cell h hc]⟩
 | none =>
  rw [hc] at e
  dsimp only at e
  cases hf : w.farLoad P a (m == .atomic) with
  | error x => rw [hf] at e; cases e
  | ok y =>
   rw [hf] at e
   obtain ⟨y, l⟩ := y
   simp only [Result.ok.injEq] at e
   obtain ⟨rfl, rfl⟩ := e
   refine ⟨rfl, fun w' h => ?_⟩
   have hf' := hf
   unfold World.farLoad at hf'
   split at hf'
   ·rename_i at_ u ho
    have ho' := h.some ho
    have hc' : w'.cell? a = none := by unfold World.cell?; rw [ho']
    rw [hc']
    dsimp only
    have : w'.farLoad P a (m == .atomic) = .ok (y, l) := by
     unfold World.farLoad
     rw [ho']
     dsimp only
     split at hf'
     ·rename_i r hr
      rw [viewLoad_ext h _ _ _ _ hr]
      exact hf'
     ·cases hf'
    rw [this]
   ·cases hf'
theorem reads_loadCellsFrom (a : Addr) (n : Nat) : ∀ (i : Nat) (acc : Array Value), Reads P (loadCellsFrom a i n acc) := by
 induction n with
 | zero => exact fun i acc => Reads.of_calm (Calm.pure _)
 | succ n ih => exact fun i acc => Reads.bind (reads_load _ _) fun v => ih _ _
theorem reads_loadAt (t : TypeId) (v : Value) : Reads P (Instr.loadAt t v) := by
 unfold Instr.loadAt
 refine Reads.bind (Reads.of_calm (Calm.sureAddr _)) fun a => ?_
 unfold loadVar
 refine Reads.bind (Reads.of_calm (calm_isAgg t)) fun b => ?_
 split
 ·exact Reads.bind (Reads.of_calm (Calm.sizeOf _)) fun n => Reads.bind (reads_loadCellsFrom _ _ _ _) fun c => Reads.of_calm (Calm.pure _)
 ·exact reads_load _ _
def loadOp : Op → Bool
 | .load .. => true
 | _ => false
theorem reads_exec (o : Oper) (ρ : Operand → Value) (h : loadOp o.op = true) : ∃ s : Sem Value, Reads P s ∧ execOp ρ o = (s >>= fun v => (Pure.pure (Next.value v) : Sem Next)) := by
 obtain ⟨dst, op, type, pos, after, guard⟩ := o
 cases op <;> simp only [loadOp, Bool.false_eq_true] at h
 exact ⟨_, reads_loadAt _ _, rfl⟩
theorem value_of_bind {s : Sem Value} {w w1 : World} {r : Next} (h : (s >>= fun v => (Pure.pure (Next.value v) : Sem Next)).run P w = .ok r w1) : ∃ u, r = .value u ∧ s.run P w = .ok u w1 := by
 rw [Sem.run_bind] at h
 cases hr : s.run P w with
 | halt x y => rw [hr] at h; cases h
 | ok u w2 =>
  rw [hr] at h
  simp only [Result.andThen_ok, Sem.run_pure, Result.ok.injEq] at h
  obtain ⟨rfl, rfl⟩ := h
  exact ⟨u, rfl, rfl⟩
theorem run_value {s : Sem Value} {w w1 : World} {u : Value} (h : s.run P w = .ok u w1) : (s >>= fun v => (Pure.pure (Next.value v) : Sem Next)).run P w = .ok (.value u) w1 := by
 rw [Sem.run_bind, h]; rfl
def Makes (P : Program) (s : Sem α) : Prop := ∀ (w w1 : World) (v : α), s.run P w = .ok v w1 → Ext w w1 ∧ w.heap.size ≤ w1.heap.size
theorem Makes.of_calm {s : Sem α} (h : Calm P s) : Makes P s := fun w w1 v e => by
 obtain ⟨rfl, _⟩ := h.ok e
 exact ⟨Ext.refl _, Nat.le_refl _⟩
theorem Ext.trans {a b c : World} (h : Ext a b) (hs : a.heap.size ≤ b.heap.size) (k : Ext b c) : Ext a c := fun i hi => (k i (by omega)).trans (h i hi)
theorem Makes.bind {s : Sem α} {f : α → Sem β} (hs : Makes P s) (hf : ∀ v, Makes P (f v)) : Makes P (s >>= f) := by
 intro w w1 v e
 rw [Sem.run_bind] at e
 cases hr : s.run P w with
 | halt x y => rw [hr] at e; cases e
 | ok u w2 =>
  rw [hr] at e
  obtain ⟨h1, h2⟩ := hs w w2 u hr
  obtain ⟨h3, h4⟩ := hf u w2 w1 v e
  exact ⟨h1.trans h2 h3, by omega⟩
theorem makes_newObj (o : Obj) : Makes P (newObj o) := by
 intro w w1 v e
 simp only [newObj, Sem.run, Result.ok.injEq] at e
 obtain ⟨_, rfl⟩ := e
 refine ⟨fun k hk => ?_, by simp⟩
 show (w.heap.push o)[k]? = _
 rw [Array.getElem?_push, if_neg (by omega)]
theorem makes_newRow (t : TypeId) (c : Array Value) : Makes P (newRow t c) := Makes.bind (makes_newObj _) fun _ => Makes.of_calm (Calm.pure _)
theorem calm_zeroValue (t : TypeId) : Calm P (zeroValue t) := by
 unfold zeroValue
 refine Calm.bind (Calm.typeInfo t) fun i => ?_
 split
 ·exact Calm.pure _
 ·exact Calm.unsupported _
theorem makes_alloc (t : TypeId) : Makes P (Instr.alloc t true (.tuple #[])) := by
 unfold Instr.alloc
 exact Makes.bind (Makes.of_calm (calm_zeroValue t)) fun v => Makes.bind (makes_newRow _ _) fun _ => Makes.of_calm (Calm.pure _)
theorem makes_box (t : TypeId) (v : Value) : Makes P (Instr.box t v) := Makes.bind (makes_newRow _ _) fun _ => Makes.of_calm (Calm.pure _)
theorem makes_buildSlice (t : TypeId) (n : Nat) (ps : Array (Nat × Value)) : Makes P (Instr.buildSlice t n ps) := by
 unfold Instr.buildSlice
 refine Makes.bind (Makes.of_calm (Calm.underlying t)) fun d => ?_
 split
 ·rename_i elem
  refine Makes.bind (Makes.of_calm (Calm.sizeOf _)) fun z => ?_
  dsimp only
  split
  ·exact Makes.of_calm (Calm.haltBind _ _)
  ·have key : ∀ (msg : String) (zero : Array Value), Makes P (match
     Instr.fill (fun i => some (i * z, z)) (Array.map (fun x => zero[x % zero.size]!) (Array.range (n * z))) ps.toList with
    | some cells => do
     let r ← newRow elem cells
     pure (Value.slice (some r) n n)
    | _ => Go.stuck msg) := fun msg zero => by
    split
    ·exact Makes.bind (makes_newRow _ _) fun _ => Makes.of_calm (Calm.pure _)
    ·exact Makes.of_calm (Calm.stuck _)
   split
   ·rw [pure_bind]; exact key _ _
   ·exact Makes.bind (Makes.of_calm (calm_zeroValue _)) fun _ => by rw [pure_bind]; exact key _ _
 ·exact Makes.of_calm (Calm.stuck _)
def makeOp : Op → Bool
 | .alloc _ | .box .. | .buildSlice .. => true
 | _ => false
theorem makes_exec (o : Oper) (ρ : Operand → Value) (h : makeOp o.op = true) : ∃ s : Sem Value, Makes P s ∧ execOp ρ o = (s >>= fun v => (Pure.pure (Next.value v) : Sem Next)) := by
 obtain ⟨dst, op, type, pos, after, guard⟩ := o
 cases op <;> simp only [makeOp, Bool.false_eq_true] at h
 case alloc => exact ⟨_, makes_alloc _, rfl⟩
 case box => exact ⟨_, makes_box _ _, rfl⟩
 case buildSlice => exact ⟨_, makes_buildSlice _ _ _, rfl⟩
end
end Reg
end Go.Proofs.YtbjdgepfhhafjaaDoor
namespace Go.Proofs.YtbjdgepfhhafjaaDoor
namespace Reg
theorem getD_set_ne (ts : Array Value) (d t : Nat) (v : Value) (h : d ≠ t) : (ts.setIfInBounds d v)[t]? = ts[t]? := by
 rw [Array.getElem?_setIfInBounds_ne h]
def dis (d : Option Tmp) (l : List Tmp) : Bool := match d with | some x => !l.contains x | none => true
def disD (d d' : Option Tmp) : Bool := match d, d' with | some x, some y => x != y | _, _ => true
theorem tmps_put (a : Act) (d : Option Tmp) (v : Value) (t : Tmp) (h : d ≠ some t) : (a.put d v).tmps[t]? = a.tmps[t]? := by
 cases d with
 | none => rfl
 | some x => exact getD_set_ne _ _ _ _ (fun e => h (by rw [e]))
theorem dis_ne {d : Option Tmp} {l : List Tmp} (h : dis d l = true) {t : Tmp} (ht : t ∈ l) : d ≠ some t := by
 rintro rfl
 simp [dis] at h
 exact h ht
def tmpsOf (o : Op) : List Tmp := o.operands.toList.filterMap fun | .tmp t => some t | _ => none
def guardOf (ops : Array Oper) (o : Oper) : List Tmp :=
 match o.guard with
 | some (j, _) => ((ops[j]?).bind (·.dst)).toList
 | none => []
def readsOf (ops : Array Oper) (o : Oper) : List Tmp := guardOf ops o ++ tmpsOf o.op
def Agree (ops : Array Oper) (o : Oper) (a b : Act) : Prop := ∀ t ∈ readsOf ops o, a.tmps[t]? = b.tmps[t]?
theorem Agree.symm {ops : Array Oper} {o : Oper} {a b : Act} (h : Agree ops o a b) : Agree ops o b a := fun t ht => (h t ht).symm
theorem Agree.trans {ops : Array Oper} {o : Oper} {a b c : Act} (h : Agree ops o a b) (k : Agree ops o b c) : Agree ops o a c := fun t ht => (h t ht).trans (k t ht)
theorem agree_eval {ops : Array Oper} {o : Oper} {a b : Act} (h : Agree ops o a b) : ∀ x ∈ o.op.operands.toList, a.eval x = b.eval x := by
 intro x hx
 cases x with
 | tmp t =>
  have ht : t ∈ readsOf ops o := by
   unfold readsOf
   refine List.mem_append.2 (.inr ?_)
   unfold tmpsOf
   exact List.mem_filterMap.2 ⟨.tmp t, hx, rfl⟩
  have := h t ht
  simp only [Act.eval, Array.getD_eq_getD_getElem?, this]
 | const v => rfl
 | global g => rfl
 | func f => rfl
theorem agree_wanted {ops : Array Oper} {o : Oper} {a b : Act} (h : Agree ops o a b) : Region.wanted o (yielded ops a.tmps) = Region.wanted o (yielded ops b.tmps) := by
 unfold Region.wanted
 cases hg : o.guard with
 | none => rfl
 | some g =>
  obtain ⟨j, want⟩ := g
  dsimp only
  have : yielded ops a.tmps j = yielded ops b.tmps j := by
   unfold yielded
   cases hd : (ops[j]?).bind (·.dst) with
   | none => rfl
   | some t =>
    have ht : t ∈ readsOf ops o := by
     unfold readsOf guardOf
     rw [hg]
     exact List.mem_append.2 (.inl (by simp [hd]))
    simp only [Option.bind_some, h t ht]
  rw [this]
def okOp : Op → Bool
 | .move _ | .assign _ | .pick .. | .alloc _ | .box .. | .build .. | .buildSlice .. | .load .. | .store .. | .nilCheck _ | .binOp .. | .unOp .. | .convert .. | .makeInterface .. | .makeFunc .. | .makeMap ..
 | .makeSlice .. | .slice .. | .fieldAddr .. | .field .. | .indexAddr .. | .index .. | .lookup .. | .mapUpdate .. | .extract .. | .call _ => true
 | _ => false
theorem map_parts (l : Array (Nat × Operand)) (ρ ρ' : Operand → Value) (h : ∀ x ∈ (l.toList.map (·.2)), ρ x = ρ' x) :
  (l.map fun (i, x) => (i, ρ x)) = (l.map fun (i, x) => (i, ρ' x)) := by
 refine Array.map_congr_left fun p hp => ?_
 obtain ⟨i, x⟩ := p
 have := h x (List.mem_map.2 ⟨(i, x), by simpa using hp, rfl⟩)
 simp only [this]
theorem map_ops (l : Array Operand) (ρ ρ' : Operand → Value) (h : ∀ x ∈ l.toList, ρ x = ρ' x) : l.map ρ = l.map ρ' :=
 Array.map_congr_left fun x hx => h x (by simpa using hx)
theorem map_opt (l : Option Operand) (ρ ρ' : Operand → Value) (h : ∀ x ∈ l.toList, ρ x = ρ' x) : l.map ρ = l.map ρ' := by
 cases l with
 | none => rfl
 | some x => simp [h x (by simp)]
theorem exec_congr (o : Oper) (ρ ρ' : Operand → Value) (hk : okOp o.op = true) (h : ∀ x ∈ o.op.operands.toList, ρ x = ρ' x) : execOp ρ o = execOp ρ' o := by
 obtain ⟨dst, op, type, pos, after, guard⟩ := o
 dsimp only at h hk
 cases op <;> simp only [okOp, Bool.false_eq_true] at hk
 case build t ps => simp only [execOp]; rw [map_parts ps ρ ρ' (by simpa [Op.operands] using h)]
 case buildSlice t n ps => simp only [execOp]; rw [map_parts ps ρ ρ' (by simpa [Op.operands] using h)]
 case makeFunc fn f c =>
  simp only [Op.operands, Array.toList_append, List.mem_append] at h
  simp only [execOp]
  rw [map_ops f ρ ρ' (fun x hx => h x (.inl hx)), map_ops c ρ ρ' (fun x hx => h x (.inr hx))]
 case makeMap t r => simp only [execOp]; rw [map_opt r ρ ρ' (by simpa [Op.operands] using h)]
 case slice t x lo hi mx =>
  simp only [Op.operands, Array.toList_append, List.mem_append] at h
  simp only [execOp]
  rw [h x (by simp), map_opt lo ρ ρ' (fun x hx => h x (by simp at hx; simp [hx])), map_opt hi ρ ρ' (fun x hx => h x (by simp at hx; simp [hx])), map_opt mx ρ ρ' (fun x hx => h x (by simp at hx; simp [hx]))]
 case call c =>
  obtain ⟨callee, args, ts⟩ := c
  simp only [Op.operands, Call.operands, Array.toList_append, List.mem_append] at h
  have ha := map_ops args ρ ρ' fun x hx => h x (.inr hx)
  simp only [execOp, resolve, ha]
  cases callee with
  | builtin b => rfl
  | value f => simp only [h f (.inl (by simp))]
  | invoke r m => simp only [h r (.inl (by simp))]
 all_goals (simp only [Op.operands, List.mem_cons, List.not_mem_nil, or_false, forall_eq_or_imp, forall_eq] at h; try simp only [execOp, h])
abbrev Post := Exit → Act → World → Prop
def NoQ (Q : Post) : Prop := (∀ c a w, ¬ Q (.panic c) a w) ∧ (∀ a w, ¬ Q .outgrown a w)
def upd (a : Act) (d : Option Tmp) (ds : List Deferred) (v : Value) : Act := { tmps := (a.put d v).tmps, defers := ds ++ a.defers }
theorem upd_nil (a : Act) (d : Option Tmp) (v : Value) : upd a d [] v = a.put d v := by
 cases d <;> rfl
theorem upd_cons (a : Act) (d : Option Tmp) (x : Deferred) (v : Value) : upd a d [x] v = ({ a with defers := x :: a.defers } : Act).put d v := by
 cases d <;> rfl
theorem tmps_upd (a : Act) (d : Option Tmp) (ds : List Deferred) (v : Value) (t : Tmp) (h : d ≠ some t) : (upd a d ds v).tmps[t]? = a.tmps[t]? := tmps_put a d v t h
theorem agree_upd {ops : Array Oper} {o : Oper} {d : Option Tmp} (h : dis d (readsOf ops o) = true) (a : Act) (ds : List Deferred) (v : Value) : Agree ops o (upd a d ds v) a :=
 fun _ ht => tmps_upd _ _ _ _ _ (dis_ne h ht)
theorem agree_put {ops : Array Oper} {o : Oper} {d : Option Tmp} (h : dis d (readsOf ops o) = true) (a : Act) (v : Value) : Agree ops o (a.put d v) a :=
 fun _ ht => tmps_put _ _ _ _ (dis_ne h ht)
theorem put_upd_comm {d d' : Option Tmp} (h : disD d d' = true) (a : Act) (ds : List Deferred) (u v : Value) : upd (a.put d u) d' ds v = (upd a d' ds v).put d u := by
 cases d with
 | none => rfl
 | some x =>
  cases d' with
  | none => rfl
  | some y =>
   have hne : x ≠ y := by simpa [disD] using h
   simp only [upd, Act.put]
   congr 1
   exact (Array.setIfInBounds_comm _ _ hne)
theorem put_put_comm {d d' : Option Tmp} (h : disD d d' = true) (a : Act) (u v : Value) : (a.put d u).put d' v = (a.put d' v).put d u := by
 rw [← upd_nil, put_upd_comm h, upd_nil]
section
variable {P : Program} {Q Q' : Post} {o : Oper} {a a' : Act} {w : World} {N N' : Act → World → Prop}
theorem upon_map (hQ : NoQ Q) {r : Result Next} (h : o.upon P a N Q r) (hn : ∀ v ds w', N (upd a o.dst ds v) w' → N' (upd a' o.dst ds v) w') : o.upon P a' N' Q' r := by
  cases r with
  | halt x w' => cases x <;> first | exact h | exact absurd h (hQ.1 _ _ _)
  | ok x w' =>
    cases x with
    | value v =>
      have := hn v [] w' (by rw [upd_nil]; exact h)
      rw [upd_nil] at this; exact this
    | skip =>
      have := hn undef [] w' (by rw [upd_nil]; exact h)
      rw [upd_nil] at this; exact this
    | enter f args =>
      refine Calls.mono (R := fun
        | .returned v, w'' => N (a.put o.dst v) w''
        | .panicked chain, w'' => Q (.panic chain) a w''
        | .outgrown, _ => LetsOut Q) h ?_
      intro e w'' he
      cases e with
      | returned v =>
        have := hn v [] w'' (by rw [upd_nil]; exact he)
        rw [upd_nil] at this; exact this
      | panicked c => exact absurd he (hQ.1 _ _ _)
      | outgrown => obtain ⟨x, y, hx⟩ := he; exact absurd hx (hQ.2 _ _)
    | row s args =>
      refine Rows.mono (R := fun v w'' => N (a.put o.dst v) w'') h ?_
      intro v w'' he
      have := hn v [] w'' (by rw [upd_nil]; exact he)
      rw [upd_nil] at this; exact this
    | _ =>
      first
      | exact h
      | (rename_i d
         have := hn undef [d] w' (by rw [upd_cons]; exact h)
         rw [upd_cons] at this; exact this)
theorem upon_ex (hQ : NoQ Q) {r : Result Next} (h : o.upon P a N Q r) : ∃ v ds w', N (upd a o.dst ds v) w' := by
 cases r with
 | halt x w' => cases x <;> first | exact h.elim | exact absurd h (hQ.1 _ _ _)
 | ok x w' =>
  cases x with
  | value v => exact ⟨v, [], w', by rw [upd_nil]; exact h⟩
  | skip => exact ⟨undef, [], w', by rw [upd_nil]; exact h⟩
  | enter f args =>
   obtain ⟨e, w'', fr, he, _⟩ := h []
   cases e with
   | returned v => exact ⟨v, [], w'', by rw [upd_nil]; exact he⟩
   | panicked c => exact absurd he (hQ.1 _ _ _)
   | outgrown => obtain ⟨x, y, hx⟩ := he; exact absurd hx (hQ.2 _ _)
  | row s args =>
   obtain ⟨v, w'', he, _⟩ := h default []
   exact ⟨v, [], w'', by rw [upd_nil]; exact he⟩
  | _ =>
   first
   | exact h.elim
   | (rename_i d; exact ⟨undef, [d], w', by rw [upd_cons]; exact h⟩)
end
def calmC (P : Program) (ib : Bool) (o : Oper) : Bool := calmOp P o.op || (ib && intOp o.op)
def eff (P : Program) (ib : Bool) (o : Oper) : Bool := !calmC P ib o && !loadOp o.op && !makeOp o.op
def Step (P : Program) (ib : Bool) (ops : Array Oper) (Q : Post) (o : Oper) (N : Act → World → Prop) (a : Act) (w : World) : Prop :=
 if Region.wanted o (yielded ops a.tmps) = true then ((ib && intOp o.op) = true → intFine a.eval o.op = true) ∧ o.wp P a w N Q else N (a.put o.dst undef) w
theorem intFine_agree {ops : Array Oper} {o : Oper} {a b : Act} (h : Agree ops o a b) : intFine a.eval o.op = intFine b.eval o.op := by
 have he := agree_eval h
 cases hop : o.op <;> simp only [intFine]
 rw [hop] at he
 simp only [Op.operands] at he
 rw [he _ (by simp), he _ (by simp)]
section
variable {P : Program} {ib : Bool} {ops : Array Oper} {Q : Post} (hQ : NoQ Q) {o : Oper} {a a' b : Act} {w : World} {N N' : Act → World → Prop}
include hQ
theorem step_mono (h : Step P ib ops Q o N a w) (hn : ∀ v ds w', N (upd a o.dst ds v) w' → N' (upd a o.dst ds v) w') : Step P ib ops Q o N' a w := by
 unfold Step at h ⊢
 split
 ·rename_i hw
  rw [if_pos hw] at h
  exact ⟨h.1, upon_map hQ h.2 hn⟩
 ·rename_i hw
  rw [if_neg hw] at h
  have := hn undef [] w (by rw [upd_nil]; exact h)
  rwa [upd_nil] at this
theorem step_ex (h : Step P ib ops Q o N a w) : ∃ v ds w', N (upd a o.dst ds v) w' := by
 unfold Step at h
 split at h
 ·exact upon_ex hQ h.2
 ·exact ⟨undef, [], w, by rw [upd_nil]; exact h⟩
theorem step_frame (hk : okOp o.op = true) {d : Option Tmp} (hd : dis d (readsOf ops o) = true) (hd' : disD d o.dst = true) (u : Value) (h : Step P ib ops Q o N (a.put d u) w) :
  Step P ib ops Q o (fun x w' => N (x.put d u) w') a w := by
 have hag := agree_put hd a u
 unfold Step at h ⊢
 rw [agree_wanted hag] at h
 split
 ·rename_i hw
  rw [if_pos hw] at h
  refine ⟨fun hi => by rw [← intFine_agree hag]; exact h.1 hi, ?_⟩
  have h2 := h.2
  unfold Oper.wp at h2 ⊢
  rw [exec_congr o _ _ hk (agree_eval hag)] at h2
  exact upon_map hQ h2 fun v ds w' hx => by rw [put_upd_comm hd'] at hx; exact hx
 ·rename_i hw
  rw [if_neg hw] at h
  rw [put_put_comm hd'] at h
  exact h
theorem step_frame' (hk : okOp o.op = true) {d : Option Tmp} (hd : dis d (readsOf ops o) = true) (hd' : disD d o.dst = true) (u : Value) (h : Step P ib ops Q o (fun x w' => N (x.put d u) w') a w) :
  Step P ib ops Q o N (a.put d u) w := by
 have hag := agree_put hd a u
 unfold Step at h ⊢
 rw [agree_wanted hag]
 split
 ·rename_i hw
  rw [if_pos hw] at h
  refine ⟨fun hi => by rw [intFine_agree hag]; exact h.1 hi, ?_⟩
  have h2 := h.2
  unfold Oper.wp at h2 ⊢
  rw [exec_congr o _ _ hk (agree_eval hag)]
  exact upon_map hQ h2 fun v ds w' hx => by rw [put_upd_comm hd']; exact hx
 ·rename_i hw
  rw [if_neg hw] at h
  rw [put_put_comm hd']
  exact h
theorem step_calm (hk : okOp o.op = true) (hc : calmC P ib o = true) (h : Step P ib ops Q o N b w) :
  ∃ u, N (b.put o.dst u) w ∧ ∀ (a : Act) (w' : World) (M : Act → World → Prop), Agree ops o a b → (Step P ib ops Q o M a w' ↔ M (a.put o.dst u) w') := by
 unfold Step at h
 split at h
 ·rename_i hw
  have hcalm : CalmV P (execOp b.eval o) := by
   simp only [calmC, Bool.or_eq_true] at hc
   by_cases hi : (ib && intOp o.op) = true
   ·exact calm_exec_int o _ (by simp only [Bool.and_eq_true] at hi; exact hi.2) (h.1 hi)
   ·exact calm_exec o _ (hc.resolve_right hi)
  have h2 := h.2
  unfold Oper.wp at h2
  rcases hcalm with ⟨u, hu⟩ | hh
  ·rw [hu] at h2
   refine ⟨u, h2, fun a w' M hag => ?_⟩
   unfold Step
   rw [agree_wanted hag, if_pos hw]
   unfold Oper.wp
   rw [exec_congr o _ _ hk (agree_eval hag), hu]
   exact ⟨fun x => x.2, fun x => ⟨fun hi => by rw [intFine_agree hag]; exact h.1 hi, x⟩⟩
  ·obtain ⟨x, y, e⟩ := hh w
   rw [e] at h2
   cases x <;> first | exact h2.elim | exact absurd h2 (hQ.1 _ _ _)
 ·rename_i hw
  refine ⟨undef, h, fun a w' M hag => ?_⟩
  unfold Step
  rw [agree_wanted hag, if_neg hw]
def Same (P : Program) (ops : Array Oper) (o : Oper) (a : Act) (w w' : World) : Prop :=
 Region.wanted o (yielded ops a.tmps) = true → ∀ v, (execOp a.eval o).run P w = .ok (.value v) w → (execOp a.eval o).run P w' = .ok (.value v) w'
omit hQ in
theorem same_agree (hk : okOp o.op = true) (hag : Agree ops o a b) {w w' : World} (h : Same P ops o a w w') : Same P ops o b w w' := by
 unfold Same at h ⊢
 rw [exec_congr o _ _ hk (agree_eval hag), agree_wanted hag] at h
 exact h
omit hQ in
theorem same_ext (hl : loadOp o.op = true) {w w' : World} (h : Ext w w') : Same P ops o a w w' := by
 intro _ v hv
 obtain ⟨s, hs, he⟩ := reads_exec (P := P) o a.eval hl
 rw [he] at hv ⊢
 obtain ⟨u, hu, hr⟩ := value_of_bind hv
 injection hu with hu
 subst hu
 exact run_value ((hs w w v hr).2 w' h)
theorem step_load (hk : okOp o.op = true) (hl : loadOp o.op = true) (h : Step P ib ops Q o N b w) :
  ∃ u, N (b.put o.dst u) w ∧ ∀ (a : Act) (w' : World) (M : Act → World → Prop), Agree ops o a b → Same P ops o a w w' → M (a.put o.dst u) w' → Step P ib ops Q o M a w' := by
 have hni : intOp o.op = false := by
  cases hop : o.op <;> rw [hop] at hl <;> simp only [loadOp, Bool.false_eq_true] at hl <;> rfl
 unfold Step at h
 split at h
 ·rename_i hw
  have h2 := h.2
  unfold Oper.wp at h2
  obtain ⟨s, hs, he⟩ := reads_exec (P := P) o b.eval hl
  cases hr : (execOp b.eval o).run P w with
  | halt x y =>
   rw [hr] at h2
   cases x <;> first | exact h2.elim | exact absurd h2 (hQ.1 _ _ _)
  | ok r w1 =>
   rw [hr] at h2
   rw [he] at hr
   obtain ⟨u, rfl, hsr⟩ := value_of_bind hr
   obtain ⟨rfl, _⟩ := hs _ _ _ hsr
   refine ⟨u, h2, fun a w' M hag hsame hm => ?_⟩
   unfold Step
   rw [agree_wanted hag, if_pos hw]
   refine ⟨fun hi => absurd hi (by rw [hni]; simp), ?_⟩
   unfold Oper.wp
   have hq := hsame (by rw [agree_wanted hag]; exact hw) u (by rw [exec_congr o _ _ hk (agree_eval hag), he]; exact hr)
   rw [hq]
   exact hm
 ·rename_i hw
  refine ⟨undef, h, fun a w' M hag _ hm => ?_⟩
  unfold Step
  rw [agree_wanted hag, if_neg hw]
  exact hm
theorem step_make (hm : makeOp o.op = true) (h : Step P ib ops Q o N a w) : Step P ib ops Q o (fun x w' => N x w' ∧ Ext w w') a w := by
 unfold Step at h ⊢
 split
 ·rename_i hw
  rw [if_pos hw] at h
  refine ⟨h.1, ?_⟩
  have h2 := h.2
  unfold Oper.wp at h2 ⊢
  obtain ⟨s, hs, he⟩ := makes_exec (P := P) o a.eval hm
  cases hr : (execOp a.eval o).run P w with
  | halt x y =>
   rw [hr] at h2
   cases x <;> first | exact h2.elim | exact absurd h2 (hQ.1 _ _ _)
  | ok r w1 =>
   rw [hr] at h2
   rw [he] at hr
   obtain ⟨u, rfl, hsr⟩ := value_of_bind hr
   exact ⟨h2, (hs _ _ _ hsr).1⟩
 ·rename_i hw
  rw [if_neg hw] at h
  exact ⟨h, Ext.refl _⟩
end
def Obl (P : Program) (ib : Bool) (ops : Array Oper) (bef : Nat → Nat → Bool) (D : Nat → Prop) (i : Nat) (b : Act) (w w' : World) : Prop :=
 ∀ o, ops[i]? = some o → eff P ib o = true → ∀ r q, D r → ops[r]? = some q → loadOp q.op = true → bef r i = false → Same P ops q b w w'
def WT (P : Program) (ib : Bool) (ops : Array Oper) (bef : Nat → Nat → Bool) (Q : Post) : (Nat → Prop) → List Nat → Act → World → Prop
 | _, [], a, w => Q .normal a w
 | D, i :: l, a, w => ∃ o, ops[i]? = some o ∧ Step P ib ops Q o (fun b w' => Obl P ib ops bef D i b w w' ∧ WT P ib ops bef Q (fun k => k = i ∨ D k) l b w') a w
def compat (P : Program) (ib : Bool) (ops : Array Oper) (x y : Oper) : Bool :=
 dis x.dst (readsOf ops y) && dis y.dst (readsOf ops x) && disD x.dst y.dst && (calmC P ib x || calmC P ib y || loadOp x.op)
section
variable {P : Program} {ib : Bool} {ops : Array Oper} {bef : Nat → Nat → Bool} {Q : Post} (hQ : NoQ Q)
theorem disD_symm {d d' : Option Tmp} (h : disD d d' = true) : disD d' d = true := by
 cases d <;> cases d' <;> first | rfl | (simp only [disD, bne_iff_ne, ne_eq] at h ⊢; exact fun e => h e.symm)
theorem or_swap (A B : Nat) (D : Nat → Prop) : (fun k => k = A ∨ k = B ∨ D k) = (fun k => k = B ∨ k = A ∨ D k) := by
 funext k; exact propext ⟨fun h => by rcases h with h | h | h <;> simp [h], fun h => by rcases h with h | h | h <;> simp [h]⟩
include hQ in
theorem swap {A B : Nat} {oA oB : Oper} (hA : ops[A]? = some oA) (hB : ops[B]? = some oB) (hkA : okOp oA.op = true) (hkB : okOp oB.op = true) (hc : compat P ib ops oA oB = true) (hnb : bef A B = false)
  {D : Nat → Prop} (hD : ∀ r q, D r → ops[r]? = some q → loadOp q.op = true → okOp q.op = true ∧ dis oA.dst (readsOf ops q) = true ∧ dis oB.dst (readsOf ops q) = true)
  (hself : loadOp oA.op = true → dis oA.dst (readsOf ops oA) = true)
  {l : List Nat} {a : Act} {w : World} (h : WT P ib ops bef Q D (A :: B :: l) a w) : WT P ib ops bef Q D (B :: A :: l) a w := by
 simp only [compat, Bool.and_eq_true] at hc
 obtain ⟨⟨⟨hAB, hBA⟩, hdd⟩, hcase⟩ := hc
 obtain ⟨oA', hA', h⟩ := h
 obtain rfl : oA' = oA := by rw [hA] at hA'; injection hA' with e; exact e.symm
 have noEff : ∀ (i : Nat) (o : Oper), ops[i]? = some o → eff P ib o = false → ∀ (E : Nat → Prop) (b : Act) (w w' : World), Obl P ib ops bef E i b w w' := fun i o ho he E b w w' o' ho' he' => by
  rw [ho] at ho'; injection ho' with e; subst e; rw [he] at he'; cases he'
 have h' : Step P ib ops Q oA' (fun b w1 => Obl P ib ops bef D A b w w1 ∧ Step P ib ops Q oB (fun b2 w2 => Obl P ib ops bef (fun k => k = A ∨ D k) B b2 w1 w2 ∧ WT P ib ops bef Q (fun k => k = B ∨ k = A ∨ D k) l b2 w2) b w1) a w :=
  step_mono hQ h fun v ds w' hx => by
   obtain ⟨h1, o, ho, h2⟩ := hx
   rw [hB] at ho; injection ho with e; subst e
   exact ⟨h1, h2⟩
 clear h
 refine ⟨oB, hB, ?_⟩
 suffices hs : Step P ib ops Q oB (fun b w1 => Obl P ib ops bef D B b w w1 ∧ Step P ib ops Q oA' (fun b2 w2 => Obl P ib ops bef (fun k => k = B ∨ D k) A b2 w1 w2 ∧ WT P ib ops bef Q (fun k => k = B ∨ k = A ∨ D k) l b2 w2) b w1) a w from
  step_mono hQ hs fun v ds w' hx => ⟨hx.1, oA', hA, by rw [or_swap A B D]; exact hx.2⟩
 by_cases cB : calmC P ib oB = true
 ·-- B is calm
  have eB : eff P ib oB = false := by simp [eff, cB]
  obtain ⟨v0, ds0, w0, _, hs0⟩ := step_ex hQ h'
  obtain ⟨u, _, hu⟩ := step_calm hQ hkB cB hs0
  refine (hu a w _ (agree_upd hAB a ds0 v0).symm).2 ⟨noEff B oB hB eB _ _ _ _, ?_⟩
  refine step_frame' hQ hkA hBA (disD_symm hdd) u ?_
  refine step_mono hQ h' fun v ds w1 hx => ?_
  obtain ⟨h1, h2⟩ := hx
  have h3 := (hu _ w1 _ ((agree_upd hAB a ds v).trans (agree_upd hAB a ds0 v0).symm)).1 h2
  refine ⟨fun o ho he r q hr hq hl hb => ?_, h3.2⟩
  rcases hr with rfl | hr
  ·rw [hB] at hq; injection hq with e; subst e
   exfalso
   cases hop : oB.op <;> rw [hop] at hl <;> simp only [loadOp, Bool.false_eq_true] at hl
   simp [calmC, calmOp, intOp, hop] at cB
  ·obtain ⟨k1, k2, k3⟩ := hD r q hr hq hl
   exact same_agree k1 (agree_put k3 _ _).symm (h1 o ho he r q hr hq hl hb)
 ·by_cases cA : calmC P ib oA' = true
  ·-- A is calm
   have eA : eff P ib oA' = false := by simp [eff, cA]
   obtain ⟨u, hu0, hu⟩ := step_calm hQ hkA cA h'
   have h2 := step_frame hQ hkB hAB hdd u hu0.2
   refine step_mono hQ h2 fun v ds w1 hx => ?_
   obtain ⟨h3, h4⟩ := hx
   refine ⟨fun o ho he r q hr hq hl hb => ?_, (hu _ w1 _ (agree_upd hBA a ds v)).2 ⟨noEff A oA' hA eA _ _ _ _, h4⟩⟩
   obtain ⟨k1, k2, k3⟩ := hD r q hr hq hl
   exact same_agree k1 (agree_put k2 _ _) (h3 o ho he r q (.inr hr) hq hl hb)
  ·have lA : loadOp oA'.op = true := by simpa [cA, cB] using hcase
   have eA : eff P ib oA' = false := by simp [eff, lA]
   obtain ⟨u, hu0, hu⟩ := step_load hQ hkA lA h'
   by_cases lB : loadOp oB.op = true
   ·have eB : eff P ib oB = false := by simp [eff, lB]
    obtain ⟨u2, hv0, hv⟩ := step_load hQ hkB lB hu0.2
    refine hv a w _ (agree_put hAB a u).symm (same_ext lB (Ext.refl _)) ⟨noEff B oB hB eB _ _ _ _, ?_⟩
    refine hu _ w _ (agree_put hBA a u2) (same_ext lA (Ext.refl _)) ⟨noEff A oA' hA eA _ _ _ _, ?_⟩
    rw [put_put_comm (disD_symm hdd)]
    exact hv0.2
   ·have h2 := step_frame hQ hkB hAB hdd u hu0.2
    have fin : ∀ (v : Value) (ds : List Deferred) (w1 : World), Obl P ib ops bef (fun k => k = A ∨ D k) B ((upd a oB.dst ds v).put oA'.dst u) w w1 → Same P ops oA' (upd a oB.dst ds v) w w1 →
      WT P ib ops bef Q (fun k => k = B ∨ k = A ∨ D k) l ((upd a oB.dst ds v).put oA'.dst u) w1 →
      Obl P ib ops bef D B (upd a oB.dst ds v) w w1 ∧ Step P ib ops Q oA' (fun b2 w2 => Obl P ib ops bef (fun k => k = B ∨ D k) A b2 w1 w2 ∧ WT P ib ops bef Q (fun k => k = B ∨ k = A ∨ D k) l b2 w2) (upd a oB.dst ds v) w1 := by
     intro v ds w1 h3 hsame h4
     refine ⟨fun o ho he r q hr hq hl hb => ?_, hu _ w1 _ (agree_upd hBA a ds v) hsame ⟨noEff A oA' hA eA _ _ _ _, h4⟩⟩
     obtain ⟨k1, k2, k3⟩ := hD r q hr hq hl
     exact same_agree k1 (agree_put k2 _ _) (h3 o ho he r q (.inr hr) hq hl hb)
    by_cases mB : makeOp oB.op = true
    ·refine step_mono hQ (step_make hQ mB h2) fun v ds w1 hx => ?_
     obtain ⟨⟨h3, h4⟩, hx⟩ := hx
     exact fin v ds w1 h3 (same_ext lA hx) h4
    ·have eB : eff P ib oB = true := by simp [eff, cB, lB, mB]
     refine step_mono hQ h2 fun v ds w1 hx => ?_
     obtain ⟨h3, h4⟩ := hx
     exact fin v ds w1 h3 (same_agree hkA (agree_put (hself lA) _ _) (h3 oB hB eB A oA' (.inl rfl) hA lA hnb)) h4
end
end Reg
end Go.Proofs.YtbjdgepfhhafjaaDoor
namespace Go.Proofs.YtbjdgepfhhafjaaDoor
namespace Reg
structure Stat (P : Program) (ops : Array Oper) (bef : Nat → Nat → Bool) : Prop where
 ok : ∀ (i : Nat) (o : Oper), ops[i]? = some o → okOp o.op = true
 self : ∀ (i : Nat) (o : Oper), ops[i]? = some o → loadOp o.op = true → dis o.dst (readsOf ops o) = true
 war : ∀ (x y : Nat) (ox oy : Oper), x ≠ y → ops[x]? = some ox → ops[y]? = some oy → loadOp ox.op = true → bef y x = false → dis oy.dst (readsOf ops ox) = true
def Rel (P : Program) (ib : Bool) (ops : Array Oper) (bef : Nat → Nat → Bool) (x y : Nat) : Prop :=
 x ≠ y ∧ bef y x = false ∧ (bef x y = true ∨ ∀ (ox oy : Oper), ops[x]? = some ox → ops[y]? = some oy → compat P ib ops ox oy = true)
section
variable {P : Program} {ib : Bool} {ops : Array Oper} {bef : Nat → Nat → Bool} {Q : Post} (hQ : NoQ Q) (hS : Stat P ops bef)
include hQ hS
theorem bubble {A : Nat} {oA : Oper} (hA : ops[A]? = some oA) (l2 : List Nat) : ∀ (l1 : List Nat) (D : Nat → Prop) (a : Act) (w : World),
  (∀ x ∈ l1, ∃ ox, ops[x]? = some ox ∧ bef A x = false ∧ compat P ib ops oA ox = true) → (l1 ++ A :: l2).Pairwise (fun x y => x ≠ y ∧ bef y x = false) →
  (∀ r q, D r → ops[r]? = some q → loadOp q.op = true → ∀ y ∈ l1 ++ A :: l2, ∀ oy, ops[y]? = some oy → dis oy.dst (readsOf ops q) = true) →
  WT P ib ops bef Q D (A :: (l1 ++ l2)) a w → WT P ib ops bef Q D (l1 ++ A :: l2) a w := by
 intro l1
 induction l1 with
 | nil => intro D a w _ _ _ h; exact h
 | cons x l1 ih =>
  intro D a w hx hl hD h
  obtain ⟨ox, hox, hnb, hc⟩ := hx x (by simp)
  have h1 := swap hQ hA hox (hS.ok _ _ hA) (hS.ok _ _ hox) hc hnb (fun r q hr hq hlq => ⟨hS.ok _ _ hq, hD r q hr hq hlq A (by simp) oA hA, hD r q hr hq hlq x (by simp) ox hox⟩) (hS.self _ _ hA) h
  obtain ⟨o, ho, h2⟩ := h1
  rw [hox] at ho; injection ho with e; subst e
  refine ⟨ox, hox, step_mono hQ h2 fun v ds w' hz => ⟨hz.1, ih _ _ _ (fun y hy => hx y (by simp [hy])) (List.Pairwise.of_cons hl) ?_ hz.2⟩⟩
  intro r q hr hq hlq y hy oy hoy
  rcases hr with rfl | hr
  ·have := (List.pairwise_cons.1 hl).1 y hy
   exact hS.war _ _ _ _ this.1 hq hoy hlq this.2
  ·exact hD r q hr hq hlq y (by simp at hy ⊢; exact .inr hy) oy hoy
theorem perm (T : List Nat) : ∀ (l : List Nat) (D : Nat → Prop) (a : Act) (w : World), l.Perm T → T.Pairwise (Rel P ib ops bef) → (∀ x ∈ T, x < ops.size) → l.Pairwise (fun x y => x ≠ y ∧ bef y x = false) →
  (∀ r q, D r → ops[r]? = some q → loadOp q.op = true → ∀ y ∈ T, ∀ oy, ops[y]? = some oy → dis oy.dst (readsOf ops q) = true) →
  WT P ib ops bef Q D T a w → WT P ib ops bef Q D l a w := by
 induction T with
 | nil =>
  intro l D a w hp _ _ _ _ h
  rw [hp.eq_nil]
  exact h
 | cons A T ih =>
  intro l D a w hp hT hin hl hD h
  have hmem : A ∈ l := hp.symm.subset (by simp)
  obtain ⟨l1, l2, rfl⟩ := List.append_of_mem hmem
  have hp' : (l1 ++ l2).Perm T := by
   have h1 : (l1 ++ A :: l2).Perm (A :: (l1 ++ l2)) := List.perm_middle
   exact (List.perm_cons A).1 (h1.symm.trans hp)
  obtain ⟨oA, hA, h2⟩ := h
  have hl' : (l1 ++ l2).Pairwise (fun x y => x ≠ y ∧ bef y x = false) := hl.sublist (List.Sublist.append_left (List.sublist_cons_self A l2) l1)
  have hTA := (List.pairwise_cons.1 hT).1
  refine bubble hQ hS hA l2 l1 D a w ?_ hl (fun r q hr hq hlq y hy oy hoy => hD r q hr hq hlq y (hp.subset hy) oy hoy) ⟨oA, hA, step_mono hQ h2 fun v ds w' hz => ⟨hz.1, ih _ _ _ _ hp' (List.Pairwise.of_cons hT) (fun x hx => hin x (by simp [hx])) hl' ?_ hz.2⟩⟩
  ·intro x hx
   have hxT : x ∈ T := hp'.subset (by simp [hx])
   have hb : bef A x = false := by
    have := List.pairwise_append.1 hl
    exact (this.2.2 x hx A (by simp)).2
   have hR := hTA x hxT
   cases hox : ops[x]? with
   | none =>
    exfalso
    have := hin x (by simp [hxT])
    rw [Array.getElem?_eq_getElem this] at hox
    cases hox
   | some ox =>
    refine ⟨ox, rfl, hb, ?_⟩
    rcases hR.2.2 with h3 | h3
    ·rw [hb] at h3; cases h3
    ·exact h3 oA ox hA hox
  ·intro r q hr hq hlq y hy oy hoy
   rcases hr with rfl | hr
   ·have := hTA y hy
    exact hS.war _ _ _ _ this.1 hq hoy hlq this.2.1
   ·exact hD r q hr hq hlq y (by simp [hy]) oy hoy
end
def Lin (m : Region.Mode) (ops : Array Oper) (done : List Nat) (l : List Nat) : Prop :=
 match l with
 | [] => True
 | i :: l => i < ops.size ∧ i ∉ done ∧ (∀ o, ops[i]? = some o → ∀ e ∈ o.after.toList, Region.binds m e = true → e.on ∈ done) ∧ Lin m ops (i :: done) l
theorem binds_any {m : Region.Mode} {e : Edge} (h : Region.binds .any e = true) : Region.binds m e = true := by
 obtain ⟨on, g⟩ := e
 cases g <;> first | rfl | (simp [Region.binds] at h)
theorem lin_bef {m : Region.Mode} {ops : Array Oper} {bef : Nat → Nat → Bool} (hb : ∀ {i j : Nat}, j < ops.size → i < ops.size → bef i j = true →
  ∃ o, ops[j]? = some o ∧ ∃ e ∈ o.after.toList, Region.binds .any e = true ∧ (e.on = i ∨ bef i e.on = true) ∧ e.on < j) (l : List Nat) : ∀ (done : List Nat), Lin m ops done l →
  (∀ j ∈ done, j < ops.size ∧ ∀ i, i < ops.size → bef i j = true → i ∈ done) →
  l.Pairwise (fun x y => x ≠ y ∧ bef y x = false) ∧ l.Nodup ∧ (∀ i ∈ l, i < ops.size ∧ i ∉ done) := by
 induction l with
 | nil => exact fun _ _ _ => ⟨List.Pairwise.nil, List.nodup_nil, fun i hi => by simp at hi⟩
 | cons i l ih =>
  intro done h hd
  obtain ⟨h1, h2, h3, h4⟩ := h
  have hclosed : ∀ k, k < ops.size → bef k i = true → k ∈ done := by
   intro k hk hki
   obtain ⟨o, ho, e, he, hbe, hc, hlt⟩ := hb h1 hk hki
   have hin := h3 o ho e he (binds_any hbe)
   rcases hc with rfl | hc
   ·exact hin
   ·exact (hd _ hin).2 k hk hc
  obtain ⟨p1, p2, p3⟩ := ih (i :: done) h4 (by
   intro j hj
   rcases List.mem_cons.1 hj with rfl | hj
   ·exact ⟨h1, fun k hk hb => List.mem_cons.2 (.inr (hclosed k hk hb))⟩
   ·exact ⟨(hd j hj).1, fun k hk hb => List.mem_cons.2 (.inr ((hd j hj).2 k hk hb))⟩)
  refine ⟨List.pairwise_cons.2 ⟨fun y hy => ?_, p1⟩, List.nodup_cons.2 ⟨fun hi => (p3 i hi).2 (by simp), p2⟩, ?_⟩
  ·have hy' := p3 y hy
   refine ⟨fun e => hy'.2 (by simp [e]), ?_⟩
   cases hbb : bef y i with
   | false => rfl
   | true => exact absurd (List.mem_cons.2 (.inr (hclosed y hy'.1 hbb))) hy'.2
  ·intro k hk
   rcases List.mem_cons.1 hk with rfl | hk
   ·exact ⟨h1, h2⟩
   ·exact ⟨(p3 k hk).1, fun hn => (p3 k hk).2 (List.mem_cons.2 (.inr hn))⟩
def missing (n : Nat) (done : List Nat) : List Nat := (List.range n).filter fun i => !done.contains i
theorem missing_lt {n i : Nat} {done : List Nat} (hi : i < n) (hd : i ∉ done) : (missing n (i :: done)).length < (missing n done).length := by
 have e : missing n (i :: done) = (missing n done).filter fun k => !(k == i) := by
  unfold missing
  rw [List.filter_filter]
  congr 1
  funext k
  by_cases hk : k = i <;> simp [hk]
 rw [e, List.length_filter_lt_length_iff_exists]
 exact ⟨i, by simp [missing, hi, hd], by simp⟩
def Prog (m : Region.Mode) (ops : Array Oper) : Prop :=
 ∀ done : List Nat, (∃ i, i < ops.size ∧ i ∉ done) → ∃ i, i < ops.size ∧ i ∉ done ∧ ∀ o, ops[i]? = some o → ∀ e ∈ o.after.toList, Region.binds m e = true → e.on ∈ done
theorem lin_prog {m : Region.Mode} {ops : Array Oper} (T : List Nat) : ∀ (d0 : List Nat), Lin m ops d0 T → ∀ done : List Nat, (∀ i ∈ d0, i ∈ done) → (∃ i, i ∈ T ∧ i ∉ done) →
  ∃ i, i < ops.size ∧ i ∉ done ∧ ∀ o, ops[i]? = some o → ∀ e ∈ o.after.toList, Region.binds m e = true → e.on ∈ done := by
 induction T with
 | nil => exact fun _ _ _ _ h => by obtain ⟨i, hi, _⟩ := h; simp at hi
 | cons k T ih =>
  intro d0 h done hd hex
  obtain ⟨h1, h2, h3, h4⟩ := h
  by_cases hk : k ∈ done
  ·refine ih (k :: d0) h4 done (fun i hi => ?_) ?_
   ·rcases List.mem_cons.1 hi with rfl | hi
    ·exact hk
    ·exact hd i hi
   ·obtain ⟨i, hi, hn⟩ := hex
    rcases List.mem_cons.1 hi with rfl | hi
    ·exact absurd hk hn
    ·exact ⟨i, hi, hn⟩
  ·exact ⟨k, h1, hk, fun o ho e he hb => hd _ (h3 o ho e he hb)⟩
theorem prog_of {m : Region.Mode} {ops : Array Oper} {T : List Nat} (hT : Lin m ops [] T) (hall : ∀ i, i < ops.size → i ∈ T) : Prog m ops :=
 fun done ⟨i, hi, hn⟩ => lin_prog T [] hT done (fun _ h => by simp at h) ⟨i, hall i hi, hn⟩
theorem go_lin {m : Region.Mode} {ops : Array Oper} (hp : Prog m ops) : ∀ (fuel t : Nat) (listed : Array Bool) (acc : List Nat), listed.size = ops.size →
  (∀ i, i < ops.size → (listed[i]? = some true ↔ i ∈ acc)) → (∀ i ∈ acc, i < ops.size) → (missing ops.size acc).length ≤ fuel →
  ∃ l, Region.linearise.go m ops fuel t listed acc = acc.reverse ++ l ∧ Lin m ops acc l ∧ ∀ i, i < ops.size → i ∈ acc ∨ i ∈ l := by
 intro fuel
 induction fuel with
 | zero =>
  intro t listed acc _ _ _ hm
  refine ⟨[], by simp [Region.linearise.go], trivial, fun i hi => ?_⟩
  have h0 : missing ops.size acc = [] := List.eq_nil_of_length_eq_zero (by omega)
  by_cases hia : i ∈ acc
  ·exact .inl hia
  ·exfalso
   have : i ∈ missing ops.size acc := by simp [missing, hi, hia]
   rw [h0] at this; simp at this
 | succ fuel ih =>
  intro t listed acc hsz hL hacc hm
  rw [Region.linearise.go]
  generalize hrs : ((List.range ops.size).filter fun i => !listed.getD i true && ((ops[i]?).map (·.after.all fun e => !Region.binds m e || listed.getD e.on false)).getD false) = rs
  have hmem : ∀ i, i ∈ rs ↔ i < ops.size ∧ i ∉ acc ∧ ∀ o, ops[i]? = some o → ∀ e ∈ o.after.toList, Region.binds m e = true → e.on ∈ acc := by
   intro i
   rw [← hrs, List.mem_filter, List.mem_range]
   constructor
   ·rintro ⟨h1, h2⟩
    have hl := hL i h1
    have hli : listed[i]? = some (listed[i]'(by omega)) := Array.getElem?_eq_getElem (by omega)
    simp only [Bool.and_eq_true, Bool.not_eq_true'] at h2
    obtain ⟨h2, h3⟩ := h2
    refine ⟨h1, fun hia => ?_, fun o ho e he hb => ?_⟩
    ·have := hl.2 hia
     rw [Array.getD_eq_getD_getElem?, this] at h2
     simp at h2
    ·rw [ho] at h3
     simp only [Option.map_some, Option.getD_some, Array.all_eq_true'] at h3
     have := h3 e (by simpa using he)
     rw [hb] at this
     simp only [Bool.not_true, Bool.false_or] at this
     rw [Array.getD_eq_getD_getElem?] at this
     by_cases hon : e.on < ops.size
     ·have h4 := hL e.on hon
      cases hle : listed[e.on]? with
      | none => rw [hle] at this; simp at this
      | some b => rw [hle] at this; simp at this; subst this; exact h4.1 hle
     ·rw [Array.getElem?_eq_none (by omega)] at this
      simp at this
   ·rintro ⟨h1, h2, h3⟩
    refine ⟨h1, ?_⟩
    have hli : listed[i]? = some (listed[i]'(by omega)) := Array.getElem?_eq_getElem (by omega)
    have hb : listed[i]'(by omega) = false := by
     cases hh : listed[i]'(by omega) with
     | false => rfl
     | true => exact absurd ((hL i h1).1 (by rw [hli, hh])) h2
    simp only [Bool.and_eq_true, Bool.not_eq_true', Array.getD_eq_getD_getElem?, hli, hb, Option.getD_some, true_and]
    have ho : ops[i]? = some (ops[i]'h1) := Array.getElem?_eq_getElem h1
    rw [ho]
    simp only [Option.map_some, Option.getD_some, Array.all_eq_true']
    intro e he
    cases hbe : Region.binds m e with
    | false => rfl
    | true =>
     have hin := h3 _ ho e (by simpa using he) hbe
     have := (hL e.on (hacc _ hin)).2 hin
     simp [this]
  cases hget : rs[t % rs.length]? with
  | none =>
   dsimp only
   refine ⟨[], by simp, trivial, fun i hi => ?_⟩
   by_cases hia : i ∈ acc
   ·exact .inl hia
   ·exfalso
    obtain ⟨k, h1, h2, h3⟩ := hp acc ⟨i, hi, hia⟩
    have hk : k ∈ rs := (hmem k).2 ⟨h1, h2, h3⟩
    have hpos : 0 < rs.length := List.length_pos_of_mem hk
    rw [List.getElem?_eq_none_iff] at hget
    have := Nat.mod_lt t hpos
    omega
  | some i =>
   dsimp only
   obtain ⟨h1, h2, h3⟩ := (hmem i).1 (List.mem_of_getElem? hget)
   have hA : ∀ k, k < ops.size → ((listed.setIfInBounds i true)[k]? = some true ↔ k ∈ i :: acc) := by
    intro k hk
    by_cases hki : k = i
    ·subst hki
     simp [hsz, hk]
    ·rw [Array.getElem?_setIfInBounds_ne (fun e => hki e.symm), hL k hk]
     simp [hki]
   have hB : ∀ k ∈ i :: acc, k < ops.size := by
    intro k hk
    rcases List.mem_cons.1 hk with rfl | hk
    ·exact h1
    ·exact hacc k hk
   obtain ⟨l, e1, e2, e3⟩ := ih (t / rs.length) (listed.setIfInBounds i true) (i :: acc) (by simpa using hsz) hA hB (by have := missing_lt (n := ops.size) h1 h2; omega)
   refine ⟨i :: l, by rw [e1]; simp, ⟨h1, h2, h3, e2⟩, fun k hk => ?_⟩
   rcases e3 k hk with hh | hh
   ·rcases List.mem_cons.1 hh with rfl | hh
    ·exact .inr (by simp)
    ·exact .inl hh
   ·exact .inr (by simp [hh])
theorem linearise_lin {m : Region.Mode} {ops : Array Oper} (hp : Prog m ops) (t : Nat) : Lin m ops [] (Region.linearise m ops t) ∧ ∀ i, i < ops.size → i ∈ Region.linearise m ops t := by
 obtain ⟨l, h1, h2, h3⟩ := go_lin hp ops.size t (Array.replicate ops.size false) [] (by simp) (fun i hi => by simp [hi]) (fun i hi => by simp at hi) (by
  unfold missing
  exact Nat.le_trans (List.length_filter_le _ _) (by simp))
 unfold Region.linearise
 rw [h1]
 refine ⟨by simpa using h2, fun i hi => ?_⟩
 rcases h3 i hi with h | h
 ·simp at h
 ·simpa using h
end Reg
end Go.Proofs.YtbjdgepfhhafjaaDoor
namespace Go.Proofs.YtbjdgepfhhafjaaDoor
namespace Reg
def befT (tab : List Nat) : Nat → Nat → Bool := fun i j => (tab.getD j 0).testBit i
def befOkT (ops : Array Oper) (tab : List Nat) : Bool :=
 (List.range ops.size).all fun j => (List.range ops.size).all fun i =>
  !befT tab i j || (match ops[j]? with
   | some o => o.after.any fun e => Region.binds .any e && (e.on == i || befT tab i e.on) && decide (e.on < j)
   | none => false)
def linB (m : Region.Mode) (ops : Array Oper) : List Nat → List Nat → Bool
  | _, [] => true
  | done, i :: l => decide (i < ops.size) && !done.contains i && (match ops[i]? with
      | some o => o.after.all fun e => !Region.binds m e || done.contains e.on
      | none => true) && linB m ops (i :: done) l
def fullB (ops : Array Oper) (l : List Nat) : Bool := (List.range ops.size).all fun i => l.contains i
def drawB (ops : Array Oper) : Bool :=
 linB .any ops [] (List.range ops.size) &&
  (!Region.departs ops || (linB .text ops [] (List.range ops.size) && linB .gc ops [] (Region.linearise .gc ops 0) && fullB ops (Region.linearise .gc ops 0)))
def relB (P : Program) (ib : Bool) (ops : Array Oper) (tab : List Nat) (x y : Nat) : Bool :=
 x != y && !befT tab y x && (befT tab x y || (match ops[x]?, ops[y]? with
  | some ox, some oy => compat P ib ops ox oy
  | _, _ => true))
def pairB (f : Nat → Nat → Bool) : List Nat → Bool
 | [] => true
 | x :: l => l.all (f x) && pairB f l
def statB (ops : Array Oper) (tab : List Nat) : Bool :=
 (ops.all fun o => okOp o.op && (!loadOp o.op || dis o.dst (readsOf ops o))) &&
 (List.range ops.size).all fun x => match ops[x]? with
  | some ox => !loadOp ox.op || (List.range ops.size).all fun y => match ops[y]? with
   | some oy => x == y || befT tab y x || dis oy.dst (readsOf ops ox)
   | none => true
  | none => true
def chk (P : Program) (ib : Bool) (ops : Array Oper) (tab T : List Nat) : Bool :=
 statB ops tab && befOkT ops tab && drawB ops && pairB (relB P ib ops tab) T && T.all (fun i => decide (i < ops.size)) && fullB ops T
def plainB (P : Program) (ib : Bool) (ops : Array Oper) (tab T : List Nat) : Bool :=
 pairB (fun x y => match ops[x]?, ops[y]? with
  | some ox, some oy => !loadOp ox.op || !eff P ib oy || befT tab x y
  | _, _ => true) T
theorem pairB_pairwise {f : Nat → Nat → Bool} (l : List Nat) (h : pairB f l = true) : l.Pairwise (fun x y => f x y = true) := by
 induction l with
 | nil => exact List.Pairwise.nil
 | cons x l ih =>
  simp only [pairB, Bool.and_eq_true, List.all_eq_true] at h
  exact List.pairwise_cons.2 ⟨h.1, ih h.2⟩
theorem linB_lin {m : Region.Mode} {ops : Array Oper} (l : List Nat) : ∀ done, linB m ops done l = true → Lin m ops done l := by
 induction l with
 | nil => exact fun _ _ => trivial
 | cons i l ih =>
  intro done h
  simp only [linB, Bool.and_eq_true, decide_eq_true_eq, Bool.not_eq_true', List.contains_eq_mem, decide_eq_false_iff_not] at h
  obtain ⟨⟨⟨h1, h2⟩, h3⟩, h4⟩ := h
  refine ⟨h1, h2, fun o ho e he hb => ?_, ih _ h4⟩
  rw [ho] at h3
  simp only [Array.all_eq_true'] at h3
  have := h3 e (by simpa using he)
  simpa [hb] using this
theorem fullB_mem {ops : Array Oper} {l : List Nat} (h : fullB ops l = true) : ∀ i, i < ops.size → i ∈ l := by
 intro i hi
 unfold fullB at h
 rw [List.all_eq_true] at h
 simpa using h i (List.mem_range.2 hi)
theorem schedule_lin {ops : Array Oper} (h : drawB ops = true) (mixed : Bool) (t : Nat) : (∃ m, Lin m ops [] (Region.schedule mixed ops t)) ∧ ∀ i, i < ops.size → i ∈ Region.schedule mixed ops t := by
 simp only [drawB, Bool.and_eq_true, Bool.or_eq_true, Bool.not_eq_true'] at h
 obtain ⟨h1, h2⟩ := h
 have hall : ∀ i, i < ops.size → i ∈ List.range ops.size := fun i hi => List.mem_range.2 hi
 unfold Region.schedule
 split
 ·have := linearise_lin (prog_of (linB_lin _ _ h1) hall) t
  exact ⟨⟨_, this.1⟩, this.2⟩
 ·rename_i hne
  rcases h2 with h2 | h2
  ·rw [h2] at hne; simp at hne
  ·split
   ·have := linearise_lin (prog_of (linB_lin _ _ h2.1.1) hall) (t / 2)
    exact ⟨⟨_, this.1⟩, this.2⟩
   ·have := linearise_lin (prog_of (linB_lin _ _ h2.1.2) (fullB_mem h2.2)) (t / 2)
    exact ⟨⟨_, this.1⟩, this.2⟩
theorem befOkT_edge {ops : Array Oper} {tab : List Nat} (hb : befOkT ops tab = true) {i j : Nat} (hj : j < ops.size) (hi : i < ops.size) (h : befT tab i j = true) :
  ∃ o, ops[j]? = some o ∧ ∃ e ∈ o.after.toList, Region.binds .any e = true ∧ (e.on = i ∨ befT tab i e.on = true) ∧ e.on < j := by
 unfold befOkT at hb
 rw [List.all_eq_true] at hb
 have h1 := hb j (List.mem_range.2 hj)
 rw [List.all_eq_true] at h1
 have h2 := h1 i (List.mem_range.2 hi)
 rw [h] at h2
 cases ho : ops[j]? with
 | none => rw [ho] at h2; simp at h2
 | some o =>
  rw [ho] at h2
  refine ⟨o, rfl, ?_⟩
  simp only [Bool.not_true, Bool.false_or] at h2
  rw [Array.any_eq_true'] at h2
  obtain ⟨e, he, h3⟩ := h2
  simp only [Bool.and_eq_true, Bool.or_eq_true, beq_iff_eq, decide_eq_true_eq] at h3
  exact ⟨e, by simpa using he, h3.1.1, h3.1.2, h3.2⟩
theorem stat_of {P : Program} {ops : Array Oper} {tab : List Nat} (h : statB ops tab = true) : Stat P ops (befT tab) := by
 simp only [statB, Bool.and_eq_true] at h
 obtain ⟨h1, h2⟩ := h
 rw [Array.all_eq_true'] at h1
 have hm : ∀ i (o : Oper), ops[i]? = some o → o ∈ ops := fun i o ho => Array.mem_of_getElem? ho
 refine ⟨fun i o ho => ?_, fun i o ho hl => ?_, fun x y ox oy hne hx hy hl hb => ?_⟩
 ·have := h1 o (hm i o ho)
  simp only [Bool.and_eq_true] at this
  exact this.1
 ·have := h1 o (hm i o ho)
  simp only [Bool.and_eq_true, Bool.or_eq_true, Bool.not_eq_true'] at this
  rcases this.2 with h | h
  ·rw [hl] at h; cases h
  ·exact h
 ·rw [List.all_eq_true] at h2
  have := h2 x (List.mem_range.2 (Array.getElem?_eq_some_iff.1 hx).1)
  rw [hx] at this
  dsimp only at this
  rw [hl] at this
  simp only [Bool.not_true, Bool.false_or, List.all_eq_true] at this
  have := this y (List.mem_range.2 (Array.getElem?_eq_some_iff.1 hy).1)
  rw [hy] at this
  dsimp only at this
  rw [hb] at this
  have hxy : (x == y) = false := by simpa using hne
  simpa [hxy] using this
theorem WT_ops {P : Program} {ib : Bool} {ops : Array Oper} {bef : Nat → Nat → Bool} {Q : Post} (hQ : NoQ Q) (l : List Nat) : ∀ (D : Nat → Prop) (a : Act) (w : World), WT P ib ops bef Q D l a w → wpOps P ops Q l a w := by
 induction l with
 | nil => exact fun _ _ _ h => h
 | cons i l ih =>
  intro D a w h
  obtain ⟨o, ho, hs⟩ := h
  simp only [wpOps, ho]
  unfold Step at hs
  split
  ·rename_i hw
   rw [if_pos hw] at hs
   exact .inl (upon_map hQ hs.2 fun v ds w' hx => ih _ _ _ hx.2)
  ·rename_i hw
   rw [if_neg hw] at hs
   exact ih _ _ _ hs.2
theorem region_WT {P : Program} {ib : Bool} {ops : Array Oper} {id : Nat} {Q : Post} {a : Act} {w : World} (tab T : List Nat) (hc : chk P ib ops tab T = true) (hQ : NoQ Q)
  (h : WT P ib ops (befT tab) Q (fun _ => False) T a w.drew) : (Code.region id ops true).wp P Q a w := by
 simp only [chk, Bool.and_eq_true] at hc
 obtain ⟨⟨⟨⟨⟨h1, h2⟩, h3⟩, h4⟩, h5⟩, h6⟩ := hc
 have hS : Stat P ops (befT tab) := stat_of h1
 have hT : T.Pairwise (Rel P ib ops (befT tab)) := (pairB_pairwise T h4).imp fun {x y} hxy => by
  simp only [relB, Bool.and_eq_true, bne_iff_ne, ne_eq, Bool.not_eq_true', Bool.or_eq_true] at hxy
  refine ⟨hxy.1.1, hxy.1.2, ?_⟩
  rcases hxy.2 with h | h
  ·exact .inl h
  ·exact .inr fun ox oy hx hy => by rw [hx, hy] at h; exact h
 have hin : ∀ x ∈ T, x < ops.size := fun x hx => by
  rw [List.all_eq_true] at h5
  simpa using h5 x hx
 refine wp_region_draw fun t => ?_
 obtain ⟨⟨m, hlin⟩, hfull⟩ := schedule_lin h3 (P.follows .mixedOrders) t
 obtain ⟨p1, p2, p3⟩ := lin_bef (fun {i j} => befOkT_edge h2) _ [] hlin (fun j hj => by simp at hj)
 have hTn : T.Nodup := (hT.imp fun {x y} hxy => hxy.1)
 have hperm : (Region.schedule (P.follows .mixedOrders) ops t).Perm T :=
  (List.perm_ext_iff_of_nodup p2 hTn).2 fun i => ⟨fun hi => fullB_mem h6 i (p3 i hi).1, fun hi => hfull i (hin i hi)⟩
 exact WT_ops hQ _ _ _ _ (perm hQ hS T _ _ _ _ hperm hT hin p1 (fun r q hr => hr.elim) h)
def pick (ops : Array Oper) (T : List Nat) : List Oper := T.filterMap (ops[·]?)
def fineAll (ops : Array Oper) (a : Act) : Bool := ops.toList.all fun o => !intOp o.op || !Region.wanted o (yielded ops a.tmps) || intFine a.eval o.op
def fineB (ops : Array Oper) (T : List Nat) : Bool :=
 T.all (fun x => match ops[x]? with | some o => !intOp o.op || dis o.dst (readsOf ops o) | none => true) &&
 pairB (fun x y => match ops[x]?, ops[y]? with
  | some ox, some oy => !intOp ox.op || dis oy.dst (readsOf ops ox)
  | _, _ => true) T
def finQ (ops : Array Oper) (Q : Post) : Post
 | .normal, a, w => fineAll ops a = true ∧ Q .normal a w
 | e, a, w => Q e a w
def postN (next : Act → World → Prop) : Post := Exit.then next (fun _ _ _ => False)
theorem NoQ.then {K : Act → World → Prop} {Q : Post} (h : NoQ Q) : NoQ (Exit.then K Q) := ⟨fun c a w x => h.1 c a w x, fun a w x => h.2 a w x⟩
theorem NoQ.inBlock {i : Nat} {Q : Post} (h : NoQ Q) : NoQ (Exit.inBlock i Q) := ⟨fun c a w x => h.1 c a w x, fun a w x => h.2 a w x⟩
theorem NoQ.body {P : Program} {fn : Func} {R : Ending → World → Prop} (h1 : ∀ c w, ¬ R (.panicked c) w) (h2 : ∀ w, ¬ R .outgrown w) : NoQ (bodyPost P fn R) := ⟨fun c _ w x => h1 c w x.2, fun _ w x => h2 w x⟩
theorem NoQ.postN (next : Act → World → Prop) : NoQ (Reg.postN next) := ⟨fun _ _ _ x => x, fun _ _ x => x⟩
theorem NoQ.finQ {ops : Array Oper} {Q : Post} (h : NoQ Q) : NoQ (Reg.finQ ops Q) := ⟨fun c a w x => h.1 c a w x, fun a w x => h.2 a w x⟩
theorem letsOut_no {Q : Post} (h : NoQ Q) : ¬ LetsOut Q := fun ⟨a, w, x⟩ => h.2 a w x
section
variable {P : Program} {ib : Bool} {ops : Array Oper} {bef : Nat → Nat → Bool} {Q Qf : Post}
theorem wpList_final (hQ : NoQ Qf) (l : List Oper) : ∀ (a : Act) (w : World), wpList P ops Qf l a w → ∃ aF wF, Qf .normal aF wF ∧ ∀ t, (∀ o ∈ l, o.dst ≠ some t) → aF.tmps[t]? = a.tmps[t]? := by
 induction l with
 | nil => exact fun a w h => ⟨a, w, h, fun _ _ => rfl⟩
 | cons o l ih =>
  intro a w h
  have key : ∃ v ds w', wpList P ops Qf l (upd a o.dst ds v) w' := by
   unfold wpList at h
   split at h
   ·rcases h with h | h
    ·exact upon_ex hQ h
    ·exact absurd h.2 (letsOut_no hQ)
   ·exact ⟨undef, [], w, by rw [upd_nil]; exact h⟩
  obtain ⟨v, ds, w', h⟩ := key
  obtain ⟨aF, wF, h1, h2⟩ := ih _ _ h
  exact ⟨aF, wF, h1, fun t ht => (h2 t fun x hx => ht x (by simp [hx])).trans (tmps_upd _ _ _ _ _ (ht o (by simp)))⟩
theorem pick_cons {i : Nat} {o : Oper} (h : ops[i]? = some o) (T : List Nat) : pick ops (i :: T) = o :: pick ops T := by
 simp [pick, h]
theorem mem_pick {T : List Nat} {o : Oper} (h : o ∈ pick ops T) : ∃ i, i ∈ T ∧ ops[i]? = some o := by
 simpa [pick] using h
theorem WT_seg (hQf : NoQ Qf) (T2 : List Nat) (T1 : List Nat) : ∀ (D : Nat → Prop) (a : Act) (w : World),
  (∀ i ∈ T1, i < ops.size) →
  (T1.Pairwise fun x y => ∀ (ox oy : Oper), ops[x]? = some ox → ops[y]? = some oy → loadOp ox.op = true → eff P ib oy = true → bef x y = true) →
  (∀ r q, D r → ops[r]? = some q → loadOp q.op = true → ∀ y ∈ T1, ∀ oy, ops[y]? = some oy → eff P ib oy = true → bef r y = true) →
  (∀ a w, Qf .normal a w → WT P ib ops bef Q (fun k => k ∈ T1 ∨ D k) T2 a w) →
  (ib = true → (∀ a w, Qf .normal a w → fineAll ops a = true) ∧ (∀ x ∈ T1, ∀ o, ops[x]? = some o → intOp o.op = true → dis o.dst (readsOf ops o) = true) ∧
   (T1.Pairwise fun x y => ∀ (ox oy : Oper), ops[x]? = some ox → ops[y]? = some oy → intOp ox.op = true → dis oy.dst (readsOf ops ox) = true)) →
  wpList P ops Qf (pick ops T1) a w → WT P ib ops bef Q D (T1 ++ T2) a w := by
 induction T1 with
 | nil =>
  intro D a w _ _ _ hn _ h
  have := hn a w h
  have e : (fun k => k ∈ ([] : List Nat) ∨ D k) = D := by funext k; simp
  rw [e] at this
  exact this
 | cons i T1 ih =>
  intro D a w hin hp hD hn hf h
  have hi := hin i (by simp)
  have ho : ops[i]? = some ops[i] := Array.getElem?_eq_getElem hi
  rw [pick_cons ho] at h
  obtain ⟨hp1, hp2⟩ := List.pairwise_cons.1 hp
  refine ⟨ops[i], ho, ?_⟩
  have hrest : ∀ b w', wpList P ops Qf (pick ops T1) b w' → Obl P ib ops bef D i b w w' ∧ WT P ib ops bef Q (fun k => k = i ∨ D k) (T1 ++ T2) b w' := by
   intro b w' hb
   refine ⟨fun o ho' he r q hr hq hl hb' => ?_, ih _ b w' (fun x hx => hin x (by simp [hx])) hp2 ?_ ?_ ?_ hb⟩
   ·have := hD r q hr hq hl i (by simp) o ho' he
    rw [hb'] at this; cases this
   ·intro r q hr hq hl y hy oy hoy he
    rcases hr with rfl | hr
    ·exact hp1 y hy q oy hq hoy hl he
    ·exact hD r q hr hq hl y (by simp [hy]) oy hoy he
   ·intro a' w'' hx
    have := hn a' w'' hx
    have e : (fun k => k ∈ i :: T1 ∨ D k) = (fun k => k ∈ T1 ∨ k = i ∨ D k) := by
     funext k; simp only [List.mem_cons, eq_iff_iff]; constructor
     ·rintro ((h | h) | h) <;> simp [h]
     ·rintro (h | h | h) <;> simp [h]
    rw [e] at this
    exact this
   ·intro hib
    obtain ⟨f1, f2, f3⟩ := hf hib
    exact ⟨f1, fun x hx => f2 x (by simp [hx]), (List.pairwise_cons.1 f3).2⟩
  unfold wpList at h
  unfold Step
  split at h
  ·rename_i hw
   rw [if_pos hw]
   rcases h with h | h
   ·refine ⟨fun hib => ?_, upon_map hQf h fun v ds w' hx => hrest _ _ hx⟩
    simp only [Bool.and_eq_true] at hib
    obtain ⟨f1, f2, f3⟩ := hf hib.1
    obtain ⟨v, ds, w', hx⟩ := upon_ex hQf h
    obtain ⟨aF, wF, g1, g2⟩ := wpList_final hQf _ _ _ hx
    have hag : Agree ops ops[i] aF a := by
     intro t ht
     have hd := f2 i (by simp) _ ho hib.2
     rw [g2 t fun o hom => ?_, tmps_upd _ _ _ _ _ (dis_ne hd ht)]
     obtain ⟨y, hy, hoy⟩ := mem_pick hom
     exact dis_ne ((List.pairwise_cons.1 f3).1 y hy _ _ ho hoy hib.2) ht
    have hfa := f1 _ _ g1
    unfold fineAll at hfa
    rw [List.all_eq_true] at hfa
    have := hfa ops[i] (by simp)
    rw [agree_wanted hag, hw, hib.2, intFine_agree hag] at this
    simpa using this
   ·exact absurd h.2 (letsOut_no hQf)
  ·rename_i hw
   rw [if_neg hw]
   exact hrest _ _ h
theorem WT_act {i : Nat} {o : Oper} (ho : ops[i]? = some o) (hz : List Nat) (T : List Nat) {D : Nat → Prop} {a : Act} {w : World} (hni : (ib && intOp o.op) = false)
  (hcov : ∀ r q, D r → ops[r]? = some q → loadOp q.op = true → bef r i = false → r ∈ hz)
  (h : wpList P ops (postN fun b w' => (∀ r ∈ hz, ∀ q, ops[r]? = some q → Same P ops q b w w') ∧ WT P ib ops bef Q (fun k => k = i ∨ D k) T b w') [o] a w) : WT P ib ops bef Q D (i :: T) a w := by
 refine ⟨o, ho, ?_⟩
 have hrest : ∀ b w', wpList P ops (postN fun b w' => (∀ r ∈ hz, ∀ q, ops[r]? = some q → Same P ops q b w w') ∧ WT P ib ops bef Q (fun k => k = i ∨ D k) T b w') [] b w' →
   Obl P ib ops bef D i b w w' ∧ WT P ib ops bef Q (fun k => k = i ∨ D k) T b w' := fun b w' hb =>
  ⟨fun o' _ _ r q hr hq hl hb' => hb.1 r (hcov r q hr hq hl hb') q hq, hb.2⟩
 unfold wpList at h
 unfold Step
 split at h
 ·rename_i hw
  rw [if_pos hw]
  rcases h with h | h
  ·exact ⟨fun hib => absurd hib (by rw [hni]; simp), upon_map (NoQ.postN _) h fun v ds w' hx => hrest _ _ hx⟩
  ·exact absurd h.2 (letsOut_no (NoQ.postN _))
 ·rename_i hw
  rw [if_neg hw]
  exact hrest _ _ h
end
section
variable {P : Program} {id : Nat} {Q : Post} {a : Act} {w : World}
theorem plainB_pairwise {ib : Bool} {ops : Array Oper} {tab T : List Nat} (h : plainB P ib ops tab T = true) :
  T.Pairwise fun x y => ∀ (ox oy : Oper), ops[x]? = some ox → ops[y]? = some oy → loadOp ox.op = true → eff P ib oy = true → befT tab x y = true :=
 (pairB_pairwise T h).imp fun {x y} hxy ox oy hx hy hl he => by
  rw [hx, hy] at hxy
  dsimp only at hxy
  rw [hl, he] at hxy
  simpa using hxy
theorem chk_in {ib : Bool} {ops : Array Oper} {tab T : List Nat} (h : chk P ib ops tab T = true) : ∀ i ∈ T, i < ops.size := fun i hi => by
 simp only [chk, Bool.and_eq_true] at h
 have := h.1.2
 rw [List.all_eq_true] at this
 simpa using this i hi
theorem pick_range_aux (l : List Oper) : ∀ (p : List Oper) (k : Nat), p.length = k → (List.range' k l.length).filterMap (fun i => (p ++ l)[i]?) = l := by
 induction l with
 | nil => intro p k _; rfl
 | cons x l ih =>
  intro p k hk
  have h0 : (p ++ x :: l)[k]? = some x := by rw [← hk]; simp
  have := ih (p ++ [x]) (k + 1) (by simp [hk])
  rw [List.append_assoc] at this
  simp only [List.length_cons, List.range'_succ, List.filterMap_cons, h0]
  rw [List.singleton_append] at this
  rw [this]
theorem pick_range (l : List Oper) : pick l.toArray (List.range l.length) = l := by
 have := pick_range_aux l [] 0 rfl
 rw [List.nil_append] at this
 unfold pick
 rw [List.range_eq_range']
 simpa using this
theorem region_plain {l : List Oper} (tab : List Nat) (hc : (chk P false l.toArray tab (List.range l.length) && plainB P false l.toArray tab (List.range l.length)) = true) (hQ : NoQ Q)
  (h : wpList P l.toArray Q l a w.drew) : (Code.region id l.toArray true).wp P Q a w := by
 simp only [Bool.and_eq_true] at hc
 refine region_WT tab _ hc.1 hQ ?_
 have := WT_seg (ib := false) (bef := befT tab) hQ [] (List.range l.length) (fun _ => False) a w.drew (chk_in hc.1) (plainB_pairwise hc.2) (fun r q hr => hr.elim) (fun a w h => h) (fun h => by cases h)
 rw [List.append_nil] at this
 exact this (by rw [pick_range]; exact h)
theorem region_ints {l : List Oper} (tab : List Nat)
  (hc : (chk P true l.toArray tab (List.range l.length) && plainB P true l.toArray tab (List.range l.length) && fineB l.toArray (List.range l.length)) = true) (hQ : NoQ Q)
  (h : wpList P l.toArray (finQ l.toArray Q) l a w.drew) : (Code.region id l.toArray true).wp P Q a w := by
 simp only [Bool.and_eq_true] at hc
 obtain ⟨⟨h1, h2⟩, h3⟩ := hc
 simp only [fineB, Bool.and_eq_true, List.all_eq_true] at h3
 refine region_WT tab _ h1 hQ ?_
 have := WT_seg (ib := true) (bef := befT tab) (Q := Q) hQ.finQ [] (List.range l.length) (fun _ => False) a w.drew (chk_in h1) (plainB_pairwise h2) (fun r q hr => hr.elim) (fun a w h => h.2)
  (fun _ => ⟨fun a w h => h.1, fun x hx o ho hi => by have := h3.1 x hx; rw [ho] at this; dsimp only at this; rw [hi] at this; simpa using this, (pairB_pairwise _ h3.2).imp fun {x y} hxy ox oy hx hy hi => by
   rw [hx, hy] at hxy; dsimp only at hxy; rw [hi] at hxy; simpa using hxy⟩)
 rw [List.append_nil] at this
 exact this (by rw [pick_range]; exact h)
def Rest (P : Program) (ops : Array Oper) (tab : List Nat) (Q : Post) (D T : List Nat) (a : Act) (w : World) : Prop := WT P false ops (befT tab) Q (fun k => k ∈ D) T a w
theorem region_cut {l : List Oper} (tab T : List Nat) (hc : chk P false l.toArray tab T = true) (hQ : NoQ Q) (h : Rest P l.toArray tab Q [] T a w.drew) : (Code.region id l.toArray true).wp P Q a w := by
 refine region_WT tab T hc hQ ?_
 have e : (fun k => k ∈ ([] : List Nat)) = fun _ => False := by funext k; simp
 unfold Rest at h
 rw [e] at h
 exact h
theorem rest_walk {l l1 : List Oper} {tab D : List Nat} (T1 T2 : List Nat) (hl : pick l.toArray T1 = l1)
  (hc : (T1.all (fun i => decide (i < l.length)) && plainB P false l.toArray tab T1 && D.all (fun r => T1.all fun y => match l.toArray[r]?, l.toArray[y]? with
   | some q, some oy => !loadOp q.op || !eff P false oy || befT tab r y
   | _, _ => true)) = true)
  (h : wpList P l.toArray (postN fun a w => Rest P l.toArray tab Q (T1 ++ D) T2 a w) l1 a w) : Rest P l.toArray tab Q D (T1 ++ T2) a w := by
 simp only [Bool.and_eq_true, List.all_eq_true] at hc
 obtain ⟨⟨h1, h2⟩, h3⟩ := hc
 refine WT_seg (ib := false) (bef := befT tab) (Qf := postN fun a w => Rest P l.toArray tab Q (T1 ++ D) T2 a w) (NoQ.postN _) T2 T1 _ a w (fun i hi => by simpa using h1 i hi) (plainB_pairwise h2) ?_ ?_ (fun h => by cases h) (by rw [hl]; exact h)
 ·intro r q hr hq hlq y hy oy hoy he
  have := h3 r hr y hy
  rw [hq, hoy] at this
  dsimp only at this
  rw [hlq, he] at this
  simpa using this
 ·intro a' w' hx
  have e : (fun k => k ∈ T1 ∨ k ∈ D) = fun k => k ∈ T1 ++ D := by funext k; simp
  rw [e]
  exact hx
theorem rest_act {l : List Oper} {o : Oper} {tab D : List Nat} (i : Nat) (T : List Nat) (hz : List Nat) (ho : l.toArray[i]? = some o)
  (hc : D.all (fun r => match l.toArray[r]? with
   | some q => !loadOp q.op || befT tab r i || hz.contains r
   | none => true) = true)
  (h : wpList P l.toArray (postN fun b w' => (∀ r ∈ hz, ∀ q, l.toArray[r]? = some q → Same P l.toArray q b w w') ∧ Rest P l.toArray tab Q (i :: D) T b w') [o] a w) : Rest P l.toArray tab Q D (i :: T) a w := by
 rw [List.all_eq_true] at hc
 refine WT_act ho hz T (by simp) (fun r q hr hq hl hb => ?_) ?_
 ·have := hc r hr
  rw [hq] at this
  dsimp only at this
  rw [hl, hb] at this
  simpa using this
 ·have e : (fun k => k = i ∨ k ∈ D) = fun k => k ∈ i :: D := by funext k; simp
  rw [e]
  exact h
theorem rest_end {l : List Oper} {tab D : List Nat} (h : Q .normal a w) : Rest P l.toArray tab Q D [] a w := h
theorem region_ints' {l : List Oper} (tab : List Nat)
  (hc : (chk P true l.toArray tab (List.range l.length) && plainB P true l.toArray tab (List.range l.length) && fineB l.toArray (List.range l.length)) = true) (hQ : NoQ Q)
  (h : ∀ Qf : Post, (∀ a w, fineAll l.toArray a = true ∧ Q .normal a w → Qf .normal a w) → wpList P l.toArray Qf l a w.drew) : (Code.region id l.toArray true).wp P Q a w :=
 region_ints tab hc hQ (h _ fun _ _ x => x)
theorem rest_walk' {l l1 : List Oper} {tab D : List Nat} (T1 T2 : List Nat) (hl : pick l.toArray T1 = l1)
  (hc : (T1.all (fun i => decide (i < l.length)) && plainB P false l.toArray tab T1 && D.all (fun r => T1.all fun y => match l.toArray[r]?, l.toArray[y]? with
   | some q, some oy => !loadOp q.op || !eff P false oy || befT tab r y
   | _, _ => true)) = true)
  (h : ∀ Qf : Post, (∀ a w, Rest P l.toArray tab Q (T1 ++ D) T2 a w → Qf .normal a w) → wpList P l.toArray Qf l1 a w) : Rest P l.toArray tab Q D (T1 ++ T2) a w :=
 rest_walk T1 T2 hl hc (h _ fun _ _ x => x)
theorem rest_act' {l : List Oper} {o : Oper} {tab D : List Nat} (i : Nat) (T : List Nat) (hz : List Nat) (ho : l.toArray[i]? = some o)
  (hc : D.all (fun r => match l.toArray[r]? with
   | some q => !loadOp q.op || befT tab r i || hz.contains r
   | none => true) = true)
  (h : ∀ Qf : Post, (∀ b w', (∀ r ∈ hz, ∀ q, l.toArray[r]? = some q → Same P l.toArray q b w w') ∧ Rest P l.toArray tab Q (i :: D) T b w' → Qf .normal b w') → wpList P l.toArray Qf [o] a w) : Rest P l.toArray tab Q D (i :: T) a w :=
 rest_act i T hz ho hc (h _ fun _ _ x => x)
theorem same_below {ops : Array Oper} {b : Act} {w w' : World} (h : RowKit.Below w.heap.size w w') (hz : List Nat) (hl : hz.all (fun r => match ops[r]? with | some q => loadOp q.op | none => true) = true) :
  ∀ r ∈ hz, ∀ q, ops[r]? = some q → Same P ops q b w w' := fun r hr q hq => by
 rw [List.all_eq_true] at hl
 have := hl r hr
 rw [hq] at this
 exact same_ext this h.block
end
end Reg
end Go.Proofs.YtbjdgepfhhafjaaDoor
namespace Go.Proofs.YtbjdgepfhhafjaaDoor
namespace Reg
theorem run_load1 {P : Program} {w : World} {p : Addr} {v : Value} {ty : TypeId} {d : TypeDesc} (hc : w.cell? p = some v) (hu : P.underlying ty = some d) (hd : d.isRow = false) :
  (Instr.loadAt ty (.pointer (some p))).run P w = .ok v w := by
 have hagg : (isAgg ty).run P w = .ok false w := by
  unfold isAgg
  rw [Sem.run_bind, run_underlying hu w]
  cases d <;> simp_all
 simp [Instr.loadAt, Instr.sureAddr, Sem.run_bind, loadVar, hagg, hc]
theorem same_load1 {P : Program} {ops : Array Oper} {q : Oper} {b : Act} {w w' : World} {ty : TypeId} {x : Operand} {p : Addr} {u : Value} {d : TypeDesc} (ho : q.op = .load ty x) (hx : b.eval x = .pointer (some p))
  (hc : w.cell? p = some u) (hc' : w'.cell? p = some u) (hu : P.underlying ty = some d) (hd : d.isRow = false) : Same P ops q b w w' := by
 intro _ v hv
 obtain ⟨dst, op, type, pos, after, guard⟩ := q
 dsimp only at ho
 subst ho
 have e : ∀ w1, w1.cell? p = some u → (execOp b.eval { dst, op := .load ty x, type, pos, after, guard }).run P w1 = .ok (.value u) w1 := fun w1 h => by
  show ((Instr.loadAt ty (b.eval x)) >>= fun v => (Pure.pure (Next.value v) : Sem Next)).run P w1 = _
  rw [hx]
  exact run_value (run_load1 h hu hd)
 rw [e w hc] at hv
 injection hv with hv _
 rw [← hv]
 exact e w' hc'
end Reg
end Go.Proofs.YtbjdgepfhhafjaaDoor
namespace Go.Proofs.YtbjdgepfhhafjaaDoor
namespace Reg
def fineT (ops : Array Oper) (T : List Nat) (a : Act) : Bool := T.all fun x => match ops[x]? with
 | some o => !intOp o.op || !Region.wanted o (yielded ops a.tmps) || intFine a.eval o.op
 | none => true
section
variable {P : Program} {ib : Bool} {ops : Array Oper} {bef : Nat → Nat → Bool} {Q Qf : Post}
theorem WT_segI (T0 : List Nat) (hQf : NoQ Qf) (T2 : List Nat) (T1 : List Nat) : ∀ (D : Nat → Prop) (a : Act) (w : World),
  (∀ x ∈ T1, x ∈ T0) → (∀ i ∈ T1, i < ops.size) →
  (T1.Pairwise fun x y => ∀ (ox oy : Oper), ops[x]? = some ox → ops[y]? = some oy → loadOp ox.op = true → eff P ib oy = true → bef x y = true) →
  (∀ r q, D r → ops[r]? = some q → loadOp q.op = true → ∀ y ∈ T1, ∀ oy, ops[y]? = some oy → eff P ib oy = true → bef r y = true) →
  (∀ a w, Qf .normal a w → WT P ib ops bef Q (fun k => k ∈ T1 ∨ D k) T2 a w) →
  (ib = true → (∀ a w, Qf .normal a w → fineT ops T0 a = true) ∧ (∀ x ∈ T1, ∀ o, ops[x]? = some o → intOp o.op = true → dis o.dst (readsOf ops o) = true) ∧
   (T1.Pairwise fun x y => ∀ (ox oy : Oper), ops[x]? = some ox → ops[y]? = some oy → intOp ox.op = true → dis oy.dst (readsOf ops ox) = true)) →
  wpList P ops Qf (pick ops T1) a w → WT P ib ops bef Q D (T1 ++ T2) a w := by
 induction T1 with
 | nil =>
  intro D a w _ _ _ _ hn _ h
  have := hn a w h
  have e : (fun k => k ∈ ([] : List Nat) ∨ D k) = D := by funext k; simp
  rw [e] at this
  exact this
 | cons i T1 ih =>
  intro D a w hsub hin hp hD hn hf h
  have hi := hin i (by simp)
  have ho : ops[i]? = some ops[i] := Array.getElem?_eq_getElem hi
  rw [pick_cons ho] at h
  obtain ⟨hp1, hp2⟩ := List.pairwise_cons.1 hp
  refine ⟨ops[i], ho, ?_⟩
  have hrest : ∀ b w', wpList P ops Qf (pick ops T1) b w' → Obl P ib ops bef D i b w w' ∧ WT P ib ops bef Q (fun k => k = i ∨ D k) (T1 ++ T2) b w' := by
   intro b w' hb
   refine ⟨fun o ho' he r q hr hq hl hb' => ?_, ih _ b w' (fun x hx => hsub x (by simp [hx])) (fun x hx => hin x (by simp [hx])) hp2 ?_ ?_ ?_ hb⟩
   ·have := hD r q hr hq hl i (by simp) o ho' he
    rw [hb'] at this; cases this
   ·intro r q hr hq hl y hy oy hoy he
    rcases hr with rfl | hr
    ·exact hp1 y hy q oy hq hoy hl he
    ·exact hD r q hr hq hl y (by simp [hy]) oy hoy he
   ·intro a' w'' hx
    have := hn a' w'' hx
    have e : (fun k => k ∈ i :: T1 ∨ D k) = (fun k => k ∈ T1 ∨ k = i ∨ D k) := by
     funext k; simp only [List.mem_cons, eq_iff_iff]; constructor
     ·rintro ((h | h) | h) <;> simp [h]
     ·rintro (h | h | h) <;> simp [h]
    rw [e] at this
    exact this
   ·intro hib
    obtain ⟨f1, f2, f3⟩ := hf hib
    exact ⟨f1, fun x hx => f2 x (by simp [hx]), (List.pairwise_cons.1 f3).2⟩
  unfold wpList at h
  unfold Step
  split at h
  ·rename_i hw
   rw [if_pos hw]
   rcases h with h | h
   ·refine ⟨fun hib => ?_, upon_map hQf h fun v ds w' hx => hrest _ _ hx⟩
    simp only [Bool.and_eq_true] at hib
    obtain ⟨f1, f2, f3⟩ := hf hib.1
    obtain ⟨v, ds, w', hx⟩ := upon_ex hQf h
    obtain ⟨aF, wF, g1, g2⟩ := wpList_final hQf _ _ _ hx
    have hag : Agree ops ops[i] aF a := by
     intro t ht
     have hd := f2 i (by simp) _ ho hib.2
     rw [g2 t fun o hom => ?_, tmps_upd _ _ _ _ _ (dis_ne hd ht)]
     obtain ⟨y, hy, hoy⟩ := mem_pick hom
     exact dis_ne ((List.pairwise_cons.1 f3).1 y hy _ _ ho hoy hib.2) ht
    have hfa := f1 _ _ g1
    unfold fineT at hfa
    rw [List.all_eq_true] at hfa
    have := hfa i (hsub i (by simp))
    rw [ho] at this
    dsimp only at this
    rw [agree_wanted hag, hw, hib.2, intFine_agree hag] at this
    simpa using this
   ·exact absurd h.2 (letsOut_no hQf)
  ·rename_i hw
   rw [if_neg hw]
   exact hrest _ _ h
end
section
variable {P : Program} {Q : Post} {id : Nat} {a : Act} {w : World}
def RestI (P : Program) (ops : Array Oper) (tab : List Nat) (Q : Post) (D T : List Nat) (a : Act) (w : World) : Prop := WT P true ops (befT tab) Q (fun k => k ∈ D) T a w
theorem region_cutI {l : List Oper} (tab T : List Nat) (hc : chk P true l.toArray tab T = true) (hQ : NoQ Q) (h : RestI P l.toArray tab Q [] T a w.drew) : (Code.region id l.toArray true).wp P Q a w := by
 refine region_WT tab T hc hQ ?_
 have e : (fun k => k ∈ ([] : List Nat)) = fun _ => False := by funext k; simp
 unfold RestI at h
 rw [e] at h
 exact h
theorem restI_walk {l l1 : List Oper} {tab D : List Nat} (T1 T2 : List Nat) (hl : pick l.toArray T1 = l1)
  (hc : (T1.all (fun i => decide (i < l.length)) && plainB P true l.toArray tab T1 && D.all (fun r => T1.all fun y => match l.toArray[r]?, l.toArray[y]? with
   | some q, some oy => !loadOp q.op || !eff P true oy || befT tab r y
   | _, _ => true) && fineB l.toArray T1) = true)
  (h : ∀ Qf : Post, (∀ a w, fineT l.toArray T1 a = true ∧ RestI P l.toArray tab Q (T1 ++ D) T2 a w → Qf .normal a w) → wpList P l.toArray Qf l1 a w) : RestI P l.toArray tab Q D (T1 ++ T2) a w := by
 simp only [Bool.and_eq_true, List.all_eq_true] at hc
 obtain ⟨⟨⟨h1, h2⟩, h3⟩, h4⟩ := hc
 simp only [fineB, Bool.and_eq_true, List.all_eq_true] at h4
 refine WT_segI (ib := true) (bef := befT tab) (Qf := postN fun a w => fineT l.toArray T1 a = true ∧ RestI P l.toArray tab Q (T1 ++ D) T2 a w) T1 (NoQ.postN _) T2 T1 _ a w (fun _ hx => hx) (fun i hi => by simpa using h1 i hi) (plainB_pairwise h2) ?_ ?_ ?_ (by rw [hl]; exact h _ fun _ _ x => x)
 ·intro r q hr hq hlq y hy oy hoy he
  have := h3 r hr y hy
  rw [hq, hoy] at this
  simp only [hlq, he, Bool.not_true, Bool.or_false, Bool.false_or] at this
  simpa using this
 ·intro a w hx
  have hx2 := hx.2
  unfold RestI at hx2
  have e : (fun k => k ∈ T1 ++ D) = (fun k => k ∈ T1 ∨ k ∈ D) := by funext k; simp
  rw [e] at hx2
  exact hx2
 ·exact fun _ => ⟨fun a w h => h.1, fun x hx o ho hi => by have := h4.1 x hx; rw [ho] at this; dsimp only at this; rw [hi] at this; simpa using this, (pairB_pairwise _ h4.2).imp fun {x y} hxy ox oy hx hy hi => by
   rw [hx, hy] at hxy; dsimp only at hxy; rw [hi] at hxy; simpa using hxy⟩
theorem restI_act {l : List Oper} {o : Oper} {tab D : List Nat} (i : Nat) (T : List Nat) (hz : List Nat) (ho : l.toArray[i]? = some o)
  (hc : (D.all (fun r => match l.toArray[r]? with
   | some q => !loadOp q.op || befT tab r i || hz.contains r
   | none => true) && !intOp o.op) = true)
  (h : ∀ Qf : Post, (∀ b w', (∀ r ∈ hz, ∀ q, l.toArray[r]? = some q → Same P l.toArray q b w w') ∧ RestI P l.toArray tab Q (i :: D) T b w' → Qf .normal b w') → wpList P l.toArray Qf [o] a w) : RestI P l.toArray tab Q D (i :: T) a w := by
 simp only [Bool.and_eq_true, List.all_eq_true, Bool.not_eq_true'] at hc
 obtain ⟨hc, hni⟩ := hc
 refine WT_act ho hz T (by rw [hni]; rfl) (fun r q hr hq hl hb => ?_) ?_
 ·have := hc r hr
  rw [hq] at this
  simp only [hl, hb, Bool.not_true, Bool.false_or] at this
  simpa using this
 ·have := h (postN fun b w' => (∀ r ∈ hz, ∀ q, l.toArray[r]? = some q → Same P l.toArray q b w w') ∧ RestI P l.toArray tab Q (i :: D) T b w') fun _ _ x => x
  have e : (fun k => k ∈ i :: D) = (fun k => k = i ∨ k ∈ D) := by funext k; simp
  unfold RestI at this
  rw [e] at this
  exact this
theorem restI_end {l : List Oper} {tab D : List Nat} (h : Q .normal a w) : RestI P l.toArray tab Q D [] a w := h
end
end Reg
end Go.Proofs.YtbjdgepfhhafjaaDoor
namespace Go.Proofs.YtbjdgepfhhafjaaDoor
namespace Reg
section
variable {P : Program} {Q : Post} {id : Nat} {a : Act} {w : World}
theorem cI {l : List Oper} (tab T : List Nat) (h : RestI P l.toArray tab Q [] T a w.drew) (hc : chk P true l.toArray tab T = true := by kernel_rfl) (hQ : NoQ Q := by repeat (first | exact Reg.NoQ.body (fun _ _ h => h) (fun _ h => h) | refine Reg.NoQ.then ?_ | refine Reg.NoQ.inBlock ?_)) : (Code.region id l.toArray true).wp P Q a w := region_cutI tab T hc hQ h
theorem cC {l : List Oper} (tab T : List Nat) (h : Rest P l.toArray tab Q [] T a w.drew) (hc : chk P false l.toArray tab T = true := by kernel_rfl) (hQ : NoQ Q := by repeat (first | exact Reg.NoQ.body (fun _ _ h => h) (fun _ h => h) | refine Reg.NoQ.then ?_ | refine Reg.NoQ.inBlock ?_)) : (Code.region id l.toArray true).wp P Q a w := region_cut tab T hc hQ h
theorem cP {l : List Oper} (tab : List Nat) (h : wpList P l.toArray Q l a w.drew) (hc : (chk P false l.toArray tab (List.range l.length) && plainB P false l.toArray tab (List.range l.length)) = true := by kernel_rfl) (hQ : NoQ Q := by repeat (first | exact Reg.NoQ.body (fun _ _ h => h) (fun _ h => h) | refine Reg.NoQ.then ?_ | refine Reg.NoQ.inBlock ?_)) : (Code.region id l.toArray true).wp P Q a w := region_plain tab hc hQ h
theorem cN {l : List Oper} (tab : List Nat) (h : ∀ Qf : Post, (∀ a w, fineAll l.toArray a = true ∧ Q .normal a w → Qf .normal a w) → wpList P l.toArray Qf l a w.drew) (hc : (chk P true l.toArray tab (List.range l.length) && plainB P true l.toArray tab (List.range l.length) && fineB l.toArray (List.range l.length)) = true := by kernel_rfl) (hQ : NoQ Q := by repeat (first | exact Reg.NoQ.body (fun _ _ h => h) (fun _ h => h) | refine Reg.NoQ.then ?_ | refine Reg.NoQ.inBlock ?_)) : (Code.region id l.toArray true).wp P Q a w := region_ints' tab hc hQ h
theorem wI {l l1 : List Oper} {tab D : List Nat} (T1 T2 : List Nat) (hl : pick l.toArray T1 = l1)
  (h : ∀ Qf : Post, (∀ a w, fineT l.toArray T1 a = true ∧ RestI P l.toArray tab Q (T1 ++ D) T2 a w → Qf .normal a w) → wpList P l.toArray Qf l1 a w)
  (hc : (T1.all (fun i => decide (i < l.length)) && plainB P true l.toArray tab T1 && D.all (fun r => T1.all fun y => match l.toArray[r]?, l.toArray[y]? with
   | some q, some oy => !loadOp q.op || !eff P true oy || befT tab r y
   | _, _ => true) && fineB l.toArray T1) = true := by kernel_rfl) : RestI P l.toArray tab Q D (T1 ++ T2) a w := restI_walk T1 T2 hl hc h
theorem aI {l : List Oper} {o : Oper} {tab D : List Nat} (i : Nat) (T : List Nat) (hz : List Nat) (ho : l.toArray[i]? = some o)
  (h : ∀ Qf : Post, (∀ b w', (∀ r ∈ hz, ∀ q, l.toArray[r]? = some q → Same P l.toArray q b w w') ∧ RestI P l.toArray tab Q (i :: D) T b w' → Qf .normal b w') → wpList P l.toArray Qf [o] a w)
  (hc : (D.all (fun r => match l.toArray[r]? with
   | some q => !loadOp q.op || befT tab r i || hz.contains r
   | none => true) && !intOp o.op) = true := by kernel_rfl) : RestI P l.toArray tab Q D (i :: T) a w := restI_act i T hz ho hc h
end
theorem nm {α : Type} {q : α → Prop} : ∀ r ∈ ([] : List α), q r := fun _ hr => absurd hr List.not_mem_nil
end Reg
theorem gT {α : Type} {l : List α} {i : Nat} (h : i < l.toArray.size) : l.toArray[i] = l[i]'(by simpa using h) := List.getElem_toArray h
theorem gS {α : Type} {a : α} {l : List α} {i : Nat} (h : i + 1 < (a :: l).length) : (a :: l)[i + 1] = l[i]'(Nat.lt_of_succ_lt_succ h) := rfl
theorem gZ {α : Type} {a : α} {l : List α} (h : 0 < (a :: l).length) : (a :: l)[0] = a := rfl
end Go.Proofs.YtbjdgepfhhafjaaDoor
