/-
  Part PA of a proof.
-/
import Derived.WalkKit
import Derived.Laws.Panics
import Derived.Deep.MidRow
import Derived.Test.YtfcfpoemojjglaaGreatDoorRows
import Derived.WalkSpells
import Derived.WalkLawsBesides
import Derived.Lib.Hide
import Derived.Deep.AppendLies
import Derived.Deep.Draws
import Derived.Deep.LoopGhost
import Derived.Deep.QuietTactic
import Derived.BigQuiet
import Derived.BigCall
import Derived.Maps.AppendAt
set_option maxHeartbeats 16000000
set_option maxRecDepth 100000
set_option linter.unusedVariables false
set_option linter.unusedSimpArgs false
namespace Go.Proofs.YtfcfpoemojjglaaGreatDoor
namespace Reg
def Ext (w w':World):Prop:=∀k,k<w.heap.size→w'.heap[k]?=w.heap[k]?
theorem Ext.refl (w:World):Ext w w:=fun _ _=>rfl
theorem Ext.some {w w':World} (h:Ext w w') {k:Nat} {o:Obj} (hk:w.heap[k]?=some o):w'.heap[k]?=some o:=by
 rw [h k (Array.getElem?_eq_some_iff.1 hk).1]; exact hk
def Ag {α:Type} (P:Program) (s:Sem α):Prop:=(∃v,∀w,s.run P w=.ok v w)∨(∀w,∃h w',s.run P w=.halt h w')
section
variable {α β:Type} {P:Program}
theorem Ag.pure (v:α):Ag P (Pure.pure v:Sem α):=.inl ⟨v,fun _=>rfl⟩
theorem Ag.halt (h:Halt):Ag P (Sem.halt h:Sem α):=.inr fun w=>⟨h,w,rfl⟩
theorem Ag.haltBind (h:Halt) (f:α→Sem β):Ag P (Sem.halt h >>=f):=.inr fun w=>⟨h,w,rfl⟩
theorem Ag.stuckBind (s:String) (f:α→Sem β):Ag P (Go.stuck s >>=f):=Ag.haltBind _ f
theorem Ag.stuck (s:String):Ag P (Go.stuck s:Sem α):=Ag.halt _
theorem Ag.unsupported (s:Unsupported):Ag P (Go.unsupported s:Sem α):=Ag.halt _
theorem Ag.bind {s:Sem α} {f:α→Sem β} (E:Ag P s) (C:∀v,Ag P (f v)):Ag P (s >>=f):=by
 rcases E with⟨v,z⟩ | y
 ·rcases C v with⟨u,F⟩ | y
  ·exact .inl ⟨u,fun w=>by rw [Sem.run_bind,z]; exact F w⟩
  ·exact .inr fun w=>by rw [Sem.run_bind,z]; exact y w
 ·exact .inr fun w=>by
   obtain⟨h,w',e⟩:=y w
   exact⟨h,w',by rw [Sem.run_bind,e]; rfl⟩
theorem Ag.program {f:Program→Sem β} (h:Ag P (f P)):Ag P (Go.program >>=f):=by
 rcases h with⟨u,z⟩ | y
 ·exact .inl ⟨u,fun w=>by rw [Sem.run_bind,run_program]; exact z w⟩
 ·exact .inr fun w=>by rw [Sem.run_bind,run_program]; exact y w
theorem Ag.ite {c:Prop} [Decidable c] {x y:Sem α} (h:Ag P x) (z:Ag P y):Ag P (if c then x else y):=by
 split
 ·exact h
 ·exact z
theorem Ag.boundsPanic (k:IntKind) (x y:Int) (z:BoundsCode):Ag P (Go.boundsPanic k x y z:Sem α):=.inr fun w=>by
 obtain⟨s,w',h⟩:=run_boundsPanic (α:=α) (P:=P) (w:=w) k x y z
 exact⟨_,w',h⟩
theorem Ag.underlying (t:TypeId):Ag P (Go.underlying t):=by
 unfold Go.underlying
 refine Ag.program ?_
 split
 ·exact Ag.pure _
 ·exact Ag.stuck _
theorem Ag.typeInfo (t:TypeId):Ag P (Go.typeInfo t):=by
 unfold Go.typeInfo
 refine Ag.program ?_
 split
 ·exact Ag.pure _
 ·exact Ag.stuck _
theorem Ag.sizeOf (t:TypeId):Ag P (Go.sizeOf t):=Ag.bind (Ag.typeInfo t) fun _=>Ag.pure _
theorem Ag.nilDeref:Ag P (Go.runtimePanic .nilDeref:Sem α):=by
 unfold Go.runtimePanic
 exact Ag.program (Ag.halt _)
theorem Ag.error (s:String):Ag P (Go.runtimePanic (.error s):Sem α):=by
 unfold Go.runtimePanic
 exact Ag.program (Ag.halt _)
theorem Ag.asIntOf (v:Value):Ag P (Go.asIntOf v):=by
 unfold Go.asIntOf
 split
 ·exact Ag.pure _
 ·exact Ag.unsupported _
 ·exact Ag.stuck _
theorem Ag.asBool (v:Value):Ag P (Go.asBool v):=by
 unfold Go.asBool
 split
 ·exact Ag.pure _
 ·exact Ag.stuck _
theorem Ag.sureAddr (v:Value):Ag P (Instr.sureAddr v):=by
 unfold Instr.sureAddr
 split
 ·exact Ag.pure _
 ·exact Ag.stuck _
theorem Ag.ok {s:Sem α} (h:Ag P s) {w w1:World} {v:α} (e:s.run P w=.ok v w1):w1=w∧∀w',s.run P w'=.ok v w':=by
 rcases h with⟨u,z⟩ | F
 ·have:=z w
  rw [e] at this
  injection this with h1 E
  subst h1; subst E
  exact⟨rfl,z⟩
 ·obtain⟨x,y,C⟩:=F w
  rw [e] at C; cases C
end
def Hp (P:Program) (s:TypeId) (f:Nat):Bool:=
 match P.underlying s with
 | some (.struct fs)=>match fs[f]? with
  | some fl=>match P.info? fl.type with
   | some i=>i.size != 0
   | none=>true
  | none=>true
 | _=>true
def Hx (P:Program) (ts:Array TypeId):Bool:=
 match ts[0]? with
 | some t=>match P.underlying t with
  | some (.slice _)=>true
  | some .string=>true
  | _=>false
 | none=>false
def Gs (P:Program):Op→Bool
 | .move _ | .assign _ | .pick .. | .extract .. | .makeFunc .. | .unOp .. | .indexAddr .. | .nilCheck _=>true
 | .fieldAddr s _ f=>Hp P s f
 | .call { callee:=.builtin .len,argTypes:=ts,.. }=>Hx P ts
 | _=>false
def intOp:Op→Bool
 | .binOp ..=>true
 | _=>false
def isInt:Value→Bool
 | .int ..=>true
 | _=>false
def intFine (ρ:Operand→Value):Op→Bool
 | .binOp _ _ x y _=>isInt (ρ x)&&isInt (ρ y)
 | _=>true
theorem Ag.value {P:Program} {s:Sem Value} (h:Ag P s):Ag P (s >>=fun v=>(Pure.pure (Next.value v):Sem Next)):=Ag.bind h fun _=>Ag.pure _
def D8 (P:Program) (s:Sem Next):Prop:=(∃u,∀w,s.run P w=.ok (.value u) w)∨(∀w,∃h w',s.run P w=.halt h w')
theorem Ag.valueV {P:Program} {s:Sem Value} (h:Ag P s):D8 P (s >>=fun v=>(Pure.pure (Next.value v):Sem Next)):=by
  rcases h with⟨v,C⟩ | z
  · exact .inl ⟨v,fun w=>by rw [Sem.run_bind,C]; rfl⟩
  · exact .inr fun w=>by
      obtain⟨x,y,e⟩:=z w
      exact⟨x,y,by rw [Sem.run_bind,e]; rfl⟩
theorem MJ {P:Program} (op:UnOp) (x:Value):Ag P (Op.unary op x):=by
 unfold Op.unary
 split
 all_goals first
  | exact Ag.pure _
  | exact Ag.stuck _
  | exact Ag.unsupported _
  | (unfold Op.intArith; split <;> first | exact Ag.pure _ | exact Ag.stuck _)
  | (unfold Op.intBits; dsimp only; split <;> first | exact Ag.pure _ | exact Ag.stuck _)
theorem MB {P:Program} (t:Value) (i:Nat):Ag P (Instr.extract t i):=by
 unfold Instr.extract
 split
 ·split
  ·exact Ag.pure _
  ·exact Ag.stuck _
 ·exact Ag.stuck _
theorem ME {P:Program} (t:TypeId) (x i:Value):Ag P (Instr.indexAt t x i):=by
 unfold Instr.indexAt
 refine Ag.bind (Ag.asIntOf i) ?_
 rintro⟨k,n⟩
 refine Ag.bind (Ag.underlying t) ?_
 intro d
 have key:∀(msg:String) (base:Option Addr) (len:Nat) (y:TypeId),Ag P (do
   let h ←Go.underlying t
   have C:Bool:=decide (len≤1)&&(match h with | .array ..=>true | _=>false)
   match base with
   | some a=>
    if 0≤n∧n<(len:Int) then do
     let z ←Go.sizeOf y
     pure (Value.pointer (some (a.add (n.toNat*z))))
    else if C=true then Go.unsupported (.noEntry msg)
    else Go.boundsPanic k n (len:Int) .index
   | none=>Go.boundsPanic k n 0 .index):=by
  intro msg base len y
  refine Ag.bind (Ag.underlying t) ?_
  intro h
  dsimp only
  split
  ·exact Ag.ite (Ag.bind (Ag.sizeOf _) fun _=>Ag.pure _) (Ag.ite (Ag.unsupported _) (Ag.boundsPanic _ _ _ _))
  ·exact Ag.boundsPanic _ _ _ _
 dsimp only
 split
 ·exact Ag.bind (Ag.sureAddr _) fun a=>key _ (some a) _ _
 ·exact key _ _ _ _
 ·exact Ag.stuckBind _ _
theorem MC {P:Program} (s:TypeId) (x:Value) (f:Nat) (h:Hp P s f=true):Ag P (Instr.fieldAt s x f):=by
 unfold Instr.fieldAt Go.underlying
 rw [bind_assoc]
 refine Ag.program ?_
 unfold Hp at h
 cases hd:P.underlying s with
 | none=>exact Ag.stuckBind _ _
 | some d=>
  rw [hd] at h
  dsimp only at h ⊢
  rw [pure_bind]
  cases d <;> try exact Ag.stuck _
  rename_i fs
  dsimp only at h ⊢
  cases y:fs[f]? with
  | none=>exact Ag.stuck _
  | some fl=>
   rw [y] at h
   dsimp only at h ⊢
   refine Ag.bind (Ag.sureAddr _) ?_
   intro a
   refine Ag.bind ?_ fun _=>Ag.pure _
   unfold fieldPlace Go.sizeOf Go.typeInfo
   simp only [bind_assoc]
   refine Ag.program ?_
   cases z:P.info? fl.type with
   | none=>exact Ag.stuckBind _ _
   | some i=>
    rw [z] at h
    dsimp only at h ⊢
    simp only [pure_bind]
    have:i.size≠0:=by simpa using h
    rw [if_neg this]
    exact Ag.pure _
theorem MF {P:Program} (y:Array TypeId) (ty:TypeId) (args:Array Value) (h:Hx P y=true):Ag P (Builtin.len_ y ty args):=by
 unfold Builtin.len_
 unfold Hx at h
 cases ht:y[0]? with
 | none=>rw [ht] at h; simp at h
 | some t=>
 rw [ht] at h
 cases z:args[0]? with
 | none=>exact Ag.stuck _
 | some x=>
  dsimp only at h ⊢
  unfold Go.underlying
  rw [bind_assoc]
  refine Ag.program ?_
  cases hd:P.underlying t with
  | none=>exact Ag.stuckBind _ _
  | some d=>
   rw [hd] at h
   dsimp only at h ⊢
   rw [pure_bind]
   cases d <;> first | (simp at h; done) | skip
   all_goals (cases x <;> first | exact Ag.pure _ | exact Ag.stuck _)
theorem My {P:Program} (op:BinOp) (t:TypeId) (x y:Operand) (k h:IntKind) (a b:Int):
    Ag P (do eqGuard op t x y (.int k a) (.int h b); binOp op t (.int k a) (.int h b)):=by
  have h1:Ag P (eqGuard op t x y (.int k a) (.int h b)):=by
    unfold eqGuard
    cases op <;> exact Ag.pure _
  refine Ag.bind h1 fun _=>?_
  have z:∀o,Ag P (Op.intArith o k a b):=fun o=>by unfold Op.intArith; split <;> first | exact Ag.pure _ | exact Ag.stuck _
  have F:∀o,Ag P (Op.intDiv o k a b):=fun o=>by
    unfold Op.intDiv; split
    · exact Ag.error _
    · split <;> first | exact Ag.pure _ | exact Ag.stuck _
  have C:∀o,Ag P (Op.intBits o k a b):=fun o=>by unfold Op.intBits; dsimp only; split <;> first | exact Ag.pure _ | exact Ag.stuck _
  have E:∀o,Ag P (Op.intCmp o a b):=fun o=>by unfold Op.intCmp; split <;> first | exact Ag.pure _ | exact Ag.stuck _
  have hS:∀o,Ag P (Op.shift o k a h b):=fun o=>by
    unfold Op.shift; split
    · exact Ag.error _
    · dsimp only; split <;> first | exact Ag.pure _ | exact Ag.stuck _
  cases op <;> simp only [binOp] <;> first
    | exact hS _
    | (split
       · exact Ag.stuck _
       · first | exact z _ | exact F _ | exact C _ | exact E _)
theorem I4 {P:Program} (t:TypeId):Ag P (isAgg t):=by
 unfold isAgg
 refine Ag.bind (Ag.underlying t) fun d=>?_
 split <;> exact Ag.pure _
theorem MI {P:Program} (t:TypeId) (cs:Array Value) (h:Nat):Ag P (part t cs h):=by
 unfold part
 refine Ag.bind (I4 t) fun b=>?_
 split
 ·exact Ag.bind (Ag.sizeOf _) fun _=>Ag.pure _
 ·split
  ·exact Ag.pure _
  ·exact Ag.stuck _
theorem MD {P:Program} (l:List FieldStep):∀(t:TypeId) (x:Option Value),Ag P (followBlind l t x):=by
 induction l with
 | nil=>exact fun t x=>Ag.pure _
 | cons s rest ih=>
  intro t x
  unfold followBlind
  refine Ag.bind (Ag.underlying _) fun d=>?_
  split
  ·split
   ·split
    ·exact Ag.pure _
    ·exact ih _ _
    ·exact Ag.stuck _
    ·exact Ag.pure _
    ·exact Ag.bind (MI _ _ _) fun _=>ih _ _
    ·exact Ag.stuck _
    ·exact ih _ _
   ·exact Ag.stuck _
  ·exact Ag.stuck _
theorem MG {P:Program} (n:Nat):∀(t:TypeId) (v:Value) (name:String),Ag P (nilAhead n t v name):=by
 induction n with
 | zero=>exact fun _ _ _=>Ag.pure _
 | succ n ih=>
  intro t v name
  unfold nilAhead
  refine Ag.bind (Ag.typeInfo _) fun i=>?_
  split
  ·refine Ag.bind (MD _ _ _) fun r=>?_
   split
   ·exact Ag.pure _
   ·split
    ·exact ih _ _ _
    ·exact Ag.pure _
    ·exact Ag.stuck _
    ·exact Ag.pure _
    ·exact Ag.pure _
    ·refine Ag.bind (Ag.underlying _) fun d=>?_
     split <;> exact Ag.pure _
  ·exact Ag.stuck _
theorem MH {P:Program} (msg:String) (v:Value):D8 P (match v with
  | .pointer none | .nilIface | .nilFunc=>runtimePanic .nilDeref
  | .func (.method name) first captured=>
   match (first[0]?:Option Value) with
   | some .nilIface=>runtimePanic .nilDeref
   | some (.iface t w)=>do
    if (←nilAhead ((←program).types.size+Made.depth) t w name) != some false then
     unsupported (.noEntry msg)
    pure (.value (.func (.method name) first captured))
   | _=>pure (.value (.func (.method name) first captured))
  | x=>pure (.value x)):=by
 have G:∀{s:Sem Next},Ag P s→(∀w r w1,s.run P w=.ok r w1→False)→D8 P s:=fun {s} hs hn=>by
  rcases hs with⟨v,C⟩ | h
  ·exact(hn default v default (C default)).elim
  ·exact .inr h
 have z:D8 P (runtimePanic .nilDeref:Sem Next):=.inr fun w=>by
  rcases Ag.nilDeref (P:=P) (α:=Next) with⟨v,C⟩ | h
  ·have:=C w
   simp [runtimePanic,goPanic] at this
  ·exact h w
 split
 ·exact z
 ·exact z
 ·exact z
 ·split
  ·exact z
  ·rename_i name first captured _ t w _
   rcases MG (P:=P) (P.types.size+Made.depth) t w name with⟨r,F⟩ | h
   ·by_cases E:(r != some false)=true
    ·exact .inr fun w=>by
      simp only [Sem.run_bind,run_program,Result.andThen_ok,F,E,if_true]
      exact⟨_,_,rfl⟩
    ·refine .inl ⟨.func (.method name) first captured,fun w=>?_⟩
     simp only [Sem.run_bind,run_program,Result.andThen_ok,F,E]
     rfl
   ·exact .inr fun w=>by
     obtain⟨x,y,e⟩:=h w
     simp only [Sem.run_bind,run_program,Result.andThen_ok,e]
     exact⟨_,_,rfl⟩
  ·exact .inl ⟨_,fun _=>rfl⟩
 ·exact .inl ⟨_,fun _=>rfl⟩
theorem Mz {P:Program} (o:Oper) (ρ:Operand→Value) (h:Gs P o.op=true):D8 P (execOp ρ o):=by
  obtain⟨dst,op,type,pos,after,guard⟩:=o
  cases op <;> simp only [Gs,Bool.false_eq_true] at h
  case move=>exact .inl ⟨_,fun _=>rfl⟩
  case assign=>exact .inl ⟨_,fun _=>rfl⟩
  case pick c x y=>
    show D8 P (asBool (ρ c) >>=fun b=>(Pure.pure (Next.value (if b then ρ x else ρ y)):Sem Next))
    rcases Ag.asBool (P:=P) (ρ c) with⟨v,E⟩ | C
    · exact .inl ⟨if v=true then ρ x else ρ y,fun w=>by rw [Sem.run_bind,E]; rfl⟩
    · exact .inr fun w=>by
        obtain⟨x,y,e⟩:=C w
        exact⟨x,y,by rw [Sem.run_bind,e]; rfl⟩
  case unOp=>exact Ag.valueV (MJ _ _)
  case makeFunc=>exact Ag.valueV (Ag.pure _)
  case fieldAddr=>exact Ag.valueV (MC _ _ _ h)
  case indexAddr=>exact Ag.valueV (ME _ _ _)
  case extract=>exact Ag.valueV (MB _ _)
  case nilCheck=>exact MH _ _
  case call c=>
    obtain⟨z,args,F⟩:=c
    cases z with
    | builtin b=>cases b <;> first | exact Ag.valueV (MF _ _ _ h) | (simp at h; done)
    | value f=>simp at h
    | invoke r m=>simp at h
theorem MA {P:Program} (o:Oper) (ρ:Operand→Value) (h:intOp o.op=true) (z:intFine ρ o.op=true):D8 P (execOp ρ o):=by
 obtain⟨dst,op,type,pos,after,guard⟩:=o
 cases op <;> simp only [intOp,Bool.false_eq_true] at h
 rename_i op t x y yt
 show D8 P ((do eqGuard op t x y (ρ x) (ρ y); binOp op t (ρ x) (ρ y)) >>=fun v=>(pure (Next.value v):Sem Next))
 simp only [intFine,Bool.and_eq_true] at z
 obtain⟨h1,C⟩:=z
 generalize ρ x=u at*
 generalize ρ y=v at*
 cases u <;> simp only [isInt,Bool.false_eq_true] at h1
 cases v <;> simp only [isInt,Bool.false_eq_true] at C
 exact Ag.valueV (My _ _ _ _ _ _ _ _)
def Cs {α:Type} (P:Program) (s:Sem α):Prop:=
 ∀(w w1:World) (v:α),s.run P w=.ok v w1→w1=w∧∀w',Ext w w'→s.run P w'=.ok v w'
section
variable {α β:Type} {P:Program}
theorem Cs.of_calm {s:Sem α} (h:Ag P s):Cs P s:=fun w w1 v e=>by
 obtain⟨h1,y⟩:=h.ok e
 exact⟨h1,fun w' _=>y w'⟩
theorem Cs.bind {s:Sem α} {f:α→Sem β} (G:Cs P s) (F:∀v,Cs P (f v)):Cs P (s >>=f):=by
 intro w w1 v e
 rw [Sem.run_bind] at e
 cases h:s.run P w with
 | halt x y=>rw [h] at e; cases e
 | ok u w2=>
  rw [h] at e
  obtain⟨rfl,C⟩:=G w w2 u h
  obtain⟨rfl,E⟩:=F u w2 w1 v e
  exact⟨rfl,fun w' z=>by rw [Sem.run_bind,C w' z]; exact E w' z⟩
theorem PR {w w':World} (h:Ext w w') {a:Addr} {v:Value} (y:w.cell? a=some v):w'.cell? a=some v:=by
 unfold World.cell? at y ⊢
 cases ho:w.heap[a.block]? with
 | none=>rw [ho] at y; cases y
 | some o=>rw [ho] at y; rw [h.some ho]; exact y
theorem SU {w w':World} (h:Ext w w') (at_:Addr) (u:TypeId) (k:Addr) (b:Bool) {x:Array Value×TypeId×(Nat×Nat)×Nat×Value×List (Nat×Nat×List UInt8)}
  (y:w.seen P at_ u k b=.ok x):w'.seen P at_ u k b=.ok x:=by
 cases ho:w.heap[at_.block]? with
 | some o=>
  have z:=h.some ho
  unfold World.seen at y ⊢
  rw [ho] at y
  rw [z]
  exact y
 | none=>
  exfalso
  unfold World.seen at y
  rw [ho] at y
  simp only [bind,Except.bind,throwThe,MonadExceptOf.throw,MonadExcept.throw] at y
  repeat' (split at y)
  all_goals first | (cases y; done) | (simp at y; done)
theorem T3 {w w':World} (h:Ext w w') (at_:Addr) (u:TypeId) (k:Addr) (b:Bool) {x:Value×List Addr}
  (z:w.viewLoad P at_ u k b=.ok x):w'.viewLoad P at_ u k b=.ok x:=by
 unfold World.viewLoad at z ⊢
 cases h1:w.seen P at_ u k b with
 | error e=>rw [h1] at z; cases z
 | ok y=>rw [h1] at z; rw [SU h at_ u k b h1]; exact z
theorem KD (a:Addr) (m:Mode):Cs P (Go.load a m):=by
 intro w w1 v e
 simp only [Go.load,Sem.run] at e ⊢
 cases C:w.cell? a with
 | some u=>
  rw [C] at e
  simp only [Result.ok.injEq] at e
  obtain⟨rfl,rfl⟩:=e
  exact⟨rfl,fun w' h=>by rw [PR h C]⟩
 | none=>
  rw [C] at e
  dsimp only at e
  cases E:w.farLoad P a (m==.atomic) with
  | error x=>rw [E] at e; cases e
  | ok y=>
   rw [E] at e
   obtain⟨y,l⟩:=y
   simp only [Result.ok.injEq] at e
   obtain⟨rfl,rfl⟩:=e
   refine⟨rfl,fun w' h=>?_⟩
   have z:=E
   unfold World.farLoad at z
   split at z
   ·rename_i at_ u ho
    have F:=h.some ho
    have G:w'.cell? a=none:=by unfold World.cell?; rw [F]
    rw [G]
    dsimp only
    have:w'.farLoad P a (m==.atomic)=.ok (y,l):=by
     unfold World.farLoad
     rw [F]
     dsimp only
     split at z
     ·rename_i r hr
      rw [T3 h _ _ _ _ hr]
      exact z
     ·cases z
    rw [this]
   ·cases z
theorem RP (a:Addr) (n:Nat):∀(i:Nat) (acc:Array Value),Cs P (loadCellsFrom a i n acc):=by
 induction n with
 | zero=>exact fun i acc=>Cs.of_calm (Ag.pure _)
 | succ n ih=>exact fun i acc=>Cs.bind (KD _ _) fun v=>ih _ _
theorem RO (t:TypeId) (v:Value):Cs P (Instr.loadAt t v):=by
 unfold Instr.loadAt
 refine Cs.bind (Cs.of_calm (Ag.sureAddr _)) fun a=>?_
 unfold loadVar
 refine Cs.bind (Cs.of_calm (I4 t)) fun b=>?_
 split
 ·exact Cs.bind (Cs.of_calm (Ag.sizeOf _)) fun n=>Cs.bind (RP _ _ _ _) fun c=>Cs.of_calm (Ag.pure _)
 ·exact KD _ _
def Bq:Op→Bool
 | .load ..=>true
 | _=>false
theorem KC (o:Oper) (ρ:Operand→Value) (h:Bq o.op=true):∃s:Sem Value,Cs P s∧execOp ρ o=(s >>=fun v=>(Pure.pure (Next.value v):Sem Next)):=by
 obtain⟨dst,op,type,pos,after,guard⟩:=o
 cases op <;> simp only [Bq,Bool.false_eq_true] at h
 exact⟨_,RO _ _,rfl⟩
theorem Iw {s:Sem Value} {w w1:World} {r:Next} (h:(s >>=fun v=>(Pure.pure (Next.value v):Sem Next)).run P w=.ok r w1):∃u,r=.value u∧s.run P w=.ok u w1:=by
 rw [Sem.run_bind] at h
 cases z:s.run P w with
 | halt x y=>rw [z] at h; cases h
 | ok u w2=>
  rw [z] at h
  simp only [Result.andThen_ok,Sem.run_pure,Result.ok.injEq] at h
  obtain⟨rfl,rfl⟩:=h
  exact⟨u,rfl,rfl⟩
theorem KW {s:Sem Value} {w w1:World} {u:Value} (h:s.run P w=.ok u w1):(s >>=fun v=>(Pure.pure (Next.value v):Sem Next)).run P w=.ok (.value u) w1:=by
 rw [Sem.run_bind,h]; rfl
def Bz (P:Program) (s:Sem α):Prop:=∀(w w1:World) (v:α),s.run P w=.ok v w1→Ext w w1∧w.heap.size≤w1.heap.size
theorem Bz.of_calm {s:Sem α} (h:Ag P s):Bz P s:=fun w w1 v e=>by
 obtain⟨rfl,_⟩:=h.ok e
 exact⟨Ext.refl _,Nat.le_refl _⟩
theorem Ext.trans {a b c:World} (h:Ext a b) (z:a.heap.size≤b.heap.size) (k:Ext b c):Ext a c:=fun i y=>(k i (by omega)).trans (h i y)
theorem Bz.bind {s:Sem α} {f:α→Sem β} (F:Bz P s) (E:∀v,Bz P (f v)):Bz P (s >>=f):=by
 intro w w1 v e
 rw [Sem.run_bind] at e
 cases h:s.run P w with
 | halt x y=>rw [h] at e; cases e
 | ok u w2=>
  rw [h] at e
  obtain⟨h1,z⟩:=F w w2 u h
  obtain⟨C,G⟩:=E u w2 w1 v e
  exact⟨h1.trans z C,by omega⟩
theorem QZ (o:Obj):Bz P (newObj o):=by
 intro w w1 v e
 simp only [newObj,Sem.run,Result.ok.injEq] at e
 obtain⟨_,rfl⟩:=e
 refine⟨fun k hk=>?_,by simp⟩
 show(w.heap.push o)[k]?=_
 rw [Array.getElem?_push,if_neg (by omega)]
theorem HB (t:TypeId) (c:Array Value):Bz P (newRow t c):=Bz.bind (QZ _) fun _=>Bz.of_calm (Ag.pure _)
theorem I5 (t:TypeId):Ag P (zeroValue t):=by
 unfold zeroValue
 refine Ag.bind (Ag.typeInfo t) fun i=>?_
 split
 ·exact Ag.pure _
 ·exact Ag.unsupported _
theorem QV (t:TypeId):Bz P (Instr.alloc t true (.tuple #[])):=by
 unfold Instr.alloc
 exact Bz.bind (Bz.of_calm (I5 t)) fun v=>Bz.bind (HB _ _) fun _=>Bz.of_calm (Ag.pure _)
theorem QW (t:TypeId) (v:Value):Bz P (Instr.box t v):=Bz.bind (HB _ _) fun _=>Bz.of_calm (Ag.pure _)
theorem QX (t:TypeId) (n:Nat) (ps:Array (Nat×Value)):Bz P (Instr.buildSlice t n ps):=by
 unfold Instr.buildSlice
 refine Bz.bind (Bz.of_calm (Ag.underlying t)) fun d=>?_
 split
 ·rename_i elem
  refine Bz.bind (Bz.of_calm (Ag.sizeOf _)) fun z=>?_
  dsimp only
  split
  ·exact Bz.of_calm (Ag.haltBind _ _)
  ·have key:∀(msg:String) (zero:Array Value),Bz P (match
     Instr.fill (fun i=>some (i*z,z)) (Array.map (fun x=>zero[x % zero.size]!) (Array.range (n*z))) ps.toList with
    | some cells=>do
     let r ←newRow elem cells
     pure (Value.slice (some r) n n)
    | _=>Go.stuck msg):=fun msg zero=>by
    split
    ·exact Bz.bind (HB _ _) fun _=>Bz.of_calm (Ag.pure _)
    ·exact Bz.of_calm (Ag.stuck _)
   split
   ·rw [pure_bind]; exact key _ _
   ·exact Bz.bind (Bz.of_calm (I5 _)) fun _=>by rw [pure_bind]; exact key _ _
 ·exact Bz.of_calm (Ag.stuck _)
def FY:Op→Bool
 | .alloc _ | .box .. | .buildSlice ..=>true
 | _=>false
theorem QY (o:Oper) (ρ:Operand→Value) (h:FY o.op=true):∃s:Sem Value,Bz P s∧execOp ρ o=(s >>=fun v=>(Pure.pure (Next.value v):Sem Next)):=by
 obtain⟨dst,op,type,pos,after,guard⟩:=o
 cases op <;> simp only [FY,Bool.false_eq_true] at h
 case alloc=>exact⟨_,QV _,rfl⟩
 case box=>exact⟨_,QW _ _,rfl⟩
 case buildSlice=>exact⟨_,QX _ _ _,rfl⟩
end
end Reg
end Go.Proofs.YtfcfpoemojjglaaGreatDoor
namespace Go.Proofs.YtfcfpoemojjglaaGreatDoor
namespace Reg
theorem P2 (y:Array Value) (d t:Nat) (v:Value) (h:d≠t):(y.setIfInBounds d v)[t]?=y[t]?:=by
 rw [Array.getElem?_setIfInBounds_ne h]
def dis (d:Option Tmp) (l:List Tmp):Bool:=match d with | some x=>!l.contains x | none=>true
def Ed (d d':Option Tmp):Bool:=match d,d' with | some x,some y=>x != y | _,_=>true
theorem LC (a:Act) (d:Option Tmp) (v:Value) (t:Tmp) (h:d≠some t):(a.put d v).tmps[t]?=a.tmps[t]?:=by
 cases d with
 | none=>rfl
 | some x=>exact P2 _ _ _ _ (fun e=>h (by rw [e]))
theorem Fg {d:Option Tmp} {l:List Tmp} (h:dis d l=true) {t:Tmp} (ht:t∈l):d≠some t:=by
 rintro rfl
 simp [dis] at h
 exact h ht
def LB (o:Op):List Tmp:=o.operands.toList.filterMap fun | .tmp t=>some t | _=>none
def JC (ops:Array Oper) (o:Oper):List Tmp:=
 match o.guard with
 | some (j,_)=>((ops[j]?).bind (·.dst)).toList
 | none=>[]
def BZ (ops:Array Oper) (o:Oper):List Tmp:=JC ops o++LB o.op
def CO (ops:Array Oper) (o:Oper) (a b:Act):Prop:=∀t∈BZ ops o,a.tmps[t]?=b.tmps[t]?
theorem CO.symm {ops:Array Oper} {o:Oper} {a b:Act} (h:CO ops o a b):CO ops o b a:=fun t ht=>(h t ht).symm
theorem CO.trans {ops:Array Oper} {o:Oper} {a b c:Act} (h:CO ops o a b) (k:CO ops o b c):CO ops o a c:=fun t ht=>(h t ht).trans (k t ht)
theorem Fd {ops:Array Oper} {o:Oper} {a b:Act} (h:CO ops o a b):∀x∈o.op.operands.toList,a.eval x=b.eval x:=by
 intro x y
 cases x with
 | tmp t=>
  have ht:t∈BZ ops o:=by
   unfold BZ
   refine List.mem_append.2 (.inr ?_)
   unfold LB
   exact List.mem_filterMap.2 ⟨.tmp t,y,rfl⟩
  have:=h t ht
  simp only [Act.eval,Array.getD_eq_getD_getElem?,this]
 | const v=>rfl
 | global g=>rfl
 | func f=>rfl
theorem D0 {ops:Array Oper} {o:Oper} {a b:Act} (h:CO ops o a b):Region.wanted o (yielded ops a.tmps)=Region.wanted o (yielded ops b.tmps):=by
 unfold Region.wanted
 cases y:o.guard with
 | none=>rfl
 | some g=>
  obtain⟨j,z⟩:=g
  dsimp only
  have:yielded ops a.tmps j=yielded ops b.tmps j:=by
   unfold yielded
   cases hd:(ops[j]?).bind (·.dst) with
   | none=>rfl
   | some t=>
    have ht:t∈BZ ops o:=by
     unfold BZ JC
     rw [y]
     exact List.mem_append.2 (.inl (by simp [hd]))
    simp only [Option.bind_some,h t ht]
  rw [this]
def DI:Op→Bool
 | .move _ | .assign _ | .pick .. | .alloc _ | .box .. | .build .. | .buildSlice .. | .load .. | .store .. | .nilCheck _ | .binOp .. | .unOp .. | .convert .. | .makeInterface .. | .makeFunc .. | .makeMap ..
 | .makeSlice .. | .slice .. | .fieldAddr .. | .field .. | .indexAddr .. | .index .. | .lookup .. | .mapUpdate .. | .extract .. | .call _=>true
 | _=>false
theorem JX (l:Array (Nat×Operand)) (ρ y:Operand→Value) (h:∀x∈(l.toList.map (·.2)),ρ x=y x):
  (l.map fun(i,x)=>(i,ρ x))=(l.map fun(i,x)=>(i,y x)):=by
 refine Array.map_congr_left fun p z=>?_
 obtain⟨i,x⟩:=p
 have:=h x (List.mem_map.2 ⟨(i,x),by simpa using z,rfl⟩)
 simp only [this]
theorem HD (l:Array Operand) (ρ y:Operand→Value) (h:∀x∈l.toList,ρ x=y x):l.map ρ=l.map y:=
 Array.map_congr_left fun x z=>h x (by simpa using z)
theorem GB (l:Option Operand) (ρ y:Operand→Value) (h:∀x∈l.toList,ρ x=y x):l.map ρ=l.map y:=by
 cases l with
 | none=>rfl
 | some x=>simp [h x (by simp)]
theorem FO (o:Oper) (ρ z:Operand→Value) (hk:DI o.op=true) (h:∀x∈o.op.operands.toList,ρ x=z x):execOp ρ o=execOp z o:=by
 obtain⟨dst,op,type,pos,after,guard⟩:=o
 dsimp only at h hk
 cases op <;> simp only [DI,Bool.false_eq_true] at hk
 case build t ps=>simp only [execOp]; rw [JX ps ρ z (by simpa [Op.operands] using h)]
 case buildSlice t n ps=>simp only [execOp]; rw [JX ps ρ z (by simpa [Op.operands] using h)]
 case makeFunc fn f c=>
  simp only [Op.operands,Array.toList_append,List.mem_append] at h
  simp only [execOp]
  rw [HD f ρ z (fun x y=>h x (.inl y)),HD c ρ z (fun x y=>h x (.inr y))]
 case makeMap t r=>simp only [execOp]; rw [GB r ρ z (by simpa [Op.operands] using h)]
 case slice t x lo hi mx=>
  simp only [Op.operands,Array.toList_append,List.mem_append] at h
  simp only [execOp]
  rw [h x (by simp),GB lo ρ z (fun x y=>h x (by simp at y; simp [y])),GB hi ρ z (fun x y=>h x (by simp at y; simp [y])),GB mx ρ z (fun x y=>h x (by simp at y; simp [y]))]
 case call c=>
  obtain⟨C,args,F⟩:=c
  simp only [Op.operands,Call.operands,Array.toList_append,List.mem_append] at h
  have E:=HD args ρ z fun x y=>h x (.inr y)
  simp only [execOp,resolve,E]
  cases C with
  | builtin b=>rfl
  | value f=>simp only [h f (.inl (by simp))]
  | invoke r m=>simp only [h r (.inl (by simp))]
 all_goals (simp only [Op.operands,List.mem_cons,List.not_mem_nil,or_false,forall_eq_or_imp,forall_eq] at h; try simp only [execOp,h])
abbrev Bo:=Exit→Act→World→Prop
def NoQ (Q:Bo):Prop:=(∀c a w,¬Q (.panic c) a w)∧(∀a w,¬Q .outgrown a w)
def upd (a:Act) (d:Option Tmp) (ds:List Deferred) (v:Value):Act:={ tmps:=(a.put d v).tmps,defers:=ds++a.defers }
theorem CN (a:Act) (d:Option Tmp) (v:Value):upd a d [] v=a.put d v:=by
 cases d <;> rfl
theorem Iu (a:Act) (d:Option Tmp) (x:Deferred) (v:Value):upd a d [x] v=({ a with defers:=x::a.defers }:Act).put d v:=by
 cases d <;> rfl
theorem G6 (a:Act) (d:Option Tmp) (ds:List Deferred) (v:Value) (t:Tmp) (h:d≠some t):(upd a d ds v).tmps[t]?=a.tmps[t]?:=LC a d v t h
theorem FI {ops:Array Oper} {o:Oper} {d:Option Tmp} (h:dis d (BZ ops o)=true) (a:Act) (ds:List Deferred) (v:Value):CO ops o (upd a d ds v) a:=
 fun _ ht=>G6 _ _ _ _ _ (Fg h ht)
theorem Em {ops:Array Oper} {o:Oper} {d:Option Tmp} (h:dis d (BZ ops o)=true) (a:Act) (v:Value):CO ops o (a.put d v) a:=
 fun _ ht=>LC _ _ _ _ (Fg h ht)
theorem HY {d z:Option Tmp} (h:Ed d z=true) (a:Act) (ds:List Deferred) (u v:Value):upd (a.put d u) z ds v=(upd a z ds v).put d u:=by
 cases d with
 | none=>rfl
 | some x=>
  cases z with
  | none=>rfl
  | some y=>
   have C:x≠y:=by simpa [Ed] using h
   simp only [upd,Act.put]
   congr 1
   exact(Array.setIfInBounds_comm _ _ C)
theorem HX {d y:Option Tmp} (h:Ed d y=true) (a:Act) (u v:Value):(a.put d u).put y v=(a.put y v).put d u:=by
 rw [←CN,HY h,CN]
section
variable {P:Program} {Q Q':Bo} {o:Oper} {a a':Act} {w:World} {N N':Act→World→Prop}
theorem E9 (hQ:NoQ Q) {r:Result Next} (h:o.upon P a N Q r) (C:∀v ds w',N (upd a o.dst ds v) w'→N' (upd a' o.dst ds v) w'):o.upon P a' N' Q' r:=by
  cases r with
  | halt x w'=>cases x <;> first | exact h | exact absurd h (hQ.1 _ _ _)
  | ok x w'=>
    cases x with
    | value v=>
      have:=C v [] w' (by rw [CN]; exact h)
      rw [CN] at this; exact this
    | skip=>
      have:=C undef [] w' (by rw [CN]; exact h)
      rw [CN] at this; exact this
    | enter f args=>
      refine Calls.mono (R:=fun
        | .returned v,w''=>N (a.put o.dst v) w''
        | .panicked chain,w''=>Q (.panic chain) a w''
        | .outgrown,_=>LetsOut Q) h ?_
      intro e w'' z
      cases e with
      | returned v=>
        have:=C v [] w'' (by rw [CN]; exact z)
        rw [CN] at this; exact this
      | panicked c=>exact absurd z (hQ.1 _ _ _)
      | outgrown=>obtain⟨x,y,E⟩:=z; exact absurd E (hQ.2 _ _)
    | row s args=>
      refine Rows.mono (R:=fun v w''=>N (a.put o.dst v) w'') h ?_
      intro v w'' z
      have:=C v [] w'' (by rw [CN]; exact z)
      rw [CN] at this; exact this
    | _=>
      first
      | exact h
      | (rename_i d
         have:=C undef [d] w' (by rw [Iu]; exact h)
         rw [Iu] at this; exact this)
theorem G8 (hQ:NoQ Q) {r:Result Next} (h:o.upon P a N Q r):∃v ds w',N (upd a o.dst ds v) w':=by
 cases r with
 | halt x w'=>cases x <;> first | exact h.elim | exact absurd h (hQ.1 _ _ _)
 | ok x w'=>
  cases x with
  | value v=>exact⟨v,[],w',by rw [CN]; exact h⟩
  | skip=>exact⟨undef,[],w',by rw [CN]; exact h⟩
  | enter f args=>
   obtain⟨e,w'',fr,z,_⟩:=h []
   cases e with
   | returned v=>exact⟨v,[],w'',by rw [CN]; exact z⟩
   | panicked c=>exact absurd z (hQ.1 _ _ _)
   | outgrown=>obtain⟨x,y,C⟩:=z; exact absurd C (hQ.2 _ _)
  | row s args=>
   obtain⟨v,w'',z,_⟩:=h default []
   exact⟨v,[],w'',by rw [CN]; exact z⟩
  | _=>
   first
   | exact h.elim
   | (rename_i d; exact⟨undef,[d],w',by rw [Iu]; exact h⟩)
end
def En (P:Program) (ib:Bool) (o:Oper):Bool:=Gs P o.op||(ib&&intOp o.op)
def eff (P:Program) (ib:Bool) (o:Oper):Bool:=!En P ib o&&!Bq o.op&&!FY o.op
def Bu (P:Program) (ib:Bool) (ops:Array Oper) (Q:Bo) (o:Oper) (N:Act→World→Prop) (a:Act) (w:World):Prop:=
 if Region.wanted o (yielded ops a.tmps)=true then ((ib&&intOp o.op)=true→intFine a.eval o.op=true)∧o.wp P a w N Q else N (a.put o.dst undef) w
theorem FT {ops:Array Oper} {o:Oper} {a b:Act} (h:CO ops o a b):intFine a.eval o.op=intFine b.eval o.op:=by
 have y:=Fd h
 cases z:o.op <;> simp only [intFine]
 rw [z] at y
 simp only [Op.operands] at y
 rw [y _ (by simp),y _ (by simp)]
section
variable {P:Program} {ib:Bool} {ops:Array Oper} {Q:Bo} (hQ:NoQ Q) {o:Oper} {a a' b:Act} {w:World} {N N':Act→World→Prop}
include hQ
theorem Ey (h:Bu P ib ops Q o N a w) (y:∀v ds w',N (upd a o.dst ds v) w'→N' (upd a o.dst ds v) w'):Bu P ib ops Q o N' a w:=by
 unfold Bu at h ⊢
 split
 ·rename_i hw
  rw [if_pos hw] at h
  exact⟨h.1,E9 hQ h.2 y⟩
 ·rename_i hw
  rw [if_neg hw] at h
  have:=y undef [] w (by rw [CN]; exact h)
  rwa [CN] at this
theorem Tl (h:Bu P ib ops Q o N a w):∃v ds w',N (upd a o.dst ds v) w':=by
 unfold Bu at h
 split at h
 ·exact G8 hQ h.2
 ·exact⟨undef,[],w,by rw [CN]; exact h⟩
theorem Lr (hk:DI o.op=true) {d:Option Tmp} (hd:dis d (BZ ops o)=true) (C:Ed d o.dst=true) (u:Value) (h:Bu P ib ops Q o N (a.put d u) w):
  Bu P ib ops Q o (fun x w'=>N (x.put d u) w') a w:=by
 have z:=Em hd a u
 unfold Bu at h ⊢
 rw [D0 z] at h
 split
 ·rename_i hw
  rw [if_pos hw] at h
  refine⟨fun F=>by rw [←FT z]; exact h.1 F,?_⟩
  have y:=h.2
  unfold Oper.wp at y ⊢
  rw [FO o _ _ hk (Fd z)] at y
  exact E9 hQ y fun v ds w' E=>by rw [HY C] at E; exact E
 ·rename_i hw
  rw [if_neg hw] at h
  rw [HX C] at h
  exact h
theorem Tm (hk:DI o.op=true) {d:Option Tmp} (hd:dis d (BZ ops o)=true) (C:Ed d o.dst=true) (u:Value) (h:Bu P ib ops Q o (fun x w'=>N (x.put d u) w') a w):
  Bu P ib ops Q o N (a.put d u) w:=by
 have y:=Em hd a u
 unfold Bu at h ⊢
 rw [D0 y]
 split
 ·rename_i hw
  rw [if_pos hw] at h
  refine⟨fun E=>by rw [FT y]; exact h.1 E,?_⟩
  have z:=h.2
  unfold Oper.wp at z ⊢
  rw [FO o _ _ hk (Fd y)]
  exact E9 hQ z fun v ds w' F=>by rw [HY C]; exact F
 ·rename_i hw
  rw [if_neg hw] at h
  rw [HX C]
  exact h
theorem Lq (hk:DI o.op=true) (F:En P ib o=true) (h:Bu P ib ops Q o N b w):
  ∃u,N (b.put o.dst u) w∧∀(a:Act) (w':World) (M:Act→World→Prop),CO ops o a b→(Bu P ib ops Q o M a w'↔M (a.put o.dst u) w'):=by
 unfold Bu at h
 split at h
 ·rename_i hw
  have I:D8 P (execOp b.eval o):=by
   simp only [En,Bool.or_eq_true] at F
   by_cases C:(ib&&intOp o.op)=true
   ·exact MA o _ (by simp only [Bool.and_eq_true] at C; exact C.2) (h.1 C)
   ·exact Mz o _ (F.resolve_right C)
  have z:=h.2
  unfold Oper.wp at z
  rcases I with⟨u,G⟩ | J
  ·rw [G] at z
   refine⟨u,z,fun a w' M E=>?_⟩
   unfold Bu
   rw [D0 E,if_pos hw]
   unfold Oper.wp
   rw [FO o _ _ hk (Fd E),G]
   exact⟨fun x=>x.2,fun x=>⟨fun C=>by rw [FT E]; exact h.1 C,x⟩⟩
  ·obtain⟨x,y,e⟩:=J w
   rw [e] at z
   cases x <;> first | exact z.elim | exact absurd z (hQ.1 _ _ _)
 ·rename_i hw
  refine⟨undef,h,fun a w' M E=>?_⟩
  unfold Bu
  rw [D0 E,if_neg hw]
def C3 (P:Program) (ops:Array Oper) (o:Oper) (a:Act) (w w':World):Prop:=
 Region.wanted o (yielded ops a.tmps)=true→∀v,(execOp a.eval o).run P w=.ok (.value v) w→(execOp a.eval o).run P w'=.ok (.value v) w'
omit hQ in
theorem GU (hk:DI o.op=true) (y:CO ops o a b) {w w':World} (h:C3 P ops o a w w'):C3 P ops o b w w':=by
 unfold C3 at h ⊢
 rw [FO o _ _ hk (Fd y),D0 y] at h
 exact h
omit hQ in
theorem GV (E:Bq o.op=true) {w w':World} (h:Ext w w'):C3 P ops o a w w':=by
 intro _ v z
 obtain⟨s,G,C⟩:=KC (P:=P) o a.eval E
 rw [C] at z ⊢
 obtain⟨u,y,F⟩:=Iw z
 injection y with y
 subst y
 exact KW ((G w w v F).2 w' h)
theorem Ls (hk:DI o.op=true) (F:Bq o.op=true) (h:Bu P ib ops Q o N b w):
  ∃u,N (b.put o.dst u) w∧∀(a:Act) (w':World) (M:Act→World→Prop),CO ops o a b→C3 P ops o a w w'→M (a.put o.dst u) w'→Bu P ib ops Q o M a w':=by
 have O:intOp o.op=false:=by
  cases U:o.op <;> rw [U] at F <;> simp only [Bq,Bool.false_eq_true] at F <;> rfl
 unfold Bu at h
 split at h
 ·rename_i hw
  have z:=h.2
  unfold Oper.wp at z
  obtain⟨s,W,I⟩:=KC (P:=P) o b.eval F
  cases E:(execOp b.eval o).run P w with
  | halt x y=>
   rw [E] at z
   cases x <;> first | exact z.elim | exact absurd z (hQ.1 _ _ _)
  | ok r w1=>
   rw [E] at z
   rw [I] at E
   obtain⟨u,rfl,a2⟩:=Iw E
   obtain⟨rfl,_⟩:=W _ _ _ a2
   refine⟨u,z,fun a w' M C Z G=>?_⟩
   unfold Bu
   rw [D0 C,if_pos hw]
   refine⟨fun J=>absurd J (by rw [O]; simp),?_⟩
   unfold Oper.wp
   have V:=Z (by rw [D0 C]; exact hw) u (by rw [FO o _ _ hk (Fd C),I]; exact E)
   rw [V]
   exact G
 ·rename_i hw
  refine⟨undef,h,fun a w' M C _ G=>?_⟩
  unfold Bu
  rw [D0 C,if_neg hw]
  exact G
theorem Tn (F:FY o.op=true) (h:Bu P ib ops Q o N a w):Bu P ib ops Q o (fun x w'=>N x w'∧Ext w w') a w:=by
 unfold Bu at h ⊢
 split
 ·rename_i hw
  rw [if_pos hw] at h
  refine⟨h.1,?_⟩
  have z:=h.2
  unfold Oper.wp at z ⊢
  obtain⟨s,G,E⟩:=QY (P:=P) o a.eval F
  cases C:(execOp a.eval o).run P w with
  | halt x y=>
   rw [C] at z
   cases x <;> first | exact z.elim | exact absurd z (hQ.1 _ _ _)
  | ok r w1=>
   rw [C] at z
   rw [E] at C
   obtain⟨u,rfl,I⟩:=Iw C
   exact⟨z,(G _ _ _ I).1⟩
 ·rename_i hw
  rw [if_neg hw] at h
  exact⟨h,Ext.refl _⟩
end
def Obl (P:Program) (ib:Bool) (ops:Array Oper) (bef:Nat→Nat→Bool) (D:Nat→Prop) (i:Nat) (b:Act) (w w':World):Prop:=
 ∀o,ops[i]?=some o→eff P ib o=true→∀r q,D r→ops[r]?=some q→Bq q.op=true→bef r i=false→C3 P ops q b w w'
def WT (P:Program) (ib:Bool) (ops:Array Oper) (bef:Nat→Nat→Bool) (Q:Bo):(Nat→Prop)→List Nat→Act→World→Prop
 | _,[],a,w=>Q .normal a w
 | D,i::l,a,w=>∃o,ops[i]?=some o∧Bu P ib ops Q o (fun b w'=>Obl P ib ops bef D i b w w'∧WT P ib ops bef Q (fun k=>k=i∨D k) l b w') a w
def FL (P:Program) (ib:Bool) (ops:Array Oper) (x y:Oper):Bool:=
 dis x.dst (BZ ops y)&&dis y.dst (BZ ops x)&&Ed x.dst y.dst&&(En P ib x||En P ib y||Bq x.op)
section
variable {P:Program} {ib:Bool} {ops:Array Oper} {bef:Nat→Nat→Bool} {Q:Bo} (hQ:NoQ Q)
theorem Jn {d y:Option Tmp} (h:Ed d y=true):Ed y d=true:=by
 cases d <;> cases y <;> first | rfl | (simp only [Ed,bne_iff_ne,ne_eq] at h ⊢; exact fun e=>h e.symm)
theorem Rn (A B:Nat) (D:Nat→Prop):(fun k=>k=A∨k=B∨D k)=(fun k=>k=B∨k=A∨D k):=by
 funext k; exact propext ⟨fun h=>by rcases h with h | h | h <;> simp [h],fun h=>by rcases h with h | h | h <;> simp [h]⟩
include hQ in
theorem TF {A B:Nat} {O y:Oper} (Z:ops[A]?=some O) (hB:ops[B]?=some y) (af:DI O.op=true) (ag:DI y.op=true) (hc:FL P ib ops O y=true) (ax:bef A B=false)
  {D:Nat→Prop} (hD:∀r q,D r→ops[r]?=some q→Bq q.op=true→DI q.op=true∧dis O.dst (BZ ops q)=true∧dis y.dst (BZ ops q)=true)
  (aA:Bq O.op=true→dis O.dst (BZ ops O)=true)
  {l:List Nat} {a:Act} {w:World} (h:WT P ib ops bef Q D (A::B::l) a w):WT P ib ops bef Q D (B::A::l) a w:=by
 simp only [FL,Bool.and_eq_true] at hc
 obtain⟨⟨⟨a2,ad⟩,ae⟩,aw⟩:=hc
 obtain⟨z,ao,h⟩:=h
 obtain rfl:z=O:=by rw [Z] at ao; injection ao with e; exact e.symm
 have a9:∀(i:Nat) (o:Oper),ops[i]?=some o→eff P ib o=false→∀(E:Nat→Prop) (b:Act) (w w':World),Obl P ib ops bef E i b w w':=fun i o ho V E b w w' o' ar aq=>by
  rw [ho] at ar; injection ar with e; subst e; rw [V] at aq; cases aq
 have h':Bu P ib ops Q z (fun b w1=>Obl P ib ops bef D A b w w1∧Bu P ib ops Q y (fun b2 w2=>Obl P ib ops bef (fun k=>k=A∨D k) B b2 w1 w2∧WT P ib ops bef Q (fun k=>k=B∨k=A∨D k) l b2 w2) b w1) a w:=
  Ey hQ h fun v ds w' C=>by
   obtain⟨h1,o,ho,M⟩:=C
   rw [hB] at ho; injection ho with e; subst e
   exact⟨h1,M⟩
 clear h
 refine⟨y,hB,?_⟩
 suffices hs:Bu P ib ops Q y (fun b w1=>Obl P ib ops bef D B b w w1∧Bu P ib ops Q z (fun b2 w2=>Obl P ib ops bef (fun k=>k=B∨D k) A b2 w1 w2∧WT P ib ops bef Q (fun k=>k=B∨k=A∨D k) l b2 w2) b w1) a w from
  Ey hQ hs fun v ds w' C=>⟨C.1,z,Z,by rw [Rn A B D]; exact C.2⟩
 by_cases cB:En P ib y=true
 ·-- B is calm
  have eB:eff P ib y=false:=by simp [eff,cB]
  obtain⟨v0,an,w0,_,ay⟩:=Tl hQ h'
  obtain⟨u,_,W⟩:=Lq hQ ag cB ay
  refine(W a w _ (FI a2 a an v0).symm).2 ⟨a9 B y hB eB _ _ _ _,?_⟩
  refine Tm hQ af ad (Jn ae) u ?_
  refine Ey hQ h' fun v ds w1 C=>?_
  obtain⟨h1,M⟩:=C
  have F:=(W _ w1 _ ((FI a2 a ds v).trans (FI a2 a an v0).symm)).1 M
  refine⟨fun o ho V r q J I G hb=>?_,F.2⟩
  rcases J with rfl | J
  ·rw [hB] at I; injection I with e; subst e
   exfalso
   cases au:y.op <;> rw [au] at G <;> simp only [Bq,Bool.false_eq_true] at G
   simp [En,Gs,intOp,au] at cB
  ·obtain⟨k1,k2,k3⟩:=hD r q J I G
   exact GU k1 (Em k3 _ _).symm (h1 o ho V r q J I G hb)
 ·by_cases cA:En P ib z=true
  ·-- A is calm
   have eA:eff P ib z=false:=by simp [eff,cA]
   obtain⟨u,ah,W⟩:=Lq hQ af cA h'
   have M:=Lr hQ ag a2 ae u ah.2
   refine Ey hQ M fun v ds w1 C=>?_
   obtain⟨F,U⟩:=C
   refine⟨fun o ho V r q J I G hb=>?_,(W _ w1 _ (FI ad a ds v)).2 ⟨a9 A z Z eA _ _ _ _,U⟩⟩
   obtain⟨k1,k2,k3⟩:=hD r q J I G
   exact GU k1 (Em k2 _ _) (F o ho V r q (.inr J) I G hb)
  ·have lA:Bq z.op=true:=by simpa [cA,cB] using aw
   have eA:eff P ib z=false:=by simp [eff,lA]
   obtain⟨u,ah,W⟩:=Ls hQ af lA h'
   by_cases lB:Bq y.op=true
   ·have eB:eff P ib y=false:=by simp [eff,lB]
    obtain⟨u2,aC,hv⟩:=Ls hQ ag lB ah.2
    refine hv a w _ (Em a2 a u).symm (GV lB (Ext.refl _)) ⟨a9 B y hB eB _ _ _ _,?_⟩
    refine W _ w _ (Em ad a u2) (GV lA (Ext.refl _)) ⟨a9 A z Z eA _ _ _ _,?_⟩
    rw [HX (Jn ae)]
    exact aC.2
   ·have M:=Lr hQ ag a2 ae u ah.2
    have fin:∀(v:Value) (ds:List Deferred) (w1:World),Obl P ib ops bef (fun k=>k=A∨D k) B ((upd a y.dst ds v).put z.dst u) w w1→C3 P ops z (upd a y.dst ds v) w w1→
      WT P ib ops bef Q (fun k=>k=B∨k=A∨D k) l ((upd a y.dst ds v).put z.dst u) w1→
      Obl P ib ops bef D B (upd a y.dst ds v) w w1∧Bu P ib ops Q z (fun b2 w2=>Obl P ib ops bef (fun k=>k=B∨D k) A b2 w1 w2∧WT P ib ops bef Q (fun k=>k=B∨k=A∨D k) l b2 w2) (upd a y.dst ds v) w1:=by
     intro v ds w1 F az U
     refine⟨fun o ho V r q J I G hb=>?_,W _ w1 _ (FI ad a ds v) az ⟨a9 A z Z eA _ _ _ _,U⟩⟩
     obtain⟨k1,k2,k3⟩:=hD r q J I G
     exact GU k1 (Em k2 _ _) (F o ho V r q (.inr J) I G hb)
    by_cases mB:FY y.op=true
    ·refine Ey hQ (Tn hQ mB M) fun v ds w1 C=>?_
     obtain⟨⟨F,U⟩,C⟩:=C
     exact fin v ds w1 F (GV lA C) U
    ·have eB:eff P ib y=true:=by simp [eff,cB,lB,mB]
     refine Ey hQ M fun v ds w1 C=>?_
     obtain⟨F,U⟩:=C
     exact fin v ds w1 F (GU af (Em (aA lA) _ _) (F y hB eB A z (.inl rfl) Z lA ax)) U
end
end Reg
end Go.Proofs.YtfcfpoemojjglaaGreatDoor
namespace Go.Proofs.YtfcfpoemojjglaaGreatDoor
namespace Reg
structure Gl (P:Program) (ops:Array Oper) (bef:Nat→Nat→Bool):Prop where
 ok:∀(i:Nat) (o:Oper),ops[i]?=some o→DI o.op=true
 self:∀(i:Nat) (o:Oper),ops[i]?=some o→Bq o.op=true→dis o.dst (BZ ops o)=true
 war:∀(x y:Nat) (ox oy:Oper),x≠y→ops[x]?=some ox→ops[y]?=some oy→Bq ox.op=true→bef y x=false→dis oy.dst (BZ ops ox)=true
def Rel (P:Program) (ib:Bool) (ops:Array Oper) (bef:Nat→Nat→Bool) (x y:Nat):Prop:=
 x≠y∧bef y x=false∧(bef x y=true∨∀(ox oy:Oper),ops[x]?=some ox→ops[y]?=some oy→FL P ib ops ox oy=true)
section
variable {P:Program} {ib:Bool} {ops:Array Oper} {bef:Nat→Nat→Bool} {Q:Bo} (hQ:NoQ Q) (hS:Gl P ops bef)
include hQ hS
theorem Mt {A:Nat} {W:Oper} (M:ops[A]?=some W) (O:List Nat):∀(z:List Nat) (D:Nat→Prop) (a:Act) (w:World),
  (∀x∈z,∃J,ops[x]?=some J∧bef A x=false∧FL P ib ops W J=true)→(z++A::O).Pairwise (fun x y=>x≠y∧bef y x=false)→
  (∀r q,D r→ops[r]?=some q→Bq q.op=true→∀y∈z++A::O,∀U,ops[y]?=some U→dis U.dst (BZ ops q)=true)→
  WT P ib ops bef Q D (A::(z++O)) a w→WT P ib ops bef Q D (z++A::O) a w:=by
 intro z
 induction z with
 | nil=>intro D a w _ _ _ h; exact h
 | cons x z ih=>
  intro D a w hx Z V h
  obtain⟨J,G,a7,hc⟩:=hx x (by simp)
  have h1:=TF hQ M G (hS.ok _ _ M) (hS.ok _ _ G) hc a7 (fun r q E C F=>⟨hS.ok _ _ C,V r q E C F A (by simp) W M,V r q E C F x (by simp) J G⟩) (hS.self _ _ M) h
  obtain⟨o,ho,h2⟩:=h1
  rw [G] at ho; injection ho with e; subst e
  refine⟨J,G,Ey hQ h2 fun v ds w' hz=>⟨hz.1,ih _ _ _ (fun y I=>hx y (by simp [I])) (List.Pairwise.of_cons Z) ?_ hz.2⟩⟩
  intro r q E C F y I U a2
  rcases E with rfl | E
  ·have:=(List.pairwise_cons.1 Z).1 y I
   exact hS.war _ _ _ _ this.1 C a2 F this.2
  ·exact V r q E C F y (by simp at I ⊢; exact .inr I) U a2
theorem Ki (T:List Nat):∀(l:List Nat) (D:Nat→Prop) (a:Act) (w:World),l.Perm T→T.Pairwise (Rel P ib ops bef)→(∀x∈T,x<ops.size)→l.Pairwise (fun x y=>x≠y∧bef y x=false)→
  (∀r q,D r→ops[r]?=some q→Bq q.op=true→∀y∈T,∀E,ops[y]?=some E→dis E.dst (BZ ops q)=true)→
  WT P ib ops bef Q D T a w→WT P ib ops bef Q D l a w:=by
 induction T with
 | nil=>
  intro l D a w F _ _ _ _ h
  rw [F.eq_nil]
  exact h
 | cons A T ih=>
  intro l D a w F hT a7 Z hD h
  have ag:A∈l:=F.symm.subset (by simp)
  obtain⟨z,C,rfl⟩:=List.append_of_mem ag
  have a8:(z++C).Perm T:=by
   have h1:(z++A::C).Perm (A::(z++C)):=List.perm_middle
   exact(List.perm_cons A).1 (h1.symm.trans F)
  obtain⟨oA,W,h2⟩:=h
  have af:(z++C).Pairwise (fun x y=>x≠y∧bef y x=false):=Z.sublist (List.Sublist.append_left (List.sublist_cons_self A C) z)
  have a5:=(List.pairwise_cons.1 hT).1
  refine Mt hQ hS W C z D a w ?_ Z (fun r q G O J y V E M=>hD r q G O J y (F.subset V) E M) ⟨oA,W,Ey hQ h2 fun v ds w' hz=>⟨hz.1,ih _ _ _ _ a8 (List.Pairwise.of_cons hT) (fun x U=>a7 x (by simp [U])) af ?_ hz.2⟩⟩
  ·intro x U
   have a9:x∈T:=a8.subset (by simp [U])
   have hb:bef A x=false:=by
    have:=List.pairwise_append.1 Z
    exact(this.2.2 x U A (by simp)).2
   have hR:=a5 x a9
   cases a2:ops[x]? with
   | none=>
    exfalso
    have:=a7 x (by simp [a9])
    rw [Array.getElem?_eq_getElem this] at a2
    cases a2
   | some ox=>
    refine⟨ox,rfl,hb,?_⟩
    rcases hR.2.2 with I | I
    ·rw [hb] at I; cases I
    ·exact I oA ox W a2
  ·intro r q G O J y V E M
   rcases G with rfl | G
   ·have:=a5 y V
    exact hS.war _ _ _ _ this.1 O M J this.2.1
   ·exact hD r q G O J y (by simp [V]) E M
end
def Lin (m:Region.Mode) (ops:Array Oper) (done:List Nat) (l:List Nat):Prop:=
 match l with
 | []=>True
 | i::l=>i<ops.size∧i∉done∧(∀o,ops[i]?=some o→∀e∈o.after.toList,Region.binds m e=true→e.on∈done)∧Lin m ops (i::done) l
theorem Mr {m:Region.Mode} {e:Edge} (h:Region.binds .any e=true):Region.binds m e=true:=by
 obtain⟨on,g⟩:=e
 cases g <;> first | rfl | (simp [Region.binds] at h)
theorem JU {m:Region.Mode} {ops:Array Oper} {bef:Nat→Nat→Bool} (z:∀{i j:Nat},j<ops.size→i<ops.size→bef i j=true→
  ∃o,ops[j]?=some o∧∃e∈o.after.toList,Region.binds .any e=true∧(e.on=i∨bef i e.on=true)∧e.on<j) (l:List Nat):∀(done:List Nat),Lin m ops done l→
  (∀j∈done,j<ops.size∧∀i,i<ops.size→bef i j=true→i∈done)→
  l.Pairwise (fun x y=>x≠y∧bef y x=false)∧l.Nodup∧(∀i∈l,i<ops.size∧i∉done):=by
 induction l with
 | nil=>exact fun _ _ _=>⟨List.Pairwise.nil,List.nodup_nil,fun i G=>by simp at G⟩
 | cons i l ih=>
  intro done h hd
  obtain⟨h1,O,U,V⟩:=h
  have J:∀k,k<ops.size→bef k i=true→k∈done:=by
   intro k hk a3
   obtain⟨o,ho,e,he,Z,F,a8⟩:=z h1 hk a3
   have M:=U o ho e he (Mr Z)
   rcases F with rfl | F
   ·exact M
   ·exact(hd _ M).2 k hk F
  obtain⟨p1,p2,E⟩:=ih (i::done) V (by
   intro j C
   rcases List.mem_cons.1 C with rfl | C
   ·exact⟨h1,fun k hk z=>List.mem_cons.2 (.inr (J k hk z))⟩
   ·exact⟨(hd j C).1,fun k hk z=>List.mem_cons.2 (.inr ((hd j C).2 k hk z))⟩)
  refine⟨List.pairwise_cons.2 ⟨fun y hy=>?_,p1⟩,List.nodup_cons.2 ⟨fun G=>(E i G).2 (by simp),p2⟩,?_⟩
  ·have I:=E y hy
   refine⟨fun e=>I.2 (by simp [e]),?_⟩
   cases W:bef y i with
   | false=>rfl
   | true=>exact absurd (List.mem_cons.2 (.inr (J y I.1 W))) I.2
  ·intro k hk
   rcases List.mem_cons.1 hk with rfl | hk
   ·exact⟨h1,O⟩
   ·exact⟨(E k hk).1,fun hn=>(E k hk).2 (List.mem_cons.2 (.inr hn))⟩
def DR (n:Nat) (done:List Nat):List Nat:=(List.range n).filter fun i=>!done.contains i
theorem Q9 {n i:Nat} {done:List Nat} (h:i<n) (hd:i∉done):(DR n (i::done)).length<(DR n done).length:=by
 have e:DR n (i::done)=(DR n done).filter fun k=>!(k==i):=by
  unfold DR
  rw [List.filter_filter]
  congr 1
  funext k
  by_cases hk:k=i <;> simp [hk]
 rw [e,List.length_filter_lt_length_iff_exists]
 exact⟨i,by simp [DR,h,hd],by simp⟩
def Ha (m:Region.Mode) (ops:Array Oper):Prop:=
 ∀done:List Nat,(∃i,i<ops.size∧i∉done)→∃i,i<ops.size∧i∉done∧∀o,ops[i]?=some o→∀e∈o.after.toList,Region.binds m e=true→e.on∈done
theorem QQ {m:Region.Mode} {ops:Array Oper} (T:List Nat):∀(z:List Nat),Lin m ops z T→∀done:List Nat,(∀i∈z,i∈done)→(∃i,i∈T∧i∉done)→
  ∃i,i<ops.size∧i∉done∧∀o,ops[i]?=some o→∀e∈o.after.toList,Region.binds m e=true→e.on∈done:=by
 induction T with
 | nil=>exact fun _ _ _ _ h=>by obtain⟨i,y,_⟩:=h; simp at y
 | cons k T ih=>
  intro z h done hd J
  obtain⟨h1,M,E,F⟩:=h
  by_cases hk:k∈done
  ·refine ih (k::z) F done (fun i y=>?_) ?_
   ·rcases List.mem_cons.1 y with rfl | y
    ·exact hk
    ·exact hd i y
   ·obtain⟨i,y,C⟩:=J
    rcases List.mem_cons.1 y with rfl | y
    ·exact absurd hk C
    ·exact⟨i,y,C⟩
  ·exact⟨k,h1,hk,fun o ho e I G=>hd _ (E o ho e I G)⟩
theorem HW {m:Region.Mode} {ops:Array Oper} {T:List Nat} (y:Lin m ops [] T) (z:∀i,i<ops.size→i∈T):Ha m ops:=
 fun done ⟨i,C,E⟩=>QQ T [] y done (fun _ h=>by simp at h) ⟨i,z i C,E⟩
theorem P3 {m:Region.Mode} {ops:Array Oper} (hp:Ha m ops):∀(fuel t:Nat) (listed:Array Bool) (acc:List Nat),listed.size=ops.size→
  (∀i,i<ops.size→(listed[i]?=some true↔i∈acc))→(∀i∈acc,i<ops.size)→(DR ops.size acc).length≤fuel→
  ∃l,Region.linearise.go m ops fuel t listed acc=acc.reverse++l∧Lin m ops acc l∧∀i,i<ops.size→i∈acc∨i∈l:=by
 intro fuel
 induction fuel with
 | zero=>
  intro t listed acc _ _ _ hm
  refine⟨[],by simp [Region.linearise.go],trivial,fun i I=>?_⟩
  have h0:DR ops.size acc=[]:=List.eq_nil_of_length_eq_zero (by omega)
  by_cases C:i∈acc
  ·exact .inl C
  ·exfalso
   have:i∈DR ops.size acc:=by simp [DR,I,C]
   rw [h0] at this; simp at this
 | succ fuel ih=>
  intro t listed acc a2 E U hm
  rw [Region.linearise.go]
  generalize ag:((List.range ops.size).filter fun i=>!listed.getD i true&&((ops[i]?).map (·.after.all fun e=>!Region.binds m e||listed.getD e.on false)).getD false)=rs
  have Z:∀i,i∈rs↔i<ops.size∧i∉acc∧∀o,ops[i]?=some o→∀e∈o.after.toList,Region.binds m e=true→e.on∈acc:=by
   intro i
   rw [←ag,List.mem_filter,List.mem_range]
   constructor
   ·rintro⟨h1,h⟩
    have hl:=E i h1
    have O:listed[i]?=some (listed[i]'(by omega)):=Array.getElem?_eq_getElem (by omega)
    simp only [Bool.and_eq_true,Bool.not_eq_true'] at h
    obtain⟨h,y⟩:=h
    refine⟨h1,fun C=>?_,fun o ho e G F=>?_⟩
    ·have:=hl.2 C
     rw [Array.getD_eq_getD_getElem?,this] at h
     simp at h
    ·rw [ho] at y
     simp only [Option.map_some,Option.getD_some,Array.all_eq_true'] at y
     have:=y e (by simpa using G)
     rw [F] at this
     simp only [Bool.not_true,Bool.false_or] at this
     rw [Array.getD_eq_getD_getElem?] at this
     by_cases ad:e.on<ops.size
     ·have h4:=E e.on ad
      cases M:listed[e.on]? with
      | none=>rw [M] at this; simp at this
      | some b=>rw [M] at this; simp at this; subst this; exact h4.1 M
     ·rw [Array.getElem?_eq_none (by omega)] at this
      simp at this
   ·rintro⟨h1,h,y⟩
    refine⟨h1,?_⟩
    have O:listed[i]?=some (listed[i]'(by omega)):=Array.getElem?_eq_getElem (by omega)
    have F:listed[i]'(by omega)=false:=by
     cases z:listed[i]'(by omega) with
     | false=>rfl
     | true=>exact absurd ((E i h1).1 (by rw [O,z])) h
    simp only [Bool.and_eq_true,Bool.not_eq_true',Array.getD_eq_getD_getElem?,O,F,Option.getD_some,true_and]
    have ho:ops[i]?=some (ops[i]'h1):=Array.getElem?_eq_getElem h1
    rw [ho]
    simp only [Option.map_some,Option.getD_some,Array.all_eq_true']
    intro e G
    cases a9:Region.binds m e with
    | false=>rfl
    | true=>
     have W:=y _ ho e (by simpa using G) a9
     have:=(E e.on (U _ W)).2 W
     simp [this]
  cases V:rs[t % rs.length]? with
  | none=>
   dsimp only
   refine⟨[],by simp,trivial,fun i I=>?_⟩
   by_cases C:i∈acc
   ·exact .inl C
   ·exfalso
    obtain⟨k,h1,h,y⟩:=hp acc ⟨i,I,C⟩
    have hk:k∈rs:=(Z k).2 ⟨h1,h,y⟩
    have af:0<rs.length:=List.length_pos_of_mem hk
    rw [List.getElem?_eq_none_iff] at V
    have:=Nat.mod_lt t af
    omega
  | some i=>
   dsimp only
   obtain⟨h1,h,y⟩:=(Z i).1 (List.mem_of_getElem? V)
   have hA:∀k,k<ops.size→((listed.setIfInBounds i true)[k]?=some true↔k∈i::acc):=by
    intro k hk
    by_cases J:k=i
    ·subst J
     simp [a2,hk]
    ·rw [Array.getElem?_setIfInBounds_ne (fun e=>J e.symm),E k hk]
     simp [J]
   have hB:∀k∈i::acc,k<ops.size:=by
    intro k hk
    rcases List.mem_cons.1 hk with rfl | hk
    ·exact h1
    ·exact U k hk
   obtain⟨l,e1,e2,e3⟩:=ih (t / rs.length) (listed.setIfInBounds i true) (i::acc) (by simpa using a2) hA hB (by have:=Q9 (n:=ops.size) h1 h; omega)
   refine⟨i::l,by rw [e1]; simp,⟨h1,h,y,e2⟩,fun k hk=>?_⟩
   rcases e3 k hk with z | z
   ·rcases List.mem_cons.1 z with rfl | z
    ·exact .inr (by simp)
    ·exact .inl z
   ·exact .inr (by simp [z])
theorem Hz {m:Region.Mode} {ops:Array Oper} (E:Ha m ops) (t:Nat):Lin m ops [] (Region.linearise m ops t)∧∀i,i<ops.size→i∈Region.linearise m ops t:=by
 obtain⟨l,h1,z,C⟩:=P3 E ops.size t (Array.replicate ops.size false) [] (by simp) (fun i y=>by simp [y]) (fun i y=>by simp at y) (by
  unfold DR
  exact Nat.le_trans (List.length_filter_le _ _) (by simp))
 unfold Region.linearise
 rw [h1]
 refine⟨by simpa using z,fun i y=>?_⟩
 rcases C i y with h | h
 ·simp at h
 ·simpa using h
end Reg
end Go.Proofs.YtfcfpoemojjglaaGreatDoor
namespace Go.Proofs.YtfcfpoemojjglaaGreatDoor
namespace Reg
def Bl (tab:List Nat):Nat→Nat→Bool:=fun i j=>(tab.getD j 0).testBit i
def Gq (ops:Array Oper) (tab:List Nat):Bool:=
 (List.range ops.size).all fun j=>(List.range ops.size).all fun i=>
  !Bl tab i j||(match ops[j]? with
   | some o=>o.after.any fun e=>Region.binds .any e&&(e.on==i||Bl tab i e.on)&&decide (e.on<j)
   | none=>false)
def Bg (m:Region.Mode) (ops:Array Oper):List Nat→List Nat→Bool
  | _,[]=>true
  | done,i::l=>decide (i<ops.size)&&!done.contains i&&(match ops[i]? with
      | some o=>o.after.all fun e=>!Region.binds m e||done.contains e.on
      | none=>true)&&Bg m ops (i::done) l
def FR (ops:Array Oper) (l:List Nat):Bool:=(List.range ops.size).all fun i=>l.contains i
def Gu (ops:Array Oper):Bool:=
 Bg .any ops [] (List.range ops.size)&&
  (!Region.departs ops||(Bg .text ops [] (List.range ops.size)&&Bg .gc ops [] (Region.linearise .gc ops 0)&&FR ops (Region.linearise .gc ops 0)))
def GL (P:Program) (ib:Bool) (ops:Array Oper) (tab:List Nat) (x y:Nat):Bool:=
 x != y&&!Bl tab y x&&(Bl tab x y||(match ops[x]?,ops[y]? with
  | some ox,some oy=>FL P ib ops ox oy
  | _,_=>true))
def ER (f:Nat→Nat→Bool):List Nat→Bool
 | []=>true
 | x::l=>l.all (f x)&&ER f l
def GZ (ops:Array Oper) (tab:List Nat):Bool:=
 (ops.all fun o=>DI o.op&&(!Bq o.op||dis o.dst (BZ ops o)))&&
 (List.range ops.size).all fun x=>match ops[x]? with
  | some ox=>!Bq ox.op||(List.range ops.size).all fun y=>match ops[y]? with
   | some oy=>x==y||Bl tab y x||dis oy.dst (BZ ops ox)
   | none=>true
  | none=>true
def chk (P:Program) (ib:Bool) (ops:Array Oper) (tab T:List Nat):Bool:=
 GZ ops tab&&Gq ops tab&&Gu ops&&ER (GL P ib ops tab) T&&T.all (fun i=>decide (i<ops.size))&&FR ops T
def DS (P:Program) (ib:Bool) (ops:Array Oper) (tab T:List Nat):Bool:=
 ER (fun x y=>match ops[x]?,ops[y]? with
  | some ox,some oy=>!Bq ox.op||!eff P ib oy||Bl tab x y
  | _,_=>true) T
theorem F5 {f:Nat→Nat→Bool} (l:List Nat) (h:ER f l=true):l.Pairwise (fun x y=>f x y=true):=by
 induction l with
 | nil=>exact List.Pairwise.nil
 | cons x l ih=>
  simp only [ER,Bool.and_eq_true,List.all_eq_true] at h
  exact List.pairwise_cons.2 ⟨h.1,ih h.2⟩
theorem Hy {m:Region.Mode} {ops:Array Oper} (l:List Nat):∀done,Bg m ops done l=true→Lin m ops done l:=by
 induction l with
 | nil=>exact fun _ _=>trivial
 | cons i l ih=>
  intro done h
  simp only [Bg,Bool.and_eq_true,decide_eq_true_eq,Bool.not_eq_true',List.contains_eq_mem,decide_eq_false_iff_not] at h
  obtain⟨⟨⟨h1,z⟩,y⟩,C⟩:=h
  refine⟨h1,z,fun o ho e F E=>?_,ih _ C⟩
  rw [ho] at y
  simp only [Array.all_eq_true'] at y
  have:=y e (by simpa using F)
  simpa [E] using this
theorem Hr {ops:Array Oper} {l:List Nat} (h:FR ops l=true):∀i,i<ops.size→i∈l:=by
 intro i y
 unfold FR at h
 rw [List.all_eq_true] at h
 simpa using h i (List.mem_range.2 y)
theorem K0 {ops:Array Oper} (h:Gu ops=true) (C:Bool) (t:Nat):(∃m,Lin m ops [] (Region.schedule C ops t))∧∀i,i<ops.size→i∈Region.schedule C ops t:=by
 simp only [Gu,Bool.and_eq_true,Bool.or_eq_true,Bool.not_eq_true'] at h
 obtain⟨h1,y⟩:=h
 have z:∀i,i<ops.size→i∈List.range ops.size:=fun i E=>List.mem_range.2 E
 unfold Region.schedule
 split
 ·have:=Hz (HW (Hy _ _ h1) z) t
  exact⟨⟨_,this.1⟩,this.2⟩
 ·rename_i hne
  rcases y with y | y
  ·rw [y] at hne; simp at hne
  ·split
   ·have:=Hz (HW (Hy _ _ y.1.1) z) (t / 2)
    exact⟨⟨_,this.1⟩,this.2⟩
   ·have:=Hz (HW (Hy _ _ y.1.2) (Hr y.2)) (t / 2)
    exact⟨⟨_,this.1⟩,this.2⟩
theorem IW {ops:Array Oper} {tab:List Nat} (C:Gq ops tab=true) {i j:Nat} (G:j<ops.size) (F:i<ops.size) (h:Bl tab i j=true):
  ∃o,ops[j]?=some o∧∃e∈o.after.toList,Region.binds .any e=true∧(e.on=i∨Bl tab i e.on=true)∧e.on<j:=by
 unfold Gq at C
 rw [List.all_eq_true] at C
 have h1:=C j (List.mem_range.2 G)
 rw [List.all_eq_true] at h1
 have y:=h1 i (List.mem_range.2 F)
 rw [h] at y
 cases ho:ops[j]? with
 | none=>rw [ho] at y; simp at y
 | some o=>
  rw [ho] at y
  refine⟨o,rfl,?_⟩
  simp only [Bool.not_true,Bool.false_or] at y
  rw [Array.any_eq_true'] at y
  obtain⟨e,E,z⟩:=y
  simp only [Bool.and_eq_true,Bool.or_eq_true,beq_iff_eq,decide_eq_true_eq] at z
  exact⟨e,by simpa using E,z.1.1,z.1.2,z.2⟩
theorem Lp {P:Program} {ops:Array Oper} {tab:List Nat} (h:GZ ops tab=true):Gl P ops (Bl tab):=by
 simp only [GZ,Bool.and_eq_true] at h
 obtain⟨h1,C⟩:=h
 rw [Array.all_eq_true'] at h1
 have E:∀i (o:Oper),ops[i]?=some o→o∈ops:=fun i o ho=>Array.mem_of_getElem? ho
 refine⟨fun i o ho=>?_,fun i o ho z=>?_,fun x y O U J F G z I=>?_⟩
 ·have:=h1 o (E i o ho)
  simp only [Bool.and_eq_true] at this
  exact this.1
 ·have:=h1 o (E i o ho)
  simp only [Bool.and_eq_true,Bool.or_eq_true,Bool.not_eq_true'] at this
  rcases this.2 with h | h
  ·rw [z] at h; cases h
  ·exact h
 ·rw [List.all_eq_true] at C
  have:=C x (List.mem_range.2 (Array.getElem?_eq_some_iff.1 F).1)
  rw [F] at this
  dsimp only at this
  rw [z] at this
  simp only [Bool.not_true,Bool.false_or,List.all_eq_true] at this
  have:=this y (List.mem_range.2 (Array.getElem?_eq_some_iff.1 G).1)
  rw [G] at this
  dsimp only at this
  rw [I] at this
  have M:(x==y)=false:=by simpa using J
  simpa [M] using this
theorem IF {P:Program} {ib:Bool} {ops:Array Oper} {bef:Nat→Nat→Bool} {Q:Bo} (hQ:NoQ Q) (l:List Nat):∀(D:Nat→Prop) (a:Act) (w:World),WT P ib ops bef Q D l a w→wpOps P ops Q l a w:=by
 induction l with
 | nil=>exact fun _ _ _ h=>h
 | cons i l ih=>
  intro D a w h
  obtain⟨o,ho,y⟩:=h
  simp only [wpOps,ho]
  unfold Bu at y
  split
  ·rename_i hw
   rw [if_pos hw] at y
   exact .inl (E9 hQ y.2 fun v ds w' z=>ih _ _ _ z.2)
  ·rename_i hw
   rw [if_neg hw] at y
   exact ih _ _ _ y.2
theorem GK {P:Program} {ib:Bool} {ops:Array Oper} {id:Nat} {Q:Bo} {a:Act} {w:World} (tab T:List Nat) (G:chk P ib ops tab T=true) (hQ:NoQ Q)
  (h:WT P ib ops (Bl tab) Q (fun _=>False) T a w.drew):(Code.region id ops true).wp P Q a w:=by
 simp only [chk,Bool.and_eq_true] at G
 obtain⟨⟨⟨⟨⟨h1,J⟩,M⟩,O⟩,E⟩,U⟩:=G
 have hS:Gl P ops (Bl tab):=Lp h1
 have F:T.Pairwise (Rel P ib ops (Bl tab)):=(F5 T O).imp fun {x y} hxy=>by
  simp only [GL,Bool.and_eq_true,bne_iff_ne,ne_eq,Bool.not_eq_true',Bool.or_eq_true] at hxy
  refine⟨hxy.1.1,hxy.1.2,?_⟩
  rcases hxy.2 with h | h
  ·exact .inl h
  ·exact .inr fun ox oy C hy=>by rw [C,hy] at h; exact h
 have I:∀x∈T,x<ops.size:=fun x C=>by
  rw [List.all_eq_true] at E
  simpa using E x C
 refine wp_region_draw fun t=>?_
 obtain⟨⟨m,a2⟩,W⟩:=K0 M (P.follows .mixedOrders) t
 obtain⟨p1,p2,p3⟩:=JU (fun {i j}=>IW J) _ [] a2 (fun j Z=>by simp at Z)
 have V:T.Nodup:=(F.imp fun {x y} hxy=>hxy.1)
 have a3:(Region.schedule (P.follows .mixedOrders) ops t).Perm T:=
  (List.perm_ext_iff_of_nodup p2 V).2 fun i=>⟨fun z=>Hr U i (p3 i z).1,fun z=>W i (I i z)⟩
 exact IF hQ _ _ _ _ (Ki hQ hS T _ _ _ _ a3 F I p1 (fun r q hr=>hr.elim) h)
def pick (ops:Array Oper) (T:List Nat):List Oper:=T.filterMap (ops[·]?)
def FQ (ops:Array Oper) (a:Act):Bool:=ops.toList.all fun o=>!intOp o.op||!Region.wanted o (yielded ops a.tmps)||intFine a.eval o.op
def EH (ops:Array Oper) (T:List Nat):Bool:=
 T.all (fun x=>match ops[x]? with | some o=>!intOp o.op||dis o.dst (BZ ops o) | none=>true)&&
 ER (fun x y=>match ops[x]?,ops[y]? with
  | some ox,some oy=>!intOp ox.op||dis oy.dst (BZ ops ox)
  | _,_=>true) T
def finQ (ops:Array Oper) (Q:Bo):Bo
 | .normal,a,w=>FQ ops a=true∧Q .normal a w
 | e,a,w=>Q e a w
def postN (next:Act→World→Prop):Bo:=Exit.then next (fun _ _ _=>False)
theorem NoQ.then {K:Act→World→Prop} {Q:Bo} (h:NoQ Q):NoQ (Exit.then K Q):=⟨fun c a w x=>h.1 c a w x,fun a w x=>h.2 a w x⟩
theorem NoQ.inBlock {i:Nat} {Q:Bo} (h:NoQ Q):NoQ (Exit.inBlock i Q):=⟨fun c a w x=>h.1 c a w x,fun a w x=>h.2 a w x⟩
theorem NoQ.body {P:Program} {fn:Func} {R:Ending→World→Prop} (h1:∀c w,¬R (.panicked c) w) (h:∀w,¬R .outgrown w):NoQ (bodyPost P fn R):=⟨fun c _ w x=>h1 c w x.2,fun _ w x=>h w x⟩
theorem NoQ.postN (next:Act→World→Prop):NoQ (Reg.postN next):=⟨fun _ _ _ x=>x,fun _ _ x=>x⟩
theorem NoQ.finQ {ops:Array Oper} {Q:Bo} (h:NoQ Q):NoQ (Reg.finQ ops Q):=⟨fun c a w x=>h.1 c a w x,fun a w x=>h.2 a w x⟩
theorem GA {Q:Bo} (h:NoQ Q):¬LetsOut Q:=fun⟨a,w,x⟩=>h.2 a w x
section
variable {P:Program} {ib:Bool} {ops:Array Oper} {bef:Nat→Nat→Bool} {Q Qf:Bo}
theorem LF (hQ:NoQ Qf) (l:List Oper):∀(a:Act) (w:World),wpList P ops Qf l a w→∃y z,Qf .normal y z∧∀t,(∀o∈l,o.dst≠some t)→y.tmps[t]?=a.tmps[t]?:=by
 induction l with
 | nil=>exact fun a w h=>⟨a,w,h,fun _ _=>rfl⟩
 | cons o l ih=>
  intro a w h
  have key:∃v ds w',wpList P ops Qf l (upd a o.dst ds v) w':=by
   unfold wpList at h
   split at h
   ·rcases h with h | h
    ·exact G8 hQ h
    ·exact absurd h.2 (GA hQ)
   ·exact⟨undef,[],w,by rw [CN]; exact h⟩
  obtain⟨v,ds,w',h⟩:=key
  obtain⟨y,z,h1,C⟩:=ih _ _ h
  exact⟨y,z,h1,fun t ht=>(C t fun x E=>ht x (by simp [E])).trans (G6 _ _ _ _ _ (ht o (by simp)))⟩
theorem Kj {i:Nat} {o:Oper} (h:ops[i]?=some o) (T:List Nat):pick ops (i::T)=o::pick ops T:=by
 simp [pick,h]
theorem J2 {T:List Nat} {o:Oper} (h:o∈pick ops T):∃i,i∈T∧ops[i]?=some o:=by
 simpa [pick] using h
theorem Hb (J:NoQ Qf) (Z:List Nat) (z:List Nat):∀(D:Nat→Prop) (a:Act) (w:World),
  (∀i∈z,i<ops.size)→
  (z.Pairwise fun x y=>∀(G C:Oper),ops[x]?=some G→ops[y]?=some C→Bq G.op=true→eff P ib C=true→bef x y=true)→
  (∀r q,D r→ops[r]?=some q→Bq q.op=true→∀y∈z,∀C,ops[y]?=some C→eff P ib C=true→bef r y=true)→
  (∀a w,Qf .normal a w→WT P ib ops bef Q (fun k=>k∈z∨D k) Z a w)→
  (ib=true→(∀a w,Qf .normal a w→FQ ops a=true)∧(∀x∈z,∀o,ops[x]?=some o→intOp o.op=true→dis o.dst (BZ ops o)=true)∧
   (z.Pairwise fun x y=>∀(G C:Oper),ops[x]?=some G→ops[y]?=some C→intOp G.op=true→dis C.dst (BZ ops G)=true))→
  wpList P ops Qf (pick ops z) a w→WT P ib ops bef Q D (z++Z) a w:=by
 induction z with
 | nil=>
  intro D a w _ _ _ hn _ h
  have:=hn a w h
  have e:(fun k=>k∈([]:List Nat)∨D k)=D:=by funext k; simp
  rw [e] at this
  exact this
 | cons i z ih=>
  intro D a w aa hp hD hn hf h
  have hi:=aa i (by simp)
  have ho:ops[i]?=some ops[i]:=Array.getElem?_eq_getElem hi
  rw [Kj ho] at h
  obtain⟨al,am⟩:=List.pairwise_cons.1 hp
  refine⟨ops[i],ho,?_⟩
  have ab:∀b w',wpList P ops Qf (pick ops z) b w'→Obl P ib ops bef D i b w w'∧WT P ib ops bef Q (fun k=>k=i∨D k) (z++Z) b w':=by
   intro b w' hb
   refine⟨fun o ai M r q I V O ag=>?_,ih _ b w' (fun x E=>aa x (by simp [E])) am ?_ ?_ ?_ hb⟩
   ·have:=hD r q I V O i (by simp) o ai M
    rw [ag] at this; cases this
   ·intro r q I V O y W C U M
    rcases I with rfl | I
    ·exact al y W q C V U O M
    ·exact hD r q I V O y (by simp [W]) C U M
   ·intro a' w'' E
    have:=hn a' w'' E
    have e:(fun k=>k∈i::z∨D k)=(fun k=>k∈z∨k=i∨D k):=by
     funext k; simp only [List.mem_cons,eq_iff_iff]; constructor
     ·rintro((h | h) | h) <;> simp [h]
     ·rintro(h | h | h) <;> simp [h]
    rw [e] at this
    exact this
   ·intro F
    obtain⟨f1,f2,f3⟩:=hf F
    exact⟨f1,fun x E=>f2 x (by simp [E]),(List.pairwise_cons.1 f3).2⟩
  unfold wpList at h
  unfold Bu
  split at h
  ·rename_i hw
   rw [if_pos hw]
   rcases h with h | h
   ·refine⟨fun F=>?_,E9 J h fun v ds w' E=>ab _ _ E⟩
    simp only [Bool.and_eq_true] at F
    obtain⟨f1,f2,f3⟩:=hf F.1
    obtain⟨v,ds,w',E⟩:=G8 J h
    obtain⟨aF,wF,g1,g2⟩:=LF J _ _ _ E
    have a8:CO ops ops[i] aF a:=by
     intro t ht
     have hd:=f2 i (by simp) _ ho F.2
     rw [g2 t fun o aj=>?_,G6 _ _ _ _ _ (Fg hd ht)]
     obtain⟨y,W,U⟩:=J2 aj
     exact Fg ((List.pairwise_cons.1 f3).1 y W _ _ ho U F.2) ht
    have a5:=f1 _ _ g1
    unfold FQ at a5
    rw [List.all_eq_true] at a5
    have:=a5 ops[i] (by simp)
    rw [D0 a8,hw,F.2,FT a8] at this
    simpa using this
   ·exact absurd h.2 (GA J)
  ·rename_i hw
   rw [if_neg hw]
   exact ab _ _ h
theorem IE {i:Nat} {o:Oper} (ho:ops[i]?=some o) (y:List Nat) (T:List Nat) {D:Nat→Prop} {a:Act} {w:World} (M:(ib&&intOp o.op)=false)
  (G:∀r q,D r→ops[r]?=some q→Bq q.op=true→bef r i=false→r∈y)
  (h:wpList P ops (postN fun b w'=>(∀r∈y,∀q,ops[r]?=some q→C3 P ops q b w w')∧WT P ib ops bef Q (fun k=>k=i∨D k) T b w') [o] a w):WT P ib ops bef Q D (i::T) a w:=by
 refine⟨o,ho,?_⟩
 have E:∀b w',wpList P ops (postN fun b w'=>(∀r∈y,∀q,ops[r]?=some q→C3 P ops q b w w')∧WT P ib ops bef Q (fun k=>k=i∨D k) T b w') [] b w'→
   Obl P ib ops bef D i b w w'∧WT P ib ops bef Q (fun k=>k=i∨D k) T b w':=fun b w' z=>
  ⟨fun V _ _ r q O C J F=>z.1 r (G r q O C J F) q C,z.2⟩
 unfold wpList at h
 unfold Bu
 split at h
 ·rename_i hw
  rw [if_pos hw]
  rcases h with h | h
  ·exact⟨fun I=>absurd I (by rw [M]; simp),E9 (NoQ.postN _) h fun v ds w' U=>E _ _ U⟩
  ·exact absurd h.2 (GA (NoQ.postN _))
 ·rename_i hw
  rw [if_neg hw]
  exact E _ _ h
end
section
variable {P:Program} {id:Nat} {Q:Bo} {a:Act} {w:World}
theorem GE {ib:Bool} {ops:Array Oper} {tab T:List Nat} (h:DS P ib ops tab T=true):
  T.Pairwise fun x y=>∀(z C:Oper),ops[x]?=some z→ops[y]?=some C→Bq z.op=true→eff P ib C=true→Bl tab x y=true:=
 (F5 T h).imp fun {x y} hxy z C hx hy hl he=>by
  rw [hx,hy] at hxy
  dsimp only at hxy
  rw [hl,he] at hxy
  simpa using hxy
theorem I6 {ib:Bool} {ops:Array Oper} {tab T:List Nat} (h:chk P ib ops tab T=true):∀i∈T,i<ops.size:=fun i y=>by
 simp only [chk,Bool.and_eq_true] at h
 have:=h.1.2
 rw [List.all_eq_true] at this
 simpa using this i y
theorem Rs (l:List Oper):∀(p:List Oper) (k:Nat),p.length=k→(List.range' k l.length).filterMap (fun i=>(p++l)[i]?)=l:=by
 induction l with
 | nil=>intro p k _; rfl
 | cons x l ih=>
  intro p k hk
  have h0:(p++x::l)[k]?=some x:=by rw [←hk]; simp
  have:=ih (p++[x]) (k+1) (by simp [hk])
  rw [List.append_assoc] at this
  simp only [List.length_cons,List.range'_succ,List.filterMap_cons,h0]
  rw [List.singleton_append] at this
  rw [this]
theorem Kk (l:List Oper):pick l.toArray (List.range l.length)=l:=by
 have:=Rs l [] 0 rfl
 rw [List.nil_append] at this
 unfold pick
 rw [List.range_eq_range']
 simpa using this
theorem region_plain {l:List Oper} (tab:List Nat) (y:(chk P false l.toArray tab (List.range l.length)&&DS P false l.toArray tab (List.range l.length))=true) (hQ:NoQ Q)
  (h:wpList P l.toArray Q l a w.drew):(Code.region id l.toArray true).wp P Q a w:=by
 simp only [Bool.and_eq_true] at y
 refine GK tab _ y.1 hQ ?_
 have:=Hb (ib:=false) (bef:=Bl tab) hQ [] (List.range l.length) (fun _=>False) a w.drew (I6 y.1) (GE y.2) (fun r q z=>z.elim) (fun a w h=>h) (fun h=>by cases h)
 rw [List.append_nil] at this
 exact this (by rw [Kk]; exact h)
theorem R3 {l:List Oper} (tab:List Nat)
  (F:(chk P true l.toArray tab (List.range l.length)&&DS P true l.toArray tab (List.range l.length)&&EH l.toArray (List.range l.length))=true) (hQ:NoQ Q)
  (h:wpList P l.toArray (finQ l.toArray Q) l a w.drew):(Code.region id l.toArray true).wp P Q a w:=by
 simp only [Bool.and_eq_true] at F
 obtain⟨⟨h1,G⟩,z⟩:=F
 simp only [EH,Bool.and_eq_true,List.all_eq_true] at z
 refine GK tab _ h1 hQ ?_
 have:=Hb (ib:=true) (bef:=Bl tab) (Q:=Q) hQ.finQ [] (List.range l.length) (fun _=>False) a w.drew (I6 h1) (GE G) (fun r q I=>I.elim) (fun a w h=>h.2)
  (fun _=>⟨fun a w h=>h.1,fun x E o ho C=>by have:=z.1 x E; rw [ho] at this; dsimp only at this; rw [C] at this; simpa using this,(F5 _ z.2).imp fun {x y} hxy ox oy E hy C=>by
   rw [E,hy] at hxy; dsimp only at hxy; rw [C] at hxy; simpa using hxy⟩)
 rw [List.append_nil] at this
 exact this (by rw [Kk]; exact h)
def CB (P:Program) (ops:Array Oper) (tab:List Nat) (Q:Bo) (D T:List Nat) (a:Act) (w:World):Prop:=WT P false ops (Bl tab) Q (fun k=>k∈D) T a w
theorem R0 {l:List Oper} (tab T:List Nat) (y:chk P false l.toArray tab T=true) (hQ:NoQ Q) (h:CB P l.toArray tab Q [] T a w.drew):(Code.region id l.toArray true).wp P Q a w:=by
 refine GK tab T y hQ ?_
 have e:(fun k=>k∈([]:List Nat))=fun _=>False:=by funext k; simp
 unfold CB at h
 rw [e] at h
 exact h
theorem Sd {l F:List Oper} {tab D:List Nat} (z C:List Nat) (U:pick l.toArray z=F)
  (E:(z.all (fun i=>decide (i<l.length))&&DS P false l.toArray tab z&&D.all (fun r=>z.all fun y=>match l.toArray[r]?,l.toArray[y]? with
   | some q,some G=>!Bq q.op||!eff P false G||Bl tab r y
   | _,_=>true))=true)
  (h:wpList P l.toArray (postN fun a w=>CB P l.toArray tab Q (z++D) C a w) F a w):CB P l.toArray tab Q D (z++C) a w:=by
 simp only [Bool.and_eq_true,List.all_eq_true] at E
 obtain⟨⟨h1,I⟩,J⟩:=E
 refine Hb (ib:=false) (bef:=Bl tab) (Qf:=postN fun a w=>CB P l.toArray tab Q (z++D) C a w) (NoQ.postN _) C z _ a w (fun i O=>by simpa using h1 i O) (GE I) ?_ ?_ (fun h=>by cases h) (by rw [U]; exact h)
 ·intro r q hr Z V y hy G W M
  have:=J r hr y hy
  rw [Z,W] at this
  dsimp only at this
  rw [V,M] at this
  simpa using this
 ·intro a' w' hx
  have e:(fun k=>k∈z∨k∈D)=fun k=>k∈z++D:=by funext k; simp
  rw [e]
  exact hx
theorem Sc {l:List Oper} {o:Oper} {tab D:List Nat} (i:Nat) (T:List Nat) (y:List Nat) (ho:l.toArray[i]?=some o)
  (z:D.all (fun r=>match l.toArray[r]? with
   | some q=>!Bq q.op||Bl tab r i||y.contains r
   | none=>true)=true)
  (h:wpList P l.toArray (postN fun b w'=>(∀r∈y,∀q,l.toArray[r]?=some q→C3 P l.toArray q b w w')∧CB P l.toArray tab Q (i::D) T b w') [o] a w):CB P l.toArray tab Q D (i::T) a w:=by
 rw [List.all_eq_true] at z
 refine IE ho y T (by simp) (fun r q G F E C=>?_) ?_
 ·have:=z r G
  rw [F] at this
  dsimp only at this
  rw [E,C] at this
  simpa using this
 ·have e:(fun k=>k=i∨k∈D)=fun k=>k∈i::D:=by funext k; simp
  rw [e]
  exact h
theorem rest_end {l:List Oper} {tab D:List Nat} (h:Q .normal a w):CB P l.toArray tab Q D [] a w:=h
theorem R4 {l:List Oper} (tab:List Nat)
  (y:(chk P true l.toArray tab (List.range l.length)&&DS P true l.toArray tab (List.range l.length)&&EH l.toArray (List.range l.length))=true) (hQ:NoQ Q)
  (h:∀Qf:Bo,(∀a w,FQ l.toArray a=true∧Q .normal a w→Qf .normal a w)→wpList P l.toArray Qf l a w.drew):(Code.region id l.toArray true).wp P Q a w:=
 R3 tab y hQ (h _ fun _ _ x=>x)
theorem rest_walk' {l E:List Oper} {tab D:List Nat} (z C:List Nat) (G:pick l.toArray z=E)
  (F:(z.all (fun i=>decide (i<l.length))&&DS P false l.toArray tab z&&D.all (fun r=>z.all fun y=>match l.toArray[r]?,l.toArray[y]? with
   | some q,some oy=>!Bq q.op||!eff P false oy||Bl tab r y
   | _,_=>true))=true)
  (h:∀Qf:Bo,(∀a w,CB P l.toArray tab Q (z++D) C a w→Qf .normal a w)→wpList P l.toArray Qf E a w):CB P l.toArray tab Q D (z++C) a w:=
 Sd z C G F (h _ fun _ _ x=>x)
theorem rest_act' {l:List Oper} {o:Oper} {tab D:List Nat} (i:Nat) (T:List Nat) (y:List Nat) (ho:l.toArray[i]?=some o)
  (z:D.all (fun r=>match l.toArray[r]? with
   | some q=>!Bq q.op||Bl tab r i||y.contains r
   | none=>true)=true)
  (h:∀Qf:Bo,(∀b w',(∀r∈y,∀q,l.toArray[r]?=some q→C3 P l.toArray q b w w')∧CB P l.toArray tab Q (i::D) T b w'→Qf .normal b w')→wpList P l.toArray Qf [o] a w):CB P l.toArray tab Q D (i::T) a w:=
 Sc i T y ho z (h _ fun _ _ x=>x)
theorem same_below {ops:Array Oper} {b:Act} {w w':World} (h:RowKit.Below w.heap.size w w') (z:List Nat) (y:z.all (fun r=>match ops[r]? with | some q=>Bq q.op | none=>true)=true):
  ∀r∈z,∀q,ops[r]?=some q→C3 P ops q b w w':=fun r E q C=>by
 rw [List.all_eq_true] at y
 have:=y r E
 rw [C] at this
 exact GV this h.block
end
end Reg
end Go.Proofs.YtfcfpoemojjglaaGreatDoor
namespace Go.Proofs.YtfcfpoemojjglaaGreatDoor
namespace Reg
theorem SN {P:Program} {w:World} {p:Addr} {v:Value} {ty:TypeId} {d:TypeDesc} (y:w.cell? p=some v) (z:P.underlying ty=some d) (hd:d.isRow=false):
  (Instr.loadAt ty (.pointer (some p))).run P w=.ok v w:=by
 have h:(isAgg ty).run P w=.ok false w:=by
  unfold isAgg
  rw [Sem.run_bind,run_underlying z w]
  cases d <;> simp_all
 simp [Instr.loadAt,Instr.sureAddr,Sem.run_bind,loadVar,h,y]
theorem same_load1 {P:Program} {ops:Array Oper} {q:Oper} {b:Act} {w w':World} {ty:TypeId} {x:Operand} {p:Addr} {u:Value} {d:TypeDesc} (ho:q.op=.load ty x) (F:b.eval x=.pointer (some p))
  (z:w.cell? p=some u) (C:w'.cell? p=some u) (E:P.underlying ty=some d) (hd:d.isRow=false):C3 P ops q b w w':=by
 intro _ v y
 obtain⟨dst,op,type,pos,after,guard⟩:=q
 dsimp only at ho
 subst ho
 have e:∀w1,w1.cell? p=some u→(execOp b.eval { dst,op:=.load ty x,type,pos,after,guard }).run P w1=.ok (.value u) w1:=fun w1 h=>by
  show((Instr.loadAt ty (b.eval x)) >>=fun v=>(Pure.pure (Next.value v):Sem Next)).run P w1=_
  rw [F]
  exact KW (SN h E hd)
 rw [e w z] at y
 injection y with y _
 rw [←y]
 exact e w' C
end Reg
end Go.Proofs.YtfcfpoemojjglaaGreatDoor
namespace Go.Proofs.YtfcfpoemojjglaaGreatDoor
namespace Reg
def Bx (tab:List Nat) (i j:Nat):List Nat:=tab.mapIdx fun y s=>if y==j||s.testBit j then s||| 2 ^ i||| tab.getD i 0 else s
theorem Mm {tab:List Nat} {i j x y:Nat} (h:Bl (Bx tab i j) x y=true):Bl tab x y=true∨((y=j∨Bl tab j y=true)∧(x=i∨Bl tab x i=true)):=by
 unfold Bl at*
 by_cases z:y<tab.length
 ·have e:(Bx tab i j).getD y 0=if y==j||(tab.getD y 0).testBit j then tab.getD y 0||| 2 ^ i||| tab.getD i 0 else tab.getD y 0:=by
   simp [Bx,List.getD,z]
  rw [e] at h
  split at h
  ·rename_i hc
   simp only [Bool.or_eq_true,beq_iff_eq] at hc
   rw [Nat.testBit_or,Nat.testBit_or,Nat.testBit_two_pow] at h
   simp only [Bool.or_eq_true,decide_eq_true_eq] at h
   rcases h with(h | h) | h
   ·exact .inl h
   ·exact .inr ⟨hc,.inl h.symm⟩
   ·exact .inr ⟨hc,.inr h⟩
  ·exact .inl h
 ·have e:(Bx tab i j).getD y 0=0:=by
   simp [Bx,List.getD,List.getElem?_eq_none (Nat.le_of_not_lt z)]
  rw [e] at h
  simp at h
def Con (tab:List Nat) (l:List Nat):Prop:=l.Pairwise fun x y=>x≠y∧Bl tab y x=false
theorem Jd {tab l:List Nat} {p q i j:Nat} (h:Con tab l) (M:l[p]?=some i) (V:l[q]?=some j) (a4:p<q):Con (Bx tab i j) l:=by
 have z:=List.pairwise_iff_getElem.1 h
 have U:=(List.getElem?_eq_some_iff.1 M)
 have Z:=(List.getElem?_eq_some_iff.1 V)
 obtain⟨O,I⟩:=U
 obtain⟨W,J⟩:=Z
 refine List.pairwise_iff_getElem.2 fun a b C E G=>⟨(z a b C E G).1,?_⟩
 cases hx:Bl (Bx tab i j) l[b] l[a] with
 | false=>rfl
 | true=>
  exfalso
  rcases Mm hx with h1 | ⟨h1,y⟩
  ·rw [(z a b C E G).2] at h1; cases h1
  ·have c1:q≤a:=by
    refine Nat.le_of_not_lt fun F=>?_
    have:=z a q C W F
    rcases h1 with h1 | h1
    ·exact this.1 (h1.trans J.symm)
    ·rw [J] at this; rw [this.2] at h1; cases h1
   have c2:b≤p:=by
    refine Nat.le_of_not_lt fun F=>?_
    have:=z p b O E F
    rcases y with y | y
    ·exact this.1 (I.trans y.symm)
    ·rw [I] at this; rw [this.2] at y; cases y
   omega
inductive Spl where
 | leaf (T:List Nat)
 | node (i j:Nat) (s t:Spl)
def Spl.chk (P:Program) (ops:Array Oper):Spl→List Nat→Bool
 | .leaf T,tab=>GZ ops tab&&ER (GL P false ops tab) T&&T.all (fun i=>decide (i<ops.size))&&FR ops T
 | .node i j s t,tab=>decide (i<ops.size)&&decide (j<ops.size)&&i != j&&s.chk P ops (Bx tab i j)&&t.chk P ops (Bx tab j i)
def Spl.goal (P:Program) (ops:Array Oper) (Q:Bo) (a:Act) (w:World):Spl→List Nat→Prop
 | .leaf T,tab=>CB P ops tab Q [] T a w
 | .node i j s t,tab=>s.goal P ops Q a w (Bx tab i j)∧t.goal P ops Q a w (Bx tab j i)
theorem Te {P:Program} {ops:Array Oper} {Q:Bo} {a:Act} {w:World} (hQ:NoQ Q) (s:Spl):∀(tab l:List Nat),s.chk P ops tab=true→Con tab l→l.Nodup→(∀i∈l,i<ops.size)→(∀i,i<ops.size→i∈l)→s.goal P ops Q a w tab→
  wpOps P ops Q l a w:=by
 induction s with
 | leaf T=>
  intro tab l C I J G z F
  simp only [Spl.chk,Bool.and_eq_true] at C
  obtain⟨⟨⟨h1,O⟩,E⟩,h6⟩:=C
  have hS:Gl P ops (Bl tab):=Lp h1
  have hT:T.Pairwise (Rel P false ops (Bl tab)):=(F5 T O).imp fun {x y} hxy=>by
   simp only [GL,Bool.and_eq_true,bne_iff_ne,ne_eq,Bool.not_eq_true',Bool.or_eq_true] at hxy
   refine⟨hxy.1.1,hxy.1.2,?_⟩
   rcases hxy.2 with h | h
   ·exact .inl h
   ·exact .inr fun ox oy Z hy=>by rw [Z,hy] at h; exact h
  have a3:∀x∈T,x<ops.size:=fun x Z=>by
   rw [List.all_eq_true] at E
   simpa using E x Z
  have a7:T.Nodup:=(hT.imp fun {x y} hxy=>hxy.1)
  have a8:l.Perm T:=(List.perm_ext_iff_of_nodup J a7).2 fun i=>⟨fun V=>Hr h6 i (G i V),fun V=>z i (a3 i V)⟩
  have e:(fun k=>k∈([]:List Nat))=fun _=>False:=by funext k; simp
  have U:CB P ops tab Q [] T a w:=F
  unfold CB at U
  rw [e] at U
  exact IF hQ _ _ _ _ (Ki hQ hS T _ _ _ _ a8 hT a3 I (fun r q hr=>hr.elim) U)
 | node i j s t ihs iht=>
  intro tab l C I J G z F
  simp only [Spl.chk,Bool.and_eq_true,bne_iff_ne,ne_eq,decide_eq_true_eq] at C
  obtain⟨⟨⟨⟨h1,h2⟩,h3⟩,O⟩,E⟩:=C
  obtain⟨p,W⟩:=List.mem_iff_getElem?.1 (z i h1)
  obtain⟨q,M⟩:=List.mem_iff_getElem?.1 (z j h2)
  rcases Nat.lt_trichotomy p q with h | h | h
  ·exact ihs _ l O (Jd I W M h) J G z F.1
  ·subst h
   rw [W] at M
   exact absurd (Option.some.inj M) h3
  ·exact iht _ l E (Jd I M W h) J G z F.2
theorem region_spl {P:Program} {l:List Oper} {id:Nat} {Q:Bo} {a:Act} {w:World} (tab:List Nat) (s:Spl) (z:(Gq l.toArray tab&&Gu l.toArray&&s.chk P l.toArray tab)=true) (hQ:NoQ Q)
  (h:s.goal P l.toArray Q a w.drew tab):(Code.region id l.toArray true).wp P Q a w:=by
 simp only [Bool.and_eq_true] at z
 obtain⟨⟨C,E⟩,F⟩:=z
 refine wp_region_draw fun t=>?_
 obtain⟨⟨m,J⟩,G⟩:=K0 E (P.follows .mixedOrders) t
 obtain⟨M,O,U⟩:=JU (fun {i j}=>IW C) _ [] J (fun j I=>by simp at I)
 exact Te hQ s tab _ F M O (fun i y=>(U i y).1) (fun i y=>G i y) h
end Reg
end Go.Proofs.YtfcfpoemojjglaaGreatDoor
namespace Go.Proofs.YtfcfpoemojjglaaGreatDoor
namespace Reg
def fineT (ops:Array Oper) (T:List Nat) (a:Act):Bool:=T.all fun x=>match ops[x]? with
 | some o=>!intOp o.op||!Region.wanted o (yielded ops a.tmps)||intFine a.eval o.op
 | none=>true
section
variable {P:Program} {ib:Bool} {ops:Array Oper} {bef:Nat→Nat→Bool} {Q Qf:Bo}
theorem LY (T0:List Nat) (J:NoQ Qf) (Z:List Nat) (z:List Nat):∀(D:Nat→Prop) (a:Act) (w:World),
  (∀x∈z,x∈T0)→(∀i∈z,i<ops.size)→
  (z.Pairwise fun x y=>∀(G E:Oper),ops[x]?=some G→ops[y]?=some E→Bq G.op=true→eff P ib E=true→bef x y=true)→
  (∀r q,D r→ops[r]?=some q→Bq q.op=true→∀y∈z,∀E,ops[y]?=some E→eff P ib E=true→bef r y=true)→
  (∀a w,Qf .normal a w→WT P ib ops bef Q (fun k=>k∈z∨D k) Z a w)→
  (ib=true→(∀a w,Qf .normal a w→fineT ops T0 a=true)∧(∀x∈z,∀o,ops[x]?=some o→intOp o.op=true→dis o.dst (BZ ops o)=true)∧
   (z.Pairwise fun x y=>∀(G E:Oper),ops[x]?=some G→ops[y]?=some E→intOp G.op=true→dis E.dst (BZ ops G)=true))→
  wpList P ops Qf (pick ops z) a w→WT P ib ops bef Q D (z++Z) a w:=by
 induction z with
 | nil=>
  intro D a w _ _ _ _ hn _ h
  have:=hn a w h
  have e:(fun k=>k∈([]:List Nat)∨D k)=D:=by funext k; simp
  rw [e] at this
  exact this
 | cons i z ih=>
  intro D a w ae ab hp hD hn hf h
  have hi:=ab i (by simp)
  have ho:ops[i]?=some ops[i]:=Array.getElem?_eq_getElem hi
  rw [Kj ho] at h
  obtain⟨an,ao⟩:=List.pairwise_cons.1 hp
  refine⟨ops[i],ho,?_⟩
  have ad:∀b w',wpList P ops Qf (pick ops z) b w'→Obl P ib ops bef D i b w w'∧WT P ib ops bef Q (fun k=>k=i∨D k) (z++Z) b w':=by
   intro b w' hb
   refine⟨fun o ak M r q I V O ai=>?_,ih _ b w' (fun x C=>ae x (by simp [C])) (fun x C=>ab x (by simp [C])) ao ?_ ?_ ?_ hb⟩
   ·have:=hD r q I V O i (by simp) o ak M
    rw [ai] at this; cases this
   ·intro r q I V O y W E U M
    rcases I with rfl | I
    ·exact an y W q E V U O M
    ·exact hD r q I V O y (by simp [W]) E U M
   ·intro a' w'' C
    have:=hn a' w'' C
    have e:(fun k=>k∈i::z∨D k)=(fun k=>k∈z∨k=i∨D k):=by
     funext k; simp only [List.mem_cons,eq_iff_iff]; constructor
     ·rintro((h | h) | h) <;> simp [h]
     ·rintro(h | h | h) <;> simp [h]
    rw [e] at this
    exact this
   ·intro F
    obtain⟨f1,f2,f3⟩:=hf F
    exact⟨f1,fun x C=>f2 x (by simp [C]),(List.pairwise_cons.1 f3).2⟩
  unfold wpList at h
  unfold Bu
  split at h
  ·rename_i hw
   rw [if_pos hw]
   rcases h with h | h
   ·refine⟨fun F=>?_,E9 J h fun v ds w' C=>ad _ _ C⟩
    simp only [Bool.and_eq_true] at F
    obtain⟨f1,f2,f3⟩:=hf F.1
    obtain⟨v,ds,w',C⟩:=G8 J h
    obtain⟨aF,wF,g1,g2⟩:=LF J _ _ _ C
    have a9:CO ops ops[i] aF a:=by
     intro t ht
     have hd:=f2 i (by simp) _ ho F.2
     rw [g2 t fun o al=>?_,G6 _ _ _ _ _ (Fg hd ht)]
     obtain⟨y,W,U⟩:=J2 al
     exact Fg ((List.pairwise_cons.1 f3).1 y W _ _ ho U F.2) ht
    have a5:=f1 _ _ g1
    unfold fineT at a5
    rw [List.all_eq_true] at a5
    have:=a5 i (ae i (by simp))
    rw [ho] at this
    dsimp only at this
    rw [D0 a9,hw,F.2,FT a9] at this
    simpa using this
   ·exact absurd h.2 (GA J)
  ·rename_i hw
   rw [if_neg hw]
   exact ad _ _ h
end
section
variable {P:Program} {Q:Bo} {id:Nat} {a:Act} {w:World}
def C2 (P:Program) (ops:Array Oper) (tab:List Nat) (Q:Bo) (D T:List Nat) (a:Act) (w:World):Prop:=WT P true ops (Bl tab) Q (fun k=>k∈D) T a w
theorem region_cutI {l:List Oper} (tab T:List Nat) (y:chk P true l.toArray tab T=true) (hQ:NoQ Q) (h:C2 P l.toArray tab Q [] T a w.drew):(Code.region id l.toArray true).wp P Q a w:=by
 refine GK tab T y hQ ?_
 have e:(fun k=>k∈([]:List Nat))=fun _=>False:=by funext k; simp
 unfold C2 at h
 rw [e] at h
 exact h
theorem R9 {l U:List Oper} {tab D:List Nat} (z F:List Nat) (hl:pick l.toArray z=U)
  (O:(z.all (fun i=>decide (i<l.length))&&DS P true l.toArray tab z&&D.all (fun r=>z.all fun y=>match l.toArray[r]?,l.toArray[y]? with
   | some q,some M=>!Bq q.op||!eff P true M||Bl tab r y
   | _,_=>true)&&EH l.toArray z)=true)
  (h:∀Qf:Bo,(∀a w,fineT l.toArray z a=true∧C2 P l.toArray tab Q (z++D) F a w→Qf .normal a w)→wpList P l.toArray Qf U a w):C2 P l.toArray tab Q D (z++F) a w:=by
 simp only [Bool.and_eq_true,List.all_eq_true] at O
 obtain⟨⟨⟨h1,V⟩,W⟩,G⟩:=O
 simp only [EH,Bool.and_eq_true,List.all_eq_true] at G
 refine LY (ib:=true) (bef:=Bl tab) (Qf:=postN fun a w=>fineT l.toArray z a=true∧C2 P l.toArray tab Q (z++D) F a w) z (NoQ.postN _) F z _ a w (fun _ C=>C) (fun i E=>by simpa using h1 i E) (GE V) ?_ ?_ ?_ (by rw [hl]; exact h _ fun _ _ x=>x)
 ·intro r q hr hq a3 y J M a4 Z
  have:=W r hr y J
  rw [hq,a4] at this
  simp only [a3,Z,Bool.not_true,Bool.or_false,Bool.false_or] at this
  simpa using this
 ·intro a w C
  have I:=C.2
  unfold C2 at I
  have e:(fun k=>k∈z++D)=(fun k=>k∈z∨k∈D):=by funext k; simp
  rw [e] at I
  exact I
 ·exact fun _=>⟨fun a w h=>h.1,fun x C o ho E=>by have:=G.1 x C; rw [ho] at this; dsimp only at this; rw [E] at this; simpa using this,(F5 _ G.2).imp fun {x y} hxy ox M C J E=>by
   rw [C,J] at hxy; dsimp only at hxy; rw [E] at hxy; simpa using hxy⟩
theorem R8 {l:List Oper} {o:Oper} {tab D:List Nat} (i:Nat) (T:List Nat) (z:List Nat) (ho:l.toArray[i]?=some o)
  (y:(D.all (fun r=>match l.toArray[r]? with
   | some q=>!Bq q.op||Bl tab r i||z.contains r
   | none=>true)&&!intOp o.op)=true)
  (h:∀Qf:Bo,(∀b w',(∀r∈z,∀q,l.toArray[r]?=some q→C3 P l.toArray q b w w')∧C2 P l.toArray tab Q (i::D) T b w'→Qf .normal b w')→wpList P l.toArray Qf [o] a w):C2 P l.toArray tab Q D (i::T) a w:=by
 simp only [Bool.and_eq_true,List.all_eq_true,Bool.not_eq_true'] at y
 obtain⟨y,F⟩:=y
 refine IE ho z T (by rw [F]; rfl) (fun r q I G E C=>?_) ?_
 ·have:=y r I
  rw [G] at this
  simp only [E,C,Bool.not_true,Bool.false_or] at this
  simpa using this
 ·have:=h (postN fun b w'=>(∀r∈z,∀q,l.toArray[r]?=some q→C3 P l.toArray q b w w')∧C2 P l.toArray tab Q (i::D) T b w') fun _ _ x=>x
  have e:(fun k=>k∈i::D)=(fun k=>k=i∨k∈D):=by funext k; simp
  unfold C2 at this
  rw [e] at this
  exact this
theorem restI_end {l:List Oper} {tab D:List Nat} (h:Q .normal a w):C2 P l.toArray tab Q D [] a w:=h
end
end Reg
end Go.Proofs.YtfcfpoemojjglaaGreatDoor
namespace Go.Proofs.YtfcfpoemojjglaaGreatDoor
namespace Reg
section
variable {P:Program} {Q:Bo} {id:Nat} {a:Act} {w:World}
theorem cI {l:List Oper} (tab T:List Nat) (h:C2 P l.toArray tab Q [] T a w.drew) (y:chk P true l.toArray tab T=true:=by kernel_rfl) (hQ:NoQ Q:=by repeat (first | exact Reg.NoQ.body (fun _ _ h=>h) (fun _ h=>h) | refine Reg.NoQ.then ?_ | refine Reg.NoQ.inBlock ?_)):(Code.region id l.toArray true).wp P Q a w:=region_cutI tab T y hQ h
theorem cC {l:List Oper} (tab T:List Nat) (h:CB P l.toArray tab Q [] T a w.drew) (y:chk P false l.toArray tab T=true:=by kernel_rfl) (hQ:NoQ Q:=by repeat (first | exact Reg.NoQ.body (fun _ _ h=>h) (fun _ h=>h) | refine Reg.NoQ.then ?_ | refine Reg.NoQ.inBlock ?_)):(Code.region id l.toArray true).wp P Q a w:=R0 tab T y hQ h
theorem cP {l:List Oper} (tab:List Nat) (h:wpList P l.toArray Q l a w.drew) (y:(chk P false l.toArray tab (List.range l.length)&&DS P false l.toArray tab (List.range l.length))=true:=by kernel_rfl) (hQ:NoQ Q:=by repeat (first | exact Reg.NoQ.body (fun _ _ h=>h) (fun _ h=>h) | refine Reg.NoQ.then ?_ | refine Reg.NoQ.inBlock ?_)):(Code.region id l.toArray true).wp P Q a w:=region_plain tab y hQ h
theorem cN {l:List Oper} (tab:List Nat) (h:∀Qf:Bo,(∀a w,FQ l.toArray a=true∧Q .normal a w→Qf .normal a w)→wpList P l.toArray Qf l a w.drew) (y:(chk P true l.toArray tab (List.range l.length)&&DS P true l.toArray tab (List.range l.length)&&EH l.toArray (List.range l.length))=true:=by kernel_rfl) (hQ:NoQ Q:=by repeat (first | exact Reg.NoQ.body (fun _ _ h=>h) (fun _ h=>h) | refine Reg.NoQ.then ?_ | refine Reg.NoQ.inBlock ?_)):(Code.region id l.toArray true).wp P Q a w:=R4 tab y hQ h
theorem wI {l E:List Oper} {tab D:List Nat} (z C:List Nat) (G:pick l.toArray z=E)
  (h:∀Qf:Bo,(∀a w,fineT l.toArray z a=true∧C2 P l.toArray tab Q (z++D) C a w→Qf .normal a w)→wpList P l.toArray Qf E a w)
  (F:(z.all (fun i=>decide (i<l.length))&&DS P true l.toArray tab z&&D.all (fun r=>z.all fun y=>match l.toArray[r]?,l.toArray[y]? with
   | some q,some oy=>!Bq q.op||!eff P true oy||Bl tab r y
   | _,_=>true)&&EH l.toArray z)=true:=by kernel_rfl):C2 P l.toArray tab Q D (z++C) a w:=R9 z C G F h
theorem aI {l:List Oper} {o:Oper} {tab D:List Nat} (i:Nat) (T:List Nat) (y:List Nat) (ho:l.toArray[i]?=some o)
  (h:∀Qf:Bo,(∀b w',(∀r∈y,∀q,l.toArray[r]?=some q→C3 P l.toArray q b w w')∧C2 P l.toArray tab Q (i::D) T b w'→Qf .normal b w')→wpList P l.toArray Qf [o] a w)
  (z:(D.all (fun r=>match l.toArray[r]? with
   | some q=>!Bq q.op||Bl tab r i||y.contains r
   | none=>true)&&!intOp o.op)=true:=by kernel_rfl):C2 P l.toArray tab Q D (i::T) a w:=R8 i T y ho z h
end
theorem nm {α:Type} {q:α→Prop}:∀r∈([]:List α),q r:=fun _ h=>absurd h List.not_mem_nil
end Reg
theorem gT {α:Type} {l:List α} {i:Nat} (h:i<l.toArray.size):l.toArray[i]=l[i]'(by simpa using h):=List.getElem_toArray h
theorem gS {α:Type} {a:α} {l:List α} {i:Nat} (h:i+1<(a::l).length):(a::l)[i+1]=l[i]'(Nat.lt_of_succ_lt_succ h):=rfl
theorem gZ {α:Type} {a:α} {l:List α} (h:0<(a::l).length):(a::l)[0]=a:=rfl
end Go.Proofs.YtfcfpoemojjglaaGreatDoor
namespace Go.Proofs.YtfcfpoemojjglaaGreatDoor
open Go.RowKit
def Sl {D:Type} (w:World) (B sz:Nat) (enc:D→Nat→Value) (A:Option Addr) (ds:List D):Prop:=
 ds.length≤9223372036854775807∧(ds≠[]→∃b off,A=some ⟨b,off,none⟩∧b<B∧∀k d,ds[k]?=some d→∀j,j<sz→w.cell? ⟨b,off+k*sz+j,none⟩=some (enc d j))
section
variable {D:Type} {w w':World} {B B' sz:Nat} {enc:D→Nat→Value} {A:Option Addr} {ds:List D}
theorem Sl.nil (h:ds=[]):Sl w B sz enc A ds:=by subst h; exact⟨by simp,fun h=>absurd rfl h⟩
theorem Sl.at (h:Sl w B sz enc A ds) {k:Nat} (hk:k<ds.length):
  ∃b y d,A=some ⟨b,y,none⟩∧b<B∧ds[k]?=some d∧∀j,j<sz→w.cell? ⟨b,y+k*sz+j,none⟩=some (enc d j):=by
 obtain⟨b,y,e,z,C⟩:=h.2 (by rintro rfl; simp at hk)
 exact⟨b,y,ds[k],e,z,List.getElem?_eq_getElem hk,fun j E=>C k _ (List.getElem?_eq_getElem hk) j E⟩
theorem Sl.keep (h:Sl w B sz enc A ds) (hk:∀p:Addr,p.block<B→w'.cell? p=w.cell? p) (G:B≤B'):Sl w' B' sz enc A ds:=
 ⟨h.1,fun E=>by
  obtain⟨b,F,e,y,z⟩:=h.2 E
  exact⟨b,F,e,by omega,fun k d hd j C=>(hk _ y).trans (z k d hd j C)⟩⟩
theorem Sl.below (h:Sl w B sz enc A ds) (y:Below B w w'):Sl w' B sz enc A ds:=h.keep (fun _ z=>y.cell z) (Nat.le_refl _)
theorem Sl.mono (h:Sl w B sz enc A ds) (y:B≤B'):Sl w B' sz enc A ds:=h.keep (fun _ _=>rfl) y
end
def Ai (x:Int) (_:Nat):Value:=.int .i64 x
def DH (x:Bool) (_:Nat):Value:=.bool x
structure Iz where
 letter:Int
 to:Int
structure Ix where
 letter:Int
 first:Int
 second:Int
 to:Int
def Nx (l:Iz):Nat→Value
 | 0=>.int .i64 l.letter
 | _=>.int .i64 l.to
def Nw (b:Ix):Nat→Value
 | 0=>.int .i64 b.letter
 | 1=>.int .i64 b.first
 | 2=>.int .i64 b.second
 | _=>.int .i64 b.to
structure TA where
 letters:Int
 states:Int
 accept:List Int
 leaves:List Iz
 branches:List Ix
def Fb (w:World) (B:Nat) (v:Value) (a:TA):Prop:=
 ∃A1 c1 A2 c2 A3 c3,v=.agg #[.int .i64 a.letters,.int .i64 a.states,.slice A1 a.accept.length c1,.slice A2 a.leaves.length c2,.slice A3 a.branches.length c3]∧
  Sl w B 1 Ai A1 a.accept∧Sl w B 2 Nx A2 a.leaves∧Sl w B 4 Nw A3 a.branches
theorem Fb.keep {w w':World} {B B':Nat} {v:Value} {a:TA} (h:Fb w B v a) (hk:∀p:Addr,p.block<B→w'.cell? p=w.cell? p) (y:B≤B'):Fb w' B' v a:=by
 obtain⟨z,F,C,c2,E,G,e,h1,I,J⟩:=h
 exact⟨z,F,C,c2,E,G,e,h1.keep hk y,I.keep hk y,J.keep hk y⟩
theorem Fb.below {w w':World} {B:Nat} {v:Value} {a:TA} (h:Fb w B v a) (y:Below B w w'):Fb w' B v a:=h.keep (fun _ z=>y.cell z) (Nat.le_refl _)
theorem hide {p:Prop} (h:p):Hid p:=h
theorem GT (fn:Fn) (first h:Array Value) (w:World):(Instr.makeFunc fn first h).run Tryz.prog w=.ok (.func fn first h) w:=rfl
def I3 (f:Value) (args:Array Value):Sem Next:=do
 let d ←Deferred.ofValue f args
 invoke d.target d.args
theorem PO (ρ:Operand→Value) (dst:Option Tmp) (t:Tmp) (xs:Array Operand) (h:Array TypeId) (ty:TypeId) (pos:String) (after:Array Edge) (guard:Option (Nat×Bool)):
  execOp ρ { dst,op:=.call { callee:=.value (.tmp t),args:=xs,argTypes:=h },type:=ty,pos,after,guard }=I3 (ρ (.tmp t)) (xs.map ρ):=rfl
theorem Mx (n:FuncId) (first caps args:Array Value):I3 (.func (.func n) first caps) args=callFunc n (first++args++caps):=rfl
theorem Al {P:Program} {f:FuncId} {fn:Func} (y:P.funcs[f]?=some fn) (z:(fn.name=="runtime.NumGoroutine")=false) (h:fn.body.isNone=false) (args:Array Value) (w:World):
  (callFunc f args).run P w=.ok (.enter f args) w:=by
 unfold callFunc
 simp only [Sem.run_bind,run_program,Result.andThen_ok,y,z,h]
 rfl
abbrev EN (n:Nat):Prop:=∀(args:Array Value) (w:World),(callFunc n args).run Tryz.prog w=.ok (.enter n args) w
theorem OW:EN 3:=Al Tryz.func3 (by kernel_rfl) (by kernel_rfl)
theorem O5:EN 4:=Al Tryz.func4 (by kernel_rfl) (by kernel_rfl)
theorem XX:EN 8:=Al Tryz.func8 (by kernel_rfl) (by kernel_rfl)
theorem PD:EN 9:=Al Tryz.func9 (by kernel_rfl) (by kernel_rfl)
theorem Ny:EN 10:=Al Tryz.func10 (by kernel_rfl) (by kernel_rfl)
theorem Ov:EN 20:=Al Tryz.func20 (by kernel_rfl) (by kernel_rfl)
theorem XO:EN 21:=Al Tryz.func21 (by kernel_rfl) (by kernel_rfl)
theorem ON:EN 22:=Al Tryz.func22 (by kernel_rfl) (by kernel_rfl)
theorem XP:EN 23:=Al Tryz.func23 (by kernel_rfl) (by kernel_rfl)
theorem OT:EN 24:=Al Tryz.func24 (by kernel_rfl) (by kernel_rfl)
theorem XQ:EN 27:=Al Tryz.func27 (by kernel_rfl) (by kernel_rfl)
theorem XR:EN 28:=Al Tryz.func28 (by kernel_rfl) (by kernel_rfl)
theorem OV:EN 29:=Al Tryz.func29 (by kernel_rfl) (by kernel_rfl)
theorem OX:EN 30:=Al Tryz.func30 (by kernel_rfl) (by kernel_rfl)
theorem OY:EN 31:=Al Tryz.func31 (by kernel_rfl) (by kernel_rfl)
theorem O0:EN 33:=Al Tryz.func33 (by kernel_rfl) (by kernel_rfl)
theorem O1:EN 34:=Al Tryz.func34 (by kernel_rfl) (by kernel_rfl)
theorem O4:EN 39:=Al Tryz.func39 (by kernel_rfl) (by kernel_rfl)
theorem O6:EN 40:=Al Tryz.func40 (by kernel_rfl) (by kernel_rfl)
theorem O7:EN 41:=Al Tryz.func41 (by kernel_rfl) (by kernel_rfl)
theorem O8:EN 42:=Al Tryz.func42 (by kernel_rfl) (by kernel_rfl)
theorem O9:EN 43:=Al Tryz.func43 (by kernel_rfl) (by kernel_rfl)
theorem Pa:EN 44:=Al Tryz.func44 (by kernel_rfl) (by kernel_rfl)
theorem Pg:EN 52:=Al Tryz.func52 (by kernel_rfl) (by kernel_rfl)
theorem Ph:EN 53:=Al Tryz.func53 (by kernel_rfl) (by kernel_rfl)
theorem Pi:EN 54:=Al Tryz.func54 (by kernel_rfl) (by kernel_rfl)
theorem XS:EN 55:=Al Tryz.func55 (by kernel_rfl) (by kernel_rfl)
theorem XT:EN 56:=Al Tryz.func56 (by kernel_rfl) (by kernel_rfl)
theorem Pj:EN 57:=Al Tryz.func57 (by kernel_rfl) (by kernel_rfl)
theorem XU:EN 59:=Al Tryz.func59 (by kernel_rfl) (by kernel_rfl)
theorem Pk:EN 60:=Al Tryz.func60 (by kernel_rfl) (by kernel_rfl)
theorem Pm:EN 61:=Al Tryz.func61 (by kernel_rfl) (by kernel_rfl)
theorem XV:EN 62:=Al Tryz.func62 (by kernel_rfl) (by kernel_rfl)
theorem XW:EN 68:=Al Tryz.func68 (by kernel_rfl) (by kernel_rfl)
theorem Po:EN 69:=Al Tryz.func69 (by kernel_rfl) (by kernel_rfl)
theorem Pp:EN 70:=Al Tryz.func70 (by kernel_rfl) (by kernel_rfl)
theorem Pt:EN 74:=Al Tryz.func74 (by kernel_rfl) (by kernel_rfl)
theorem Pu:EN 75:=Al Tryz.func75 (by kernel_rfl) (by kernel_rfl)
theorem Pv:EN 76:=Al Tryz.func76 (by kernel_rfl) (by kernel_rfl)
theorem Pz:EN 86:=Al Tryz.func86 (by kernel_rfl) (by kernel_rfl)
theorem PA:EN 87:=Al Tryz.func87 (by kernel_rfl) (by kernel_rfl)
theorem PB:EN 88:=Al Tryz.func88 (by kernel_rfl) (by kernel_rfl)
theorem PC:EN 89:=Al Tryz.func89 (by kernel_rfl) (by kernel_rfl)
theorem PE:EN 90:=Al Tryz.func90 (by kernel_rfl) (by kernel_rfl)
theorem PH:EN 93:=Al Tryz.func93 (by kernel_rfl) (by kernel_rfl)
theorem PJ:EN 95:=Al Tryz.func95 (by kernel_rfl) (by kernel_rfl)
theorem PK:EN 96:=Al Tryz.func96 (by kernel_rfl) (by kernel_rfl)
theorem PL:EN 97:=Al Tryz.func97 (by kernel_rfl) (by kernel_rfl)
theorem PM:EN 98:=Al Tryz.func98 (by kernel_rfl) (by kernel_rfl)
theorem NA:EN 102:=Al Tryz.func102 (by kernel_rfl) (by kernel_rfl)
theorem Xu:EN 103:=Al Tryz.func103 (by kernel_rfl) (by kernel_rfl)
theorem Xv:EN 104:=Al Tryz.func104 (by kernel_rfl) (by kernel_rfl)
theorem Xw:EN 105:=Al Tryz.func105 (by kernel_rfl) (by kernel_rfl)
theorem NB:EN 107:=Al Tryz.func107 (by kernel_rfl) (by kernel_rfl)
theorem ND:EN 111:=Al Tryz.func111 (by kernel_rfl) (by kernel_rfl)
theorem NE:EN 112:=Al Tryz.func112 (by kernel_rfl) (by kernel_rfl)
theorem NG:EN 113:=Al Tryz.func113 (by kernel_rfl) (by kernel_rfl)
theorem NH:EN 114:=Al Tryz.func114 (by kernel_rfl) (by kernel_rfl)
theorem NI:EN 115:=Al Tryz.func115 (by kernel_rfl) (by kernel_rfl)
theorem NJ:EN 116:=Al Tryz.func116 (by kernel_rfl) (by kernel_rfl)
theorem NK:EN 117:=Al Tryz.func117 (by kernel_rfl) (by kernel_rfl)
theorem NL:EN 118:=Al Tryz.func118 (by kernel_rfl) (by kernel_rfl)
theorem NM:EN 119:=Al Tryz.func119 (by kernel_rfl) (by kernel_rfl)
theorem NO:EN 120:=Al Tryz.func120 (by kernel_rfl) (by kernel_rfl)
theorem NP:EN 121:=Al Tryz.func121 (by kernel_rfl) (by kernel_rfl)
theorem NQ:EN 122:=Al Tryz.func122 (by kernel_rfl) (by kernel_rfl)
theorem NR:EN 123:=Al Tryz.func123 (by kernel_rfl) (by kernel_rfl)
theorem NS:EN 124:=Al Tryz.func124 (by kernel_rfl) (by kernel_rfl)
theorem NV:EN 129:=Al Tryz.func129 (by kernel_rfl) (by kernel_rfl)
theorem N0:EN 136:=Al Tryz.func136 (by kernel_rfl) (by kernel_rfl)
theorem N1:EN 137:=Al Tryz.func137 (by kernel_rfl) (by kernel_rfl)
theorem N2:EN 138:=Al Tryz.func138 (by kernel_rfl) (by kernel_rfl)
theorem N3:EN 139:=Al Tryz.func139 (by kernel_rfl) (by kernel_rfl)
theorem N4:EN 140:=Al Tryz.func140 (by kernel_rfl) (by kernel_rfl)
theorem Xx:EN 142:=Al Tryz.func142 (by kernel_rfl) (by kernel_rfl)
theorem Xy:EN 143:=Al Tryz.func143 (by kernel_rfl) (by kernel_rfl)
theorem Xz:EN 144:=Al Tryz.func144 (by kernel_rfl) (by kernel_rfl)
theorem XA:EN 145:=Al Tryz.func145 (by kernel_rfl) (by kernel_rfl)
theorem XB:EN 146:=Al Tryz.func146 (by kernel_rfl) (by kernel_rfl)
theorem XC:EN 147:=Al Tryz.func147 (by kernel_rfl) (by kernel_rfl)
theorem XD:EN 148:=Al Tryz.func148 (by kernel_rfl) (by kernel_rfl)
theorem XE:EN 149:=Al Tryz.func149 (by kernel_rfl) (by kernel_rfl)
theorem XF:EN 150:=Al Tryz.func150 (by kernel_rfl) (by kernel_rfl)
theorem XG:EN 151:=Al Tryz.func151 (by kernel_rfl) (by kernel_rfl)
theorem XH:EN 152:=Al Tryz.func152 (by kernel_rfl) (by kernel_rfl)
theorem XI:EN 153:=Al Tryz.func153 (by kernel_rfl) (by kernel_rfl)
theorem XJ:EN 154:=Al Tryz.func154 (by kernel_rfl) (by kernel_rfl)
theorem XK:EN 155:=Al Tryz.func155 (by kernel_rfl) (by kernel_rfl)
theorem XL:EN 156:=Al Tryz.func156 (by kernel_rfl) (by kernel_rfl)
theorem XM:EN 157:=Al Tryz.func157 (by kernel_rfl) (by kernel_rfl)
theorem N6:EN 163:=Al Tryz.func163 (by kernel_rfl) (by kernel_rfl)
theorem N7:EN 164:=Al Tryz.func164 (by kernel_rfl) (by kernel_rfl)
theorem N8:EN 165:=Al Tryz.func165 (by kernel_rfl) (by kernel_rfl)
theorem N9:EN 166:=Al Tryz.func166 (by kernel_rfl) (by kernel_rfl)
theorem Oa:EN 167:=Al Tryz.func167 (by kernel_rfl) (by kernel_rfl)
theorem Ob:EN 168:=Al Tryz.func168 (by kernel_rfl) (by kernel_rfl)
theorem Oc:EN 169:=Al Tryz.func169 (by kernel_rfl) (by kernel_rfl)
theorem Oe:EN 170:=Al Tryz.func170 (by kernel_rfl) (by kernel_rfl)
theorem Of:EN 171:=Al Tryz.func171 (by kernel_rfl) (by kernel_rfl)
theorem Og:EN 172:=Al Tryz.func172 (by kernel_rfl) (by kernel_rfl)
theorem Oh:EN 173:=Al Tryz.func173 (by kernel_rfl) (by kernel_rfl)
theorem Oi:EN 174:=Al Tryz.func174 (by kernel_rfl) (by kernel_rfl)
theorem Oq:EN 192:=Al Tryz.func192 (by kernel_rfl) (by kernel_rfl)
theorem Ot:EN 193:=Al Tryz.func193 (by kernel_rfl) (by kernel_rfl)
theorem XN:EN 194:=Al Tryz.func194 (by kernel_rfl) (by kernel_rfl)
theorem Ou:EN 199:=Al Tryz.func199 (by kernel_rfl) (by kernel_rfl)
theorem Ow:EN 200:=Al Tryz.func200 (by kernel_rfl) (by kernel_rfl)
theorem Ox:EN 201:=Al Tryz.func201 (by kernel_rfl) (by kernel_rfl)
theorem Oy:EN 202:=Al Tryz.func202 (by kernel_rfl) (by kernel_rfl)
theorem Oz:EN 203:=Al Tryz.func203 (by kernel_rfl) (by kernel_rfl)
theorem OA:EN 204:=Al Tryz.func204 (by kernel_rfl) (by kernel_rfl)
theorem OB:EN 205:=Al Tryz.func205 (by kernel_rfl) (by kernel_rfl)
theorem OC:EN 206:=Al Tryz.func206 (by kernel_rfl) (by kernel_rfl)
theorem OD:EN 207:=Al Tryz.func207 (by kernel_rfl) (by kernel_rfl)
theorem OE:EN 208:=Al Tryz.func208 (by kernel_rfl) (by kernel_rfl)
theorem OG:EN 209:=Al Tryz.func209 (by kernel_rfl) (by kernel_rfl)
theorem OH:EN 210:=Al Tryz.func210 (by kernel_rfl) (by kernel_rfl)
theorem OI:EN 211:=Al Tryz.func211 (by kernel_rfl) (by kernel_rfl)
theorem OJ:EN 212:=Al Tryz.func212 (by kernel_rfl) (by kernel_rfl)
theorem OL:EN 213:=Al Tryz.func213 (by kernel_rfl) (by kernel_rfl)
theorem OM:EN 214:=Al Tryz.func214 (by kernel_rfl) (by kernel_rfl)
theorem OO:EN 221:=Al Tryz.func221 (by kernel_rfl) (by kernel_rfl)
theorem OP:EN 224:=Al Tryz.func224 (by kernel_rfl) (by kernel_rfl)
theorem OQ:EN 225:=Al Tryz.func225 (by kernel_rfl) (by kernel_rfl)
theorem OR:EN 226:=Al Tryz.func226 (by kernel_rfl) (by kernel_rfl)
theorem OS:EN 227:=Al Tryz.func227 (by kernel_rfl) (by kernel_rfl)
attribute [go_sem ↓] PO OW O5 XX PD Ny Ov XO ON XP OT XQ XR OV OX OY O0 O1 O4 O6 O7 O8 O9 Pa Pg Ph Pi XS XT Pj XU Pk Pm XV XW Po Pp Pt Pu Pv Pz PA PB PC PE PH PJ PK PL PM NA Xu Xv Xw NB ND NE NG NH NI NJ NK NL NM NO NP NQ NR NS NV N0 N1 N2 N3 N4 Xx Xy Xz XA XB XC XD XE XF XG XH XI XJ XK XL XM N6 N7 N8 N9 Oa Ob Oc Oe Of Og Oh Oi Oq Ot XN Ou Ow Ox Oy Oz OA OB OC OD OE OG OH OI OJ OL OM OO OP OQ OR OS
attribute [go_sem] Mx
end Go.Proofs.YtfcfpoemojjglaaGreatDoor
namespace Go.Proofs.YtfcfpoemojjglaaGreatDoor
open Go.RowKit
def Bw (w:World) (g:Nat) (ks:List Value):Prop:=
 ∃es clock,w.heap[g]?=some (.map es clock)∧es.toList.map (·.key)=ks∧es.toList.map (·.val)=(List.range ks.length).map fun(i:Nat)=>Value.int .i64 (i:Int)
theorem Bw.keep {w w':World} {g:Nat} {ks:List Value} (h:Bw w g ks) (C:w'.heap[g]?=w.heap[g]?):Bw w' g ks:=by
 obtain⟨es,y,h1,z⟩:=h
 exact⟨es,y,by rw [C]; exact h1,z⟩
theorem Bw.lt {w:World} {g:Nat} {ks:List Value} (h:Bw w g ks):g<w.heap.size:=by
 obtain⟨es,y,h1,z⟩:=h
 exact(Array.getElem?_eq_some_iff.1 h1).1
theorem Bw.made (w:World):Bw (w.alloc (.map #[] 0)) w.heap.size []:=⟨#[],0,heap_alloc_new w _,rfl,rfl⟩
structure El {S:Type} [DecidableEq S] (P:Program) (K:TypeId) (enc:S→Value):Prop where
 check:∀em w s,(Instr.checkKey em 10000 K (enc s)).run P w=.ok () w
 find:∀w s (es:List MapEntry) (l:List S),es.map (·.key)=l.map enc→
  (Instr.findKey K (enc s) es).run P w=.ok (if s∈l then some (l.idxOf s,((es[l.idxOf s]?).map (·.val)).getD .nilFunc) else none) w
section
variable {S:Type} [DecidableEq S] {P:Program} {K:TypeId}
theorem PZ (q:IntKind) (f:S→Int) (E:∀a b,f a=f b→a=b) (s:S) (es:List MapEntry):∀(l:List S) (i:Nat),es.map (·.key)=l.map (fun s=>Value.int q (f s))→
  Instr.findNow (.int q) (.int q (f s)) es i=some (if s∈l then some (i+l.idxOf s,((es[l.idxOf s]?).map (·.val)).getD .nilFunc) else none):=by
 induction es with
 | nil=>
  intro l i h
  have:l=[]:=by cases l <;> simp_all
  subst this
  simp [Instr.findNow]
 | cons e es ih=>
  intro l i h
  cases l with
  | nil=>simp at h
  | cons t l=>
   simp only [List.map_cons,List.cons.injEq] at h
   obtain⟨h1,C⟩:=h
   unfold Instr.findNow
   rw [h1]
   simp only [Instr.sameNow,if_true]
   by_cases y:s=t
   ·subst y
    simp
   ·have G:(f s==f t)=false:=by simpa using fun e=>y (E _ _ e)
    rw [G]
    dsimp only
    rw [ih l (i+1) C]
    have F:(t::l).idxOf s=l.idxOf s+1:=by
     rw [List.idxOf_cons]
     have:(t==s)=false:=by simpa using fun e=>y e.symm
     rw [this]; rfl
    by_cases z:s∈l
    ·simp only [z,F,List.mem_cons,or_true,if_true,List.getElem?_cons_succ,Option.some.injEq,Prod.mk.injEq,and_true]; omega
    ·simp [z,y]
theorem QK (q:IntKind) (y:P.underlying K=some (.int q)) (f:S→Int) (z:∀a b,f a=f b→a=b):El P K (fun s=>Value.int q (f s)) where
 check:=fun C w s=>by
  rw [show(10000:Nat)=9999+1 from rfl]
  unfold Instr.checkKey
  simp [run_underlying y]
 find:=fun w s es l h=>by
  unfold Instr.findKey
  simp only [Sem.run_bind,run_underlying y,Result.andThen_ok]
  rw [PZ q f z s es l 0 h]
  simp
theorem IY (a b:ByteArray):(a==b)=(a.data==b.data):=rfl
theorem Mw (a:ByteArray):(a==a)=true:=by rw [IY]; simp
theorem Mu {a b:ByteArray} (h:a≠b):(a==b)=false:=by rw [IY]; simp; intro e; exact h (ByteArray.ext e)
theorem P0 (f:S→ByteArray) (F:∀a b,f a=f b→a=b) (s:S) (es:List MapEntry):∀(l:List S) (i:Nat),es.map (·.key)=l.map (fun s=>Value.string (f s))→
  Instr.findNow .string (.string (f s)) es i=some (if s∈l then some (i+l.idxOf s,((es[l.idxOf s]?).map (·.val)).getD .nilFunc) else none):=by
 induction es with
 | nil=>
  intro l i h
  have:l=[]:=by cases l <;> simp_all
  subst this
  simp [Instr.findNow]
 | cons e es ih=>
  intro l i h
  cases l with
  | nil=>simp at h
  | cons t l=>
   simp only [List.map_cons,List.cons.injEq] at h
   obtain⟨h1,C⟩:=h
   unfold Instr.findNow
   rw [h1]
   simp only [Instr.sameNow]
   by_cases y:s=t
   ·subst y
    have E:(f s==f s)=true:=Mw _
    rw [E]
    simp
   ·have I:(f s==f t)=false:=Mu fun e=>y (F _ _ e)
    rw [I]
    dsimp only
    rw [ih l (i+1) C]
    have G:(t::l).idxOf s=l.idxOf s+1:=by
     rw [List.idxOf_cons]
     have:(t==s)=false:=by simpa using fun e=>y e.symm
     rw [this]; rfl
    by_cases z:s∈l
    ·simp only [z,G,List.mem_cons,or_true,if_true,List.getElem?_cons_succ,Option.some.injEq,Prod.mk.injEq,and_true]; omega
    ·simp [z,y]
theorem QL (y:P.underlying K=some .string) (f:S→ByteArray) (z:∀a b,f a=f b→a=b):El P K (fun s=>Value.string (f s)) where
 check:=fun C w s=>by
  rw [show(10000:Nat)=9999+1 from rfl]
  unfold Instr.checkKey
  simp [run_underlying y]
 find:=fun w s es l h=>by
  unfold Instr.findKey
  simp only [Sem.run_bind,run_underlying y,Result.andThen_ok]
  rw [P0 f z s es l 0 h]
  simp
theorem JE {es:Array MapEntry} {n i:Nat} (h:es.toList.map (·.val)=(List.range n).map fun(i:Nat)=>Value.int .i64 (i:Int)) (y:i<n):((es.toList[i]?).map (·.val)).getD .nilFunc=.int .i64 (i:Int):=by
 have:(es.toList.map (·.val))[i]?=some (Value.int .i64 (i:Int)):=by rw [h]; simp [y]
 rw [List.getElem?_map] at this
 rw [this]; rfl
theorem Ft {enc:S→Value} (hk:El P K enc) {T E:TypeId} (I:P.underlying T=some (.map K E)) (G:∀w,(zeroValue E).run P w=.ok (.int .i64 0) w) {w:World} {g:Nat} {l:List S}
  (h:Bw w g (l.map enc)) (s:S):
  (Instr.lookup T (.map (some g)) (enc s) true).run P w=.ok (.tuple #[.int .i64 (if s∈l then (l.idxOf s:Int) else 0),.bool (decide (s∈l))]) w:=by
 obtain⟨es,z,h1,C,F⟩:=h
 have M:(getObj g).run P w=.ok (.map es z) w:=by simp [getObj,Sem.run,h1]
 have J:=hk.find w s es.toList l C
 unfold Instr.lookup
 simp only [Sem.run_bind,run_underlying I,Result.andThen_ok,M,Sem.run_pure,hk.check,J]
 by_cases y:s∈l
 ·simp only [y,if_true,decide_true]
  rw [JE F (by rw [List.length_map]; exact List.idxOf_lt_length_of_mem y)]
  rfl
 ·simp only [y,if_false,Result.andThen_ok,Sem.run_bind,G,Sem.run_pure,decide_false,if_true]
theorem EY {enc:S→Value} (hk:El P K enc) {T E:TypeId} (G:P.underlying T=some (.map K E)) {w:World} {g:Nat} {l:List S}
  (h:Bw w g (l.map enc)) (s:S) (O:s∉l):
  ∃w',(Instr.mapUpdate T (.map (some g)) (enc s) (.int .i64 (l.length:Int))).run P w=.ok () w'∧Bw w' g ((l++[s]).map enc)∧w.grownBy w' (some g)∧w'.heap.size=w.heap.size:=by
 obtain⟨es,y,h1,z,F⟩:=h
 have I:(getObj g).run P w=.ok (.map es y) w:=by simp [getObj,Sem.run,h1]
 have C:=hk.find w s es.toList l z
 rw [if_neg O] at C
 have J:g<w.heap.size:=(Array.getElem?_eq_some_iff.1 h1).1
 have U:∀o:Obj,(setObj g o).run P w=.ok () { w with heap:=w.heap.setIfInBounds g o }:=fun o=>by
  simp [setObj,Sem.run,h1]
 refine⟨{ w with heap:=w.heap.setIfInBounds g (.map (es.push { key:=enc s,val:=.int .i64 (l.length:Int),born:=y }) (y+1)) },?_,
  ⟨es.push { key:=enc s,val:=.int .i64 (l.length:Int),born:=y },y+1,?_,?_,?_⟩,⟨rfl,rfl,rfl,by simp,fun k hk M=>?_⟩,by simp⟩
 ·unfold Instr.mapUpdate
  simp only [Sem.run_bind,run_underlying G,Result.andThen_ok,I,hk.check,C,U]
 ·simp [J]
 ·simp [z]
 ·simp only [Array.toList_push,List.map_append,F,List.map_cons,List.map_nil,List.length_append,List.length_cons,List.length_nil,List.length_map]
  rw [List.range_succ]
  simp
 ·have:k≠g:=fun e=>M (by rw [e])
  simp [Array.getElem?_setIfInBounds_ne (fun e=>this e.symm)]
end
end Go.Proofs.YtfcfpoemojjglaaGreatDoor
namespace Go.Proofs.YtfcfpoemojjglaaGreatDoor
open Go.RowKit
def Ret (V:Value→World→Prop):Ending→World→Prop
 | .returned v,w=>V v w
 | _,_=>False
theorem Calls.ret {P:Program} {f:FuncId} {args:Array Value} {w:World} {V:Value→World→Prop} {K:Ending→World→Prop} (h:Calls P f args w (Ret V)) (z:∀v w',V v w'→K (.returned v) w'):Calls P f args w K:=
 h.mono fun e w' y=>by
  cases e with
  | returned v=>exact z v w' y
  | panicked c=>exact y.elim
  | outgrown=>exact y.elim
structure Ac (w w':World) (X:Nat→Prop):Prop where
 os:w'.os=w.os
 tape:w'.tape=w.tape
 output:w'.output=w.output
 size:w.heap.size≤w'.heap.size
 block:∀k,k<w.heap.size→¬X k→w'.heap[k]?=w.heap[k]?
section
variable {w w' w'':World} {X Y:Nat→Prop}
theorem Ac.refl (w:World) (X:Nat→Prop):Ac w w X:=⟨rfl,rfl,rfl,Nat.le_refl _,fun _ _ _=>rfl⟩
theorem Ac.trans (h:Ac w w' X) (k:Ac w' w'' Y) (C:∀b,b<w.heap.size→Y b→X b):Ac w w'' X:=
 ⟨k.os.trans h.os,k.tape.trans h.tape,k.output.trans h.output,Nat.le_trans h.size k.size,
  fun b y z=>(k.block b (Nat.lt_of_lt_of_le y h.size) fun E=>z (C b y E)).trans (h.block b y z)⟩
theorem Ac.mono (h:Ac w w' X) (z:∀b,b<w.heap.size→X b→Y b):Ac w w' Y:=⟨h.os,h.tape,h.output,h.size,fun b y C=>h.block b y fun E=>C (z b y E)⟩
theorem Ac.of_below (h:Below w.heap.size w w') (X:Nat→Prop):Ac w w' X:=⟨h.os,h.tape,h.output,h.size,fun b y _=>h.block b y⟩
theorem Ac.of_grown {row:Option Nat} (h:w.grownBy w' row):Ac w w' (fun b=>row=some b):=⟨h.os,h.tape,h.output,h.size,fun b y z=>h.block b y fun e=>z e.symm⟩
theorem Ac.drew (h:Ac w w' X):Ac w w'.drew X:=⟨h.os,h.tape,h.output,h.size,h.block⟩
theorem Ac.drewN (h:Ac w w' X) (n:Nat):Ac w (w'.drewN n) X:=⟨h.os,h.tape,h.output,h.size,h.block⟩
theorem Ac.alloc (h:Ac w w' X) (o:Obj):Ac w (w'.alloc o) X:=
 ⟨h.os,h.tape,h.output,Nat.le_trans h.size (by simp),fun b y z=>(Below.heap_alloc _ _ _ (Nat.lt_of_lt_of_le y h.size)).trans (h.block b y z)⟩
theorem Ac.setCell (h:Ac w w' X) {p:Addr} (C:p.block<w.heap.size→X p.block) (u:Value):Ac w (w'.setCell p u) X:=
 ⟨h.os,h.tape,h.output,by simpa [World.setCell] using h.size,fun b y z=>(Below.heap_setCell _ _ _ _ (fun e=>z (by subst e; exact C y))).trans (h.block b y z)⟩
theorem Ac.below (h:Ac w w' X) {B:Nat} (C:B≤w.heap.size) (y:∀b,b<B→¬X b):Below B w w':=⟨h.os,h.tape,h.output,h.size,fun b z=>h.block b (by omega) (y b z)⟩
theorem Ac.same (h:Ac w w' X) {o:Obj} {b:Nat} (y:w.heap[b]?=some o) (z:¬X b):w'.heap[b]?=some o:=by
 rw [h.block b (Array.getElem?_eq_some_iff.1 y).1 z]; exact y
theorem Ac.cell (h:Ac w w' X) {p:Addr} (y:p.block<w.heap.size) (z:¬X p.block):w'.cell? p=w.cell? p:=World.cell?_of_block (h.block p.block y z)
theorem Ac.ownsRow (h:Ac w w' X) {base n size:Nat} {e:TypeId} {v:Value} {xs:List Value} (ho:w.ownsRow base e size v n xs) (F:∀g,v.ownBlock=some g→¬X g):w'.ownsRow base e size v n xs:=by
 refine⟨ho.1,?_⟩
 rcases ho.2 with G | ⟨g,y,z,rfl,C,E,rest⟩
 ·exact .inl G
 ·exact .inr ⟨g,y,z,rfl,C,h.same E (F g rfl),rest⟩
end
def Blk (w:World) (g:Nat) (t:TypeId) (cs:Array Value):Prop:=w.heap[g]?=some (.cells cs t (0,0))
section
variable {w w':World} {g:Nat} {t:TypeId} {cs:Array Value} {X:Nat→Prop}
theorem Blk.lt (h:Blk w g t cs):g<w.heap.size:=(Array.getElem?_eq_some_iff.1 h).1
theorem Blk.cell (h:Blk w g t cs) (i:Nat):w.cell? ⟨g,i,none⟩=cs[i]?:=cell_of_row w g i cs t (0,0) h
theorem Blk.frozen (h:Blk w g t cs) (i:Nat):w.frozen? ⟨g,i,none⟩=false:=by
 unfold Blk at h
 simp [World.frozen?,h]
theorem Blk.new (w:World) (t:TypeId) (cs:Array Value):Blk (w.alloc (.cells cs t)) w.heap.size t cs:=heap_alloc_new w _
theorem Blk.set_ (h:Blk w g t cs) (i:Nat) (u:Value):Blk (w.setCell ⟨g,i,none⟩ u) g t (cs.setIfInBounds i u):=by
 unfold Blk at h ⊢
 simp [World.setCell,Array.getElem?_modify,h]
theorem Blk.kept (h:Blk w g t cs) (hk:Ac w w' X) (y:¬X g):Blk w' g t cs:=hk.same h y
theorem Blk.ne_ {z:Nat} {C:TypeId} {E:Array Value} (h:Blk w g t cs) (y:Blk w z C E) (F:t≠C):g≠z:=by
 rintro rfl
 unfold Blk at h y
 rw [h] at y
 injection y with y
 injection y with _ ht
 exact F ht
theorem Aw {base size n:Nat} {e:TypeId} {v:Value} {xs:List Value} (h:w.ownsRow base e size v n xs) (C:Blk w g t cs) (F:e≠t):v.ownBlock≠some g:=by
 rcases h.2 with⟨rfl,_⟩ | ⟨y,G,I,rfl,_,E,_⟩
 ·simp [Value.ownBlock]
 ·intro z
  have:y=g:=by simpa [Value.ownBlock] using z
  subst this
  exact Blk.ne_ (t:=e) E C F rfl
theorem Wq {base size n base' J I:Nat} {e y:TypeId} {v z:Value} {xs M:List Value} (h:w.ownsRow base e size v n xs) (E:w.ownsRow base' y J z I M) (G:e≠y) {k:Nat} (hk:v.ownBlock=some k):z.ownBlock≠some k:=by
 rcases h.2 with⟨rfl,_⟩ | ⟨C,O,U,rfl,_,F,_⟩
 ·simp [Value.ownBlock] at hk
 ·have:C=k:=by simpa [Value.ownBlock] using hk
  subst this
  exact Aw E F fun e=>G e.symm
theorem Di {base size n:Nat} {e:TypeId} {v:Value} {xs:List Value} {ks:List Value} (h:w.ownsRow base e size v n xs) (C:Bw w g ks):v.ownBlock≠some g:=by
 rcases h.2 with⟨rfl,_⟩ | ⟨y,F,I,rfl,_,E,_⟩
 ·simp [Value.ownBlock]
 ·intro z
  have:y=g:=by simpa [Value.ownBlock] using z
  subst this
  obtain⟨es,G,h1,_⟩:=C
  rw [E] at h1; cases h1
theorem BT {y:Nat} {ks:List Value} (h:Blk w g t cs) (z:Bw w y ks):g≠y:=by
 rintro rfl
 obtain⟨es,C,h1,_⟩:=z
 unfold Blk at h
 rw [h] at h1; cases h1
theorem Bw.kept {ks:List Value} (h:Bw w g ks) (hk:Ac w w' X) (y:¬X g):Bw w' g ks:=h.keep (hk.block g h.lt y)
end
def BJ (w:World) (v v':Value):Prop:=v'.ownBlock=v.ownBlock∨∃g,v'.ownBlock=some g∧w.heap.size≤g
theorem BJ.refl (w:World) (v:Value):BJ w v v:=.inl rfl
theorem BJ.trans {w w':World} {a b c:Value} (h:BJ w a b) (z:w.heap.size≤w'.heap.size) (k:BJ w' b c):BJ w a c:=by
 rcases k with k | ⟨g,k,y⟩
 ·rcases h with h | ⟨g,h,y⟩
  ·exact .inl (k.trans h)
  ·exact .inr ⟨g,k.trans h,y⟩
 ·exact .inr ⟨g,k,by omega⟩
theorem BJ.ne {w:World} {a b:Value} (h:BJ w a b) {k:Nat} (hk:k<w.heap.size) (y:a.ownBlock≠some k):b.ownBlock≠some k:=by
 rcases h with h | ⟨g,h,z⟩
 ·rw [h]; exact y
 ·rw [h]; intro e; injection e with e; omega
structure Dd (P:Program) (t e:TypeId) (size:Nat):Prop where
 ht:P.underlying t=some (.slice e)
 info:∃i z bytes,P.info? e=some i∧i.zero=some z∧i.size=size∧i.bytes=bytes∧z.cells.size=size∧bytes≤200
 pos:0<size
theorem EX {P:Program} {t e size bytes:Nat} {z:Value} (ht:P.underlying t=some (.slice e)) (F:(P.info? e).map (fun i=>(i.zero,i.size,i.bytes))=some (some z,size,bytes)) (I:z.cells.size=size) (E:bytes≤200) (G:0<size):Dd P t e size:=by
 obtain⟨i,h1,h,y,C⟩:=info_parts F
 exact⟨ht,⟨i,z,bytes,h1,h,y,C,I,E⟩,G⟩
theorem AH {w:World} {base e size n:Nat} {v:Value} {xs:List Value} (h:w.ownsRow base e size v n xs):∃A c,v=.slice A n c:=by
 rcases h.2 with⟨rfl,h0⟩ | ⟨g,y,z,rfl,_⟩
 ·exact⟨none,0,by rw [h0]⟩
 ·exact⟨_,_,rfl⟩
section
variable {P:Program} {ops:Array Oper} {rest:List Oper} {o:Oper} {a:Act} {Q:Exit→Act→World→Prop}
theorem G9 {w:World} {t e size:Nat} (R:Dd P t e size) (V:o.guard=none) (s x:Operand)
  (ho:o.op=.call { callee:=.builtin .append,args:=#[s,x],argTypes:=#[t,t] })
  (base:Nat) (v:Value) (n:Nat) (xs:List Value) (hs:a.eval s=v) (a4:w.ownsRow base e size v n xs)
  (G:Addr) (m c:Nat) (F:List Value) (hx:a.eval x=.slice (some G) m c) (hl:F.length=m*size) (a3:∀j u,F[j]?=some u→w.cell? (G.add j)=some u) (h1:∀u∈F,u.oneCell'=true)
  (hm:0<m) (I:n+m≤4000000) (O:base≤w.heap.size)
  (h:∀g y w',w'.ownsRow base e size (.slice (some ⟨g,0,none⟩) (n+m) y) (n+m) (xs++F)→Ac w w' (fun k=>v.ownBlock=some k)→BJ w v (.slice (some ⟨g,0,none⟩) (n+m) y)→g<w'.heap.size→
   wpList P ops Q rest (a.put o.dst (.slice (some ⟨g,0,none⟩) (n+m) y)) w'):
  wpList P ops Q (o::rest) a w:=by
 obtain⟨i,z,bytes,Z,hz,a6,U,a9,M⟩:=R.info
 refine wpList_append_own_at w V s x t ho base e i z size bytes R.ht Z hz a6 U a9 R.pos v n xs hs a4 G m c F hx hl a3 h1 (by unfold maxLen; omega) ?_ O ?_
 ·exact Nat.le_trans (Nat.mul_le_mul I M) (by decide)
 ·intro v' w' J E af C
  rcases J.2 with⟨rfl,h0⟩ | ⟨g,y,aa,rfl,ab,W,_⟩
  ·exact absurd h0 (by omega)
  ·refine h g y w' J ?_ ?_ (Array.getElem?_eq_some_iff.1 W).1
   ·exact⟨E.os,E.tape,E.output,E.size,fun k hk I=>E.block k hk fun e=>I e.symm⟩
   ·rcases C with C | C
    ·exact .inl C
    ·exact .inr ⟨_,C,Nat.le_refl _⟩
theorem BP {w:World} {t e size:Nat} (R:Dd P t e size) (J:o.guard=none) (s x:Operand)
  (ho:o.op=.call { callee:=.builtin .append,args:=#[s,x],argTypes:=#[t,t] })
  (base:Nat) (v:Value) (n:Nat) (xs:List Value) (Z:a.eval s=v) (V:w.ownsRow base e size v n xs) (cs:List Value) (c:Nat)
  (hx:a.eval x=.slice (some ⟨w.heap.size,0,none⟩) 1 c) (O:cs.length=size) (h1:∀u∈cs,u.oneCell'=true)
  (U:n+1≤4000000) (a3:base≤w.heap.size)
  (h:∀g y w',w'.ownsRow base e size (.slice (some ⟨g,0,none⟩) (n+1) y) (n+1) (xs++cs)→Ac w w' (fun k=>v.ownBlock=some k)→BJ w v (.slice (some ⟨g,0,none⟩) (n+1) y)→g<w'.heap.size→
   wpList P ops Q rest (a.put o.dst (.slice (some ⟨g,0,none⟩) (n+1) y)) w'):
  wpList P ops Q (o::rest) a (w.alloc (.cells cs.toArray e)):=by
 refine G9 R J s x ho base v n xs Z (V.alloc _) ⟨w.heap.size,0,none⟩ 1 c cs hx (by rw [O]; omega) ?_ h1 (by omega) U (by simp; omega) ?_
 ·intro j u M
  have E:(⟨w.heap.size,0,none⟩:Addr).add j=⟨w.heap.size,j,none⟩:=by unfold Addr.add; split <;> simp_all
  rw [E,cell_of_row _ w.heap.size j cs.toArray e (0,0) (heap_alloc_new w _)]
  simpa using M
 ·intro g y w' W hk z G
  refine h g y w' W (((Ac.refl w (fun k=>v.ownBlock=some k)).alloc (.cells cs.toArray e)).trans hk fun b _ F=>F) ?_ G
  rcases z with z | ⟨C,z,I⟩
  ·exact .inl z
  ·refine .inr ⟨C,z,?_⟩
   simp at I
   omega
end
end Go.Proofs.YtfcfpoemojjglaaGreatDoor
