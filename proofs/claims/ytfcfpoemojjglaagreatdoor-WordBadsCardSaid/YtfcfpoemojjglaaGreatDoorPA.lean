/-
  Part PA of a proof.
-/
import Derived.WalkKit
import Derived.Laws.Panics
import Derived.Deep.MidRow
import Derived.Test.YtfcfpoemojjglaaGreatDoorRows
import Derived.WalkSpells
import Derived.WalkLawsBesides
import Derived.Lib.Hide
import Derived.Deep.AppendLies
import Derived.Deep.Draws
import Derived.Deep.LoopGhost
import Derived.Deep.QuietTactic
import Derived.BigQuiet
import Derived.BigCall
import Derived.Maps.AppendAt
set_option maxHeartbeats 16000000
set_option maxRecDepth 100000
set_option linter.unusedVariables false
set_option linter.unusedSimpArgs false
namespace Go.Proofs.YtfcfpoemojjglaaGreatDoor
namespace Reg
def Ext (w w':World):Prop:=∀k,k<w.heap.size->w'.heap[k]?=w.heap[k]?
theorem Ext.refl (w:World):Ext w w:=fun _ _=>rfl
theorem Ext.some {w w':World} (h:Ext w w') {k:Nat} {o:Obj} (d:w.heap[k]?=some o):w'.heap[k]?=some o:=by
 rw [h k (Array.getElem?_eq_some_iff.1 d).1]; exact d
def Ag {α:Type} (P:Program) (s:Sem α):Prop:=(∃v,∀w,s.run P w=.ok v w)\/(∀w,∃h w',s.run P w=.halt h w')
section
variable {α β:Type} {P:Program}
theorem Ag.pure (v:α):Ag P (Pure.pure v:Sem α):=.inl ⟨v,fun _=>rfl⟩
theorem Ag.halt (h:Halt):Ag P (Sem.halt h:Sem α):=.inr fun w=>⟨h,w,rfl⟩
theorem Ag.haltBind (h:Halt) (f:α->Sem β):Ag P (Sem.halt h >>=f):=.inr fun w=>⟨h,w,rfl⟩
theorem Ag.stuckBind (s:String) (f:α->Sem β):Ag P (Go.stuck s >>=f):=Ag.haltBind _ f
theorem Ag.stuck (s:String):Ag P (Go.stuck s:Sem α):=Ag.halt _
theorem Ag.unsupported (s:Unsupported):Ag P (Go.unsupported s:Sem α):=Ag.halt _
theorem Ag.bind {s:Sem α} {f:α->Sem β} (y:Ag P s) (l:∀v,Ag P (f v)):Ag P (s >>=f):=by
 rcases y with⟨v,j⟩ | d
 ·rcases l v with⟨u,C⟩ | d
  ·exact .inl ⟨u,fun w=>by rw [Sem.run_bind,j]; exact C w⟩
  ·exact .inr fun w=>by rw [Sem.run_bind,j]; exact d w
 ·exact .inr fun w=>by
   obtain⟨h,w',e⟩:=d w;exact⟨h,w',by rw [Sem.run_bind,e]; rfl⟩
theorem Ag.program {f:Program->Sem β} (d:Ag P (f P)):Ag P (Go.program >>=f):=by
 rcases d with⟨u,j⟩ | h
 ·exact .inl ⟨u,fun w=>by rw [Sem.run_bind,run_program]; exact j w⟩
 ·exact .inr fun w=>by rw [Sem.run_bind,run_program]; exact h w
theorem Ag.ite {c:Prop} [Decidable c] {x y:Sem α} (d:Ag P x) (h:Ag P y):Ag P (if c then x else y):=by
 split
 ·exact d
 ·exact h
theorem Ag.boundsPanic (k:IntKind) (x y:Int) (d:BoundsCode):Ag P (Go.boundsPanic k x y d:Sem α):=.inr fun w=>by
 obtain⟨s,w',h⟩:=run_boundsPanic (α:=α) (P:=P) (w:=w) k x y d;exact⟨_,w',h⟩
theorem Ag.underlying (t:TypeId):Ag P (Go.underlying t):=by
 unfold Go.underlying;refine Ag.program ?_;split
 ·exact Ag.pure _
 ·exact Ag.stuck _
theorem Ag.typeInfo (t:TypeId):Ag P (Go.typeInfo t):=by
 unfold Go.typeInfo;refine Ag.program ?_;split
 ·exact Ag.pure _
 ·exact Ag.stuck _
theorem Ag.sizeOf (t:TypeId):Ag P (Go.sizeOf t):=Ag.bind (Ag.typeInfo t) fun _=>Ag.pure _
theorem Ag.nilDeref:Ag P (Go.runtimePanic .nilDeref:Sem α):=by
 unfold Go.runtimePanic;exact Ag.program (Ag.halt _)
theorem Ag.error (s:String):Ag P (Go.runtimePanic (.error s):Sem α):=by
 unfold Go.runtimePanic;exact Ag.program (Ag.halt _)
theorem Ag.asIntOf (v:Value):Ag P (Go.asIntOf v):=by
 unfold Go.asIntOf;split
 ·exact Ag.pure _
 ·exact Ag.unsupported _
 ·exact Ag.stuck _
theorem Ag.asBool (v:Value):Ag P (Go.asBool v):=by
 unfold Go.asBool;split
 ·exact Ag.pure _
 ·exact Ag.stuck _
theorem Ag.sureAddr (v:Value):Ag P (Instr.sureAddr v):=by
 unfold Instr.sureAddr;split
 ·exact Ag.pure _
 ·exact Ag.stuck _
theorem Ag.ok {s:Sem α} (h:Ag P s) {w w1:World} {v:α} (e:s.run P w=.ok v w1):w1=w/\∀w',s.run P w'=.ok v w':=by
 rcases h with⟨u,d⟩ | E
 ·have:=d w;rw [e] at this;injection this with l C
  subst l; subst C;exact⟨rfl,d⟩
 ·obtain⟨x,y,j⟩:=E w;rw [e] at j; cases j
end
def Hp (P:Program) (s:TypeId) (f:Nat):Bool:=
 match P.underlying s with
 | some (.struct fs)=>match fs[f]? with
  | some fl=>match P.info? fl.type with
   | some i=>i.size != 0
   | none=>true
  | none=>true
 | _=>true
def Hx (P:Program) (ts:Array TypeId):Bool:=
 match ts[0]? with
 | some t=>match P.underlying t with
  | some (.slice _)=>true
  | some .string=>true
  | _=>false
 | none=>false
def Gs (P:Program):Op->Bool
 | .move _ | .assign _ | .pick .. | .extract .. | .makeFunc .. | .unOp .. | .indexAddr .. | .nilCheck _=>true
 | .fieldAddr s _ f=>Hp P s f
 | .call { callee:=.builtin .len,argTypes:=ts,.. }=>Hx P ts
 | _=>false
def intOp:Op->Bool
 | .binOp ..=>true
 | _=>false
def isInt:Value->Bool
 | .int ..=>true
 | _=>false
def intFine (ρ:Operand->Value):Op->Bool
 | .binOp _ _ x y _=>isInt (ρ x)&&isInt (ρ y)
 | _=>true
def D8 (P:Program) (s:Sem Next):Prop:=(∃u,∀w,s.run P w=.ok (.value u) w)\/(∀w,∃h w',s.run P w=.halt h w')
theorem Ag.valueV {P:Program} {s:Sem Value} (h:Ag P s):D8 P (s >>=fun v=>(Pure.pure (Next.value v):Sem Next)):=by
  rcases h with⟨v,j⟩ | d
  · exact .inl ⟨v,fun w=>by rw [Sem.run_bind,j]; rfl⟩
  · exact .inr fun w=>by
      obtain⟨x,y,e⟩:=d w;exact⟨x,y,by rw [Sem.run_bind,e]; rfl⟩
theorem MJ {P:Program} (op:UnOp) (x:Value):Ag P (Op.unary op x):=by
 unfold Op.unary;split
 all_goals first
  | exact Ag.pure _
  | exact Ag.stuck _
  | exact Ag.unsupported _
  | (unfold Op.intArith; split <;> first | exact Ag.pure _ | exact Ag.stuck _)
  | (unfold Op.intBits; dsimp only; split <;> first | exact Ag.pure _ | exact Ag.stuck _)
theorem MB {P:Program} (t:Value) (i:Nat):Ag P (Instr.extract t i):=by
 unfold Instr.extract;split
 ·split
  ·exact Ag.pure _
  ·exact Ag.stuck _
 ·exact Ag.stuck _
theorem ME {P:Program} (t:TypeId) (x i:Value):Ag P (Instr.indexAt t x i):=by
 unfold Instr.indexAt;refine Ag.bind (Ag.asIntOf i) ?_;rintro⟨k,n⟩;refine Ag.bind (Ag.underlying t) ?_;intro d
 have key:∀(msg:String) (base:Option Addr) (len:Nat) (j:TypeId),Ag P (do
   let h <-Go.underlying t
   have l:Bool:=decide (len<=1)&&(match h with | .array ..=>true | _=>false)
   match base with
   | some a=>
    if 0<=n/\n<(len:Int) then do
     let z <-Go.sizeOf j
     pure (Value.pointer (some (a.add (n.toNat*z))))
    else if l=true then Go.unsupported (.noEntry msg)
    else Go.boundsPanic k n (len:Int) .index
   | none=>Go.boundsPanic k n 0 .index):=by
  intro msg base len j;refine Ag.bind (Ag.underlying t) ?_;intro h;dsimp only;split
  ·exact Ag.ite (Ag.bind (Ag.sizeOf _) fun _=>Ag.pure _) (Ag.ite (Ag.unsupported _) (Ag.boundsPanic _ _ _ _))
  ·exact Ag.boundsPanic _ _ _ _
 dsimp only;split
 ·exact Ag.bind (Ag.sureAddr _) fun a=>key _ (some a) _ _
 ·exact key _ _ _ _
 ·exact Ag.stuckBind _ _
theorem MC {P:Program} (s:TypeId) (x:Value) (f:Nat) (h:Hp P s f=true):Ag P (Instr.fieldAt s x f):=by
 unfold Instr.fieldAt Go.underlying;rw [bind_assoc];refine Ag.program ?_;unfold Hp at h;cases j:P.underlying s with
 | none=>exact Ag.stuckBind _ _
 | some d=>
  rw [j] at h;dsimp only at h ⊢;rw [pure_bind];cases d <;> try exact Ag.stuck _
  rename_i fs;dsimp only at h ⊢;cases l:fs[f]? with
  | none=>exact Ag.stuck _
  | some fl=>
   rw [l] at h;dsimp only at h ⊢;refine Ag.bind (Ag.sureAddr _) ?_;intro a;refine Ag.bind ?_ fun _=>Ag.pure _;unfold fieldPlace Go.sizeOf Go.typeInfo;simp only [bind_assoc];refine Ag.program ?_;cases y:P.info? fl.type with
   | none=>exact Ag.stuckBind _ _
   | some i=>
    rw [y] at h;dsimp only at h ⊢;simp only [pure_bind];have:i.size≠0:=by simpa using h
    rw [if_neg this];exact Ag.pure _
theorem MF {P:Program} (j:Array TypeId) (ty:TypeId) (args:Array Value) (h:Hx P j=true):Ag P (Builtin.len_ j ty args):=by
 unfold Builtin.len_;unfold Hx at h;cases ht:j[0]? with
 | none=>rw [ht] at h; simp at h
 | some t=>
 rw [ht] at h;cases y:args[0]? with
 | none=>exact Ag.stuck _
 | some x=>
  dsimp only at h ⊢;unfold Go.underlying;rw [bind_assoc];refine Ag.program ?_;cases l:P.underlying t with
  | none=>exact Ag.stuckBind _ _
  | some d=>
   rw [l] at h;dsimp only at h ⊢;rw [pure_bind];cases d <;> first | (simp at h; done) | skip
   all_goals (cases x <;> first | exact Ag.pure _ | exact Ag.stuck _)
theorem My {P:Program} (op:BinOp) (t:TypeId) (x y:Operand) (k d:IntKind) (a b:Int):
    Ag P (do eqGuard op t x y (.int k a) (.int d b); binOp op t (.int k a) (.int d b)):=by
  have h:Ag P (eqGuard op t x y (.int k a) (.int d b)):=by
    unfold eqGuard;cases op <;> exact Ag.pure _
  refine Ag.bind h fun _=>?_;have j:∀o,Ag P (Op.intArith o k a b):=fun o=>by unfold Op.intArith; split <;> first | exact Ag.pure _ | exact Ag.stuck _
  have E:∀o,Ag P (Op.intDiv o k a b):=fun o=>by
    unfold Op.intDiv; split
    · exact Ag.error _
    · split <;> first | exact Ag.pure _ | exact Ag.stuck _
  have l:∀o,Ag P (Op.intBits o k a b):=fun o=>by unfold Op.intBits; dsimp only; split <;> first | exact Ag.pure _ | exact Ag.stuck _
  have C:∀o,Ag P (Op.intCmp o a b):=fun o=>by unfold Op.intCmp; split <;> first | exact Ag.pure _ | exact Ag.stuck _
  have hS:∀o,Ag P (Op.shift o k a d b):=fun o=>by
    unfold Op.shift; split
    · exact Ag.error _
    · dsimp only; split <;> first | exact Ag.pure _ | exact Ag.stuck _
  cases op <;> simp only [binOp] <;> first
    | exact hS _
    | (split
       · exact Ag.stuck _
       · first | exact j _ | exact E _ | exact l _ | exact C _)
theorem I4 {P:Program} (t:TypeId):Ag P (isAgg t):=by
 unfold isAgg;refine Ag.bind (Ag.underlying t) fun d=>?_;split <;> exact Ag.pure _
theorem MI {P:Program} (t:TypeId) (cs:Array Value) (d:Nat):Ag P (part t cs d):=by
 unfold part;refine Ag.bind (I4 t) fun b=>?_;split
 ·exact Ag.bind (Ag.sizeOf _) fun _=>Ag.pure _
 ·split
  ·exact Ag.pure _
  ·exact Ag.stuck _
theorem MD {P:Program} (l:List FieldStep):∀(t:TypeId) (x:Option Value),Ag P (followBlind l t x):=by
 induction l with
 | nil=>exact fun t x=>Ag.pure _
 | cons s rest ih=>
  intro t x;unfold followBlind;refine Ag.bind (Ag.underlying _) fun d=>?_;split
  ·split
   ·split
    ·exact Ag.pure _
    ·exact ih _ _
    ·exact Ag.stuck _
    ·exact Ag.pure _
    ·exact Ag.bind (MI _ _ _) fun _=>ih _ _
    ·exact Ag.stuck _
    ·exact ih _ _
   ·exact Ag.stuck _
  ·exact Ag.stuck _
theorem MG {P:Program} (n:Nat):∀(t:TypeId) (v:Value) (name:String),Ag P (nilAhead n t v name):=by
 induction n with
 | zero=>exact fun _ _ _=>Ag.pure _
 | succ n ih=>
  intro t v name;unfold nilAhead;refine Ag.bind (Ag.typeInfo _) fun i=>?_;split
  ·refine Ag.bind (MD _ _ _) fun r=>?_;split
   ·exact Ag.pure _
   ·split
    ·exact ih _ _ _
    ·exact Ag.pure _
    ·exact Ag.stuck _
    ·exact Ag.pure _
    ·exact Ag.pure _
    ·refine Ag.bind (Ag.underlying _) fun d=>?_;split <;> exact Ag.pure _
  ·exact Ag.stuck _
theorem MH {P:Program} (msg:String) (v:Value):D8 P (match v with
  | .pointer none | .nilIface | .nilFunc=>runtimePanic .nilDeref
  | .func (.method name) first captured=>
   match (first[0]?:Option Value) with
   | some .nilIface=>runtimePanic .nilDeref
   | some (.iface t w)=>do
    if (<-nilAhead ((<-program).types.size+Made.depth) t w name) != some false then
     unsupported (.noEntry msg)
    pure (.value (.func (.method name) first captured))
   | _=>pure (.value (.func (.method name) first captured))
  | x=>pure (.value x)):=by
 have E:∀{s:Sem Next},Ag P s->(∀w r w1,s.run P w=.ok r w1->False)->D8 P s:=fun {s} hs hn=>by
  rcases hs with⟨v,j⟩ | d
  ·exact(hn default v default (j default)).elim
  ·exact .inr d
 have h:D8 P (runtimePanic .nilDeref:Sem Next):=.inr fun w=>by
  rcases Ag.nilDeref (P:=P) (α:=Next) with⟨v,j⟩ | d
  ·have:=j w;simp [runtimePanic,goPanic] at this
  ·exact d w
 split
 ·exact h
 ·exact h
 ·exact h
 ·split
  ·exact h
  ·rename_i name first captured _ t w _
   rcases MG (P:=P) (P.types.size+Made.depth) t w name with⟨r,C⟩ | d
   ·by_cases l:(r != some false)=true
    ·exact .inr fun w=>by
      simp only [Sem.run_bind,run_program,Result.andThen_ok,C,l,if_true];exact⟨_,_,rfl⟩
    ·refine .inl ⟨.func (.method name) first captured,fun w=>?_⟩;simp only [Sem.run_bind,run_program,Result.andThen_ok,C,l];rfl
   ·exact .inr fun w=>by
     obtain⟨x,y,e⟩:=d w;simp only [Sem.run_bind,run_program,Result.andThen_ok,e];exact⟨_,_,rfl⟩
  ·exact .inl ⟨_,fun _=>rfl⟩
 ·exact .inl ⟨_,fun _=>rfl⟩
theorem Mz {P:Program} (o:Oper) (ρ:Operand->Value) (h:Gs P o.op=true):D8 P (execOp ρ o):=by
  obtain⟨dst,op,type,pos,after,guard⟩:=o;cases op <;> simp only [Gs,Bool.false_eq_true] at h
  case move=>exact .inl ⟨_,fun _=>rfl⟩
  case assign=>exact .inl ⟨_,fun _=>rfl⟩
  case pick c x y=>
    show D8 P (asBool (ρ c) >>=fun b=>(Pure.pure (Next.value (if b then ρ x else ρ y)):Sem Next))
    rcases Ag.asBool (P:=P) (ρ c) with⟨v,l⟩ | j
    · exact .inl ⟨if v=true then ρ x else ρ y,fun w=>by rw [Sem.run_bind,l]; rfl⟩
    · exact .inr fun w=>by
        obtain⟨x,y,e⟩:=j w;exact⟨x,y,by rw [Sem.run_bind,e]; rfl⟩
  case unOp=>exact Ag.valueV (MJ _ _)
  case makeFunc=>exact Ag.valueV (Ag.pure _)
  case fieldAddr=>exact Ag.valueV (MC _ _ _ h)
  case indexAddr=>exact Ag.valueV (ME _ _ _)
  case extract=>exact Ag.valueV (MB _ _)
  case nilCheck=>exact MH _ _
  case call c=>
    obtain⟨d,args,C⟩:=c;cases d with
    | builtin b=>cases b <;> first | exact Ag.valueV (MF _ _ _ h) | (simp at h; done)
    | value f=>simp at h
    | invoke r m=>simp at h
theorem MA {P:Program} (o:Oper) (ρ:Operand->Value) (h:intOp o.op=true) (d:intFine ρ o.op=true):D8 P (execOp ρ o):=by
 obtain⟨dst,op,type,pos,after,guard⟩:=o;cases op <;> simp only [intOp,Bool.false_eq_true] at h;rename_i op t x y yt;show D8 P ((do eqGuard op t x y (ρ x) (ρ y); binOp op t (ρ x) (ρ y)) >>=fun v=>(pure (Next.value v):Sem Next))
 simp only [intFine,Bool.and_eq_true] at d;obtain⟨j,l⟩:=d;generalize ρ x=u at*;generalize ρ y=v at*;cases u <;> simp only [isInt,Bool.false_eq_true] at j;cases v <;> simp only [isInt,Bool.false_eq_true] at l;exact Ag.valueV (My _ _ _ _ _ _ _ _)
def Cs {α:Type} (P:Program) (s:Sem α):Prop:=
 ∀(w w1:World) (v:α),s.run P w=.ok v w1->w1=w/\∀w',Ext w w'->s.run P w'=.ok v w'
section
variable {α β:Type} {P:Program}
theorem Cs.of_calm {s:Sem α} (h:Ag P s):Cs P s:=fun w w1 v e=>by
 obtain⟨d,j⟩:=h.ok e;exact⟨d,fun w' _=>j w'⟩
theorem Cs.bind {s:Sem α} {f:α->Sem β} (E:Cs P s) (C:∀v,Cs P (f v)):Cs P (s >>=f):=by
 intro w w1 v e;rw [Sem.run_bind] at e;cases d:s.run P w with
 | halt x y=>rw [d] at e; cases e
 | ok u w2=>
  rw [d] at e;obtain⟨rfl,j⟩:=E w w2 u d;obtain⟨rfl,l⟩:=C u w2 w1 v e;exact⟨rfl,fun w' h=>by rw [Sem.run_bind,j w' h]; exact l w' h⟩
theorem PR {w w':World} (h:Ext w w') {a:Addr} {v:Value} (d:w.cell? a=some v):w'.cell? a=some v:=by
 unfold World.cell? at d ⊢;cases j:w.heap[a.block]? with
 | none=>rw [j] at d; cases d
 | some o=>rw [j] at d; rw [h.some j]; exact d
theorem SU {w w':World} (h:Ext w w') (at_:Addr) (u:TypeId) (k:Addr) (b:Bool) {x:Array Value×TypeId×(Nat×Nat)×Nat×Value×List (Nat×Nat×List UInt8)}
  (d:w.seen P at_ u k b=.ok x):w'.seen P at_ u k b=.ok x:=by
 cases j:w.heap[at_.block]? with
 | some o=>
  have l:=h.some j;unfold World.seen at d ⊢;rw [j] at d;rw [l];exact d
 | none=>
  exfalso;unfold World.seen at d;rw [j] at d;simp only [bind,Except.bind,throwThe,MonadExceptOf.throw,MonadExcept.throw] at d
  repeat' (split at d)
  all_goals first | (cases d; done) | (simp at d; done)
theorem T3 {w w':World} (h:Ext w w') (at_:Addr) (u:TypeId) (k:Addr) (b:Bool) {x:Value×List Addr}
  (d:w.viewLoad P at_ u k b=.ok x):w'.viewLoad P at_ u k b=.ok x:=by
 unfold World.viewLoad at d ⊢;cases j:w.seen P at_ u k b with
 | error e=>rw [j] at d; cases d
 | ok y=>rw [j] at d; rw [SU h at_ u k b j]; exact d
theorem KD (a:Addr) (m:Mode):Cs P (Go.load a m):=by
 intro w w1 v e;simp only [Go.load,Sem.run] at e ⊢;cases j:w.cell? a with
 | some u=>
  rw [j] at e;simp only [Result.ok.injEq] at e;obtain⟨rfl,rfl⟩:=e;exact⟨rfl,fun w' h=>by rw [PR h j]⟩
 | none=>
  rw [j] at e;dsimp only at e;cases C:w.farLoad P a (m==.atomic) with
  | error x=>rw [C] at e; cases e
  | ok y=>
   rw [C] at e;obtain⟨y,l⟩:=y;simp only [Result.ok.injEq] at e;obtain⟨rfl,rfl⟩:=e;refine⟨rfl,fun w' h=>?_⟩;have d:=C;unfold World.farLoad at d;split at d
   ·rename_i at_ u ho;have E:=h.some ho;have G:w'.cell? a=none:=by unfold World.cell?; rw [E]
    rw [G];dsimp only;have:w'.farLoad P a (m==.atomic)=.ok (y,l):=by
     unfold World.farLoad;rw [E];dsimp only;split at d
     ·rename_i r hr;rw [T3 h _ _ _ _ hr];exact d
     ·cases d
    rw [this]
   ·cases d
theorem RP (a:Addr) (n:Nat):∀(i:Nat) (acc:Array Value),Cs P (loadCellsFrom a i n acc):=by
 induction n with
 | zero=>exact fun i acc=>Cs.of_calm (Ag.pure _)
 | succ n ih=>exact fun i acc=>Cs.bind (KD _ _) fun v=>ih _ _
theorem RO (t:TypeId) (v:Value):Cs P (Instr.loadAt t v):=by
 unfold Instr.loadAt;refine Cs.bind (Cs.of_calm (Ag.sureAddr _)) fun a=>?_;unfold loadVar;refine Cs.bind (Cs.of_calm (I4 t)) fun b=>?_;split
 ·exact Cs.bind (Cs.of_calm (Ag.sizeOf _)) fun n=>Cs.bind (RP _ _ _ _) fun c=>Cs.of_calm (Ag.pure _)
 ·exact KD _ _
def Bq:Op->Bool
 | .load ..=>true
 | _=>false
theorem KC (o:Oper) (ρ:Operand->Value) (h:Bq o.op=true):∃s:Sem Value,Cs P s/\execOp ρ o=(s >>=fun v=>(Pure.pure (Next.value v):Sem Next)):=by
 obtain⟨dst,op,type,pos,after,guard⟩:=o;cases op <;> simp only [Bq,Bool.false_eq_true] at h;exact⟨_,RO _ _,rfl⟩
theorem Iw {s:Sem Value} {w w1:World} {r:Next} (h:(s >>=fun v=>(Pure.pure (Next.value v):Sem Next)).run P w=.ok r w1):∃u,r=.value u/\s.run P w=.ok u w1:=by
 rw [Sem.run_bind] at h;cases d:s.run P w with
 | halt x y=>rw [d] at h; cases h
 | ok u w2=>
  rw [d] at h;simp only [Result.andThen_ok,Sem.run_pure,Result.ok.injEq] at h;obtain⟨rfl,rfl⟩:=h;exact⟨u,rfl,rfl⟩
theorem KW {s:Sem Value} {w w1:World} {u:Value} (h:s.run P w=.ok u w1):(s >>=fun v=>(Pure.pure (Next.value v):Sem Next)).run P w=.ok (.value u) w1:=by
 rw [Sem.run_bind,h]; rfl
def Bz (P:Program) (s:Sem α):Prop:=∀(w w1:World) (v:α),s.run P w=.ok v w1->Ext w w1/\w.heap.size<=w1.heap.size
theorem Bz.of_calm {s:Sem α} (h:Ag P s):Bz P s:=fun w w1 v e=>by
 obtain⟨rfl,_⟩:=h.ok e;exact⟨Ext.refl _,Nat.le_refl _⟩
theorem Ext.trans {a b c:World} (h:Ext a b) (j:a.heap.size<=b.heap.size) (k:Ext b c):Ext a c:=fun i d=>(k i (by omega)).trans (h i d)
theorem Bz.bind {s:Sem α} {f:α->Sem β} (E:Bz P s) (C:∀v,Bz P (f v)):Bz P (s >>=f):=by
 intro w w1 v e;rw [Sem.run_bind] at e;cases d:s.run P w with
 | halt x y=>rw [d] at e; cases e
 | ok u w2=>
  rw [d] at e;obtain⟨h,j⟩:=E w w2 u d;obtain⟨l,G⟩:=C u w2 w1 v e;exact⟨h.trans j l,by omega⟩
theorem QZ (o:Obj):Bz P (newObj o):=by
 intro w w1 v e;simp only [newObj,Sem.run,Result.ok.injEq] at e;obtain⟨_,rfl⟩:=e;refine⟨fun k d=>?_,by simp⟩;show(w.heap.push o)[k]?=_
 rw [Array.getElem?_push,if_neg (by omega)]
theorem HB (t:TypeId) (c:Array Value):Bz P (newRow t c):=Bz.bind (QZ _) fun _=>Bz.of_calm (Ag.pure _)
theorem I5 (t:TypeId):Ag P (zeroValue t):=by
 unfold zeroValue;refine Ag.bind (Ag.typeInfo t) fun i=>?_;split
 ·exact Ag.pure _
 ·exact Ag.unsupported _
theorem QV (t:TypeId):Bz P (Instr.alloc t true (.tuple #[])):=by
 unfold Instr.alloc;exact Bz.bind (Bz.of_calm (I5 t)) fun v=>Bz.bind (HB _ _) fun _=>Bz.of_calm (Ag.pure _)
theorem QW (t:TypeId) (v:Value):Bz P (Instr.box t v):=Bz.bind (HB _ _) fun _=>Bz.of_calm (Ag.pure _)
theorem QX (t:TypeId) (n:Nat) (h:Array (Nat×Value)):Bz P (Instr.buildSlice t n h):=by
 unfold Instr.buildSlice;refine Bz.bind (Bz.of_calm (Ag.underlying t)) fun d=>?_;split
 ·rename_i elem;refine Bz.bind (Bz.of_calm (Ag.sizeOf _)) fun z=>?_;dsimp only;split
  ·exact Bz.of_calm (Ag.haltBind _ _)
  ·have key:∀(msg:String) (zero:Array Value),Bz P (match
     Instr.fill (fun i=>some (i*z,z)) (Array.map (fun x=>zero[x % zero.size]!) (Array.range (n*z))) h.toList with
    | some cells=>do
     let r <-newRow elem cells
     pure (Value.slice (some r) n n)
    | _=>Go.stuck msg):=fun msg zero=>by
    split
    ·exact Bz.bind (HB _ _) fun _=>Bz.of_calm (Ag.pure _)
    ·exact Bz.of_calm (Ag.stuck _)
   split
   ·rw [pure_bind]; exact key _ _
   ·exact Bz.bind (Bz.of_calm (I5 _)) fun _=>by rw [pure_bind]; exact key _ _
 ·exact Bz.of_calm (Ag.stuck _)
def FY:Op->Bool
 | .alloc _ | .box .. | .buildSlice ..=>true
 | _=>false
theorem QY (o:Oper) (ρ:Operand->Value) (h:FY o.op=true):∃s:Sem Value,Bz P s/\execOp ρ o=(s >>=fun v=>(Pure.pure (Next.value v):Sem Next)):=by
 obtain⟨dst,op,type,pos,after,guard⟩:=o;cases op <;> simp only [FY,Bool.false_eq_true] at h
 case alloc=>exact⟨_,QV _,rfl⟩
 case box=>exact⟨_,QW _ _,rfl⟩
 case buildSlice=>exact⟨_,QX _ _ _,rfl⟩
end
end Reg
end Go.Proofs.YtfcfpoemojjglaaGreatDoor
namespace Go.Proofs.YtfcfpoemojjglaaGreatDoor
namespace Reg
theorem P2 (j:Array Value) (d t:Nat) (v:Value) (h:d≠t):(j.setIfInBounds d v)[t]?=j[t]?:=by
 rw [Array.getElem?_setIfInBounds_ne h]
def dis (d:Option Tmp) (l:List Tmp):Bool:=match d with | some x=>!l.contains x | none=>true
def Ed (d d':Option Tmp):Bool:=match d,d' with | some x,some y=>x != y | _,_=>true
theorem LC (a:Act) (d:Option Tmp) (v:Value) (t:Tmp) (h:d≠some t):(a.put d v).tmps[t]?=a.tmps[t]?:=by
 cases d with
 | none=>rfl
 | some x=>exact P2 _ _ _ _ (fun e=>h (by rw [e]))
theorem Fg {d:Option Tmp} {l:List Tmp} (h:dis d l=true) {t:Tmp} (ht:t∈l):d≠some t:=by
 rintro rfl;simp [dis] at h;exact h ht
def LB (o:Op):List Tmp:=o.operands.toList.filterMap fun | .tmp t=>some t | _=>none
def JC (ops:Array Oper) (o:Oper):List Tmp:=
 match o.guard with
 | some (j,_)=>((ops[j]?).bind (·.dst)).toList
 | none=>[]
def BZ (ops:Array Oper) (o:Oper):List Tmp:=JC ops o++LB o.op
def CO (ops:Array Oper) (o:Oper) (a b:Act):Prop:=∀t∈BZ ops o,a.tmps[t]?=b.tmps[t]?
theorem CO.symm {ops:Array Oper} {o:Oper} {a b:Act} (h:CO ops o a b):CO ops o b a:=fun t ht=>(h t ht).symm
theorem CO.trans {ops:Array Oper} {o:Oper} {a b c:Act} (h:CO ops o a b) (k:CO ops o b c):CO ops o a c:=fun t ht=>(h t ht).trans (k t ht)
theorem Fd {ops:Array Oper} {o:Oper} {a b:Act} (h:CO ops o a b):∀x∈o.op.operands.toList,a.eval x=b.eval x:=by
 intro x d;cases x with
 | tmp t=>
  have ht:t∈BZ ops o:=by
   unfold BZ;refine List.mem_append.2 (.inr ?_);unfold LB;exact List.mem_filterMap.2 ⟨.tmp t,d,rfl⟩
  have:=h t ht;simp only [Act.eval,Array.getD_eq_getD_getElem?,this]
 | const v=>rfl
 | global g=>rfl
 | func f=>rfl
theorem D0 {ops:Array Oper} {o:Oper} {a b:Act} (h:CO ops o a b):Region.wanted o (yielded ops a.tmps)=Region.wanted o (yielded ops b.tmps):=by
 unfold Region.wanted;cases l:o.guard with
 | none=>rfl
 | some g=>
  obtain⟨j,y⟩:=g;dsimp only;have:yielded ops a.tmps j=yielded ops b.tmps j:=by
   unfold yielded;cases d:(ops[j]?).bind (·.dst) with
   | none=>rfl
   | some t=>
    have ht:t∈BZ ops o:=by
     unfold BZ JC;rw [l];exact List.mem_append.2 (.inl (by simp [d]))
    simp only [Option.bind_some,h t ht]
  rw [this]
def DI:Op->Bool
 | .move _ | .assign _ | .pick .. | .alloc _ | .box .. | .build .. | .buildSlice .. | .load .. | .store .. | .nilCheck _ | .binOp .. | .unOp .. | .convert .. | .makeInterface .. | .makeFunc .. | .makeMap ..
 | .makeSlice .. | .slice .. | .fieldAddr .. | .field .. | .indexAddr .. | .index .. | .lookup .. | .mapUpdate .. | .extract .. | .call _=>true
 | _=>false
theorem JX (l:Array (Nat×Operand)) (ρ d:Operand->Value) (h:∀x∈(l.toList.map (·.2)),ρ x=d x):
  (l.map fun(i,x)=>(i,ρ x))=(l.map fun(i,x)=>(i,d x)):=by
 refine Array.map_congr_left fun p j=>?_;obtain⟨i,x⟩:=p;have:=h x (List.mem_map.2 ⟨(i,x),by simpa using j,rfl⟩);simp only [this]
theorem HD (l:Array Operand) (ρ d:Operand->Value) (h:∀x∈l.toList,ρ x=d x):l.map ρ=l.map d:=
 Array.map_congr_left fun x j=>h x (by simpa using j)
theorem GB (l:Option Operand) (ρ d:Operand->Value) (h:∀x∈l.toList,ρ x=d x):l.map ρ=l.map d:=by
 cases l with
 | none=>rfl
 | some x=>simp [h x (by simp)]
theorem FO (o:Oper) (ρ j:Operand->Value) (l:DI o.op=true) (h:∀x∈o.op.operands.toList,ρ x=j x):execOp ρ o=execOp j o:=by
 obtain⟨dst,op,type,pos,after,guard⟩:=o;dsimp only at h l;cases op <;> simp only [DI,Bool.false_eq_true] at l
 case build t ps=>simp only [execOp]; rw [JX ps ρ j (by simpa [Op.operands] using h)]
 case buildSlice t n ps=>simp only [execOp]; rw [JX ps ρ j (by simpa [Op.operands] using h)]
 case makeFunc fn f c=>
  simp only [Op.operands,Array.toList_append,List.mem_append] at h;simp only [execOp];rw [HD f ρ j (fun x d=>h x (.inl d)),HD c ρ j (fun x d=>h x (.inr d))]
 case makeMap t r=>simp only [execOp]; rw [GB r ρ j (by simpa [Op.operands] using h)]
 case slice t x lo hi mx=>
  simp only [Op.operands,Array.toList_append,List.mem_append] at h;simp only [execOp];rw [h x (by simp),GB lo ρ j (fun x d=>h x (by simp at d; simp [d])),GB hi ρ j (fun x d=>h x (by simp at d; simp [d])),GB mx ρ j (fun x d=>h x (by simp at d; simp [d]))]
 case call c=>
  obtain⟨y,args,E⟩:=c;simp only [Op.operands,Call.operands,Array.toList_append,List.mem_append] at h;have C:=HD args ρ j fun x d=>h x (.inr d);simp only [execOp,resolve,C];cases y with
  | builtin b=>rfl
  | value f=>simp only [h f (.inl (by simp))]
  | invoke r m=>simp only [h r (.inl (by simp))]
 all_goals (simp only [Op.operands,List.mem_cons,List.not_mem_nil,or_false,forall_eq_or_imp,forall_eq] at h; try simp only [execOp,h])
abbrev Bo:=Exit->Act->World->Prop
def NoQ (Q:Bo):Prop:=(∀c a w,¬Q (.panic c) a w)/\(∀a w,¬Q .outgrown a w)
def upd (a:Act) (d:Option Tmp) (ds:List Deferred) (v:Value):Act:={ tmps:=(a.put d v).tmps,defers:=ds++a.defers }
theorem CN (a:Act) (d:Option Tmp) (v:Value):upd a d [] v=a.put d v:=by
 cases d <;> rfl
theorem Iu (a:Act) (d:Option Tmp) (x:Deferred) (v:Value):upd a d [x] v=({ a with defers:=x::a.defers }:Act).put d v:=by
 cases d <;> rfl
theorem G6 (a:Act) (d:Option Tmp) (ds:List Deferred) (v:Value) (t:Tmp) (h:d≠some t):(upd a d ds v).tmps[t]?=a.tmps[t]?:=LC a d v t h
theorem FI {ops:Array Oper} {o:Oper} {d:Option Tmp} (h:dis d (BZ ops o)=true) (a:Act) (ds:List Deferred) (v:Value):CO ops o (upd a d ds v) a:=
 fun _ ht=>G6 _ _ _ _ _ (Fg h ht)
theorem Em {ops:Array Oper} {o:Oper} {d:Option Tmp} (h:dis d (BZ ops o)=true) (a:Act) (v:Value):CO ops o (a.put d v) a:=
 fun _ ht=>LC _ _ _ _ (Fg h ht)
theorem HY {d j:Option Tmp} (h:Ed d j=true) (a:Act) (ds:List Deferred) (u v:Value):upd (a.put d u) j ds v=(upd a j ds v).put d u:=by
 cases d with
 | none=>rfl
 | some x=>
  cases j with
  | none=>rfl
  | some y=>
   have l:x≠y:=by simpa [Ed] using h
   simp only [upd,Act.put];congr 1;exact(Array.setIfInBounds_comm _ _ l)
theorem HX {d j:Option Tmp} (h:Ed d j=true) (a:Act) (u v:Value):(a.put d u).put j v=(a.put j v).put d u:=by
 rw [<-CN,HY h,CN]
section
variable {P:Program} {Q Q':Bo} {o:Oper} {a a':Act} {w:World} {N N':Act->World->Prop}
theorem E9 (hQ:NoQ Q) {r:Result Next} (h:o.upon P a N Q r) (j:∀v ds w',N (upd a o.dst ds v) w'->N' (upd a' o.dst ds v) w'):o.upon P a' N' Q' r:=by
  cases r with
  | halt x w'=>cases x <;> first | exact h | exact absurd h (hQ.1 _ _ _)
  | ok x w'=>
    cases x with
    | value v=>
      have:=j v [] w' (by rw [CN]; exact h);rw [CN] at this; exact this
    | skip=>
      have:=j undef [] w' (by rw [CN]; exact h);rw [CN] at this; exact this
    | enter f args=>
      refine Calls.mono (R:=fun
        | .returned v,w''=>N (a.put o.dst v) w''
        | .panicked chain,w''=>Q (.panic chain) a w''
        | .outgrown,_=>LetsOut Q) h ?_
      intro e w'' he;cases e with
      | returned v=>
        have:=j v [] w'' (by rw [CN]; exact he);rw [CN] at this; exact this
      | panicked c=>exact absurd he (hQ.1 _ _ _)
      | outgrown=>obtain⟨x,y,l⟩:=he; exact absurd l (hQ.2 _ _)
    | row s args=>
      refine Rows.mono (R:=fun v w''=>N (a.put o.dst v) w'') h ?_;intro v w'' he;have:=j v [] w'' (by rw [CN]; exact he);rw [CN] at this; exact this
    | _=>
      first
      | exact h
      | (rename_i d
         have:=j undef [d] w' (by rw [Iu]; exact h);rw [Iu] at this; exact this)
theorem G8 (hQ:NoQ Q) {r:Result Next} (h:o.upon P a N Q r):∃v ds w',N (upd a o.dst ds v) w':=by
 cases r with
 | halt x w'=>cases x <;> first | exact h.elim | exact absurd h (hQ.1 _ _ _)
 | ok x w'=>
  cases x with
  | value v=>exact⟨v,[],w',by rw [CN]; exact h⟩
  | skip=>exact⟨undef,[],w',by rw [CN]; exact h⟩
  | enter f args=>
   obtain⟨e,w'',fr,he,_⟩:=h [];cases e with
   | returned v=>exact⟨v,[],w'',by rw [CN]; exact he⟩
   | panicked c=>exact absurd he (hQ.1 _ _ _)
   | outgrown=>obtain⟨x,y,j⟩:=he; exact absurd j (hQ.2 _ _)
  | row s args=>
   obtain⟨v,w'',he,_⟩:=h default [];exact⟨v,[],w'',by rw [CN]; exact he⟩
  | _=>
   first
   | exact h.elim
   | (rename_i d; exact⟨undef,[d],w',by rw [Iu]; exact h⟩)
end
def En (P:Program) (ib:Bool) (o:Oper):Bool:=Gs P o.op||(ib&&intOp o.op)
def eff (P:Program) (ib:Bool) (o:Oper):Bool:=!En P ib o&&!Bq o.op&&!FY o.op
def Bu (P:Program) (ib:Bool) (ops:Array Oper) (Q:Bo) (o:Oper) (N:Act->World->Prop) (a:Act) (w:World):Prop:=
 if Region.wanted o (yielded ops a.tmps)=true then ((ib&&intOp o.op)=true->intFine a.eval o.op=true)/\o.wp P a w N Q else N (a.put o.dst undef) w
theorem FT {ops:Array Oper} {o:Oper} {a b:Act} (h:CO ops o a b):intFine a.eval o.op=intFine b.eval o.op:=by
 have he:=Fd h;cases d:o.op <;> simp only [intFine];rw [d] at he;simp only [Op.operands] at he;rw [he _ (by simp),he _ (by simp)]
section
variable {P:Program} {ib:Bool} {ops:Array Oper} {Q:Bo} (hQ:NoQ Q) {o:Oper} {a a' b:Act} {w:World} {N N':Act->World->Prop}
include hQ
theorem Ey (h:Bu P ib ops Q o N a w) (d:∀v ds w',N (upd a o.dst ds v) w'->N' (upd a o.dst ds v) w'):Bu P ib ops Q o N' a w:=by
 unfold Bu at h ⊢;split
 ·rename_i hw;rw [if_pos hw] at h;exact⟨h.1,E9 hQ h.2 d⟩
 ·rename_i hw;rw [if_neg hw] at h;have:=d undef [] w (by rw [CN]; exact h)
  rwa [CN] at this
theorem Tl (h:Bu P ib ops Q o N a w):∃v ds w',N (upd a o.dst ds v) w':=by
 unfold Bu at h;split at h
 ·exact G8 hQ h.2
 ·exact⟨undef,[],w,by rw [CN]; exact h⟩
theorem Lr (I:DI o.op=true) {d:Option Tmp} (E:dis d (BZ ops o)=true) (y:Ed d o.dst=true) (u:Value) (h:Bu P ib ops Q o N (a.put d u) w):
  Bu P ib ops Q o (fun x w'=>N (x.put d u) w') a w:=by
 have l:=Em E a u;unfold Bu at h ⊢;rw [D0 l] at h;split
 ·rename_i hw;rw [if_pos hw] at h;refine⟨fun G=>by rw [<-FT l]; exact h.1 G,?_⟩;have j:=h.2;unfold Oper.wp at j ⊢;rw [FO o _ _ I (Fd l)] at j;exact E9 hQ j fun v ds w' C=>by rw [HY y] at C; exact C
 ·rename_i hw;rw [if_neg hw] at h;rw [HX y] at h;exact h
theorem Tm (G:DI o.op=true) {d:Option Tmp} (C:dis d (BZ ops o)=true) (y:Ed d o.dst=true) (u:Value) (h:Bu P ib ops Q o (fun x w'=>N (x.put d u) w') a w):
  Bu P ib ops Q o N (a.put d u) w:=by
 have j:=Em C a u;unfold Bu at h ⊢;rw [D0 j];split
 ·rename_i hw;rw [if_pos hw] at h;refine⟨fun E=>by rw [FT j]; exact h.1 E,?_⟩;have l:=h.2;unfold Oper.wp at l ⊢;rw [FO o _ _ G (Fd j)];exact E9 hQ l fun v ds w' I=>by rw [HY y]; exact I
 ·rename_i hw;rw [if_neg hw] at h;rw [HX y];exact h
theorem Lq (J:DI o.op=true) (C:En P ib o=true) (h:Bu P ib ops Q o N b w):
  ∃u,N (b.put o.dst u) w/\∀(a:Act) (w':World) (M:Act->World->Prop),CO ops o a b->(Bu P ib ops Q o M a w'↔M (a.put o.dst u) w'):=by
 unfold Bu at h;split at h
 ·rename_i hw;have G:D8 P (execOp b.eval o):=by
   simp only [En,Bool.or_eq_true] at C;by_cases j:(ib&&intOp o.op)=true
   ·exact MA o _ (by simp only [Bool.and_eq_true] at j; exact j.2) (h.1 j)
   ·exact Mz o _ (C.resolve_right j)
  have d:=h.2;unfold Oper.wp at d;rcases G with⟨u,E⟩ | I
  ·rw [E] at d;refine⟨u,d,fun a w' M l=>?_⟩;unfold Bu;rw [D0 l,if_pos hw];unfold Oper.wp;rw [FO o _ _ J (Fd l),E];exact⟨fun x=>x.2,fun x=>⟨fun j=>by rw [FT l]; exact h.1 j,x⟩⟩
  ·obtain⟨x,y,e⟩:=I w;rw [e] at d;cases x <;> first | exact d.elim | exact absurd d (hQ.1 _ _ _)
 ·rename_i hw;refine⟨undef,h,fun a w' M l=>?_⟩;unfold Bu;rw [D0 l,if_neg hw]
def C3 (P:Program) (ops:Array Oper) (o:Oper) (a:Act) (w w':World):Prop:=
 Region.wanted o (yielded ops a.tmps)=true->∀v,(execOp a.eval o).run P w=.ok (.value v) w->(execOp a.eval o).run P w'=.ok (.value v) w'
omit hQ in
theorem GU (j:DI o.op=true) (d:CO ops o a b) {w w':World} (h:C3 P ops o a w w'):C3 P ops o b w w':=by
 unfold C3 at h ⊢;rw [FO o _ _ j (Fd d),D0 d] at h;exact h
omit hQ in
theorem GV (l:Bq o.op=true) {w w':World} (h:Ext w w'):C3 P ops o a w w':=by
 intro _ v j;obtain⟨s,C,he⟩:=KC (P:=P) o a.eval l;rw [he] at j ⊢;obtain⟨u,d,y⟩:=Iw j;injection d with d
 subst d;exact KW ((C w w v y).2 w' h)
theorem Ls (I:DI o.op=true) (C:Bq o.op=true) (h:Bu P ib ops Q o N b w):
  ∃u,N (b.put o.dst u) w/\∀(a:Act) (w':World) (M:Act->World->Prop),CO ops o a b->C3 P ops o a w w'->M (a.put o.dst u) w'->Bu P ib ops Q o M a w':=by
 have J:intOp o.op=false:=by
  cases O:o.op <;> rw [O] at C <;> simp only [Bq,Bool.false_eq_true] at C <;> rfl
 unfold Bu at h;split at h
 ·rename_i hw;have d:=h.2;unfold Oper.wp at d;obtain⟨s,V,he⟩:=KC (P:=P) o b.eval C;cases l:(execOp b.eval o).run P w with
  | halt x y=>
   rw [l] at d;cases x <;> first | exact d.elim | exact absurd d (hQ.1 _ _ _)
  | ok r w1=>
   rw [l] at d;rw [he] at l;obtain⟨u,rfl,Z⟩:=Iw l;obtain⟨rfl,_⟩:=V _ _ _ Z;refine⟨u,d,fun a w' M j W E=>?_⟩;unfold Bu;rw [D0 j,if_pos hw];refine⟨fun G=>absurd G (by rw [J]; simp),?_⟩;unfold Oper.wp;have U:=W (by rw [D0 j]; exact hw) u (by rw [FO o _ _ I (Fd j),he]; exact l);rw [U];exact E
 ·rename_i hw;refine⟨undef,h,fun a w' M j _ E=>?_⟩;unfold Bu;rw [D0 j,if_neg hw];exact E
theorem Tn (l:FY o.op=true) (h:Bu P ib ops Q o N a w):Bu P ib ops Q o (fun x w'=>N x w'/\Ext w w') a w:=by
 unfold Bu at h ⊢;split
 ·rename_i hw;rw [if_pos hw] at h;refine⟨h.1,?_⟩;have d:=h.2;unfold Oper.wp at d ⊢;obtain⟨s,C,he⟩:=QY (P:=P) o a.eval l;cases j:(execOp a.eval o).run P w with
  | halt x y=>
   rw [j] at d;cases x <;> first | exact d.elim | exact absurd d (hQ.1 _ _ _)
  | ok r w1=>
   rw [j] at d;rw [he] at j;obtain⟨u,rfl,E⟩:=Iw j;exact⟨d,(C _ _ _ E).1⟩
 ·rename_i hw;rw [if_neg hw] at h;exact⟨h,Ext.refl _⟩
end
def Obl (P:Program) (ib:Bool) (ops:Array Oper) (bef:Nat->Nat->Bool) (D:Nat->Prop) (i:Nat) (b:Act) (w w':World):Prop:=
 ∀o,ops[i]?=some o->eff P ib o=true->∀r q,D r->ops[r]?=some q->Bq q.op=true->bef r i=false->C3 P ops q b w w'
def WT (P:Program) (ib:Bool) (ops:Array Oper) (bef:Nat->Nat->Bool) (Q:Bo):(Nat->Prop)->List Nat->Act->World->Prop
 | _,[],a,w=>Q .normal a w
 | D,i::l,a,w=>∃o,ops[i]?=some o/\Bu P ib ops Q o (fun b w'=>Obl P ib ops bef D i b w w'/\WT P ib ops bef Q (fun k=>k=i\/D k) l b w') a w
def FL (P:Program) (ib:Bool) (ops:Array Oper) (x y:Oper):Bool:=
 dis x.dst (BZ ops y)&&dis y.dst (BZ ops x)&&Ed x.dst y.dst&&(En P ib x||En P ib y||Bq x.op)
section
variable {P:Program} {ib:Bool} {ops:Array Oper} {bef:Nat->Nat->Bool} {Q:Bo} (hQ:NoQ Q)
theorem Jn {d j:Option Tmp} (h:Ed d j=true):Ed j d=true:=by
 cases d <;> cases j <;> first | rfl | (simp only [Ed,bne_iff_ne,ne_eq] at h ⊢; exact fun e=>h e.symm)
theorem Rn (A B:Nat) (D:Nat->Prop):(fun k=>k=A\/k=B\/D k)=(fun k=>k=B\/k=A\/D k):=by
 funext k; exact propext ⟨fun h=>by rcases h with h | h | h <;> simp [h],fun h=>by rcases h with h | h | h <;> simp [h]⟩
include hQ in
theorem TF {A B:Nat} {U d:Oper} (Z:ops[A]?=some U) (hB:ops[B]?=some d) (ae:DI U.op=true) (af:DI d.op=true) (hc:FL P ib ops U d=true) (av:bef A B=false)
  {D:Nat->Prop} (hD:∀r q,D r->ops[r]?=some q->Bq q.op=true->DI q.op=true/\dis U.dst (BZ ops q)=true/\dis d.dst (BZ ops q)=true)
  (ay:Bq U.op=true->dis U.dst (BZ ops U)=true)
  {l:List Nat} {a:Act} {w:World} (h:WT P ib ops bef Q D (A::B::l) a w):WT P ib ops bef Q D (B::A::l) a w:=by
 simp only [FL,Bool.and_eq_true] at hc;obtain⟨⟨⟨a2,ab⟩,ad⟩,au⟩:=hc;obtain⟨j,am,h⟩:=h;obtain rfl:j=U:=by rw [Z] at am; injection am with e; exact e.symm
 have a8:∀(i:Nat) (o:Oper),ops[i]?=some o->eff P ib o=false->∀(E:Nat->Prop) (b:Act) (w w':World),Obl P ib ops bef E i b w w':=fun i o I he E b w w' o' ap ao=>by
  rw [I] at ap; injection ap with e; subst e; rw [he] at ao; cases ao
 have h':Bu P ib ops Q j (fun b w1=>Obl P ib ops bef D A b w w1/\Bu P ib ops Q d (fun b2 w2=>Obl P ib ops bef (fun k=>k=A\/D k) B b2 w1 w2/\WT P ib ops bef Q (fun k=>k=B\/k=A\/D k) l b2 w2) b w1) a w:=
  Ey hQ h fun v ds w' y=>by
   obtain⟨h1,o,I,O⟩:=y;rw [hB] at I; injection I with e; subst e
   exact⟨h1,O⟩
 clear h;refine⟨d,hB,?_⟩
 suffices hs:Bu P ib ops Q d (fun b w1=>Obl P ib ops bef D B b w w1/\Bu P ib ops Q j (fun b2 w2=>Obl P ib ops bef (fun k=>k=B\/D k) A b2 w1 w2/\WT P ib ops bef Q (fun k=>k=B\/k=A\/D k) l b2 w2) b w1) a w from
  Ey hQ hs fun v ds w' y=>⟨y.1,j,Z,by rw [Rn A B D]; exact y.2⟩
 by_cases cB:En P ib d=true
 ·-- B is calm
  have eB:eff P ib d=false:=by simp [eff,cB]
  obtain⟨v0,al,w0,_,aw⟩:=Tl hQ h';obtain⟨u,_,W⟩:=Lq hQ af cB aw;refine(W a w _ (FI a2 a al v0).symm).2 ⟨a8 B d hB eB _ _ _ _,?_⟩;refine Tm hQ ae ab (Jn ad) u ?_;refine Ey hQ h' fun v ds w1 y=>?_;obtain⟨h1,O⟩:=y;have C:=(W _ w1 _ ((FI a2 a ds v).trans (FI a2 a al v0).symm)).1 O;refine⟨fun o I he r q M J G hb=>?_,C.2⟩;rcases M with rfl | M
  ·rw [hB] at J; injection J with e; subst e
   exfalso;cases aq:d.op <;> rw [aq] at G <;> simp only [Bq,Bool.false_eq_true] at G;simp [En,Gs,intOp,aq] at cB
  ·obtain⟨k1,k2,k3⟩:=hD r q M J G;exact GU k1 (Em k3 _ _).symm (h1 o I he r q M J G hb)
 ·by_cases cA:En P ib j=true
  ·-- A is calm
   have eA:eff P ib j=false:=by simp [eff,cA]
   obtain⟨u,ag,W⟩:=Lq hQ ae cA h';have O:=Lr hQ af a2 ad u ag.2;refine Ey hQ O fun v ds w1 y=>?_;obtain⟨C,V⟩:=y;refine⟨fun o I he r q M J G hb=>?_,(W _ w1 _ (FI ab a ds v)).2 ⟨a8 A j Z eA _ _ _ _,V⟩⟩;obtain⟨k1,k2,k3⟩:=hD r q M J G;exact GU k1 (Em k2 _ _) (C o I he r q (.inr M) J G hb)
  ·have lA:Bq j.op=true:=by simpa [cA,cB] using au
   have eA:eff P ib j=false:=by simp [eff,lA]
   obtain⟨u,ag,W⟩:=Ls hQ ae lA h';by_cases lB:Bq d.op=true
   ·have eB:eff P ib d=false:=by simp [eff,lB]
    obtain⟨u2,aA,hv⟩:=Ls hQ af lB ag.2;refine hv a w _ (Em a2 a u).symm (GV lB (Ext.refl _)) ⟨a8 B d hB eB _ _ _ _,?_⟩;refine W _ w _ (Em ab a u2) (GV lA (Ext.refl _)) ⟨a8 A j Z eA _ _ _ _,?_⟩;rw [HX (Jn ad)];exact aA.2
   ·have O:=Lr hQ af a2 ad u ag.2
    have fin:∀(v:Value) (ds:List Deferred) (w1:World),Obl P ib ops bef (fun k=>k=A\/D k) B ((upd a d.dst ds v).put j.dst u) w w1->C3 P ops j (upd a d.dst ds v) w w1->
      WT P ib ops bef Q (fun k=>k=B\/k=A\/D k) l ((upd a d.dst ds v).put j.dst u) w1->
      Obl P ib ops bef D B (upd a d.dst ds v) w w1/\Bu P ib ops Q j (fun b2 w2=>Obl P ib ops bef (fun k=>k=B\/D k) A b2 w1 w2/\WT P ib ops bef Q (fun k=>k=B\/k=A\/D k) l b2 w2) (upd a d.dst ds v) w1:=by
     intro v ds w1 C ax V;refine⟨fun o I he r q M J G hb=>?_,W _ w1 _ (FI ab a ds v) ax ⟨a8 A j Z eA _ _ _ _,V⟩⟩;obtain⟨k1,k2,k3⟩:=hD r q M J G;exact GU k1 (Em k2 _ _) (C o I he r q (.inr M) J G hb)
    by_cases mB:FY d.op=true
    ·refine Ey hQ (Tn hQ mB O) fun v ds w1 y=>?_;obtain⟨⟨C,V⟩,y⟩:=y;exact fin v ds w1 C (GV lA y) V
    ·have eB:eff P ib d=true:=by simp [eff,cB,lB,mB]
     refine Ey hQ O fun v ds w1 y=>?_;obtain⟨C,V⟩:=y;exact fin v ds w1 C (GU ae (Em (ay lA) _ _) (C d hB eB A j (.inl rfl) Z lA av)) V
end
end Reg
end Go.Proofs.YtfcfpoemojjglaaGreatDoor
namespace Go.Proofs.YtfcfpoemojjglaaGreatDoor
namespace Reg
structure Gl (P:Program) (ops:Array Oper) (bef:Nat->Nat->Bool):Prop where
 ok:∀(i:Nat) (o:Oper),ops[i]?=some o->DI o.op=true
 self:∀(i:Nat) (o:Oper),ops[i]?=some o->Bq o.op=true->dis o.dst (BZ ops o)=true
 war:∀(x y:Nat) (ox oy:Oper),x≠y->ops[x]?=some ox->ops[y]?=some oy->Bq ox.op=true->bef y x=false->dis oy.dst (BZ ops ox)=true
def Rel (P:Program) (ib:Bool) (ops:Array Oper) (bef:Nat->Nat->Bool) (x y:Nat):Prop:=
 x≠y/\bef y x=false/\(bef x y=true\/∀(ox oy:Oper),ops[x]?=some ox->ops[y]?=some oy->FL P ib ops ox oy=true)
section
variable {P:Program} {ib:Bool} {ops:Array Oper} {bef:Nat->Nat->Bool} {Q:Bo} (hQ:NoQ Q) (hS:Gl P ops bef)
include hQ hS
theorem Mt {A:Nat} {O:Oper} (I:ops[A]?=some O) (l2:List Nat):∀(l1:List Nat) (D:Nat->Prop) (a:Act) (w:World),
  (∀x∈l1,∃G,ops[x]?=some G/\bef A x=false/\FL P ib ops O G=true)->(l1++A::l2).Pairwise (fun x y=>x≠y/\bef y x=false)->
  (∀r q,D r->ops[r]?=some q->Bq q.op=true->∀y∈l1++A::l2,∀J,ops[y]?=some J->dis J.dst (BZ ops q)=true)->
  WT P ib ops bef Q D (A::(l1++l2)) a w->WT P ib ops bef Q D (l1++A::l2) a w:=by
 intro l1
 induction l1 with
 | nil=>intro D a w _ _ _ h; exact h
 | cons x l1 ih=>
  intro D a w Z U M h;obtain⟨G,C,a6,hc⟩:=Z x (by simp);have h1:=TF hQ I C (hS.ok _ _ I) (hS.ok _ _ C) hc a6 (fun r q j d l=>⟨hS.ok _ _ d,M r q j d l A (by simp) O I,M r q j d l x (by simp) G C⟩) (hS.self _ _ I) h;obtain⟨o,V,h2⟩:=h1;rw [C] at V; injection V with e; subst e
  refine⟨G,C,Ey hQ h2 fun v ds w' hz=>⟨hz.1,ih _ _ _ (fun y E=>Z y (by simp [E])) (List.Pairwise.of_cons U) ?_ hz.2⟩⟩;intro r q j d l y E J W;rcases j with rfl | j
  ·have:=(List.pairwise_cons.1 U).1 y E;exact hS.war _ _ _ _ this.1 d W l this.2
  ·exact M r q j d l y (by simp at E ⊢; exact .inr E) J W
theorem Ki (T:List Nat):∀(l:List Nat) (D:Nat->Prop) (a:Act) (w:World),l.Perm T->T.Pairwise (Rel P ib ops bef)->(∀x∈T,x<ops.size)->l.Pairwise (fun x y=>x≠y/\bef y x=false)->
  (∀r q,D r->ops[r]?=some q->Bq q.op=true->∀y∈T,∀d,ops[y]?=some d->dis d.dst (BZ ops q)=true)->
  WT P ib ops bef Q D T a w->WT P ib ops bef Q D l a w:=by
 induction T with
 | nil=>
  intro l D a w j _ _ _ _ h;rw [j.eq_nil];exact h
 | cons A T ih=>
  intro l D a w j hT a5 V Z h;have af:A∈l:=j.symm.subset (by simp);obtain⟨l1,l2,rfl⟩:=List.append_of_mem af;have a6:(l1++l2).Perm T:=by
   have h1:(l1++A::l2).Perm (A::(l1++l2)):=List.perm_middle;exact(List.perm_cons A).1 (h1.symm.trans j)
  obtain⟨oA,U,h2⟩:=h;have ae:(l1++l2).Pairwise (fun x y=>x≠y/\bef y x=false):=V.sublist (List.Sublist.append_left (List.sublist_cons_self A l2) l1);have a3:=(List.pairwise_cons.1 hT).1;refine Mt hQ hS U l2 l1 D a w ?_ V (fun r q C J G y O d I=>Z r q C J G y (j.subset O) d I) ⟨oA,U,Ey hQ h2 fun v ds w' hz=>⟨hz.1,ih _ _ _ _ a6 (List.Pairwise.of_cons hT) (fun x M=>a5 x (by simp [M])) ae ?_ hz.2⟩⟩
  ·intro x M;have a7:x∈T:=a6.subset (by simp [M]);have hb:bef A x=false:=by
    have:=List.pairwise_append.1 V;exact(this.2.2 x M A (by simp)).2
   have hR:=a3 x a7;cases W:ops[x]? with
   | none=>
    exfalso;have:=a5 x (by simp [a7]);rw [Array.getElem?_eq_getElem this] at W;cases W
   | some ox=>
    refine⟨ox,rfl,hb,?_⟩;rcases hR.2.2 with E | E
    ·rw [hb] at E; cases E
    ·exact E oA ox U W
  ·intro r q C J G y O d I;rcases C with rfl | C
   ·have:=a3 y O;exact hS.war _ _ _ _ this.1 J I G this.2.1
   ·exact Z r q C J G y (by simp [O]) d I
end
def Lin (m:Region.Mode) (ops:Array Oper) (done:List Nat) (l:List Nat):Prop:=
 match l with
 | []=>True
 | i::l=>i<ops.size/\i∉done/\(∀o,ops[i]?=some o->∀e∈o.after.toList,Region.binds m e=true->e.on∈done)/\Lin m ops (i::done) l
theorem Mr {m:Region.Mode} {e:Edge} (h:Region.binds .any e=true):Region.binds m e=true:=by
 obtain⟨on,g⟩:=e;cases g <;> first | rfl | (simp [Region.binds] at h)
theorem JU {m:Region.Mode} {ops:Array Oper} {bef:Nat->Nat->Bool} (C:∀{i j:Nat},j<ops.size->i<ops.size->bef i j=true->
  ∃o,ops[j]?=some o/\∃e∈o.after.toList,Region.binds .any e=true/\(e.on=i\/bef i e.on=true)/\e.on<j) (l:List Nat):∀(done:List Nat),Lin m ops done l->
  (∀j∈done,j<ops.size/\∀i,i<ops.size->bef i j=true->i∈done)->
  l.Pairwise (fun x y=>x≠y/\bef y x=false)/\l.Nodup/\(∀i∈l,i<ops.size/\i∉done):=by
 induction l with
 | nil=>exact fun _ _ _=>⟨List.Pairwise.nil,List.nodup_nil,fun i O=>by simp at O⟩
 | cons i l ih=>
  intro done h M;obtain⟨I,Z,h3,h4⟩:=h;have V:∀k,k<ops.size->bef k i=true->k∈done:=by
   intro k d a6;obtain⟨o,ho,e,he,a5,J,ad⟩:=C I d a6;have W:=h3 o ho e he (Mr a5);rcases J with rfl | J
   ·exact W
   ·exact(M _ W).2 k d J
  obtain⟨p1,p2,G⟩:=ih (i::done) h4 (by
   intro j E;rcases List.mem_cons.1 E with rfl | E
   ·exact⟨I,fun k d C=>List.mem_cons.2 (.inr (V k d C))⟩
   ·exact⟨(M j E).1,fun k d C=>List.mem_cons.2 (.inr ((M j E).2 k d C))⟩)
  refine⟨List.pairwise_cons.2 ⟨fun y hy=>?_,p1⟩,List.nodup_cons.2 ⟨fun O=>(G i O).2 (by simp),p2⟩,?_⟩
  ·have U:=G y hy;refine⟨fun e=>U.2 (by simp [e]),?_⟩;cases a4:bef y i with
   | false=>rfl
   | true=>exact absurd (List.mem_cons.2 (.inr (V y U.1 a4))) U.2
  ·intro k d;rcases List.mem_cons.1 d with rfl | d
   ·exact⟨I,Z⟩
   ·exact⟨(G k d).1,fun hn=>(G k d).2 (List.mem_cons.2 (.inr hn))⟩
def DR (n:Nat) (done:List Nat):List Nat:=(List.range n).filter fun i=>!done.contains i
theorem Q9 {n i:Nat} {done:List Nat} (h:i<n) (d:i∉done):(DR n (i::done)).length<(DR n done).length:=by
 have e:DR n (i::done)=(DR n done).filter fun k=>!(k==i):=by
  unfold DR;rw [List.filter_filter];congr 1;funext k;by_cases j:k=i <;> simp [j]
 rw [e,List.length_filter_lt_length_iff_exists];exact⟨i,by simp [DR,h,d],by simp⟩
def Ha (m:Region.Mode) (ops:Array Oper):Prop:=
 ∀done:List Nat,(∃i,i<ops.size/\i∉done)->∃i,i<ops.size/\i∉done/\∀o,ops[i]?=some o->∀e∈o.after.toList,Region.binds m e=true->e.on∈done
theorem QQ {m:Region.Mode} {ops:Array Oper} (T:List Nat):∀(j:List Nat),Lin m ops j T->∀done:List Nat,(∀i∈j,i∈done)->(∃i,i∈T/\i∉done)->
  ∃i,i<ops.size/\i∉done/\∀o,ops[i]?=some o->∀e∈o.after.toList,Region.binds m e=true->e.on∈done:=by
 induction T with
 | nil=>exact fun _ _ _ _ h=>by obtain⟨i,d,_⟩:=h; simp at d
 | cons k T ih=>
  intro j h done y M;obtain⟨E,U,G,I⟩:=h;by_cases l:k∈done
  ·refine ih (k::j) I done (fun i d=>?_) ?_
   ·rcases List.mem_cons.1 d with rfl | d
    ·exact l
    ·exact y i d
   ·obtain⟨i,d,C⟩:=M;rcases List.mem_cons.1 d with rfl | d
    ·exact absurd l C
    ·exact⟨i,d,C⟩
  ·exact⟨k,E,l,fun o O e he J=>y _ (G o O e he J)⟩
theorem HW {m:Region.Mode} {ops:Array Oper} {T:List Nat} (d:Lin m ops [] T) (j:∀i,i<ops.size->i∈T):Ha m ops:=
 fun done ⟨i,l,y⟩=>QQ T [] d done (fun _ h=>by simp at h) ⟨i,j i l,y⟩
theorem P3 {m:Region.Mode} {ops:Array Oper} (hp:Ha m ops):∀(fuel t:Nat) (listed:Array Bool) (acc:List Nat),listed.size=ops.size->
  (∀i,i<ops.size->(listed[i]?=some true↔i∈acc))->(∀i∈acc,i<ops.size)->(DR ops.size acc).length<=fuel->
  ∃l,Region.linearise.go m ops fuel t listed acc=acc.reverse++l/\Lin m ops acc l/\∀i,i<ops.size->i∈acc\/i∈l:=by
 intro fuel
 induction fuel with
 | zero=>
  intro t listed acc _ _ _ hm;refine⟨[],by simp [Region.linearise.go],trivial,fun i M=>?_⟩;have h0:DR ops.size acc=[]:=List.eq_nil_of_length_eq_zero (by omega);by_cases E:i∈acc
  ·exact .inl E
  ·exfalso;have:i∈DR ops.size acc:=by simp [DR,M,E]
   rw [h0] at this; simp at this
 | succ fuel ih=>
  intro t listed acc a4 G W hm;rw [Region.linearise.go];generalize aj:((List.range ops.size).filter fun i=>!listed.getD i true&&((ops[i]?).map (·.after.all fun e=>!Region.binds m e||listed.getD e.on false)).getD false)=rs;have a3:∀i,i∈rs↔i<ops.size/\i∉acc/\∀o,ops[i]?=some o->∀e∈o.after.toList,Region.binds m e=true->e.on∈acc:=by
   intro i;rw [<-aj,List.mem_filter,List.mem_range];constructor
   ·rintro⟨d,h⟩;have hl:=G i d;have V:listed[i]?=some (listed[i]'(by omega)):=Array.getElem?_eq_getElem (by omega);simp only [Bool.and_eq_true,Bool.not_eq_true'] at h;obtain⟨h,y⟩:=h;refine⟨d,fun E=>?_,fun o I e he J=>?_⟩
    ·have:=hl.2 E;rw [Array.getD_eq_getD_getElem?,this] at h;simp at h
    ·rw [I] at y;simp only [Option.map_some,Option.getD_some,Array.all_eq_true'] at y;have:=y e (by simpa using he);rw [J] at this;simp only [Bool.not_true,Bool.false_or] at this;rw [Array.getD_eq_getD_getElem?] at this;by_cases ag:e.on<ops.size
     ·have h4:=G e.on ag;cases U:listed[e.on]? with
      | none=>rw [U] at this; simp at this
      | some b=>rw [U] at this; simp at this; subst this; exact h4.1 U
     ·rw [Array.getElem?_eq_none (by omega)] at this;simp at this
   ·rintro⟨d,h,y⟩;refine⟨d,?_⟩;have V:listed[i]?=some (listed[i]'(by omega)):=Array.getElem?_eq_getElem (by omega);have J:listed[i]'(by omega)=false:=by
     cases C:listed[i]'(by omega) with
     | false=>rfl
     | true=>exact absurd ((G i d).1 (by rw [V,C])) h
    simp only [Bool.and_eq_true,Bool.not_eq_true',Array.getD_eq_getD_getElem?,V,J,Option.getD_some,true_and];have I:ops[i]?=some (ops[i]'d):=Array.getElem?_eq_getElem d;rw [I];simp only [Option.map_some,Option.getD_some,Array.all_eq_true'];intro e he;cases ad:Region.binds m e with
    | false=>rfl
    | true=>
     have a2:=y _ I e (by simpa using he) ad;have:=(G e.on (W _ a2)).2 a2;simp [this]
  cases Z:rs[t % rs.length]? with
  | none=>
   dsimp only;refine⟨[],by simp,trivial,fun i M=>?_⟩;by_cases E:i∈acc
   ·exact .inl E
   ·exfalso;obtain⟨k,d,h,y⟩:=hp acc ⟨i,M,E⟩;have j:k∈rs:=(a3 k).2 ⟨d,h,y⟩;have ai:0<rs.length:=List.length_pos_of_mem j;rw [List.getElem?_eq_none_iff] at Z;have:=Nat.mod_lt t ai;omega
  | some i=>
   dsimp only;obtain⟨d,h,y⟩:=(a3 i).1 (List.mem_of_getElem? Z);have hA:∀k,k<ops.size->((listed.setIfInBounds i true)[k]?=some true↔k∈i::acc):=by
    intro k j;by_cases O:k=i
    ·subst O;simp [a4,j]
    ·rw [Array.getElem?_setIfInBounds_ne (fun e=>O e.symm),G k j];simp [O]
   have hB:∀k∈i::acc,k<ops.size:=by
    intro k j;rcases List.mem_cons.1 j with rfl | j
    ·exact d
    ·exact W k j
   obtain⟨l,e1,e2,e3⟩:=ih (t / rs.length) (listed.setIfInBounds i true) (i::acc) (by simpa using a4) hA hB (by have:=Q9 (n:=ops.size) d h; omega);refine⟨i::l,by rw [e1]; simp,⟨d,h,y,e2⟩,fun k j=>?_⟩;rcases e3 k j with C | C
   ·rcases List.mem_cons.1 C with rfl | C
    ·exact .inr (by simp)
    ·exact .inl C
   ·exact .inr (by simp [C])
theorem Hz {m:Region.Mode} {ops:Array Oper} (E:Ha m ops) (t:Nat):Lin m ops [] (Region.linearise m ops t)/\∀i,i<ops.size->i∈Region.linearise m ops t:=by
 obtain⟨l,j,y,C⟩:=P3 E ops.size t (Array.replicate ops.size false) [] (by simp) (fun i d=>by simp [d]) (fun i d=>by simp at d) (by
  unfold DR;exact Nat.le_trans (List.length_filter_le _ _) (by simp))
 unfold Region.linearise;rw [j];refine⟨by simpa using y,fun i d=>?_⟩;rcases C i d with h | h
 ·simp at h
 ·simpa using h
end Reg
end Go.Proofs.YtfcfpoemojjglaaGreatDoor
namespace Go.Proofs.YtfcfpoemojjglaaGreatDoor
namespace Reg
def Bl (tab:List Nat):Nat->Nat->Bool:=fun i j=>(tab.getD j 0).testBit i
def Gq (ops:Array Oper) (tab:List Nat):Bool:=
 (List.range ops.size).all fun j=>(List.range ops.size).all fun i=>
  !Bl tab i j||(match ops[j]? with
   | some o=>o.after.any fun e=>Region.binds .any e&&(e.on==i||Bl tab i e.on)&&decide (e.on<j)
   | none=>false)
def Bg (m:Region.Mode) (ops:Array Oper):List Nat->List Nat->Bool
  | _,[]=>true
  | done,i::l=>decide (i<ops.size)&&!done.contains i&&(match ops[i]? with
      | some o=>o.after.all fun e=>!Region.binds m e||done.contains e.on
      | none=>true)&&Bg m ops (i::done) l
def FR (ops:Array Oper) (l:List Nat):Bool:=(List.range ops.size).all fun i=>l.contains i
def Gu (ops:Array Oper):Bool:=
 Bg .any ops [] (List.range ops.size)&&
  (!Region.departs ops||(Bg .text ops [] (List.range ops.size)&&Bg .gc ops [] (Region.linearise .gc ops 0)&&FR ops (Region.linearise .gc ops 0)))
def GL (P:Program) (ib:Bool) (ops:Array Oper) (tab:List Nat) (x y:Nat):Bool:=
 x != y&&!Bl tab y x&&(Bl tab x y||(match ops[x]?,ops[y]? with
  | some ox,some oy=>FL P ib ops ox oy
  | _,_=>true))
def ER (f:Nat->Nat->Bool):List Nat->Bool
 | []=>true
 | x::l=>l.all (f x)&&ER f l
def GZ (ops:Array Oper) (tab:List Nat):Bool:=
 (ops.all fun o=>DI o.op&&(!Bq o.op||dis o.dst (BZ ops o)))&&
 (List.range ops.size).all fun x=>match ops[x]? with
  | some ox=>!Bq ox.op||(List.range ops.size).all fun y=>match ops[y]? with
   | some oy=>x==y||Bl tab y x||dis oy.dst (BZ ops ox)
   | none=>true
  | none=>true
def chk (P:Program) (ib:Bool) (ops:Array Oper) (tab T:List Nat):Bool:=
 GZ ops tab&&Gq ops tab&&Gu ops&&ER (GL P ib ops tab) T&&T.all (fun i=>decide (i<ops.size))&&FR ops T
def DS (P:Program) (ib:Bool) (ops:Array Oper) (tab T:List Nat):Bool:=
 ER (fun x y=>match ops[x]?,ops[y]? with
  | some ox,some oy=>!Bq ox.op||!eff P ib oy||Bl tab x y
  | _,_=>true) T
theorem F5 {f:Nat->Nat->Bool} (l:List Nat) (h:ER f l=true):l.Pairwise (fun x y=>f x y=true):=by
 induction l with
 | nil=>exact List.Pairwise.nil
 | cons x l ih=>
  simp only [ER,Bool.and_eq_true,List.all_eq_true] at h;exact List.pairwise_cons.2 ⟨h.1,ih h.2⟩
theorem Hy {m:Region.Mode} {ops:Array Oper} (l:List Nat):∀done,Bg m ops done l=true->Lin m ops done l:=by
 induction l with
 | nil=>exact fun _ _=>trivial
 | cons i l ih=>
  intro done h;simp only [Bg,Bool.and_eq_true,decide_eq_true_eq,Bool.not_eq_true',List.contains_eq_mem,decide_eq_false_iff_not] at h;obtain⟨⟨⟨j,y⟩,d⟩,C⟩:=h;refine⟨j,y,fun o G e he E=>?_,ih _ C⟩;rw [G] at d;simp only [Array.all_eq_true'] at d;have:=d e (by simpa using he);simpa [E] using this
theorem Hr {ops:Array Oper} {l:List Nat} (h:FR ops l=true):∀i,i<ops.size->i∈l:=by
 intro i d;unfold FR at h;rw [List.all_eq_true] at h;simpa using h i (List.mem_range.2 d)
theorem K0 {ops:Array Oper} (h:Gu ops=true) (l:Bool) (t:Nat):(∃m,Lin m ops [] (Region.schedule l ops t))/\∀i,i<ops.size->i∈Region.schedule l ops t:=by
 simp only [Gu,Bool.and_eq_true,Bool.or_eq_true,Bool.not_eq_true'] at h;obtain⟨y,d⟩:=h;have j:∀i,i<ops.size->i∈List.range ops.size:=fun i C=>List.mem_range.2 C;unfold Region.schedule;split
 ·have:=Hz (HW (Hy _ _ y) j) t;exact⟨⟨_,this.1⟩,this.2⟩
 ·rename_i hne;rcases d with d | d
  ·rw [d] at hne; simp at hne
  ·split
   ·have:=Hz (HW (Hy _ _ d.1.1) j) (t / 2);exact⟨⟨_,this.1⟩,this.2⟩
   ·have:=Hz (HW (Hy _ _ d.1.2) (Hr d.2)) (t / 2);exact⟨⟨_,this.1⟩,this.2⟩
theorem IW {ops:Array Oper} {tab:List Nat} (y:Gq ops tab=true) {i j:Nat} (I:j<ops.size) (G:i<ops.size) (h:Bl tab i j=true):
  ∃o,ops[j]?=some o/\∃e∈o.after.toList,Region.binds .any e=true/\(e.on=i\/Bl tab i e.on=true)/\e.on<j:=by
 unfold Gq at y;rw [List.all_eq_true] at y;have C:=y j (List.mem_range.2 I);rw [List.all_eq_true] at C;have d:=C i (List.mem_range.2 G);rw [h] at d;cases E:ops[j]? with
 | none=>rw [E] at d; simp at d
 | some o=>
  rw [E] at d;refine⟨o,rfl,?_⟩;simp only [Bool.not_true,Bool.false_or] at d;rw [Array.any_eq_true'] at d;obtain⟨e,he,l⟩:=d;simp only [Bool.and_eq_true,Bool.or_eq_true,beq_iff_eq,decide_eq_true_eq] at l;exact⟨e,by simpa using he,l.1.1,l.1.2,l.2⟩
theorem Lp {P:Program} {ops:Array Oper} {tab:List Nat} (h:GZ ops tab=true):Gl P ops (Bl tab):=by
 simp only [GZ,Bool.and_eq_true] at h;obtain⟨j,C⟩:=h;rw [Array.all_eq_true'] at j;have E:∀i (o:Oper),ops[i]?=some o->o∈ops:=fun i o d=>Array.mem_of_getElem? d;refine⟨fun i o d=>?_,fun i o d l=>?_,fun x y U V M G I l J=>?_⟩
 ·have:=j o (E i o d);simp only [Bool.and_eq_true] at this;exact this.1
 ·have:=j o (E i o d);simp only [Bool.and_eq_true,Bool.or_eq_true,Bool.not_eq_true'] at this;rcases this.2 with h | h
  ·rw [l] at h; cases h
  ·exact h
 ·rw [List.all_eq_true] at C;have:=C x (List.mem_range.2 (Array.getElem?_eq_some_iff.1 G).1);rw [G] at this;dsimp only at this;rw [l] at this;simp only [Bool.not_true,Bool.false_or,List.all_eq_true] at this;have:=this y (List.mem_range.2 (Array.getElem?_eq_some_iff.1 I).1);rw [I] at this;dsimp only at this;rw [J] at this;have O:(x==y)=false:=by simpa using M
  simpa [O] using this
theorem IF {P:Program} {ib:Bool} {ops:Array Oper} {bef:Nat->Nat->Bool} {Q:Bo} (hQ:NoQ Q) (l:List Nat):∀(D:Nat->Prop) (a:Act) (w:World),WT P ib ops bef Q D l a w->wpOps P ops Q l a w:=by
 induction l with
 | nil=>exact fun _ _ _ h=>h
 | cons i l ih=>
  intro D a w h;obtain⟨o,j,d⟩:=h;simp only [wpOps,j];unfold Bu at d;split
  ·rename_i hw;rw [if_pos hw] at d;exact .inl (E9 hQ d.2 fun v ds w' y=>ih _ _ _ y.2)
  ·rename_i hw;rw [if_neg hw] at d;exact ih _ _ _ d.2
theorem GK {P:Program} {ib:Bool} {ops:Array Oper} {id:Nat} {Q:Bo} {a:Act} {w:World} (tab T:List Nat) (G:chk P ib ops tab T=true) (hQ:NoQ Q)
  (h:WT P ib ops (Bl tab) Q (fun _=>False) T a w.drew):(Code.region id ops true).wp P Q a w:=by
 simp only [chk,Bool.and_eq_true] at G;obtain⟨⟨⟨⟨⟨J,M⟩,O⟩,U⟩,C⟩,V⟩:=G;have hS:Gl P ops (Bl tab):=Lp J;have E:T.Pairwise (Rel P ib ops (Bl tab)):=(F5 T U).imp fun {x y} hxy=>by
  simp only [GL,Bool.and_eq_true,bne_iff_ne,ne_eq,Bool.not_eq_true',Bool.or_eq_true] at hxy;refine⟨hxy.1.1,hxy.1.2,?_⟩;rcases hxy.2 with h | h
  ·exact .inl h
  ·exact .inr fun ox oy l hy=>by rw [l,hy] at h; exact h
 have I:∀x∈T,x<ops.size:=fun x l=>by
  rw [List.all_eq_true] at C;simpa using C x l
 refine wp_region_draw fun t=>?_;obtain⟨⟨m,a3⟩,Z⟩:=K0 O (P.follows .mixedOrders) t;obtain⟨p1,p2,p3⟩:=JU (fun {i j}=>IW M) _ [] a3 (fun j hj=>by simp at hj);have W:T.Nodup:=(E.imp fun {x y} hxy=>hxy.1);have a4:(Region.schedule (P.follows .mixedOrders) ops t).Perm T:=
  (List.perm_ext_iff_of_nodup p2 W).2 fun i=>⟨fun d=>Hr V i (p3 i d).1,fun d=>Z i (I i d)⟩
 exact IF hQ _ _ _ _ (Ki hQ hS T _ _ _ _ a4 E I p1 (fun r q hr=>hr.elim) h)
def pick (ops:Array Oper) (T:List Nat):List Oper:=T.filterMap (ops[·]?)
def FQ (ops:Array Oper) (a:Act):Bool:=ops.toList.all fun o=>!intOp o.op||!Region.wanted o (yielded ops a.tmps)||intFine a.eval o.op
def EH (ops:Array Oper) (T:List Nat):Bool:=
 T.all (fun x=>match ops[x]? with | some o=>!intOp o.op||dis o.dst (BZ ops o) | none=>true)&&
 ER (fun x y=>match ops[x]?,ops[y]? with
  | some ox,some oy=>!intOp ox.op||dis oy.dst (BZ ops ox)
  | _,_=>true) T
def finQ (ops:Array Oper) (Q:Bo):Bo
 | .normal,a,w=>FQ ops a=true/\Q .normal a w
 | e,a,w=>Q e a w
def postN (next:Act->World->Prop):Bo:=Exit.then next (fun _ _ _=>False)
theorem NoQ.then {K:Act->World->Prop} {Q:Bo} (h:NoQ Q):NoQ (Exit.then K Q):=⟨fun c a w x=>h.1 c a w x,fun a w x=>h.2 a w x⟩
theorem NoQ.inBlock {i:Nat} {Q:Bo} (h:NoQ Q):NoQ (Exit.inBlock i Q):=⟨fun c a w x=>h.1 c a w x,fun a w x=>h.2 a w x⟩
theorem NoQ.body {P:Program} {fn:Func} {R:Ending->World->Prop} (d:∀c w,¬R (.panicked c) w) (h:∀w,¬R .outgrown w):NoQ (bodyPost P fn R):=⟨fun c _ w x=>d c w x.2,fun _ w x=>h w x⟩
theorem NoQ.postN (next:Act->World->Prop):NoQ (Reg.postN next):=⟨fun _ _ _ x=>x,fun _ _ x=>x⟩
theorem NoQ.finQ {ops:Array Oper} {Q:Bo} (h:NoQ Q):NoQ (Reg.finQ ops Q):=⟨fun c a w x=>h.1 c a w x,fun a w x=>h.2 a w x⟩
theorem GA {Q:Bo} (h:NoQ Q):¬LetsOut Q:=fun⟨a,w,x⟩=>h.2 a w x
section
variable {P:Program} {ib:Bool} {ops:Array Oper} {bef:Nat->Nat->Bool} {Q Qf:Bo}
theorem LF (hQ:NoQ Qf) (l:List Oper):∀(a:Act) (w:World),wpList P ops Qf l a w->∃d wF,Qf .normal d wF/\∀t,(∀o∈l,o.dst≠some t)->d.tmps[t]?=a.tmps[t]?:=by
 induction l with
 | nil=>exact fun a w h=>⟨a,w,h,fun _ _=>rfl⟩
 | cons o l ih=>
  intro a w h;have key:∃v ds w',wpList P ops Qf l (upd a o.dst ds v) w':=by
   unfold wpList at h;split at h
   ·rcases h with h | h
    ·exact G8 hQ h
    ·exact absurd h.2 (GA hQ)
   ·exact⟨undef,[],w,by rw [CN]; exact h⟩
  obtain⟨v,ds,w',h⟩:=key;obtain⟨d,wF,j,y⟩:=ih _ _ h;exact⟨d,wF,j,fun t ht=>(y t fun x C=>ht x (by simp [C])).trans (G6 _ _ _ _ _ (ht o (by simp)))⟩
theorem Kj {i:Nat} {o:Oper} (h:ops[i]?=some o) (T:List Nat):pick ops (i::T)=o::pick ops T:=by
 simp [pick,h]
theorem J2 {T:List Nat} {o:Oper} (h:o∈pick ops T):∃i,i∈T/\ops[i]?=some o:=by
 simpa [pick] using h
theorem Hb (I:NoQ Qf) (W:List Nat) (d:List Nat):∀(D:Nat->Prop) (a:Act) (w:World),
  (∀i∈d,i<ops.size)->
  (d.Pairwise fun x y=>∀(E j:Oper),ops[x]?=some E->ops[y]?=some j->Bq E.op=true->eff P ib j=true->bef x y=true)->
  (∀r q,D r->ops[r]?=some q->Bq q.op=true->∀y∈d,∀j,ops[y]?=some j->eff P ib j=true->bef r y=true)->
  (∀a w,Qf .normal a w->WT P ib ops bef Q (fun k=>k∈d\/D k) W a w)->
  (ib=true->(∀a w,Qf .normal a w->FQ ops a=true)/\(∀x∈d,∀o,ops[x]?=some o->intOp o.op=true->dis o.dst (BZ ops o)=true)/\
   (d.Pairwise fun x y=>∀(E j:Oper),ops[x]?=some E->ops[y]?=some j->intOp E.op=true->dis j.dst (BZ ops E)=true))->
  wpList P ops Qf (pick ops d) a w->WT P ib ops bef Q D (d++W) a w:=by
 induction d with
 | nil=>
  intro D a w _ _ _ hn _ h;have:=hn a w h;have e:(fun k=>k∈([]:List Nat)\/D k)=D:=by funext k; simp
  rw [e] at this;exact this
 | cons i d ih=>
  intro D a w a9 hp hD hn hf h;have hi:=a9 i (by simp);have M:ops[i]?=some ops[i]:=Array.getElem?_eq_getElem hi;rw [Kj M] at h;obtain⟨ak,al⟩:=List.pairwise_cons.1 hp;refine⟨ops[i],M,?_⟩;have aa:∀b w',wpList P ops Qf (pick ops d) b w'->Obl P ib ops bef D i b w w'/\WT P ib ops bef Q (fun k=>k=i\/D k) (d++W) b w':=by
   intro b w' hb;refine⟨fun o ah he r q G U J ae=>?_,ih _ b w' (fun x l=>a9 x (by simp [l])) al ?_ ?_ ?_ hb⟩
   ·have:=hD r q G U J i (by simp) o ah he;rw [ae] at this; cases this
   ·intro r q G U J y V j O he;rcases G with rfl | G
    ·exact ak y V q j U O J he
    ·exact hD r q G U J y (by simp [V]) j O he
   ·intro a' w'' l;have:=hn a' w'' l;have e:(fun k=>k∈i::d\/D k)=(fun k=>k∈d\/k=i\/D k):=by
     funext k; simp only [List.mem_cons,eq_iff_iff]; constructor
     ·rintro((h | h) | h) <;> simp [h]
     ·rintro(h | h | h) <;> simp [h]
    rw [e] at this;exact this
   ·intro C;obtain⟨Z,f2,f3⟩:=hf C;exact⟨Z,fun x l=>f2 x (by simp [l]),(List.pairwise_cons.1 f3).2⟩
  unfold wpList at h;unfold Bu;split at h
  ·rename_i hw;rw [if_pos hw];rcases h with h | h
   ·refine⟨fun C=>?_,E9 I h fun v ds w' l=>aa _ _ l⟩;simp only [Bool.and_eq_true] at C;obtain⟨Z,f2,f3⟩:=hf C.1;obtain⟨v,ds,w',l⟩:=G8 I h;obtain⟨aF,wF,g1,g2⟩:=LF I _ _ _ l;have a7:CO ops ops[i] aF a:=by
     intro t ht;have hd:=f2 i (by simp) _ M C.2;rw [g2 t fun o ai=>?_,G6 _ _ _ _ _ (Fg hd ht)];obtain⟨y,V,O⟩:=J2 ai;exact Fg ((List.pairwise_cons.1 f3).1 y V _ _ M O C.2) ht
    have a4:=Z _ _ g1;unfold FQ at a4;rw [List.all_eq_true] at a4;have:=a4 ops[i] (by simp);rw [D0 a7,hw,C.2,FT a7] at this;simpa using this
   ·exact absurd h.2 (GA I)
  ·rename_i hw;rw [if_neg hw];exact aa _ _ h
theorem IE {i:Nat} {o:Oper} (M:ops[i]?=some o) (d:List Nat) (T:List Nat) {D:Nat->Prop} {a:Act} {w:World} (J:(ib&&intOp o.op)=false)
  (E:∀r q,D r->ops[r]?=some q->Bq q.op=true->bef r i=false->r∈d)
  (h:wpList P ops (postN fun b w'=>(∀r∈d,∀q,ops[r]?=some q->C3 P ops q b w w')/\WT P ib ops bef Q (fun k=>k=i\/D k) T b w') [o] a w):WT P ib ops bef Q D (i::T) a w:=by
 refine⟨o,M,?_⟩
 have y:∀b w',wpList P ops (postN fun b w'=>(∀r∈d,∀q,ops[r]?=some q->C3 P ops q b w w')/\WT P ib ops bef Q (fun k=>k=i\/D k) T b w') [] b w'->
   Obl P ib ops bef D i b w w'/\WT P ib ops bef Q (fun k=>k=i\/D k) T b w':=fun b w' j=>
  ⟨fun V _ _ r q O l I C=>j.1 r (E r q O l I C) q l,j.2⟩
 unfold wpList at h;unfold Bu;split at h
 ·rename_i hw;rw [if_pos hw];rcases h with h | h
  ·exact⟨fun G=>absurd G (by rw [J]; simp),E9 (NoQ.postN _) h fun v ds w' U=>y _ _ U⟩
  ·exact absurd h.2 (GA (NoQ.postN _))
 ·rename_i hw;rw [if_neg hw];exact y _ _ h
end
section
variable {P:Program} {id:Nat} {Q:Bo} {a:Act} {w:World}
theorem GE {ib:Bool} {ops:Array Oper} {tab T:List Nat} (h:DS P ib ops tab T=true):
  T.Pairwise fun x y=>∀(d j:Oper),ops[x]?=some d->ops[y]?=some j->Bq d.op=true->eff P ib j=true->Bl tab x y=true:=
 (F5 T h).imp fun {x y} hxy d j hx hy hl he=>by
  rw [hx,hy] at hxy;dsimp only at hxy;rw [hl,he] at hxy;simpa using hxy
theorem I6 {ib:Bool} {ops:Array Oper} {tab T:List Nat} (h:chk P ib ops tab T=true):∀i∈T,i<ops.size:=fun i d=>by
 simp only [chk,Bool.and_eq_true] at h;have:=h.1.2;rw [List.all_eq_true] at this;simpa using this i d
theorem Rs (l:List Oper):∀(p:List Oper) (k:Nat),p.length=k->(List.range' k l.length).filterMap (fun i=>(p++l)[i]?)=l:=by
 induction l with
 | nil=>intro p k _; rfl
 | cons x l ih=>
  intro p k d;have h:(p++x::l)[k]?=some x:=by rw [<-d]; simp
  have:=ih (p++[x]) (k+1) (by simp [d]);rw [List.append_assoc] at this;simp only [List.length_cons,List.range'_succ,List.filterMap_cons,h];rw [List.singleton_append] at this;rw [this]
theorem Kk (l:List Oper):pick l.toArray (List.range l.length)=l:=by
 have:=Rs l [] 0 rfl;rw [List.nil_append] at this;unfold pick;rw [List.range_eq_range'];simpa using this
theorem aCh {l:List Oper} (tab:List Nat) (d:(chk P false l.toArray tab (List.range l.length)&&DS P false l.toArray tab (List.range l.length))=true) (hQ:NoQ Q)
  (h:wpList P l.toArray Q l a w.drew):(Code.region id l.toArray true).wp P Q a w:=by
 simp only [Bool.and_eq_true] at d;refine GK tab _ d.1 hQ ?_;have:=Hb (ib:=false) (bef:=Bl tab) hQ [] (List.range l.length) (fun _=>False) a w.drew (I6 d.1) (GE d.2) (fun r q j=>j.elim) (fun a w h=>h) (fun h=>by cases h);rw [List.append_nil] at this;exact this (by rw [Kk]; exact h)
theorem R3 {l:List Oper} (tab:List Nat)
  (G:(chk P true l.toArray tab (List.range l.length)&&DS P true l.toArray tab (List.range l.length)&&EH l.toArray (List.range l.length))=true) (hQ:NoQ Q)
  (h:wpList P l.toArray (finQ l.toArray Q) l a w.drew):(Code.region id l.toArray true).wp P Q a w:=by
 simp only [Bool.and_eq_true] at G;obtain⟨⟨E,I⟩,d⟩:=G;simp only [EH,Bool.and_eq_true,List.all_eq_true] at d;refine GK tab _ E hQ ?_
 have:=Hb (ib:=true) (bef:=Bl tab) (Q:=Q) hQ.finQ [] (List.range l.length) (fun _=>False) a w.drew (I6 E) (GE I) (fun r q M=>M.elim) (fun a w h=>h.2)
  (fun _=>⟨fun a w h=>h.1,fun x C o J j=>by have:=d.1 x C; rw [J] at this; dsimp only at this; rw [j] at this; simpa using this,(F5 _ d.2).imp fun {x y} hxy ox oy C hy j=>by
   rw [C,hy] at hxy; dsimp only at hxy; rw [j] at hxy; simpa using hxy⟩)
 rw [List.append_nil] at this;exact this (by rw [Kk]; exact h)
def CB (P:Program) (ops:Array Oper) (tab:List Nat) (Q:Bo) (D T:List Nat) (a:Act) (w:World):Prop:=WT P false ops (Bl tab) Q (fun k=>k∈D) T a w
theorem R0 {l:List Oper} (tab T:List Nat) (d:chk P false l.toArray tab T=true) (hQ:NoQ Q) (h:CB P l.toArray tab Q [] T a w.drew):(Code.region id l.toArray true).wp P Q a w:=by
 refine GK tab T d hQ ?_;have e:(fun k=>k∈([]:List Nat))=fun _=>False:=by funext k; simp
 unfold CB at h;rw [e] at h;exact h
theorem Sd {l l1:List Oper} {tab D:List Nat} (d j:List Nat) (O:pick l.toArray d=l1)
  (C:(d.all (fun i=>decide (i<l.length))&&DS P false l.toArray tab d&&D.all (fun r=>d.all fun y=>match l.toArray[r]?,l.toArray[y]? with
   | some q,some E=>!Bq q.op||!eff P false E||Bl tab r y
   | _,_=>true))=true)
  (h:wpList P l.toArray (postN fun a w=>CB P l.toArray tab Q (d++D) j a w) l1 a w):CB P l.toArray tab Q D (d++j) a w:=by
 simp only [Bool.and_eq_true,List.all_eq_true] at C;obtain⟨⟨G,I⟩,J⟩:=C;refine Hb (ib:=false) (bef:=Bl tab) (Qf:=postN fun a w=>CB P l.toArray tab Q (d++D) j a w) (NoQ.postN _) j d _ a w (fun i M=>by simpa using G i M) (GE I) ?_ ?_ (fun h=>by cases h) (by rw [O]; exact h)
 ·intro r q Z W U y hy E V he;have:=J r Z y hy;rw [W,V] at this;dsimp only at this;rw [U,he] at this;simpa using this
 ·intro a' w' hx;have e:(fun k=>k∈d\/k∈D)=fun k=>k∈d++D:=by funext k; simp
  rw [e];exact hx
theorem Sc {l:List Oper} {o:Oper} {tab D:List Nat} (i:Nat) (T:List Nat) (d:List Nat) (E:l.toArray[i]?=some o)
  (j:D.all (fun r=>match l.toArray[r]? with
   | some q=>!Bq q.op||Bl tab r i||d.contains r
   | none=>true)=true)
  (h:wpList P l.toArray (postN fun b w'=>(∀r∈d,∀q,l.toArray[r]?=some q->C3 P l.toArray q b w w')/\CB P l.toArray tab Q (i::D) T b w') [o] a w):CB P l.toArray tab Q D (i::T) a w:=by
 rw [List.all_eq_true] at j;refine IE E d T (by simp) (fun r q I G C y=>?_) ?_
 ·have:=j r I;rw [G] at this;dsimp only at this;rw [C,y] at this;simpa using this
 ·have e:(fun k=>k=i\/k∈D)=fun k=>k∈i::D:=by funext k; simp
  rw [e];exact h
theorem rest_end {l:List Oper} {tab D:List Nat} (h:Q .normal a w):CB P l.toArray tab Q D [] a w:=h
theorem R4 {l:List Oper} (tab:List Nat)
  (d:(chk P true l.toArray tab (List.range l.length)&&DS P true l.toArray tab (List.range l.length)&&EH l.toArray (List.range l.length))=true) (hQ:NoQ Q)
  (h:∀Qf:Bo,(∀a w,FQ l.toArray a=true/\Q .normal a w->Qf .normal a w)->wpList P l.toArray Qf l a w.drew):(Code.region id l.toArray true).wp P Q a w:=
 R3 tab d hQ (h _ fun _ _ x=>x)
theorem rest_walk' {l l1:List Oper} {tab D:List Nat} (d j:List Nat) (E:pick l.toArray d=l1)
  (C:(d.all (fun i=>decide (i<l.length))&&DS P false l.toArray tab d&&D.all (fun r=>d.all fun y=>match l.toArray[r]?,l.toArray[y]? with
   | some q,some oy=>!Bq q.op||!eff P false oy||Bl tab r y
   | _,_=>true))=true)
  (h:∀Qf:Bo,(∀a w,CB P l.toArray tab Q (d++D) j a w->Qf .normal a w)->wpList P l.toArray Qf l1 a w):CB P l.toArray tab Q D (d++j) a w:=
 Sd d j E C (h _ fun _ _ x=>x)
theorem rest_act' {l:List Oper} {o:Oper} {tab D:List Nat} (i:Nat) (T:List Nat) (d:List Nat) (y:l.toArray[i]?=some o)
  (j:D.all (fun r=>match l.toArray[r]? with
   | some q=>!Bq q.op||Bl tab r i||d.contains r
   | none=>true)=true)
  (h:∀Qf:Bo,(∀b w',(∀r∈d,∀q,l.toArray[r]?=some q->C3 P l.toArray q b w w')/\CB P l.toArray tab Q (i::D) T b w'->Qf .normal b w')->wpList P l.toArray Qf [o] a w):CB P l.toArray tab Q D (i::T) a w:=
 Sc i T d y j (h _ fun _ _ x=>x)
theorem same_below {ops:Array Oper} {b:Act} {w w':World} (h:RowKit.Below w.heap.size w w') (j:List Nat) (d:j.all (fun r=>match ops[r]? with | some q=>Bq q.op | none=>true)=true):
  ∀r∈j,∀q,ops[r]?=some q->C3 P ops q b w w':=fun r y q l=>by
 rw [List.all_eq_true] at d;have:=d r y;rw [l] at this;exact GV this h.block
end
end Reg
end Go.Proofs.YtfcfpoemojjglaaGreatDoor
namespace Go.Proofs.YtfcfpoemojjglaaGreatDoor
namespace Reg
theorem SN {P:Program} {w:World} {p:Addr} {v:Value} {ty:TypeId} {d:TypeDesc} (j:w.cell? p=some v) (l:P.underlying ty=some d) (y:d.isRow=false):
  (Instr.loadAt ty (.pointer (some p))).run P w=.ok v w:=by
 have h:(isAgg ty).run P w=.ok false w:=by
  unfold isAgg;rw [Sem.run_bind,run_underlying l w];cases d <;> simp_all
 simp [Instr.loadAt,Instr.sureAddr,Sem.run_bind,loadVar,h,j]
theorem same_load1 {P:Program} {ops:Array Oper} {q:Oper} {b:Act} {w w':World} {ty:TypeId} {x:Operand} {p:Addr} {u:Value} {d:TypeDesc} (l:q.op=.load ty x) (I:b.eval x=.pointer (some p))
  (y:w.cell? p=some u) (C:w'.cell? p=some u) (G:P.underlying ty=some d) (E:d.isRow=false):C3 P ops q b w w':=by
 intro _ v j;obtain⟨dst,op,type,pos,after,guard⟩:=q;dsimp only at l;subst l;have e:∀w1,w1.cell? p=some u->(execOp b.eval { dst,op:=.load ty x,type,pos,after,guard }).run P w1=.ok (.value u) w1:=fun w1 h=>by
  show((Instr.loadAt ty (b.eval x)) >>=fun v=>(Pure.pure (Next.value v):Sem Next)).run P w1=_
  rw [I];exact KW (SN h G E)
 rw [e w y] at j;injection j with j _
 rw [<-j];exact e w' C
end Reg
end Go.Proofs.YtfcfpoemojjglaaGreatDoor
namespace Go.Proofs.YtfcfpoemojjglaaGreatDoor
namespace Reg
def Bx (tab:List Nat) (i j:Nat):List Nat:=tab.mapIdx fun y s=>if y==j||s.testBit j then s||| 2 ^ i||| tab.getD i 0 else s
theorem Mm {tab:List Nat} {i j x y:Nat} (h:Bl (Bx tab i j) x y=true):Bl tab x y=true\/((y=j\/Bl tab j y=true)/\(x=i\/Bl tab x i=true)):=by
 unfold Bl at*;by_cases d:y<tab.length
 ·have e:(Bx tab i j).getD y 0=if y==j||(tab.getD y 0).testBit j then tab.getD y 0||| 2 ^ i||| tab.getD i 0 else tab.getD y 0:=by
   simp [Bx,List.getD,d]
  rw [e] at h;split at h
  ·rename_i hc;simp only [Bool.or_eq_true,beq_iff_eq] at hc;rw [Nat.testBit_or,Nat.testBit_or,Nat.testBit_two_pow] at h;simp only [Bool.or_eq_true,decide_eq_true_eq] at h;rcases h with(h | h) | h
   ·exact .inl h
   ·exact .inr ⟨hc,.inl h.symm⟩
   ·exact .inr ⟨hc,.inr h⟩
  ·exact .inl h
 ·have e:(Bx tab i j).getD y 0=0:=by
   simp [Bx,List.getD,List.getElem?_eq_none (Nat.le_of_not_lt d)]
  rw [e] at h;simp at h
def Con (tab:List Nat) (l:List Nat):Prop:=l.Pairwise fun x y=>x≠y/\Bl tab y x=false
theorem Jd {tab l:List Nat} {p q i j:Nat} (h:Con tab l) (U:l[p]?=some i) (Z:l[q]?=some j) (a5:p<q):Con (Bx tab i j) l:=by
 have C:=List.pairwise_iff_getElem.1 h;have W:=(List.getElem?_eq_some_iff.1 U);have a3:=(List.getElem?_eq_some_iff.1 Z);obtain⟨V,M⟩:=W;obtain⟨a2,O⟩:=a3;refine List.pairwise_iff_getElem.2 fun a b E G J=>⟨(C a b E G J).1,?_⟩;cases hx:Bl (Bx tab i j) l[b] l[a] with
 | false=>rfl
 | true=>
  exfalso;rcases Mm hx with d | ⟨d,y⟩
  ·rw [(C a b E G J).2] at d; cases d
  ·have c1:q<=a:=by
    refine Nat.le_of_not_lt fun I=>?_;have:=C a q E a2 I;rcases d with d | d
    ·exact this.1 (d.trans O.symm)
    ·rw [O] at this; rw [this.2] at d; cases d
   have c2:b<=p:=by
    refine Nat.le_of_not_lt fun I=>?_;have:=C p b V G I;rcases y with y | y
    ·exact this.1 (M.trans y.symm)
    ·rw [M] at this; rw [this.2] at y; cases y
   omega
inductive Spl where
 | leaf (T:List Nat)
 | node (i j:Nat) (s t:Spl)
def Spl.chk (P:Program) (ops:Array Oper):Spl->List Nat->Bool
 | .leaf T,tab=>GZ ops tab&&ER (GL P false ops tab) T&&T.all (fun i=>decide (i<ops.size))&&FR ops T
 | .node i j s t,tab=>decide (i<ops.size)&&decide (j<ops.size)&&i != j&&s.chk P ops (Bx tab i j)&&t.chk P ops (Bx tab j i)
def Spl.goal (P:Program) (ops:Array Oper) (Q:Bo) (a:Act) (w:World):Spl->List Nat->Prop
 | .leaf T,tab=>CB P ops tab Q [] T a w
 | .node i j s t,tab=>s.goal P ops Q a w (Bx tab i j)/\t.goal P ops Q a w (Bx tab j i)
theorem Te {P:Program} {ops:Array Oper} {Q:Bo} {a:Act} {w:World} (hQ:NoQ Q) (s:Spl):∀(tab l:List Nat),s.chk P ops tab=true->Con tab l->l.Nodup->(∀i∈l,i<ops.size)->(∀i,i<ops.size->i∈l)->s.goal P ops Q a w tab->
  wpOps P ops Q l a w:=by
 induction s with
 | leaf T=>
  intro tab l C J M I d G;simp only [Spl.chk,Bool.and_eq_true] at C;obtain⟨⟨⟨U,V⟩,E⟩,h6⟩:=C;have hS:Gl P ops (Bl tab):=Lp U;have hT:T.Pairwise (Rel P false ops (Bl tab)):=(F5 T V).imp fun {x y} hxy=>by
   simp only [GL,Bool.and_eq_true,bne_iff_ne,ne_eq,Bool.not_eq_true',Bool.or_eq_true] at hxy;refine⟨hxy.1.1,hxy.1.2,?_⟩;rcases hxy.2 with h | h
   ·exact .inl h
   ·exact .inr fun ox oy hx hy=>by rw [hx,hy] at h; exact h
  have a5:∀x∈T,x<ops.size:=fun x hx=>by
   rw [List.all_eq_true] at E;simpa using E x hx
  have a9:T.Nodup:=(hT.imp fun {x y} hxy=>hxy.1);have aa:l.Perm T:=(List.perm_ext_iff_of_nodup M a9).2 fun i=>⟨fun Z=>Hr h6 i (I i Z),fun Z=>d i (a5 i Z)⟩;have e:(fun k=>k∈([]:List Nat))=fun _=>False:=by funext k; simp
  have W:CB P ops tab Q [] T a w:=G;unfold CB at W;rw [e] at W;exact IF hQ _ _ _ _ (Ki hQ hS T _ _ _ _ aa hT a5 J (fun r q hr=>hr.elim) W)
 | node i j s t ihs iht=>
  intro tab l C J M I d G;simp only [Spl.chk,Bool.and_eq_true,bne_iff_ne,ne_eq,decide_eq_true_eq] at C;obtain⟨⟨⟨⟨U,h2⟩,h3⟩,V⟩,E⟩:=C;obtain⟨p,hp⟩:=List.mem_iff_getElem?.1 (d i U);obtain⟨q,O⟩:=List.mem_iff_getElem?.1 (d j h2);rcases Nat.lt_trichotomy p q with h | h | h
  ·exact ihs _ l V (Jd J hp O h) M I d G.1
  ·subst h;rw [hp] at O;exact absurd (Option.some.inj O) h3
  ·exact iht _ l E (Jd J O hp h) M I d G.2
theorem region_spl {P:Program} {l:List Oper} {id:Nat} {Q:Bo} {a:Act} {w:World} (tab:List Nat) (s:Spl) (y:(Gq l.toArray tab&&Gu l.toArray&&s.chk P l.toArray tab)=true) (hQ:NoQ Q)
  (h:s.goal P l.toArray Q a w.drew tab):(Code.region id l.toArray true).wp P Q a w:=by
 simp only [Bool.and_eq_true] at y;obtain⟨⟨C,E⟩,G⟩:=y;refine wp_region_draw fun t=>?_;obtain⟨⟨m,M⟩,I⟩:=K0 E (P.follows .mixedOrders) t;obtain⟨O,U,V⟩:=JU (fun {i j}=>IW C) _ [] M (fun j J=>by simp at J);exact Te hQ s tab _ G O U (fun i d=>(V i d).1) (fun i d=>I i d) h
end Reg
end Go.Proofs.YtfcfpoemojjglaaGreatDoor
namespace Go.Proofs.YtfcfpoemojjglaaGreatDoor
namespace Reg
def fineT (ops:Array Oper) (T:List Nat) (a:Act):Bool:=T.all fun x=>match ops[x]? with
 | some o=>!intOp o.op||!Region.wanted o (yielded ops a.tmps)||intFine a.eval o.op
 | none=>true
section
variable {P:Program} {ib:Bool} {ops:Array Oper} {bef:Nat->Nat->Bool} {Q Qf:Bo}
theorem LY (T0:List Nat) (J:NoQ Qf) (W:List Nat) (d:List Nat):∀(D:Nat->Prop) (a:Act) (w:World),
  (∀x∈d,x∈T0)->(∀i∈d,i<ops.size)->
  (d.Pairwise fun x y=>∀(E l:Oper),ops[x]?=some E->ops[y]?=some l->Bq E.op=true->eff P ib l=true->bef x y=true)->
  (∀r q,D r->ops[r]?=some q->Bq q.op=true->∀y∈d,∀l,ops[y]?=some l->eff P ib l=true->bef r y=true)->
  (∀a w,Qf .normal a w->WT P ib ops bef Q (fun k=>k∈d\/D k) W a w)->
  (ib=true->(∀a w,Qf .normal a w->fineT ops T0 a=true)/\(∀x∈d,∀o,ops[x]?=some o->intOp o.op=true->dis o.dst (BZ ops o)=true)/\
   (d.Pairwise fun x y=>∀(E l:Oper),ops[x]?=some E->ops[y]?=some l->intOp E.op=true->dis l.dst (BZ ops E)=true))->
  wpList P ops Qf (pick ops d) a w->WT P ib ops bef Q D (d++W) a w:=by
 induction d with
 | nil=>
  intro D a w _ _ _ _ hn _ h;have:=hn a w h;have e:(fun k=>k∈([]:List Nat)\/D k)=D:=by funext k; simp
  rw [e] at this;exact this
 | cons i d ih=>
  intro D a w ad aa hp hD hn hf h;have hi:=aa i (by simp);have G:ops[i]?=some ops[i]:=Array.getElem?_eq_getElem hi;rw [Kj G] at h;obtain⟨am,an⟩:=List.pairwise_cons.1 hp;refine⟨ops[i],G,?_⟩;have ab:∀b w',wpList P ops Qf (pick ops d) b w'->Obl P ib ops bef D i b w w'/\WT P ib ops bef Q (fun k=>k=i\/D k) (d++W) b w':=by
   intro b w' hb;refine⟨fun o aj he r q I U M ag=>?_,ih _ b w' (fun x j=>ad x (by simp [j])) (fun x j=>aa x (by simp [j])) an ?_ ?_ ?_ hb⟩
   ·have:=hD r q I U M i (by simp) o aj he;rw [ag] at this; cases this
   ·intro r q I U M y V l O he;rcases I with rfl | I
    ·exact am y V q l U O M he
    ·exact hD r q I U M y (by simp [V]) l O he
   ·intro a' w'' j;have:=hn a' w'' j;have e:(fun k=>k∈i::d\/D k)=(fun k=>k∈d\/k=i\/D k):=by
     funext k; simp only [List.mem_cons,eq_iff_iff]; constructor
     ·rintro((h | h) | h) <;> simp [h]
     ·rintro(h | h | h) <;> simp [h]
    rw [e] at this;exact this
   ·intro C;obtain⟨Z,f2,f3⟩:=hf C;exact⟨Z,fun x j=>f2 x (by simp [j]),(List.pairwise_cons.1 f3).2⟩
  unfold wpList at h;unfold Bu;split at h
  ·rename_i hw;rw [if_pos hw];rcases h with h | h
   ·refine⟨fun C=>?_,E9 J h fun v ds w' j=>ab _ _ j⟩;simp only [Bool.and_eq_true] at C;obtain⟨Z,f2,f3⟩:=hf C.1;obtain⟨v,ds,w',j⟩:=G8 J h;obtain⟨aF,wF,g1,g2⟩:=LF J _ _ _ j;have a8:CO ops ops[i] aF a:=by
     intro t ht;have hd:=f2 i (by simp) _ G C.2;rw [g2 t fun o ak=>?_,G6 _ _ _ _ _ (Fg hd ht)];obtain⟨y,V,O⟩:=J2 ak;exact Fg ((List.pairwise_cons.1 f3).1 y V _ _ G O C.2) ht
    have a4:=Z _ _ g1;unfold fineT at a4;rw [List.all_eq_true] at a4;have:=a4 i (ad i (by simp));rw [G] at this;dsimp only at this;rw [D0 a8,hw,C.2,FT a8] at this;simpa using this
   ·exact absurd h.2 (GA J)
  ·rename_i hw;rw [if_neg hw];exact ab _ _ h
end
section
variable {P:Program} {Q:Bo} {id:Nat} {a:Act} {w:World}
def C2 (P:Program) (ops:Array Oper) (tab:List Nat) (Q:Bo) (D T:List Nat) (a:Act) (w:World):Prop:=WT P true ops (Bl tab) Q (fun k=>k∈D) T a w
theorem region_cutI {l:List Oper} (tab T:List Nat) (d:chk P true l.toArray tab T=true) (hQ:NoQ Q) (h:C2 P l.toArray tab Q [] T a w.drew):(Code.region id l.toArray true).wp P Q a w:=by
 refine GK tab T d hQ ?_;have e:(fun k=>k∈([]:List Nat))=fun _=>False:=by funext k; simp
 unfold C2 at h;rw [e] at h;exact h
theorem R9 {l l1:List Oper} {tab D:List Nat} (d E:List Nat) (Z:pick l.toArray d=l1)
  (O:(d.all (fun i=>decide (i<l.length))&&DS P true l.toArray tab d&&D.all (fun r=>d.all fun y=>match l.toArray[r]?,l.toArray[y]? with
   | some q,some M=>!Bq q.op||!eff P true M||Bl tab r y
   | _,_=>true)&&EH l.toArray d)=true)
  (h:∀Qf:Bo,(∀a w,fineT l.toArray d a=true/\C2 P l.toArray tab Q (d++D) E a w->Qf .normal a w)->wpList P l.toArray Qf l1 a w):C2 P l.toArray tab Q D (d++E) a w:=by
 simp only [Bool.and_eq_true,List.all_eq_true] at O;obtain⟨⟨⟨U,V⟩,W⟩,G⟩:=O;simp only [EH,Bool.and_eq_true,List.all_eq_true] at G;refine LY (ib:=true) (bef:=Bl tab) (Qf:=postN fun a w=>fineT l.toArray d a=true/\C2 P l.toArray tab Q (d++D) E a w) d (NoQ.postN _) E d _ a w (fun _ j=>j) (fun i C=>by simpa using U i C) (GE V) ?_ ?_ ?_ (by rw [Z]; exact h _ fun _ _ x=>x)
 ·intro r q hr hq a2 y J M a4 he;have:=W r hr y J;rw [hq,a4] at this;simp only [a2,he,Bool.not_true,Bool.or_false,Bool.false_or] at this;simpa using this
 ·intro a w j;have I:=j.2;unfold C2 at I;have e:(fun k=>k∈d++D)=(fun k=>k∈d\/k∈D):=by funext k; simp
  rw [e] at I;exact I
 ·exact fun _=>⟨fun a w h=>h.1,fun x j o ho C=>by have:=G.1 x j; rw [ho] at this; dsimp only at this; rw [C] at this; simpa using this,(F5 _ G.2).imp fun {x y} hxy ox M j J C=>by
   rw [j,J] at hxy; dsimp only at hxy; rw [C] at hxy; simpa using hxy⟩
theorem R8 {l:List Oper} {o:Oper} {tab D:List Nat} (i:Nat) (T:List Nat) (j:List Nat) (G:l.toArray[i]?=some o)
  (d:(D.all (fun r=>match l.toArray[r]? with
   | some q=>!Bq q.op||Bl tab r i||j.contains r
   | none=>true)&&!intOp o.op)=true)
  (h:∀Qf:Bo,(∀b w',(∀r∈j,∀q,l.toArray[r]?=some q->C3 P l.toArray q b w w')/\C2 P l.toArray tab Q (i::D) T b w'->Qf .normal b w')->wpList P l.toArray Qf [o] a w):C2 P l.toArray tab Q D (i::T) a w:=by
 simp only [Bool.and_eq_true,List.all_eq_true,Bool.not_eq_true'] at d;obtain⟨d,E⟩:=d;refine IE G j T (by rw [E]; rfl) (fun r q J I C y=>?_) ?_
 ·have:=d r J;rw [I] at this;simp only [C,y,Bool.not_true,Bool.false_or] at this;simpa using this
 ·have:=h (postN fun b w'=>(∀r∈j,∀q,l.toArray[r]?=some q->C3 P l.toArray q b w w')/\C2 P l.toArray tab Q (i::D) T b w') fun _ _ x=>x;have e:(fun k=>k∈i::D)=(fun k=>k=i\/k∈D):=by funext k; simp
  unfold C2 at this;rw [e] at this;exact this
theorem restI_end {l:List Oper} {tab D:List Nat} (h:Q .normal a w):C2 P l.toArray tab Q D [] a w:=h
end
end Reg
end Go.Proofs.YtfcfpoemojjglaaGreatDoor
namespace Go.Proofs.YtfcfpoemojjglaaGreatDoor
namespace Reg
section
variable {P:Program} {Q:Bo} {id:Nat} {a:Act} {w:World}
theorem cI {l:List Oper} (tab T:List Nat) (h:C2 P l.toArray tab Q [] T a w.drew) (d:chk P true l.toArray tab T=true:=by kernel_rfl) (hQ:NoQ Q:=by repeat (first | exact Reg.NoQ.body (fun _ _ h=>h) (fun _ h=>h) | refine Reg.NoQ.then ?_ | refine Reg.NoQ.inBlock ?_)):(Code.region id l.toArray true).wp P Q a w:=region_cutI tab T d hQ h
theorem cC {l:List Oper} (tab T:List Nat) (h:CB P l.toArray tab Q [] T a w.drew) (d:chk P false l.toArray tab T=true:=by kernel_rfl) (hQ:NoQ Q:=by repeat (first | exact Reg.NoQ.body (fun _ _ h=>h) (fun _ h=>h) | refine Reg.NoQ.then ?_ | refine Reg.NoQ.inBlock ?_)):(Code.region id l.toArray true).wp P Q a w:=R0 tab T d hQ h
theorem cP {l:List Oper} (tab:List Nat) (h:wpList P l.toArray Q l a w.drew) (d:(chk P false l.toArray tab (List.range l.length)&&DS P false l.toArray tab (List.range l.length))=true:=by kernel_rfl) (hQ:NoQ Q:=by repeat (first | exact Reg.NoQ.body (fun _ _ h=>h) (fun _ h=>h) | refine Reg.NoQ.then ?_ | refine Reg.NoQ.inBlock ?_)):(Code.region id l.toArray true).wp P Q a w:=aCh tab d hQ h
theorem cN {l:List Oper} (tab:List Nat) (h:∀Qf:Bo,(∀a w,FQ l.toArray a=true/\Q .normal a w->Qf .normal a w)->wpList P l.toArray Qf l a w.drew) (d:(chk P true l.toArray tab (List.range l.length)&&DS P true l.toArray tab (List.range l.length)&&EH l.toArray (List.range l.length))=true:=by kernel_rfl) (hQ:NoQ Q:=by repeat (first | exact Reg.NoQ.body (fun _ _ h=>h) (fun _ h=>h) | refine Reg.NoQ.then ?_ | refine Reg.NoQ.inBlock ?_)):(Code.region id l.toArray true).wp P Q a w:=R4 tab d hQ h
theorem wI {l l1:List Oper} {tab D:List Nat} (d j:List Nat) (E:pick l.toArray d=l1)
  (h:∀Qf:Bo,(∀a w,fineT l.toArray d a=true/\C2 P l.toArray tab Q (d++D) j a w->Qf .normal a w)->wpList P l.toArray Qf l1 a w)
  (C:(d.all (fun i=>decide (i<l.length))&&DS P true l.toArray tab d&&D.all (fun r=>d.all fun y=>match l.toArray[r]?,l.toArray[y]? with
   | some q,some oy=>!Bq q.op||!eff P true oy||Bl tab r y
   | _,_=>true)&&EH l.toArray d)=true:=by kernel_rfl):C2 P l.toArray tab Q D (d++j) a w:=R9 d j E C h
theorem aI {l:List Oper} {o:Oper} {tab D:List Nat} (i:Nat) (T:List Nat) (d:List Nat) (y:l.toArray[i]?=some o)
  (h:∀Qf:Bo,(∀b w',(∀r∈d,∀q,l.toArray[r]?=some q->C3 P l.toArray q b w w')/\C2 P l.toArray tab Q (i::D) T b w'->Qf .normal b w')->wpList P l.toArray Qf [o] a w)
  (j:(D.all (fun r=>match l.toArray[r]? with
   | some q=>!Bq q.op||Bl tab r i||d.contains r
   | none=>true)&&!intOp o.op)=true:=by kernel_rfl):C2 P l.toArray tab Q D (i::T) a w:=R8 i T d y j h
end
theorem nm {α:Type} {q:α->Prop}:∀r∈([]:List α),q r:=fun _ d=>absurd d List.not_mem_nil
end Reg
theorem gT {α:Type} {l:List α} {i:Nat} (h:i<l.toArray.size):l.toArray[i]=l[i]'(by simpa using h):=List.getElem_toArray h
theorem gS {α:Type} {a:α} {l:List α} {i:Nat} (h:i+1<(a::l).length):(a::l)[i+1]=l[i]'(Nat.lt_of_succ_lt_succ h):=rfl
theorem gZ {α:Type} {a:α} {l:List α} (h:0<(a::l).length):(a::l)[0]=a:=rfl
end Go.Proofs.YtfcfpoemojjglaaGreatDoor
namespace Go.Proofs.YtfcfpoemojjglaaGreatDoor
open Go.RowKit
def Sl {D:Type} (w:World) (B sz:Nat) (enc:D->Nat->Value) (A:Option Addr) (ds:List D):Prop:=
 ds.length<=9223372036854775807/\(ds≠[]->∃b off,A=some ⟨b,off,none⟩/\b<B/\∀k d,ds[k]?=some d->∀j,j<sz->w.cell? ⟨b,off+k*sz+j,none⟩=some (enc d j))
section
variable {D:Type} {w w':World} {B B' sz:Nat} {enc:D->Nat->Value} {A:Option Addr} {ds:List D}
theorem Sl.nil (h:ds=[]):Sl w B sz enc A ds:=by subst h; exact⟨by simp,fun h=>absurd rfl h⟩
theorem Sl.at (h:Sl w B sz enc A ds) {k:Nat} (y:k<ds.length):
  ∃b l d,A=some ⟨b,l,none⟩/\b<B/\ds[k]?=some d/\∀j,j<sz->w.cell? ⟨b,l+k*sz+j,none⟩=some (enc d j):=by
 obtain⟨b,l,e,C,E⟩:=h.2 (by rintro rfl; simp at y);exact⟨b,l,ds[k],e,C,List.getElem?_eq_getElem y,fun j G=>E k _ (List.getElem?_eq_getElem y) j G⟩
theorem Sl.keep (h:Sl w B sz enc A ds) (G:∀p:Addr,p.block<B->w'.cell? p=w.cell? p) (M:B<=B'):Sl w' B' sz enc A ds:=
 ⟨h.1,fun I=>by
  obtain⟨b,J,e,l,y⟩:=h.2 I;exact⟨b,J,e,by omega,fun k d C j E=>(G _ l).trans (y k d C j E)⟩⟩
theorem Sl.below (h:Sl w B sz enc A ds) (d:Below B w w'):Sl w' B sz enc A ds:=h.keep (fun _ j=>d.cell j) (Nat.le_refl _)
theorem Sl.mono (h:Sl w B sz enc A ds) (d:B<=B'):Sl w B' sz enc A ds:=h.keep (fun _ _=>rfl) d
end
def Ai (x:Int) (_:Nat):Value:=.int .i64 x
def DH (x:Bool) (_:Nat):Value:=.bool x
theorem hide {p:Prop} (h:p):Hid p:=h
theorem GT (fn:Fn) (first d:Array Value) (w:World):(Instr.makeFunc fn first d).run Tryz.prog w=.ok (.func fn first d) w:=rfl
def I3 (f:Value) (args:Array Value):Sem Next:=do
 let d <-Deferred.ofValue f args
 invoke d.target d.args
end Go.Proofs.YtfcfpoemojjglaaGreatDoor
namespace Go.Proofs.YtfcfpoemojjglaaGreatDoor
open Go.RowKit
def Bw (w:World) (g:Nat) (ks:List Value):Prop:=
 ∃es clock,w.heap[g]?=some (.map es clock)/\es.toList.map (·.key)=ks/\es.toList.map (·.val)=(List.range ks.length).map fun(i:Nat)=>Value.int .i64 (i:Int)
theorem Bw.keep {w w':World} {g:Nat} {d:List Value} (h:Bw w g d) (C:w'.heap[g]?=w.heap[g]?):Bw w' g d:=by
 obtain⟨es,j,l,y⟩:=h;exact⟨es,j,by rw [C]; exact l,y⟩
theorem Bw.lt {w:World} {g:Nat} {j:List Value} (h:Bw w g j):g<w.heap.size:=by
 obtain⟨es,l,d,y⟩:=h;exact(Array.getElem?_eq_some_iff.1 d).1
theorem Bw.made (w:World):Bw (w.alloc (.map #[] 0)) w.heap.size []:=⟨#[],0,heap_alloc_new w _,rfl,rfl⟩
structure El {S:Type} [DecidableEq S] (P:Program) (K:TypeId) (enc:S->Value):Prop where
 check:∀em w s,(Instr.checkKey em 10000 K (enc s)).run P w=.ok () w
 find:∀w s (es:List MapEntry) (l:List S),es.map (·.key)=l.map enc->
  (Instr.findKey K (enc s) es).run P w=.ok (if s∈l then some (l.idxOf s,((es[l.idxOf s]?).map (·.val)).getD .nilFunc) else none) w
section
variable {S:Type} [DecidableEq S] {P:Program} {K:TypeId}
theorem PZ (q:IntKind) (f:S->Int) (E:∀a b,f a=f b->a=b) (s:S) (es:List MapEntry):∀(l:List S) (i:Nat),es.map (·.key)=l.map (fun s=>Value.int q (f s))->
  Instr.findNow (.int q) (.int q (f s)) es i=some (if s∈l then some (i+l.idxOf s,((es[l.idxOf s]?).map (·.val)).getD .nilFunc) else none):=by
 induction es with
 | nil=>
  intro l i h;have:l=[]:=by cases l <;> simp_all
  subst this;simp [Instr.findNow]
 | cons e es ih=>
  intro l i h;cases l with
  | nil=>simp at h
  | cons t l=>
   simp only [List.map_cons,List.cons.injEq] at h;obtain⟨y,C⟩:=h;unfold Instr.findNow;rw [y];simp only [Instr.sameNow,if_true];by_cases d:s=t
   ·subst d;simp
   ·have I:(f s==f t)=false:=by simpa using fun e=>d (E _ _ e)
    rw [I];dsimp only;rw [ih l (i+1) C];have G:(t::l).idxOf s=l.idxOf s+1:=by
     rw [List.idxOf_cons];have:(t==s)=false:=by simpa using fun e=>d e.symm
     rw [this]; rfl
    by_cases j:s∈l
    ·simp only [j,G,List.mem_cons,or_true,if_true,List.getElem?_cons_succ,Option.some.injEq,Prod.mk.injEq,and_true]; omega
    ·simp [j,d]
theorem QK (q:IntKind) (d:P.underlying K=some (.int q)) (f:S->Int) (j:∀a b,f a=f b->a=b):El P K (fun s=>Value.int q (f s)) where
 check:=fun y w s=>by
  rw [show(10000:Nat)=9999+1 from rfl];unfold Instr.checkKey;simp [run_underlying d]
 find:=fun w s es l h=>by
  unfold Instr.findKey;simp only [Sem.run_bind,run_underlying d,Result.andThen_ok];rw [PZ q f j s es l 0 h];simp
theorem IY (a b:ByteArray):(a==b)=(a.data==b.data):=rfl
theorem Mw (a:ByteArray):(a==a)=true:=by rw [IY]; simp
theorem Mu {a b:ByteArray} (h:a≠b):(a==b)=false:=by rw [IY]; simp; intro e; exact h (ByteArray.ext e)
theorem P0 (f:S->ByteArray) (G:∀a b,f a=f b->a=b) (s:S) (es:List MapEntry):∀(l:List S) (i:Nat),es.map (·.key)=l.map (fun s=>Value.string (f s))->
  Instr.findNow .string (.string (f s)) es i=some (if s∈l then some (i+l.idxOf s,((es[l.idxOf s]?).map (·.val)).getD .nilFunc) else none):=by
 induction es with
 | nil=>
  intro l i h;have:l=[]:=by cases l <;> simp_all
  subst this;simp [Instr.findNow]
 | cons e es ih=>
  intro l i h;cases l with
  | nil=>simp at h
  | cons t l=>
   simp only [List.map_cons,List.cons.injEq] at h;obtain⟨y,C⟩:=h;unfold Instr.findNow;rw [y];simp only [Instr.sameNow];by_cases d:s=t
   ·subst d;have E:(f s==f s)=true:=Mw _;rw [E];simp
   ·have J:(f s==f t)=false:=Mu fun e=>d (G _ _ e);rw [J];dsimp only;rw [ih l (i+1) C];have I:(t::l).idxOf s=l.idxOf s+1:=by
     rw [List.idxOf_cons];have:(t==s)=false:=by simpa using fun e=>d e.symm
     rw [this]; rfl
    by_cases j:s∈l
    ·simp only [j,I,List.mem_cons,or_true,if_true,List.getElem?_cons_succ,Option.some.injEq,Prod.mk.injEq,and_true]; omega
    ·simp [j,d]
theorem QL (d:P.underlying K=some .string) (f:S->ByteArray) (j:∀a b,f a=f b->a=b):El P K (fun s=>Value.string (f s)) where
 check:=fun y w s=>by
  rw [show(10000:Nat)=9999+1 from rfl];unfold Instr.checkKey;simp [run_underlying d]
 find:=fun w s es l h=>by
  unfold Instr.findKey;simp only [Sem.run_bind,run_underlying d,Result.andThen_ok];rw [P0 f j s es l 0 h];simp
theorem JE {es:Array MapEntry} {n i:Nat} (h:es.toList.map (·.val)=(List.range n).map fun(i:Nat)=>Value.int .i64 (i:Int)) (d:i<n):((es.toList[i]?).map (·.val)).getD .nilFunc=.int .i64 (i:Int):=by
 have:(es.toList.map (·.val))[i]?=some (Value.int .i64 (i:Int)):=by rw [h]; simp [d]
 rw [List.getElem?_map] at this;rw [this]; rfl
theorem Ft {enc:S->Value} (j:El P K enc) {T E:TypeId} (M:P.underlying T=some (.map K E)) (J:∀w,(zeroValue E).run P w=.ok (.int .i64 0) w) {w:World} {g:Nat} {l:List S}
  (h:Bw w g (l.map enc)) (s:S):
  (Instr.lookup T (.map (some g)) (enc s) true).run P w=.ok (.tuple #[.int .i64 (if s∈l then (l.idxOf s:Int) else 0),.bool (decide (s∈l))]) w:=by
 obtain⟨es,y,C,G,I⟩:=h;have U:(getObj g).run P w=.ok (.map es y) w:=by simp [getObj,Sem.run,C]
 have O:=j.find w s es.toList l G;unfold Instr.lookup;simp only [Sem.run_bind,run_underlying M,Result.andThen_ok,U,Sem.run_pure,j.check,O];by_cases d:s∈l
 ·simp only [d,if_true,decide_true];rw [JE I (by rw [List.length_map]; exact List.idxOf_lt_length_of_mem d)];rfl
 ·simp only [d,if_false,Result.andThen_ok,Sem.run_bind,J,Sem.run_pure,decide_false,if_true]
theorem EY {enc:S->Value} (y:El P K enc) {T E:TypeId} (J:P.underlying T=some (.map K E)) {w:World} {g:Nat} {l:List S}
  (h:Bw w g (l.map enc)) (s:S) (V:s∉l):
  ∃w',(Instr.mapUpdate T (.map (some g)) (enc s) (.int .i64 (l.length:Int))).run P w=.ok () w'/\Bw w' g ((l++[s]).map enc)/\w.grownBy w' (some g)/\w'.heap.size=w.heap.size:=by
 obtain⟨es,d,j,C,I⟩:=h;have M:(getObj g).run P w=.ok (.map es d) w:=by simp [getObj,Sem.run,j]
 have G:=y.find w s es.toList l C;rw [if_neg V] at G;have O:g<w.heap.size:=(Array.getElem?_eq_some_iff.1 j).1;have W:∀o:Obj,(setObj g o).run P w=.ok () { w with heap:=w.heap.setIfInBounds g o }:=fun o=>by
  simp [setObj,Sem.run,j]
 refine⟨{ w with heap:=w.heap.setIfInBounds g (.map (es.push { key:=enc s,val:=.int .i64 (l.length:Int),born:=d }) (d+1)) },?_,
  ⟨es.push { key:=enc s,val:=.int .i64 (l.length:Int),born:=d },d+1,?_,?_,?_⟩,⟨rfl,rfl,rfl,by simp,fun k y U=>?_⟩,by simp⟩
 ·unfold Instr.mapUpdate;simp only [Sem.run_bind,run_underlying J,Result.andThen_ok,M,y.check,G,W]
 ·simp [O]
 ·simp [C]
 ·simp only [Array.toList_push,List.map_append,I,List.map_cons,List.map_nil,List.length_append,List.length_cons,List.length_nil,List.length_map];rw [List.range_succ];simp
 ·have:k≠g:=fun e=>U (by rw [e]);simp [Array.getElem?_setIfInBounds_ne (fun e=>this e.symm)]
end
end Go.Proofs.YtfcfpoemojjglaaGreatDoor
namespace Go.Proofs.YtfcfpoemojjglaaGreatDoor
open Go.RowKit
def Ret (V:Value->World->Prop):Ending->World->Prop
 | .returned v,w=>V v w
 | _,_=>False
theorem Calls.ret {P:Program} {f:FuncId} {args:Array Value} {w:World} {V:Value->World->Prop} {K:Ending->World->Prop} (h:Calls P f args w (Ret V)) (j:∀v w',V v w'->K (.returned v) w'):Calls P f args w K:=
 h.mono fun e w' d=>by
  cases e with
  | returned v=>exact j v w' d
  | panicked c=>exact d.elim
  | outgrown=>exact d.elim
structure Ac (w w':World) (X:Nat->Prop):Prop where
 os:w'.os=w.os
 tape:w'.tape=w.tape
 output:w'.output=w.output
 size:w.heap.size<=w'.heap.size
 block:∀k,k<w.heap.size->¬X k->w'.heap[k]?=w.heap[k]?
section
variable {w w' w'':World} {X Y:Nat->Prop}
theorem Ac.refl (w:World) (X:Nat->Prop):Ac w w X:=⟨rfl,rfl,rfl,Nat.le_refl _,fun _ _ _=>rfl⟩
theorem Ac.trans (h:Ac w w' X) (k:Ac w' w'' Y) (l:∀b,b<w.heap.size->Y b->X b):Ac w w'' X:=
 ⟨k.os.trans h.os,k.tape.trans h.tape,k.output.trans h.output,Nat.le_trans h.size k.size,
  fun b d j=>(k.block b (Nat.lt_of_lt_of_le d h.size) fun y=>j (l b d y)).trans (h.block b d j)⟩
theorem Ac.mono (h:Ac w w' X) (j:∀b,b<w.heap.size->X b->Y b):Ac w w' Y:=⟨h.os,h.tape,h.output,h.size,fun b d l=>h.block b d fun y=>l (j b d y)⟩
theorem Ac.of_below (h:Below w.heap.size w w') (X:Nat->Prop):Ac w w' X:=⟨h.os,h.tape,h.output,h.size,fun b d _=>h.block b d⟩
theorem Ac.of_grown {row:Option Nat} (h:w.grownBy w' row):Ac w w' (fun b=>row=some b):=⟨h.os,h.tape,h.output,h.size,fun b d j=>h.block b d fun e=>j e.symm⟩
theorem Ac.drew (h:Ac w w' X):Ac w w'.drew X:=⟨h.os,h.tape,h.output,h.size,h.block⟩
theorem Ac.drewN (h:Ac w w' X) (n:Nat):Ac w (w'.drewN n) X:=⟨h.os,h.tape,h.output,h.size,h.block⟩
theorem Ac.alloc (h:Ac w w' X) (o:Obj):Ac w (w'.alloc o) X:=
 ⟨h.os,h.tape,h.output,Nat.le_trans h.size (by simp),fun b d j=>(Below.heap_alloc _ _ _ (Nat.lt_of_lt_of_le d h.size)).trans (h.block b d j)⟩
theorem Ac.setCell (h:Ac w w' X) {p:Addr} (l:p.block<w.heap.size->X p.block) (u:Value):Ac w (w'.setCell p u) X:=
 ⟨h.os,h.tape,h.output,by simpa [World.setCell] using h.size,fun b d j=>(Below.heap_setCell _ _ _ _ (fun e=>j (by subst e; exact l d))).trans (h.block b d j)⟩
theorem Ac.below (h:Ac w w' X) {B:Nat} (l:B<=w.heap.size) (d:∀b,b<B->¬X b):Below B w w':=⟨h.os,h.tape,h.output,h.size,fun b j=>h.block b (by omega) (d b j)⟩
theorem Ac.below' (h:Ac w w' X) (d:∀b,b<w.heap.size->¬X b):Below w.heap.size w w':=h.below (Nat.le_refl _) d
theorem Ac.same (h:Ac w w' X) {o:Obj} {b:Nat} (d:w.heap[b]?=some o) (j:¬X b):w'.heap[b]?=some o:=by
 rw [h.block b (Array.getElem?_eq_some_iff.1 d).1 j]; exact d
theorem Ac.cell (h:Ac w w' X) {p:Addr} (d:p.block<w.heap.size) (j:¬X p.block):w'.cell? p=w.cell? p:=World.cell?_of_block (h.block p.block d j)
theorem Ac.ownsRow (h:Ac w w' X) {base n size:Nat} {e:TypeId} {v:Value} {xs:List Value} (d:w.ownsRow base e size v n xs) (E:∀g,v.ownBlock=some g->¬X g):w'.ownsRow base e size v n xs:=by
 refine⟨d.1,?_⟩;rcases d.2 with G | ⟨g,j,l,rfl,y,C,rest⟩
 ·exact .inl G
 ·exact .inr ⟨g,j,l,rfl,y,h.same C (E g rfl),rest⟩
end
def Blk (w:World) (g:Nat) (t:TypeId) (cs:Array Value):Prop:=w.heap[g]?=some (.cells cs t (0,0))
section
variable {w w':World} {g:Nat} {t:TypeId} {cs:Array Value} {X:Nat->Prop}
theorem Blk.lt (h:Blk w g t cs):g<w.heap.size:=(Array.getElem?_eq_some_iff.1 h).1
theorem Blk.cell (h:Blk w g t cs) (i:Nat):w.cell? ⟨g,i,none⟩=cs[i]?:=cell_of_row w g i cs t (0,0) h
theorem Blk.frozen (h:Blk w g t cs) (i:Nat):w.frozen? ⟨g,i,none⟩=false:=by
 unfold Blk at h;simp [World.frozen?,h]
theorem Blk.new (w:World) (t:TypeId) (cs:Array Value):Blk (w.alloc (.cells cs t)) w.heap.size t cs:=heap_alloc_new w _
theorem Blk.set_ (h:Blk w g t cs) (i:Nat) (u:Value):Blk (w.setCell ⟨g,i,none⟩ u) g t (cs.setIfInBounds i u):=by
 unfold Blk at h ⊢;simp [World.setCell,Array.getElem?_modify,h]
theorem Blk.kept (h:Blk w g t cs) (d:Ac w w' X) (j:¬X g):Blk w' g t cs:=d.same h j
theorem Blk.ne_ {j:Nat} {l:TypeId} {y:Array Value} (h:Blk w g t cs) (d:Blk w j l y) (C:t≠l):g≠j:=by
 rintro rfl;unfold Blk at h d;rw [h] at d;injection d with d
 injection d with _ ht
 exact C ht
theorem Aw {base size n:Nat} {e:TypeId} {v:Value} {xs:List Value} (h:w.ownsRow base e size v n xs) (j:Blk w g t cs) (y:e≠t):v.ownBlock≠some g:=by
 rcases h.2 with⟨rfl,_⟩ | ⟨d,C,E,rfl,_,l,_⟩
 ·simp [Value.ownBlock]
 ·intro he;have:d=g:=by simpa [Value.ownBlock] using he
  subst this;exact Blk.ne_ (t:=e) l j y rfl
theorem Di {base size n:Nat} {e:TypeId} {v:Value} {xs:List Value} {C:List Value} (h:w.ownsRow base e size v n xs) (l:Bw w g C):v.ownBlock≠some g:=by
 rcases h.2 with⟨rfl,_⟩ | ⟨j,E,I,rfl,_,y,_⟩
 ·simp [Value.ownBlock]
 ·intro he;have:j=g:=by simpa [Value.ownBlock] using he
  subst this;obtain⟨es,G,d,_⟩:=l;rw [y] at d; cases d
theorem BT {d:Nat} {y:List Value} (h:Blk w g t cs) (l:Bw w d y):g≠d:=by
 rintro rfl;obtain⟨es,C,j,_⟩:=l;unfold Blk at h;rw [h] at j; cases j
theorem Bw.kept {d:List Value} (h:Bw w g d) (j:Ac w w' X) (l:¬X g):Bw w' g d:=h.keep (j.block g h.lt l)
end
def BJ (w:World) (v v':Value):Prop:=v'.ownBlock=v.ownBlock\/∃g,v'.ownBlock=some g/\w.heap.size<=g
theorem BJ.refl (w:World) (v:Value):BJ w v v:=.inl rfl
structure Dd (P:Program) (t e:TypeId) (size:Nat):Prop where
 ht:P.underlying t=some (.slice e)
 info:∃i z bytes,P.info? e=some i/\i.zero=some z/\i.size=size/\i.bytes=bytes/\z.cells.size=size/\bytes<=200
 pos:0<size
theorem EX {P:Program} {t e size bytes:Nat} {z:Value} (ht:P.underlying t=some (.slice e)) (C:(P.info? e).map (fun i=>(i.zero,i.size,i.bytes))=some (some z,size,bytes)) (G:z.cells.size=size) (y:bytes<=200) (E:0<size):Dd P t e size:=by
 obtain⟨i,d,h,j,l⟩:=info_parts C;exact⟨ht,⟨i,z,bytes,d,h,j,l,G,y⟩,E⟩
theorem AH {w:World} {base e size n:Nat} {v:Value} {xs:List Value} (h:w.ownsRow base e size v n xs):∃A c,v=.slice A n c:=by
 rcases h.2 with⟨rfl,d⟩ | ⟨g,j,l,rfl,_⟩
 ·exact⟨none,0,by rw [d]⟩
 ·exact⟨_,_,rfl⟩
section
variable {P:Program} {ops:Array Oper} {rest:List Oper} {o:Oper} {a:Act} {Q:Exit->Act->World->Prop}
theorem G9 {w:World} {t e size:Nat} (R:Dd P t e size) (W:o.guard=none) (s x:Operand)
  (ho:o.op=.call { callee:=.builtin .append,args:=#[s,x],argTypes:=#[t,t] })
  (base:Nat) (v:Value) (n:Nat) (xs:List Value) (hs:a.eval s=v) (a7:w.ownsRow base e size v n xs)
  (E:Addr) (m c:Nat) (C:List Value) (hx:a.eval x=.slice (some E) m c) (hl:C.length=m*size) (a5:∀j u,C[j]?=some u->w.cell? (E.add j)=some u) (M:∀u∈C,u.oneCell'=true)
  (hm:0<m) (G:n+m<=4000000) (U:base<=w.heap.size)
  (h:∀g d w',w'.ownsRow base e size (.slice (some ⟨g,0,none⟩) (n+m) d) (n+m) (xs++C)->Ac w w' (fun k=>v.ownBlock=some k)->BJ w v (.slice (some ⟨g,0,none⟩) (n+m) d)->g<w'.heap.size->
   wpList P ops Q rest (a.put o.dst (.slice (some ⟨g,0,none⟩) (n+m) d)) w'):
  wpList P ops Q (o::rest) a w:=by
 obtain⟨i,z,bytes,hi,hz,a9,V,ae,O⟩:=R.info;refine wpList_append_own_at w W s x t ho base e i z size bytes R.ht hi hz a9 V ae R.pos v n xs hs a7 E m c C hx hl a5 M (by unfold maxLen; omega) ?_ U ?_
 ·exact Nat.le_trans (Nat.mul_le_mul G O) (by decide)
 ·intro v' w' I y ai l;rcases I.2 with⟨rfl,J⟩ | ⟨g,d,af,rfl,ag,Z,_⟩
  ·exact absurd J (by omega)
  ·refine h g d w' I ?_ ?_ (Array.getElem?_eq_some_iff.1 Z).1
   ·exact⟨y.os,y.tape,y.output,y.size,fun k hk G=>y.block k hk fun e=>G e.symm⟩
   ·rcases l with l | l
    ·exact .inl l
    ·exact .inr ⟨_,l,Nat.le_refl _⟩
theorem BP {w:World} {t e size:Nat} (R:Dd P t e size) (M:o.guard=none) (s x:Operand)
  (Z:o.op=.call { callee:=.builtin .append,args:=#[s,x],argTypes:=#[t,t] })
  (base:Nat) (v:Value) (n:Nat) (xs:List Value) (hs:a.eval s=v) (a2:w.ownsRow base e size v n xs) (cs:List Value) (c:Nat)
  (hx:a.eval x=.slice (some ⟨w.heap.size,0,none⟩) 1 c) (V:cs.length=size) (C:∀u∈cs,u.oneCell'=true)
  (W:n+1<=4000000) (a6:base<=w.heap.size)
  (h:∀g d w',w'.ownsRow base e size (.slice (some ⟨g,0,none⟩) (n+1) d) (n+1) (xs++cs)->Ac w w' (fun k=>v.ownBlock=some k)->BJ w v (.slice (some ⟨g,0,none⟩) (n+1) d)->g<w'.heap.size->
   wpList P ops Q rest (a.put o.dst (.slice (some ⟨g,0,none⟩) (n+1) d)) w'):
  wpList P ops Q (o::rest) a (w.alloc (.cells cs.toArray e)):=by
 refine G9 R M s x Z base v n xs hs (a2.alloc _) ⟨w.heap.size,0,none⟩ 1 c cs hx (by rw [V]; omega) ?_ C (by omega) W (by simp; omega) ?_
 ·intro j u O;have E:(⟨w.heap.size,0,none⟩:Addr).add j=⟨w.heap.size,j,none⟩:=by unfold Addr.add; split <;> simp_all
  rw [E,cell_of_row _ w.heap.size j cs.toArray e (0,0) (heap_alloc_new w _)];simpa using O
 ·intro g d w' a3 U l I;refine h g d w' a3 (((Ac.refl w (fun k=>v.ownBlock=some k)).alloc (.cells cs.toArray e)).trans U fun b _ G=>G) ?_ I;rcases l with l | ⟨y,l,J⟩
  ·exact .inl l
  ·refine .inr ⟨y,l,?_⟩;simp at J;omega
end
end Go.Proofs.YtfcfpoemojjglaaGreatDoor
