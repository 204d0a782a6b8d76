/-
  Part PA of a proof.
-/
import Derived.WalkKit
import Derived.Laws.Panics
import Derived.Deep.MidRow
import Derived.Test.YtjejejmeddkciaaGreatDoorRows
import Derived.WalkSpells
import Derived.WalkLawsBesides
import Derived.Lib.Hide
import Derived.Deep.AppendLies
import Derived.Deep.Draws
import Derived.Deep.LoopGhost
import Derived.Deep.QuietTactic
import Derived.BigQuiet
import Derived.BigCall
import Derived.Maps.AppendAt
set_option maxHeartbeats 16000000
set_option maxRecDepth 100000
set_option linter.unusedVariables false
set_option linter.unusedSimpArgs false
namespace Go.Proofs.YtjejejmeddkciaaGreatDoor
namespace Reg
def Ext (w w':World):Prop:=∀k,k<w.heap.size->w'.heap[k]?=w.heap[k]?
theorem Ext.refl (w:World):Ext w w:=fun _ _=>rfl
theorem Ext.some {w w':World} (h:Ext w w') {k:Nat} {o:Obj} (C:w.heap[k]?=some o):w'.heap[k]?=some o:=by
 rw [h k (Array.getElem?_eq_some_iff.1 C).1];exact C
def Ag {α:Type} (P:Program) (s:Sem α):Prop:=(∃v,∀w,s.run P w=.ok v w)\/(∀w,∃h w',s.run P w=.halt h w')
section
variable {α β:Type} {P:Program}
theorem Ag.pure (v:α):Ag P (Pure.pure v:Sem α):=.inl ⟨v,fun _=>rfl⟩
theorem Ag.halt (h:Halt):Ag P (Sem.halt h:Sem α):=.inr fun w=>⟨h,w,rfl⟩
theorem Ag.haltBind (h:Halt) (f:α->Sem β):Ag P (Sem.halt h >>=f):=.inr fun w=>⟨h,w,rfl⟩
theorem Ag.stuckBind (s:String) (f:α->Sem β):Ag P (Go.stuck s >>=f):=Ag.haltBind _ f
theorem Ag.stuck (s:String):Ag P (Go.stuck s:Sem α):=Ag.halt _
theorem Ag.unsupported (s:Unsupported):Ag P (Go.unsupported s:Sem α):=Ag.halt _
theorem Ag.bind {s:Sem α} {f:α->Sem β} (G:Ag P s) (F:∀v,Ag P (f v)):Ag P (s >>=f):=by
 rcases G with⟨v,E⟩|C
 ·rcases F v with⟨u,I⟩|C
  ·exact .inl ⟨u,fun w=>by rw [Sem.run_bind,E];exact I w⟩
  ·exact .inr fun w=>by rw [Sem.run_bind,E];exact C w
 ·exact .inr fun w=>by
   obtain⟨h,w',e⟩:=C w;exact⟨h,w',by rw [Sem.run_bind,e];rfl⟩
theorem Ag.program {f:Program->Sem β} (h:Ag P (f P)):Ag P (Go.program >>=f):=by
 rcases h with⟨u,E⟩|C
 ·exact .inl ⟨u,fun w=>by rw [Sem.run_bind,run_program];exact E w⟩
 ·exact .inr fun w=>by rw [Sem.run_bind,run_program];exact C w
theorem Ag.ite {c:Prop} [Decidable c] {x y:Sem α} (h:Ag P x) (C:Ag P y):Ag P (if c then x else y):=by
 split
 ·exact h
 ·exact C
theorem Ag.boundsPanic (k:IntKind) (x y:Int) (C:BoundsCode):Ag P (Go.boundsPanic k x y C:Sem α):=.inr fun w=>by
 obtain⟨s,w',h⟩:=run_boundsPanic (α:=α) (P:=P) (w:=w) k x y C;exact⟨_,w',h⟩
theorem Ag.underlying (t:TypeId):Ag P (Go.underlying t):=by
 unfold Go.underlying;refine Ag.program ?_;split
 ·exact Ag.pure _
 ·exact Ag.stuck _
theorem Ag.typeInfo (t:TypeId):Ag P (Go.typeInfo t):=by
 unfold Go.typeInfo;refine Ag.program ?_;split
 ·exact Ag.pure _
 ·exact Ag.stuck _
theorem Ag.sizeOf (t:TypeId):Ag P (Go.sizeOf t):=Ag.bind (Ag.typeInfo t) fun _=>Ag.pure _
theorem Ag.nilDeref:Ag P (Go.runtimePanic .nilDeref:Sem α):=by
 unfold Go.runtimePanic;exact Ag.program (Ag.halt _)
theorem Ag.error (s:String):Ag P (Go.runtimePanic (.error s):Sem α):=by
 unfold Go.runtimePanic;exact Ag.program (Ag.halt _)
theorem Ag.asIntOf (v:Value):Ag P (Go.asIntOf v):=by
 unfold Go.asIntOf;split
 ·exact Ag.pure _
 ·exact Ag.unsupported _
 ·exact Ag.stuck _
theorem Ag.asBool (v:Value):Ag P (Go.asBool v):=by
 unfold Go.asBool;split
 ·exact Ag.pure _
 ·exact Ag.stuck _
theorem Ag.sureAddr (v:Value):Ag P (Instr.sureAddr v):=by
 unfold Instr.sureAddr;split
 ·exact Ag.pure _
 ·exact Ag.stuck _
theorem Ag.ok {s:Sem α} (h:Ag P s) {w F:World} {v:α} (e:s.run P w=.ok v F):F=w/\∀w',s.run P w'=.ok v w':=by
 rcases h with⟨u,C⟩|I
 ·have:=C w;rw [e] at this;injection this with h1 G
  subst h1;subst G;exact⟨rfl,C⟩
 ·obtain⟨x,y,E⟩:=I w;rw [e] at E;cases E
end
def Hp (P:Program) (s:TypeId) (f:Nat):Bool:=
 match P.underlying s with
 | some (.struct fs)=>match fs[f]? with
  | some fl=>match P.info? fl.type with
   | some i=>i.size != 0
   | none=>true
  | none=>true
 | _=>true
def Hx (P:Program) (ts:Array TypeId):Bool:=
 match ts[0]? with
 | some t=>match P.underlying t with
  | some (.slice _)=>true
  | some .string=>true
  | _=>false
 | none=>false
def Gs (P:Program):Op->Bool
 | .move _|.assign _|.pick ..|.extract ..|.makeFunc ..|.unOp ..|.indexAddr ..|.nilCheck _=>true
 | .fieldAddr s _ f=>Hp P s f
 | .call { callee:=.builtin .len,argTypes:=ts,.. }=>Hx P ts
 | _=>false
def intOp:Op->Bool
 | .binOp ..=>true
 | _=>false
def isInt:Value->Bool
 | .int ..=>true
 | _=>false
def intFine (ρ:Operand->Value):Op->Bool
 | .binOp _ _ x y _=>isInt (ρ x)&&isInt (ρ y)
 | _=>true
def D8 (P:Program) (s:Sem Next):Prop:=(∃u,∀w,s.run P w=.ok (.value u) w)\/(∀w,∃h w',s.run P w=.halt h w')
theorem Ag.valueV {P:Program} {s:Sem Value} (h:Ag P s):D8 P (s >>=fun v=>(Pure.pure (Next.value v):Sem Next)):=by
  rcases h with⟨v,E⟩|C
  · exact .inl ⟨v,fun w=>by rw [Sem.run_bind,E];rfl⟩
  · exact .inr fun w=>by
      obtain⟨x,y,e⟩:=C w;exact⟨x,y,by rw [Sem.run_bind,e];rfl⟩
theorem MJ {P:Program} (op:UnOp) (x:Value):Ag P (Op.unary op x):=by
 unfold Op.unary;split
 all_goals first
  | exact Ag.pure _
  | exact Ag.stuck _
  | exact Ag.unsupported _
  | (unfold Op.intArith;split <;> first|exact Ag.pure _|exact Ag.stuck _)
  | (unfold Op.intBits;dsimp only;split <;> first|exact Ag.pure _|exact Ag.stuck _)
theorem MB {P:Program} (t:Value) (i:Nat):Ag P (Instr.extract t i):=by
 unfold Instr.extract;split
 ·split
  ·exact Ag.pure _
  ·exact Ag.stuck _
 ·exact Ag.stuck _
theorem ME {P:Program} (t:TypeId) (x i:Value):Ag P (Instr.indexAt t x i):=by
 unfold Instr.indexAt;refine Ag.bind (Ag.asIntOf i) ?_;rintro⟨k,n⟩;refine Ag.bind (Ag.underlying t) ?_;intro d
 have key:∀(msg:String) (base:Option Addr) (len:Nat) (C:TypeId),Ag P (do
   let h <-Go.underlying t
   have E:Bool:=decide (len<=1)&&(match h with|.array ..=>true|_=>false)
   match base with
   | some a=>
    if 0<=n/\n<(len:Int) then do
     let z <-Go.sizeOf C
     pure (Value.pointer (some (a.add (n.toNat*z))))
    else if E=true then Go.unsupported (.noEntry msg)
    else Go.boundsPanic k n (len:Int) .index
   | none=>Go.boundsPanic k n 0 .index):=by
  intro msg base len C;refine Ag.bind (Ag.underlying t) ?_;intro h;dsimp only;split
  ·exact Ag.ite (Ag.bind (Ag.sizeOf _) fun _=>Ag.pure _) (Ag.ite (Ag.unsupported _) (Ag.boundsPanic _ _ _ _))
  ·exact Ag.boundsPanic _ _ _ _
 dsimp only;split
 ·exact Ag.bind (Ag.sureAddr _) fun a=>key _ (some a) _ _
 ·exact key _ _ _ _
 ·exact Ag.stuckBind _ _
theorem MC {P:Program} (s:TypeId) (x:Value) (f:Nat) (h:Hp P s f=true):Ag P (Instr.fieldAt s x f):=by
 unfold Instr.fieldAt Go.underlying;rw [bind_assoc];refine Ag.program ?_;unfold Hp at h;cases C:P.underlying s with
 | none=>exact Ag.stuckBind _ _
 | some d=>
  rw [C] at h;dsimp only at h ⊢;rw [pure_bind];cases d <;> try exact Ag.stuck _
  rename_i fs;dsimp only at h ⊢;cases E:fs[f]? with
  | none=>exact Ag.stuck _
  | some fl=>
   rw [E] at h;dsimp only at h ⊢;refine Ag.bind (Ag.sureAddr _) ?_;intro a;refine Ag.bind ?_ fun _=>Ag.pure _;unfold fieldPlace Go.sizeOf Go.typeInfo;simp only [bind_assoc];refine Ag.program ?_;cases F:P.info? fl.type with
   | none=>exact Ag.stuckBind _ _
   | some i=>
    rw [F] at h;dsimp only at h ⊢;simp only [pure_bind];have:i.size≠0:=by simpa using h
    rw [if_neg this];exact Ag.pure _
theorem MF {P:Program} (C:Array TypeId) (ty:TypeId) (args:Array Value) (h:Hx P C=true):Ag P (Builtin.len_ C ty args):=by
 unfold Builtin.len_;unfold Hx at h;cases ht:C[0]? with
 | none=>rw [ht] at h;simp at h
 | some t=>
 rw [ht] at h;cases F:args[0]? with
 | none=>exact Ag.stuck _
 | some x=>
  dsimp only at h ⊢;unfold Go.underlying;rw [bind_assoc];refine Ag.program ?_;cases E:P.underlying t with
  | none=>exact Ag.stuckBind _ _
  | some d=>
   rw [E] at h;dsimp only at h ⊢;rw [pure_bind];cases d <;> first|(simp at h;done)|skip
   all_goals (cases x <;> first|exact Ag.pure _|exact Ag.stuck _)
theorem My {P:Program} (op:BinOp) (t:TypeId) (x y:Operand) (k h:IntKind) (a b:Int):
    Ag P (do eqGuard op t x y (.int k a) (.int h b);binOp op t (.int k a) (.int h b)):=by
  have h1:Ag P (eqGuard op t x y (.int k a) (.int h b)):=by
    unfold eqGuard;cases op <;> exact Ag.pure _
  refine Ag.bind h1 fun _=>?_;have C:∀o,Ag P (Op.intArith o k a b):=fun o=>by unfold Op.intArith;split <;> first|exact Ag.pure _|exact Ag.stuck _
  have G:∀o,Ag P (Op.intDiv o k a b):=fun o=>by
    unfold Op.intDiv;split
    · exact Ag.error _
    · split <;> first|exact Ag.pure _|exact Ag.stuck _
  have E:∀o,Ag P (Op.intBits o k a b):=fun o=>by unfold Op.intBits;dsimp only;split <;> first|exact Ag.pure _|exact Ag.stuck _
  have F:∀o,Ag P (Op.intCmp o a b):=fun o=>by unfold Op.intCmp;split <;> first|exact Ag.pure _|exact Ag.stuck _
  have hS:∀o,Ag P (Op.shift o k a h b):=fun o=>by
    unfold Op.shift;split
    · exact Ag.error _
    · dsimp only;split <;> first|exact Ag.pure _|exact Ag.stuck _
  cases op <;> simp only [binOp] <;> first
    | exact hS _
    | (split
       · exact Ag.stuck _
       · first|exact C _|exact G _|exact E _|exact F _)
theorem I4 {P:Program} (t:TypeId):Ag P (isAgg t):=by
 unfold isAgg;refine Ag.bind (Ag.underlying t) fun d=>?_;split <;> exact Ag.pure _
theorem MI {P:Program} (t:TypeId) (cs:Array Value) (off:Nat):Ag P (part t cs off):=by
 unfold part;refine Ag.bind (I4 t) fun b=>?_;split
 ·exact Ag.bind (Ag.sizeOf _) fun _=>Ag.pure _
 ·split
  ·exact Ag.pure _
  ·exact Ag.stuck _
theorem MD {P:Program} (l:List FieldStep):∀(t:TypeId) (x:Option Value),Ag P (followBlind l t x):=by
 induction l with
 | nil=>exact fun t x=>Ag.pure _
 | cons s rest ih=>
  intro t x;unfold followBlind;refine Ag.bind (Ag.underlying _) fun d=>?_;split
  ·split
   ·split
    ·exact Ag.pure _
    ·exact ih _ _
    ·exact Ag.stuck _
    ·exact Ag.pure _
    ·exact Ag.bind (MI _ _ _) fun _=>ih _ _
    ·exact Ag.stuck _
    ·exact ih _ _
   ·exact Ag.stuck _
  ·exact Ag.stuck _
theorem MG {P:Program} (n:Nat):∀(t:TypeId) (v:Value) (name:String),Ag P (nilAhead n t v name):=by
 induction n with
 | zero=>exact fun _ _ _=>Ag.pure _
 | succ n ih=>
  intro t v name;unfold nilAhead;refine Ag.bind (Ag.typeInfo _) fun i=>?_;split
  ·refine Ag.bind (MD _ _ _) fun r=>?_;split
   ·exact Ag.pure _
   ·split
    ·exact ih _ _ _
    ·exact Ag.pure _
    ·exact Ag.stuck _
    ·exact Ag.pure _
    ·exact Ag.pure _
    ·refine Ag.bind (Ag.underlying _) fun d=>?_;split <;> exact Ag.pure _
  ·exact Ag.stuck _
theorem MH {P:Program} (msg:String) (v:Value):D8 P (match v with
  | .pointer none|.nilIface|.nilFunc=>runtimePanic .nilDeref
  | .func (.method name) first captured=>
   match (first[0]?:Option Value) with
   | some .nilIface=>runtimePanic .nilDeref
   | some (.iface t w)=>do
    if (<-nilAhead ((<-program).types.size+Made.depth) t w name) != some false then
     unsupported (.noEntry msg)
    pure (.value (.func (.method name) first captured))
   | _=>pure (.value (.func (.method name) first captured))
  | x=>pure (.value x)):=by
 have J:∀{s:Sem Next},Ag P s->(∀w r I,s.run P w=.ok r I->False)->D8 P s:=fun {s} hs hn=>by
  rcases hs with⟨v,E⟩|h
  ·exact(hn default v default (E default)).elim
  ·exact .inr h
 have C:D8 P (runtimePanic .nilDeref:Sem Next):=.inr fun w=>by
  rcases Ag.nilDeref (P:=P) (α:=Next) with⟨v,E⟩|h
  ·have:=E w;simp [runtimePanic,goPanic] at this
  ·exact h w
 split
 ·exact C
 ·exact C
 ·exact C
 ·split
  ·exact C
  ·rename_i name first captured _ t w _
   rcases MG (P:=P) (P.types.size+Made.depth) t w name with⟨r,G⟩|h
   ·by_cases F:(r != some false)=true
    ·exact .inr fun w=>by
      simp only [Sem.run_bind,run_program,Result.andThen_ok,G,F,if_true];exact⟨_,_,rfl⟩
    ·refine .inl ⟨.func (.method name) first captured,fun w=>?_⟩;simp only [Sem.run_bind,run_program,Result.andThen_ok,G,F];rfl
   ·exact .inr fun w=>by
     obtain⟨x,y,e⟩:=h w;simp only [Sem.run_bind,run_program,Result.andThen_ok,e];exact⟨_,_,rfl⟩
  ·exact .inl ⟨_,fun _=>rfl⟩
 ·exact .inl ⟨_,fun _=>rfl⟩
theorem Mz {P:Program} (o:Oper) (ρ:Operand->Value) (h:Gs P o.op=true):D8 P (execOp ρ o):=by
  obtain⟨dst,op,type,pos,after,guard⟩:=o;cases op <;> simp only [Gs,Bool.false_eq_true] at h
  case move=>exact .inl ⟨_,fun _=>rfl⟩
  case assign=>exact .inl ⟨_,fun _=>rfl⟩
  case pick c x y=>
    show D8 P (asBool (ρ c) >>=fun b=>(Pure.pure (Next.value (if b then ρ x else ρ y)):Sem Next))
    rcases Ag.asBool (P:=P) (ρ c) with⟨v,F⟩|E
    · exact .inl ⟨if v=true then ρ x else ρ y,fun w=>by rw [Sem.run_bind,F];rfl⟩
    · exact .inr fun w=>by
        obtain⟨x,y,e⟩:=E w;exact⟨x,y,by rw [Sem.run_bind,e];rfl⟩
  case unOp=>exact Ag.valueV (MJ _ _)
  case makeFunc=>exact Ag.valueV (Ag.pure _)
  case fieldAddr=>exact Ag.valueV (MC _ _ _ h)
  case indexAddr=>exact Ag.valueV (ME _ _ _)
  case extract=>exact Ag.valueV (MB _ _)
  case nilCheck=>exact MH _ _
  case call c=>
    obtain⟨C,args,G⟩:=c;cases C with
    | builtin b=>cases b <;> first|exact Ag.valueV (MF _ _ _ h)|(simp at h;done)
    | value f=>simp at h
    | invoke r m=>simp at h
theorem MA {P:Program} (o:Oper) (ρ:Operand->Value) (h:intOp o.op=true) (C:intFine ρ o.op=true):D8 P (execOp ρ o):=by
 obtain⟨dst,op,type,pos,after,guard⟩:=o;cases op <;> simp only [intOp,Bool.false_eq_true] at h;rename_i op t x y yt;show D8 P ((do eqGuard op t x y (ρ x) (ρ y);binOp op t (ρ x) (ρ y)) >>=fun v=>(pure (Next.value v):Sem Next))
 simp only [intFine,Bool.and_eq_true] at C;obtain⟨h1,E⟩:=C;generalize ρ x=u at*;generalize ρ y=v at*;cases u <;> simp only [isInt,Bool.false_eq_true] at h1;cases v <;> simp only [isInt,Bool.false_eq_true] at E;exact Ag.valueV (My _ _ _ _ _ _ _ _)
def Cs {α:Type} (P:Program) (s:Sem α):Prop:=
 ∀(w w1:World) (v:α),s.run P w=.ok v w1->w1=w/\∀w',Ext w w'->s.run P w'=.ok v w'
section
variable {α β:Type} {P:Program}
theorem Cs.of_calm {s:Sem α} (h:Ag P s):Cs P s:=fun w E v e=>by
 obtain⟨h1,C⟩:=h.ok e;exact⟨h1,fun w' _=>C w'⟩
theorem Cs.bind {s:Sem α} {f:α->Sem β} (I:Cs P s) (G:∀v,Cs P (f v)):Cs P (s >>=f):=by
 intro w J v e;rw [Sem.run_bind] at e;cases h:s.run P w with
 | halt x y=>rw [h] at e;cases e
 | ok u w2=>
  rw [h] at e;obtain⟨rfl,E⟩:=I w w2 u h;obtain⟨rfl,F⟩:=G u w2 J v e;exact⟨rfl,fun w' C=>by rw [Sem.run_bind,E w' C];exact F w' C⟩
theorem PR {w w':World} (h:Ext w w') {a:Addr} {v:Value} (C:w.cell? a=some v):w'.cell? a=some v:=by
 unfold World.cell? at C ⊢;cases ho:w.heap[a.block]? with
 | none=>rw [ho] at C;cases C
 | some o=>rw [ho] at C;rw [h.some ho];exact C
theorem SU {w w':World} (h:Ext w w') (at_:Addr) (u:TypeId) (k:Addr) (b:Bool) {x:Array Value×TypeId×(Nat×Nat)×Nat×Value×List (Nat×Nat×List UInt8)}
  (C:w.seen P at_ u k b=.ok x):w'.seen P at_ u k b=.ok x:=by
 cases ho:w.heap[at_.block]? with
 | some o=>
  have E:=h.some ho;unfold World.seen at C ⊢;rw [ho] at C;rw [E];exact C
 | none=>
  exfalso;unfold World.seen at C;rw [ho] at C;simp only [bind,Except.bind,throwThe,MonadExceptOf.throw,MonadExcept.throw] at C
  repeat' (split at C)
  all_goals first|(cases C;done)|(simp at C;done)
theorem T3 {w w':World} (h:Ext w w') (at_:Addr) (u:TypeId) (k:Addr) (b:Bool) {x:Value×List Addr}
  (C:w.viewLoad P at_ u k b=.ok x):w'.viewLoad P at_ u k b=.ok x:=by
 unfold World.viewLoad at C ⊢;cases h1:w.seen P at_ u k b with
 | error e=>rw [h1] at C;cases C
 | ok y=>rw [h1] at C;rw [SU h at_ u k b h1];exact C
theorem KD (a:Addr) (m:Mode):Cs P (Go.load a m):=by
 intro w J v e;simp only [Go.load,Sem.run] at e ⊢;cases E:w.cell? a with
 | some u=>
  rw [E] at e;simp only [Result.ok.injEq] at e;obtain⟨rfl,rfl⟩:=e;exact⟨rfl,fun w' h=>by rw [PR h E]⟩
 | none=>
  rw [E] at e;dsimp only at e;cases F:w.farLoad P a (m==.atomic) with
  | error x=>rw [F] at e;cases e
  | ok y=>
   rw [F] at e;obtain⟨y,l⟩:=y;simp only [Result.ok.injEq] at e;obtain⟨rfl,rfl⟩:=e;refine⟨rfl,fun w' h=>?_⟩;have C:=F;unfold World.farLoad at C;split at C
   ·rename_i at_ u ho;have G:=h.some ho;have I:w'.cell? a=none:=by unfold World.cell?;rw [G]
    rw [I];dsimp only;have:w'.farLoad P a (m==.atomic)=.ok (y,l):=by
     unfold World.farLoad;rw [G];dsimp only;split at C
     ·rename_i r hr;rw [T3 h _ _ _ _ hr];exact C
     ·cases C
    rw [this]
   ·cases C
theorem RP (a:Addr) (n:Nat):∀(i:Nat) (acc:Array Value),Cs P (loadCellsFrom a i n acc):=by
 induction n with
 | zero=>exact fun i acc=>Cs.of_calm (Ag.pure _)
 | succ n ih=>exact fun i acc=>Cs.bind (KD _ _) fun v=>ih _ _
theorem RO (t:TypeId) (v:Value):Cs P (Instr.loadAt t v):=by
 unfold Instr.loadAt;refine Cs.bind (Cs.of_calm (Ag.sureAddr _)) fun a=>?_;unfold loadVar;refine Cs.bind (Cs.of_calm (I4 t)) fun b=>?_;split
 ·exact Cs.bind (Cs.of_calm (Ag.sizeOf _)) fun n=>Cs.bind (RP _ _ _ _) fun c=>Cs.of_calm (Ag.pure _)
 ·exact KD _ _
def Bq:Op->Bool
 | .load ..=>true
 | _=>false
theorem KC (o:Oper) (ρ:Operand->Value) (h:Bq o.op=true):∃s:Sem Value,Cs P s/\execOp ρ o=(s >>=fun v=>(Pure.pure (Next.value v):Sem Next)):=by
 obtain⟨dst,op,type,pos,after,guard⟩:=o;cases op <;> simp only [Bq,Bool.false_eq_true] at h;exact⟨_,RO _ _,rfl⟩
theorem Iw {s:Sem Value} {w E:World} {r:Next} (h:(s >>=fun v=>(Pure.pure (Next.value v):Sem Next)).run P w=.ok r E):∃u,r=.value u/\s.run P w=.ok u E:=by
 rw [Sem.run_bind] at h;cases C:s.run P w with
 | halt x y=>rw [C] at h;cases h
 | ok u w2=>
  rw [C] at h;simp only [Result.andThen_ok,Sem.run_pure,Result.ok.injEq] at h;obtain⟨rfl,rfl⟩:=h;exact⟨u,rfl,rfl⟩
theorem KW {s:Sem Value} {w C:World} {u:Value} (h:s.run P w=.ok u C):(s >>=fun v=>(Pure.pure (Next.value v):Sem Next)).run P w=.ok (.value u) C:=by
 rw [Sem.run_bind,h];rfl
def Bz (P:Program) (s:Sem α):Prop:=∀(w w1:World) (v:α),s.run P w=.ok v w1->Ext w w1/\w.heap.size<=w1.heap.size
theorem Bz.of_calm {s:Sem α} (h:Ag P s):Bz P s:=fun w C v e=>by
 obtain⟨rfl,_⟩:=h.ok e;exact⟨Ext.refl _,Nat.le_refl _⟩
theorem Ext.trans {a b c:World} (h:Ext a b) (E:a.heap.size<=b.heap.size) (k:Ext b c):Ext a c:=fun i C=>(k i (by omega)).trans (h i C)
theorem Bz.bind {s:Sem α} {f:α->Sem β} (G:Bz P s) (F:∀v,Bz P (f v)):Bz P (s >>=f):=by
 intro w I v e;rw [Sem.run_bind] at e;cases h:s.run P w with
 | halt x y=>rw [h] at e;cases e
 | ok u w2=>
  rw [h] at e;obtain⟨h1,C⟩:=G w w2 u h;obtain⟨E,J⟩:=F u w2 I v e;exact⟨h1.trans C E,by omega⟩
theorem QZ (o:Obj):Bz P (newObj o):=by
 intro w C v e;simp only [newObj,Sem.run,Result.ok.injEq] at e;obtain⟨_,rfl⟩:=e;refine⟨fun k h=>?_,by simp⟩;show(w.heap.push o)[k]?=_
 rw [Array.getElem?_push,if_neg (by omega)]
theorem HB (t:TypeId) (c:Array Value):Bz P (newRow t c):=Bz.bind (QZ _) fun _=>Bz.of_calm (Ag.pure _)
theorem I5 (t:TypeId):Ag P (zeroValue t):=by
 unfold zeroValue;refine Ag.bind (Ag.typeInfo t) fun i=>?_;split
 ·exact Ag.pure _
 ·exact Ag.unsupported _
theorem QV (t:TypeId):Bz P (Instr.alloc t true (.tuple #[])):=by
 unfold Instr.alloc;exact Bz.bind (Bz.of_calm (I5 t)) fun v=>Bz.bind (HB _ _) fun _=>Bz.of_calm (Ag.pure _)
theorem QW (t:TypeId) (v:Value):Bz P (Instr.box t v):=Bz.bind (HB _ _) fun _=>Bz.of_calm (Ag.pure _)
theorem QX (t:TypeId) (n:Nat) (h:Array (Nat×Value)):Bz P (Instr.buildSlice t n h):=by
 unfold Instr.buildSlice;refine Bz.bind (Bz.of_calm (Ag.underlying t)) fun d=>?_;split
 ·rename_i elem;refine Bz.bind (Bz.of_calm (Ag.sizeOf _)) fun z=>?_;dsimp only;split
  ·exact Bz.of_calm (Ag.haltBind _ _)
  ·have key:∀(msg:String) (zero:Array Value),Bz P (match
     Instr.fill (fun i=>some (i*z,z)) (Array.map (fun x=>zero[x % zero.size]!) (Array.range (n*z))) h.toList with
    | some cells=>do
     let r <-newRow elem cells
     pure (Value.slice (some r) n n)
    | _=>Go.stuck msg):=fun msg zero=>by
    split
    ·exact Bz.bind (HB _ _) fun _=>Bz.of_calm (Ag.pure _)
    ·exact Bz.of_calm (Ag.stuck _)
   split
   ·rw [pure_bind];exact key _ _
   ·exact Bz.bind (Bz.of_calm (I5 _)) fun _=>by rw [pure_bind];exact key _ _
 ·exact Bz.of_calm (Ag.stuck _)
def FY:Op->Bool
 | .alloc _|.box ..|.buildSlice ..=>true
 | _=>false
theorem QY (o:Oper) (ρ:Operand->Value) (h:FY o.op=true):∃s:Sem Value,Bz P s/\execOp ρ o=(s >>=fun v=>(Pure.pure (Next.value v):Sem Next)):=by
 obtain⟨dst,op,type,pos,after,guard⟩:=o;cases op <;> simp only [FY,Bool.false_eq_true] at h
 case alloc=>exact⟨_,QV _,rfl⟩
 case box=>exact⟨_,QW _ _,rfl⟩
 case buildSlice=>exact⟨_,QX _ _ _,rfl⟩
end
end Reg
end Go.Proofs.YtjejejmeddkciaaGreatDoor
namespace Go.Proofs.YtjejejmeddkciaaGreatDoor
namespace Reg
theorem P2 (C:Array Value) (d t:Nat) (v:Value) (h:d≠t):(C.setIfInBounds d v)[t]?=C[t]?:=by
 rw [Array.getElem?_setIfInBounds_ne h]
def dis (d:Option Tmp) (l:List Tmp):Bool:=match d with|some x=>!l.contains x|none=>true
def Ed (d d':Option Tmp):Bool:=match d,d' with|some x,some y=>x != y|_,_=>true
theorem LC (a:Act) (d:Option Tmp) (v:Value) (t:Tmp) (h:d≠some t):(a.put d v).tmps[t]?=a.tmps[t]?:=by
 cases d with
 | none=>rfl
 | some x=>exact P2 _ _ _ _ (fun e=>h (by rw [e]))
theorem Fg {d:Option Tmp} {l:List Tmp} (h:dis d l=true) {t:Tmp} (ht:t∈l):d≠some t:=by
 rintro rfl;simp [dis] at h;exact h ht
def LB (o:Op):List Tmp:=o.operands.toList.filterMap fun|.tmp t=>some t|_=>none
def JC (ops:Array Oper) (o:Oper):List Tmp:=
 match o.guard with
 | some (j,_)=>((ops[j]?).bind (·.dst)).toList
 | none=>[]
def BZ (ops:Array Oper) (o:Oper):List Tmp:=JC ops o++LB o.op
def CO (ops:Array Oper) (o:Oper) (a b:Act):Prop:=∀t∈BZ ops o,a.tmps[t]?=b.tmps[t]?
theorem CO.symm {ops:Array Oper} {o:Oper} {a b:Act} (h:CO ops o a b):CO ops o b a:=fun t ht=>(h t ht).symm
theorem CO.trans {ops:Array Oper} {o:Oper} {a b c:Act} (h:CO ops o a b) (k:CO ops o b c):CO ops o a c:=fun t ht=>(h t ht).trans (k t ht)
theorem Fd {ops:Array Oper} {o:Oper} {a b:Act} (h:CO ops o a b):∀x∈o.op.operands.toList,a.eval x=b.eval x:=by
 intro x C;cases x with
 | tmp t=>
  have ht:t∈BZ ops o:=by
   unfold BZ;refine List.mem_append.2 (.inr ?_);unfold LB;exact List.mem_filterMap.2 ⟨.tmp t,C,rfl⟩
  have:=h t ht;simp only [Act.eval,Array.getD_eq_getD_getElem?,this]
 | const v=>rfl
 | global g=>rfl
 | func f=>rfl
theorem D0 {ops:Array Oper} {o:Oper} {a b:Act} (h:CO ops o a b):Region.wanted o (yielded ops a.tmps)=Region.wanted o (yielded ops b.tmps):=by
 unfold Region.wanted;cases E:o.guard with
 | none=>rfl
 | some g=>
  obtain⟨j,F⟩:=g;dsimp only;have:yielded ops a.tmps j=yielded ops b.tmps j:=by
   unfold yielded;cases C:(ops[j]?).bind (·.dst) with
   | none=>rfl
   | some t=>
    have ht:t∈BZ ops o:=by
     unfold BZ JC;rw [E];exact List.mem_append.2 (.inl (by simp [C]))
    simp only [Option.bind_some,h t ht]
  rw [this]
def DI:Op->Bool
 | .move _|.assign _|.pick ..|.alloc _|.box ..|.build ..|.buildSlice ..|.load ..|.store ..|.nilCheck _|.binOp ..|.unOp ..|.convert ..|.makeInterface ..|.makeFunc ..|.makeMap ..
 | .makeSlice ..|.slice ..|.fieldAddr ..|.field ..|.indexAddr ..|.index ..|.lookup ..|.mapUpdate ..|.extract ..|.call _=>true
 | _=>false
theorem JX (l:Array (Nat×Operand)) (ρ C:Operand->Value) (h:∀x∈(l.toList.map (·.2)),ρ x=C x):
  (l.map fun(i,x)=>(i,ρ x))=(l.map fun(i,x)=>(i,C x)):=by
 refine Array.map_congr_left fun p E=>?_;obtain⟨i,x⟩:=p;have:=h x (List.mem_map.2 ⟨(i,x),by simpa using E,rfl⟩);simp only [this]
theorem HD (l:Array Operand) (ρ C:Operand->Value) (h:∀x∈l.toList,ρ x=C x):l.map ρ=l.map C:=
 Array.map_congr_left fun x E=>h x (by simpa using E)
theorem GB (l:Option Operand) (ρ C:Operand->Value) (h:∀x∈l.toList,ρ x=C x):l.map ρ=l.map C:=by
 cases l with
 | none=>rfl
 | some x=>simp [h x (by simp)]
theorem FO (o:Oper) (ρ E:Operand->Value) (F:DI o.op=true) (h:∀x∈o.op.operands.toList,ρ x=E x):execOp ρ o=execOp E o:=by
 obtain⟨dst,op,type,pos,after,guard⟩:=o;dsimp only at h F;cases op <;> simp only [DI,Bool.false_eq_true] at F
 case build t ps=>simp only [execOp];rw [JX ps ρ E (by simpa [Op.operands] using h)]
 case buildSlice t n ps=>simp only [execOp];rw [JX ps ρ E (by simpa [Op.operands] using h)]
 case makeFunc fn f c=>
  simp only [Op.operands,Array.toList_append,List.mem_append] at h;simp only [execOp];rw [HD f ρ E (fun x C=>h x (.inl C)),HD c ρ E (fun x C=>h x (.inr C))]
 case makeMap t r=>simp only [execOp];rw [GB r ρ E (by simpa [Op.operands] using h)]
 case slice t x lo hi mx=>
  simp only [Op.operands,Array.toList_append,List.mem_append] at h;simp only [execOp];rw [h x (by simp),GB lo ρ E (fun x C=>h x (by simp at C;simp [C])),GB hi ρ E (fun x C=>h x (by simp at C;simp [C])),GB mx ρ E (fun x C=>h x (by simp at C;simp [C]))]
 case call c=>
  obtain⟨G,args,J⟩:=c;simp only [Op.operands,Call.operands,Array.toList_append,List.mem_append] at h;have I:=HD args ρ E fun x C=>h x (.inr C);simp only [execOp,resolve,I];cases G with
  | builtin b=>rfl
  | value f=>simp only [h f (.inl (by simp))]
  | invoke r m=>simp only [h r (.inl (by simp))]
 all_goals (simp only [Op.operands,List.mem_cons,List.not_mem_nil,or_false,forall_eq_or_imp,forall_eq] at h;try simp only [execOp,h])
abbrev Bo:=Exit->Act->World->Prop
def NoQ (Q:Bo):Prop:=(∀c a w,¬Q (.panic c) a w)/\(∀a w,¬Q .outgrown a w)
def upd (a:Act) (d:Option Tmp) (ds:List Deferred) (v:Value):Act:={ tmps:=(a.put d v).tmps,defers:=ds++a.defers }
theorem CN (a:Act) (d:Option Tmp) (v:Value):upd a d [] v=a.put d v:=by
 cases d <;> rfl
theorem Iu (a:Act) (d:Option Tmp) (x:Deferred) (v:Value):upd a d [x] v=({ a with defers:=x::a.defers }:Act).put d v:=by
 cases d <;> rfl
theorem G6 (a:Act) (d:Option Tmp) (ds:List Deferred) (v:Value) (t:Tmp) (h:d≠some t):(upd a d ds v).tmps[t]?=a.tmps[t]?:=LC a d v t h
theorem FI {ops:Array Oper} {o:Oper} {d:Option Tmp} (h:dis d (BZ ops o)=true) (a:Act) (ds:List Deferred) (v:Value):CO ops o (upd a d ds v) a:=
 fun _ ht=>G6 _ _ _ _ _ (Fg h ht)
theorem Em {ops:Array Oper} {o:Oper} {d:Option Tmp} (h:dis d (BZ ops o)=true) (a:Act) (v:Value):CO ops o (a.put d v) a:=
 fun _ ht=>LC _ _ _ _ (Fg h ht)
theorem HY {d C:Option Tmp} (h:Ed d C=true) (a:Act) (ds:List Deferred) (u v:Value):upd (a.put d u) C ds v=(upd a C ds v).put d u:=by
 cases d with
 | none=>rfl
 | some x=>
  cases C with
  | none=>rfl
  | some y=>
   have E:x≠y:=by simpa [Ed] using h
   simp only [upd,Act.put];congr 1;exact(Array.setIfInBounds_comm _ _ E)
theorem HX {d C:Option Tmp} (h:Ed d C=true) (a:Act) (u v:Value):(a.put d u).put C v=(a.put C v).put d u:=by
 rw [<-CN,HY h,CN]
section
variable {P:Program} {Q Q':Bo} {o:Oper} {a a':Act} {w:World} {N N':Act->World->Prop}
theorem E9 (hQ:NoQ Q) {r:Result Next} (h:o.upon P a N Q r) (E:∀v ds w',N (upd a o.dst ds v) w'->N' (upd a' o.dst ds v) w'):o.upon P a' N' Q' r:=by
  cases r with
  | halt x w'=>cases x <;> first|exact h|exact absurd h (hQ.1 _ _ _)
  | ok x w'=>
    cases x with
    | value v=>
      have:=E v [] w' (by rw [CN];exact h);rw [CN] at this;exact this
    | skip=>
      have:=E undef [] w' (by rw [CN];exact h);rw [CN] at this;exact this
    | enter f args=>
      refine Calls.mono (R:=fun
        | .returned v,w''=>N (a.put o.dst v) w''
        | .panicked chain,w''=>Q (.panic chain) a w''
        | .outgrown,_=>LetsOut Q) h ?_
      intro e w'' C;cases e with
      | returned v=>
        have:=E v [] w'' (by rw [CN];exact C);rw [CN] at this;exact this
      | panicked c=>exact absurd C (hQ.1 _ _ _)
      | outgrown=>obtain⟨x,y,F⟩:=C;exact absurd F (hQ.2 _ _)
    | row s args=>
      refine Rows.mono (R:=fun v w''=>N (a.put o.dst v) w'') h ?_;intro v w'' C;have:=E v [] w'' (by rw [CN];exact C);rw [CN] at this;exact this
    | _=>
      first
      | exact h
      | (rename_i d
         have:=E undef [d] w' (by rw [Iu];exact h);rw [Iu] at this;exact this)
theorem G8 (hQ:NoQ Q) {r:Result Next} (h:o.upon P a N Q r):∃v ds w',N (upd a o.dst ds v) w':=by
 cases r with
 | halt x w'=>cases x <;> first|exact h.elim|exact absurd h (hQ.1 _ _ _)
 | ok x w'=>
  cases x with
  | value v=>exact⟨v,[],w',by rw [CN];exact h⟩
  | skip=>exact⟨undef,[],w',by rw [CN];exact h⟩
  | enter f args=>
   obtain⟨e,w'',fr,C,_⟩:=h [];cases e with
   | returned v=>exact⟨v,[],w'',by rw [CN];exact C⟩
   | panicked c=>exact absurd C (hQ.1 _ _ _)
   | outgrown=>obtain⟨x,y,E⟩:=C;exact absurd E (hQ.2 _ _)
  | row s args=>
   obtain⟨v,w'',C,_⟩:=h default [];exact⟨v,[],w'',by rw [CN];exact C⟩
  | _=>
   first
   | exact h.elim
   | (rename_i d;exact⟨undef,[d],w',by rw [Iu];exact h⟩)
end
def En (P:Program) (ib:Bool) (o:Oper):Bool:=Gs P o.op||(ib&&intOp o.op)
def eff (P:Program) (ib:Bool) (o:Oper):Bool:=!En P ib o&&!Bq o.op&&!FY o.op
def Bu (P:Program) (ib:Bool) (ops:Array Oper) (Q:Bo) (o:Oper) (N:Act->World->Prop) (a:Act) (w:World):Prop:=
 if Region.wanted o (yielded ops a.tmps)=true then ((ib&&intOp o.op)=true->intFine a.eval o.op=true)/\o.wp P a w N Q else N (a.put o.dst undef) w
theorem FT {ops:Array Oper} {o:Oper} {a b:Act} (h:CO ops o a b):intFine a.eval o.op=intFine b.eval o.op:=by
 have C:=Fd h;cases E:o.op <;> simp only [intFine];rw [E] at C;simp only [Op.operands] at C;rw [C _ (by simp),C _ (by simp)]
section
variable {P:Program} {ib:Bool} {ops:Array Oper} {Q:Bo} (hQ:NoQ Q) {o:Oper} {a a' b:Act} {w:World} {N N':Act->World->Prop}
include hQ
theorem Ey (h:Bu P ib ops Q o N a w) (C:∀v ds w',N (upd a o.dst ds v) w'->N' (upd a o.dst ds v) w'):Bu P ib ops Q o N' a w:=by
 unfold Bu at h ⊢;split
 ·rename_i hw;rw [if_pos hw] at h;exact⟨h.1,E9 hQ h.2 C⟩
 ·rename_i hw;rw [if_neg hw] at h;have:=C undef [] w (by rw [CN];exact h)
  rwa [CN] at this
theorem Tl (h:Bu P ib ops Q o N a w):∃v ds w',N (upd a o.dst ds v) w':=by
 unfold Bu at h;split at h
 ·exact G8 hQ h.2
 ·exact⟨undef,[],w,by rw [CN];exact h⟩
theorem Lr (M:DI o.op=true) {d:Option Tmp} (I:dis d (BZ ops o)=true) (F:Ed d o.dst=true) (u:Value) (h:Bu P ib ops Q o N (a.put d u) w):
  Bu P ib ops Q o (fun x w'=>N (x.put d u) w') a w:=by
 have E:=Em I a u;unfold Bu at h ⊢;rw [D0 E] at h;split
 ·rename_i hw;rw [if_pos hw] at h;refine⟨fun J=>by rw [<-FT E];exact h.1 J,?_⟩;have C:=h.2;unfold Oper.wp at C ⊢;rw [FO o _ _ M (Fd E)] at C;exact E9 hQ C fun v ds w' G=>by rw [HY F] at G;exact G
 ·rename_i hw;rw [if_neg hw] at h;rw [HX F] at h;exact h
theorem Tm (J:DI o.op=true) {d:Option Tmp} (G:dis d (BZ ops o)=true) (F:Ed d o.dst=true) (u:Value) (h:Bu P ib ops Q o (fun x w'=>N (x.put d u) w') a w):
  Bu P ib ops Q o N (a.put d u) w:=by
 have C:=Em G a u;unfold Bu at h ⊢;rw [D0 C];split
 ·rename_i hw;rw [if_pos hw] at h;refine⟨fun I=>by rw [FT C];exact h.1 I,?_⟩;have E:=h.2;unfold Oper.wp at E ⊢;rw [FO o _ _ J (Fd C)];exact E9 hQ E fun v ds w' M=>by rw [HY F];exact M
 ·rename_i hw;rw [if_neg hw] at h;rw [HX F];exact h
theorem Lq (U:DI o.op=true) (G:En P ib o=true) (h:Bu P ib ops Q o N b w):
  ∃u,N (b.put o.dst u) w/\∀(a:Act) (w':World) (M:Act->World->Prop),CO ops o a b->(Bu P ib ops Q o M a w'↔M (a.put o.dst u) w'):=by
 unfold Bu at h;split at h
 ·rename_i hw;have J:D8 P (execOp b.eval o):=by
   simp only [En,Bool.or_eq_true] at G;by_cases E:(ib&&intOp o.op)=true
   ·exact MA o _ (by simp only [Bool.and_eq_true] at E;exact E.2) (h.1 E)
   ·exact Mz o _ (G.resolve_right E)
  have C:=h.2;unfold Oper.wp at C;rcases J with⟨u,I⟩|O
  ·rw [I] at C;refine⟨u,C,fun a w' M F=>?_⟩;unfold Bu;rw [D0 F,if_pos hw];unfold Oper.wp;rw [FO o _ _ U (Fd F),I];exact⟨fun x=>x.2,fun x=>⟨fun E=>by rw [FT F];exact h.1 E,x⟩⟩
  ·obtain⟨x,y,e⟩:=O w;rw [e] at C;cases x <;> first|exact C.elim|exact absurd C (hQ.1 _ _ _)
 ·rename_i hw;refine⟨undef,h,fun a w' M F=>?_⟩;unfold Bu;rw [D0 F,if_neg hw]
def C3 (P:Program) (ops:Array Oper) (o:Oper) (a:Act) (w w':World):Prop:=
 Region.wanted o (yielded ops a.tmps)=true->∀v,(execOp a.eval o).run P w=.ok (.value v) w->(execOp a.eval o).run P w'=.ok (.value v) w'
omit hQ in
theorem GU (E:DI o.op=true) (C:CO ops o a b) {w w':World} (h:C3 P ops o a w w'):C3 P ops o b w w':=by
 unfold C3 at h ⊢;rw [FO o _ _ E (Fd C),D0 C] at h;exact h
omit hQ in
theorem GV (G:Bq o.op=true) {w w':World} (h:Ext w w'):C3 P ops o a w w':=by
 intro _ v E;obtain⟨s,J,F⟩:=KC (P:=P) o a.eval G;rw [F] at E ⊢;obtain⟨u,C,I⟩:=Iw E;injection C with C
 subst C;exact KW ((J w w v I).2 w' h)
theorem Ls (U:DI o.op=true) (G:Bq o.op=true) (h:Bu P ib ops Q o N b w):
  ∃u,N (b.put o.dst u) w/\∀(a:Act) (w':World) (M:Act->World->Prop),CO ops o a b->C3 P ops o a w w'->M (a.put o.dst u) w'->Bu P ib ops Q o M a w':=by
 have V:intOp o.op=false:=by
  cases W:o.op <;> rw [W] at G <;> simp only [Bq,Bool.false_eq_true] at G <;> rfl
 unfold Bu at h;split at h
 ·rename_i hw;have C:=h.2;unfold Oper.wp at C;obtain⟨s,hs,J⟩:=KC (P:=P) o b.eval G;cases F:(execOp b.eval o).run P w with
  | halt x y=>
   rw [F] at C;cases x <;> first|exact C.elim|exact absurd C (hQ.1 _ _ _)
  | ok r w1=>
   rw [F] at C;rw [J] at F;obtain⟨u,rfl,a4⟩:=Iw F;obtain⟨rfl,_⟩:=hs _ _ _ a4;refine⟨u,C,fun a w' M E a3 I=>?_⟩;unfold Bu;rw [D0 E,if_pos hw];refine⟨fun O=>absurd O (by rw [V];simp),?_⟩;unfold Oper.wp;have Z:=a3 (by rw [D0 E];exact hw) u (by rw [FO o _ _ U (Fd E),J];exact F);rw [Z];exact I
 ·rename_i hw;refine⟨undef,h,fun a w' M E _ I=>?_⟩;unfold Bu;rw [D0 E,if_neg hw];exact I
theorem Tn (G:FY o.op=true) (h:Bu P ib ops Q o N a w):Bu P ib ops Q o (fun x w'=>N x w'/\Ext w w') a w:=by
 unfold Bu at h ⊢;split
 ·rename_i hw;rw [if_pos hw] at h;refine⟨h.1,?_⟩;have C:=h.2;unfold Oper.wp at C ⊢;obtain⟨s,I,F⟩:=QY (P:=P) o a.eval G;cases E:(execOp a.eval o).run P w with
  | halt x y=>
   rw [E] at C;cases x <;> first|exact C.elim|exact absurd C (hQ.1 _ _ _)
  | ok r w1=>
   rw [E] at C;rw [F] at E;obtain⟨u,rfl,J⟩:=Iw E;exact⟨C,(I _ _ _ J).1⟩
 ·rename_i hw;rw [if_neg hw] at h;exact⟨h,Ext.refl _⟩
end
def Obl (P:Program) (ib:Bool) (ops:Array Oper) (bef:Nat->Nat->Bool) (D:Nat->Prop) (i:Nat) (b:Act) (w w':World):Prop:=
 ∀o,ops[i]?=some o->eff P ib o=true->∀r q,D r->ops[r]?=some q->Bq q.op=true->bef r i=false->C3 P ops q b w w'
def WT (P:Program) (ib:Bool) (ops:Array Oper) (bef:Nat->Nat->Bool) (Q:Bo):(Nat->Prop)->List Nat->Act->World->Prop
 | _,[],a,w=>Q .normal a w
 | D,i::l,a,w=>∃o,ops[i]?=some o/\Bu P ib ops Q o (fun b w'=>Obl P ib ops bef D i b w w'/\WT P ib ops bef Q (fun k=>k=i\/D k) l b w') a w
def FL (P:Program) (ib:Bool) (ops:Array Oper) (x y:Oper):Bool:=
 dis x.dst (BZ ops y)&&dis y.dst (BZ ops x)&&Ed x.dst y.dst&&(En P ib x||En P ib y||Bq x.op)
section
variable {P:Program} {ib:Bool} {ops:Array Oper} {bef:Nat->Nat->Bool} {Q:Bo} (hQ:NoQ Q)
theorem Jn {d C:Option Tmp} (h:Ed d C=true):Ed C d=true:=by
 cases d <;> cases C <;> first|rfl|(simp only [Ed,bne_iff_ne,ne_eq] at h ⊢;exact fun e=>h e.symm)
theorem Rn (A B:Nat) (D:Nat->Prop):(fun k=>k=A\/k=B\/D k)=(fun k=>k=B\/k=A\/D k):=by
 funext k;exact propext ⟨fun h=>by rcases h with h|h|h <;> simp [h],fun h=>by rcases h with h|h|h <;> simp [h]⟩
include hQ in
theorem TF {A B:Nat} {W F:Oper} (hA:ops[A]?=some W) (hB:ops[B]?=some F) (ai:DI W.op=true) (aj:DI F.op=true) (hc:FL P ib ops W F=true) (aA:bef A B=false)
  {D:Nat->Prop} (hD:∀r q,D r->ops[r]?=some q->Bq q.op=true->DI q.op=true/\dis W.dst (BZ ops q)=true/\dis F.dst (BZ ops q)=true)
  (aD:Bq W.op=true->dis W.dst (BZ ops W)=true)
  {l:List Nat} {a:Act} {w:World} (h:WT P ib ops bef Q D (A::B::l) a w):WT P ib ops bef Q D (B::A::l) a w:=by
 simp only [FL,Bool.and_eq_true] at hc;obtain⟨⟨⟨a5,ag⟩,ah⟩,az⟩:=hc;obtain⟨G,ar,h⟩:=h;obtain rfl:G=W:=by rw [hA] at ar;injection ar with e;exact e.symm
 have ad:∀(i:Nat) (o:Oper),ops[i]?=some o->eff P ib o=false->∀(E:Nat->Prop) (b:Act) (w w':World),Obl P ib ops bef E i b w w':=fun i o ho he E b w w' o' aw av=>by
  rw [ho] at aw;injection aw with e;subst e;rw [he] at av;cases av
 have h':Bu P ib ops Q G (fun b C=>Obl P ib ops bef D A b w C/\Bu P ib ops Q F (fun b2 w2=>Obl P ib ops bef (fun k=>k=A\/D k) B b2 C w2/\WT P ib ops bef Q (fun k=>k=B\/k=A\/D k) l b2 w2) b C) a w:=
  Ey hQ h fun v ds w' I=>by
   obtain⟨h1,o,ho,V⟩:=I;rw [hB] at ho;injection ho with e;subst e
   exact⟨h1,V⟩
 clear h;refine⟨F,hB,?_⟩
 suffices hs:Bu P ib ops Q F (fun b C=>Obl P ib ops bef D B b w C/\Bu P ib ops Q G (fun b2 w2=>Obl P ib ops bef (fun k=>k=B\/D k) A b2 C w2/\WT P ib ops bef Q (fun k=>k=B\/k=A\/D k) l b2 w2) b C) a w from
  Ey hQ hs fun v ds w' I=>⟨I.1,G,hA,by rw [Rn A B D];exact I.2⟩
 by_cases cB:En P ib F=true
 ·-- B is calm
  have eB:eff P ib F=false:=by simp [eff,cB]
  obtain⟨v0,aq,w0,_,aB⟩:=Tl hQ h';obtain⟨u,_,hu⟩:=Lq hQ aj cB aB;refine(hu a w _ (FI a5 a aq v0).symm).2 ⟨ad B F hB eB _ _ _ _,?_⟩;refine Tm hQ ai ag (Jn ah) u ?_;refine Ey hQ h' fun v ds C I=>?_;obtain⟨h1,V⟩:=I;have J:=(hu _ C _ ((FI a5 a ds v).trans (FI a5 a aq v0).symm)).1 V;refine⟨fun o ho he r q U O M hb=>?_,J.2⟩;rcases U with rfl|U
  ·rw [hB] at O;injection O with e;subst e
   exfalso;cases ax:F.op <;> rw [ax] at M <;> simp only [Bq,Bool.false_eq_true] at M;simp [En,Gs,intOp,ax] at cB
  ·obtain⟨k1,k2,k3⟩:=hD r q U O M;exact GU k1 (Em k3 _ _).symm (h1 o ho he r q U O M hb)
 ·by_cases cA:En P ib G=true
  ·-- A is calm
   have eA:eff P ib G=false:=by simp [eff,cA]
   obtain⟨u,ak,hu⟩:=Lq hQ ai cA h';have V:=Lr hQ aj a5 ah u ak.2;refine Ey hQ V fun v ds C I=>?_;obtain⟨J,Z⟩:=I;refine⟨fun o ho he r q U O M hb=>?_,(hu _ C _ (FI ag a ds v)).2 ⟨ad A G hA eA _ _ _ _,Z⟩⟩;obtain⟨k1,k2,k3⟩:=hD r q U O M;exact GU k1 (Em k2 _ _) (J o ho he r q (.inr U) O M hb)
  ·have lA:Bq G.op=true:=by simpa [cA,cB] using az
   have eA:eff P ib G=false:=by simp [eff,lA]
   obtain⟨u,ak,hu⟩:=Ls hQ ai lA h';by_cases lB:Bq F.op=true
   ·have eB:eff P ib F=false:=by simp [eff,lB]
    obtain⟨u2,aF,hv⟩:=Ls hQ aj lB ak.2;refine hv a w _ (Em a5 a u).symm (GV lB (Ext.refl _)) ⟨ad B F hB eB _ _ _ _,?_⟩;refine hu _ w _ (Em ag a u2) (GV lA (Ext.refl _)) ⟨ad A G hA eA _ _ _ _,?_⟩;rw [HX (Jn ah)];exact aF.2
   ·have V:=Lr hQ aj a5 ah u ak.2
    have fin:∀(v:Value) (ds:List Deferred) (C:World),Obl P ib ops bef (fun k=>k=A\/D k) B ((upd a F.dst ds v).put G.dst u) w C->C3 P ops G (upd a F.dst ds v) w C->
      WT P ib ops bef Q (fun k=>k=B\/k=A\/D k) l ((upd a F.dst ds v).put G.dst u) C->
      Obl P ib ops bef D B (upd a F.dst ds v) w C/\Bu P ib ops Q G (fun b2 w2=>Obl P ib ops bef (fun k=>k=B\/D k) A b2 C w2/\WT P ib ops bef Q (fun k=>k=B\/k=A\/D k) l b2 w2) (upd a F.dst ds v) C:=by
     intro v ds C J aC Z;refine⟨fun o ho he r q U O M hb=>?_,hu _ C _ (FI ag a ds v) aC ⟨ad A G hA eA _ _ _ _,Z⟩⟩;obtain⟨k1,k2,k3⟩:=hD r q U O M;exact GU k1 (Em k2 _ _) (J o ho he r q (.inr U) O M hb)
    by_cases mB:FY F.op=true
    ·refine Ey hQ (Tn hQ mB V) fun v ds C I=>?_;obtain⟨⟨J,Z⟩,I⟩:=I;exact fin v ds C J (GV lA I) Z
    ·have eB:eff P ib F=true:=by simp [eff,cB,lB,mB]
     refine Ey hQ V fun v ds C I=>?_;obtain⟨J,Z⟩:=I;exact fin v ds C J (GU ai (Em (aD lA) _ _) (J F hB eB A G (.inl rfl) hA lA aA)) Z
end
end Reg
end Go.Proofs.YtjejejmeddkciaaGreatDoor
namespace Go.Proofs.YtjejejmeddkciaaGreatDoor
namespace Reg
structure Gl (P:Program) (ops:Array Oper) (bef:Nat->Nat->Bool):Prop where
 ok:∀(i:Nat) (o:Oper),ops[i]?=some o->DI o.op=true
 self:∀(i:Nat) (o:Oper),ops[i]?=some o->Bq o.op=true->dis o.dst (BZ ops o)=true
 war:∀(x y:Nat) (ox oy:Oper),x≠y->ops[x]?=some ox->ops[y]?=some oy->Bq ox.op=true->bef y x=false->dis oy.dst (BZ ops ox)=true
def Rel (P:Program) (ib:Bool) (ops:Array Oper) (bef:Nat->Nat->Bool) (x y:Nat):Prop:=
 x≠y/\bef y x=false/\(bef x y=true\/∀(ox oy:Oper),ops[x]?=some ox->ops[y]?=some oy->FL P ib ops ox oy=true)
section
variable {P:Program} {ib:Bool} {ops:Array Oper} {bef:Nat->Nat->Bool} {Q:Bo} (hQ:NoQ Q) (hS:Gl P ops bef)
include hQ hS
theorem Mt {A:Nat} {V:Oper} (M:ops[A]?=some V) (l2:List Nat):∀(l1:List Nat) (D:Nat->Prop) (a:Act) (w:World),
  (∀x∈l1,∃J,ops[x]?=some J/\bef A x=false/\FL P ib ops V J=true)->(l1++A::l2).Pairwise (fun x y=>x≠y/\bef y x=false)->
  (∀r q,D r->ops[r]?=some q->Bq q.op=true->∀y∈l1++A::l2,∀O,ops[y]?=some O->dis O.dst (BZ ops q)=true)->
  WT P ib ops bef Q D (A::(l1++l2)) a w->WT P ib ops bef Q D (l1++A::l2) a w:=by
 intro l1
 induction l1 with
 | nil=>intro D a w _ _ _ h;exact h
 | cons x l1 ih=>
  intro D a w hx W U h;obtain⟨J,G,a6,hc⟩:=hx x (by simp);have h1:=TF hQ M G (hS.ok _ _ M) (hS.ok _ _ G) hc a6 (fun r q E C F=>⟨hS.ok _ _ C,U r q E C F A (by simp) V M,U r q E C F x (by simp) J G⟩) (hS.self _ _ M) h;obtain⟨o,ho,h2⟩:=h1;rw [G] at ho;injection ho with e;subst e
  refine⟨J,G,Ey hQ h2 fun v ds w' hz=>⟨hz.1,ih _ _ _ (fun y I=>hx y (by simp [I])) (List.Pairwise.of_cons W) ?_ hz.2⟩⟩;intro r q E C F y I O Z;rcases E with rfl|E
  ·have:=(List.pairwise_cons.1 W).1 y I;exact hS.war _ _ _ _ this.1 C Z F this.2
  ·exact U r q E C F y (by simp at I ⊢;exact .inr I) O Z
theorem Ki (T:List Nat):∀(l:List Nat) (D:Nat->Prop) (a:Act) (w:World),l.Perm T->T.Pairwise (Rel P ib ops bef)->(∀x∈T,x<ops.size)->l.Pairwise (fun x y=>x≠y/\bef y x=false)->
  (∀r q,D r->ops[r]?=some q->Bq q.op=true->∀y∈T,∀C,ops[y]?=some C->dis C.dst (BZ ops q)=true)->
  WT P ib ops bef Q D T a w->WT P ib ops bef Q D l a w:=by
 induction T with
 | nil=>
  intro l D a w E _ _ _ _ h;rw [E.eq_nil];exact h
 | cons A T ih=>
  intro l D a w E hT a6 W hD h;have af:A∈l:=E.symm.subset (by simp);obtain⟨l1,l2,rfl⟩:=List.append_of_mem af;have a7:(l1++l2).Perm T:=by
   have h1:(l1++A::l2).Perm (A::(l1++l2)):=List.perm_middle;exact(List.perm_cons A).1 (h1.symm.trans E)
  obtain⟨oA,V,h2⟩:=h;have ae:(l1++l2).Pairwise (fun x y=>x≠y/\bef y x=false):=W.sublist (List.Sublist.append_left (List.sublist_cons_self A l2) l1);have a4:=(List.pairwise_cons.1 hT).1;refine Mt hQ hS V l2 l1 D a w ?_ W (fun r q F M I y U C J=>hD r q F M I y (E.subset U) C J) ⟨oA,V,Ey hQ h2 fun v ds w' hz=>⟨hz.1,ih _ _ _ _ a7 (List.Pairwise.of_cons hT) (fun x O=>a6 x (by simp [O])) ae ?_ hz.2⟩⟩
  ·intro x O;have a8:x∈T:=a7.subset (by simp [O]);have hb:bef A x=false:=by
    have:=List.pairwise_append.1 W;exact(this.2.2 x O A (by simp)).2
   have hR:=a4 x a8;cases Z:ops[x]? with
   | none=>
    exfalso;have:=a6 x (by simp [a8]);rw [Array.getElem?_eq_getElem this] at Z;cases Z
   | some ox=>
    refine⟨ox,rfl,hb,?_⟩;rcases hR.2.2 with G|G
    ·rw [hb] at G;cases G
    ·exact G oA ox V Z
  ·intro r q F M I y U C J;rcases F with rfl|F
   ·have:=a4 y U;exact hS.war _ _ _ _ this.1 M J I this.2.1
   ·exact hD r q F M I y (by simp [U]) C J
end
def Lin (m:Region.Mode) (ops:Array Oper) (done:List Nat) (l:List Nat):Prop:=
 match l with
 | []=>True
 | i::l=>i<ops.size/\i∉done/\(∀o,ops[i]?=some o->∀e∈o.after.toList,Region.binds m e=true->e.on∈done)/\Lin m ops (i::done) l
theorem Mr {m:Region.Mode} {e:Edge} (h:Region.binds .any e=true):Region.binds m e=true:=by
 obtain⟨on,g⟩:=e;cases g <;> first|rfl|(simp [Region.binds] at h)
theorem JU {m:Region.Mode} {ops:Array Oper} {bef:Nat->Nat->Bool} (E:∀{i j:Nat},j<ops.size->i<ops.size->bef i j=true->
  ∃o,ops[j]?=some o/\∃e∈o.after.toList,Region.binds .any e=true/\(e.on=i\/bef i e.on=true)/\e.on<j) (l:List Nat):∀(done:List Nat),Lin m ops done l->
  (∀j∈done,j<ops.size/\∀i,i<ops.size->bef i j=true->i∈done)->
  l.Pairwise (fun x y=>x≠y/\bef y x=false)/\l.Nodup/\(∀i∈l,i<ops.size/\i∉done):=by
 induction l with
 | nil=>exact fun _ _ _=>⟨List.Pairwise.nil,List.nodup_nil,fun i M=>by simp at M⟩
 | cons i l ih=>
  intro done h J;obtain⟨h1,W,Z,h4⟩:=h;have U:∀k,k<ops.size->bef k i=true->k∈done:=by
   intro k C a6;obtain⟨o,ho,e,he,a4,I,ab⟩:=E h1 C a6;have V:=Z o ho e he (Mr a4);rcases I with rfl|I
   ·exact V
   ·exact(J _ V).2 k C I
  obtain⟨p1,p2,G⟩:=ih (i::done) h4 (by
   intro j F;rcases List.mem_cons.1 F with rfl|F
   ·exact⟨h1,fun k C E=>List.mem_cons.2 (.inr (U k C E))⟩
   ·exact⟨(J j F).1,fun k C E=>List.mem_cons.2 (.inr ((J j F).2 k C E))⟩)
  refine⟨List.pairwise_cons.2 ⟨fun y hy=>?_,p1⟩,List.nodup_cons.2 ⟨fun M=>(G i M).2 (by simp),p2⟩,?_⟩
  ·have O:=G y hy;refine⟨fun e=>O.2 (by simp [e]),?_⟩;cases a3:bef y i with
   | false=>rfl
   | true=>exact absurd (List.mem_cons.2 (.inr (U y O.1 a3))) O.2
  ·intro k C;rcases List.mem_cons.1 C with rfl|C
   ·exact⟨h1,W⟩
   ·exact⟨(G k C).1,fun hn=>(G k C).2 (List.mem_cons.2 (.inr hn))⟩
def DR (n:Nat) (done:List Nat):List Nat:=(List.range n).filter fun i=>!done.contains i
theorem Q9 {n i:Nat} {done:List Nat} (C:i<n) (h:i∉done):(DR n (i::done)).length<(DR n done).length:=by
 have e:DR n (i::done)=(DR n done).filter fun k=>!(k==i):=by
  unfold DR;rw [List.filter_filter];congr 1;funext k;by_cases E:k=i <;> simp [E]
 rw [e,List.length_filter_lt_length_iff_exists];exact⟨i,by simp [DR,C,h],by simp⟩
def Ha (m:Region.Mode) (ops:Array Oper):Prop:=
 ∀done:List Nat,(∃i,i<ops.size/\i∉done)->∃i,i<ops.size/\i∉done/\∀o,ops[i]?=some o->∀e∈o.after.toList,Region.binds m e=true->e.on∈done
theorem QQ {m:Region.Mode} {ops:Array Oper} (T:List Nat):∀(E:List Nat),Lin m ops E T->∀done:List Nat,(∀i∈E,i∈done)->(∃i,i∈T/\i∉done)->
  ∃i,i<ops.size/\i∉done/\∀o,ops[i]?=some o->∀e∈o.after.toList,Region.binds m e=true->e.on∈done:=by
 induction T with
 | nil=>exact fun _ _ _ _ h=>by obtain⟨i,C,_⟩:=h;simp at C
 | cons k T ih=>
  intro E h done G V;obtain⟨h1,W,J,M⟩:=h;by_cases F:k∈done
  ·refine ih (k::E) M done (fun i C=>?_) ?_
   ·rcases List.mem_cons.1 C with rfl|C
    ·exact F
    ·exact G i C
   ·obtain⟨i,C,I⟩:=V;rcases List.mem_cons.1 C with rfl|C
    ·exact absurd F I
    ·exact⟨i,C,I⟩
  ·exact⟨k,h1,F,fun o ho e U O=>G _ (J o ho e U O)⟩
theorem HW {m:Region.Mode} {ops:Array Oper} {T:List Nat} (C:Lin m ops [] T) (E:∀i,i<ops.size->i∈T):Ha m ops:=
 fun done ⟨i,F,G⟩=>QQ T [] C done (fun _ h=>by simp at h) ⟨i,E i F,G⟩
theorem P3 {m:Region.Mode} {ops:Array Oper} (hp:Ha m ops):∀(fuel t:Nat) (listed:Array Bool) (acc:List Nat),listed.size=ops.size->
  (∀i,i<ops.size->(listed[i]?=some true↔i∈acc))->(∀i∈acc,i<ops.size)->(DR ops.size acc).length<=fuel->
  ∃l,Region.linearise.go m ops fuel t listed acc=acc.reverse++l/\Lin m ops acc l/\∀i,i<ops.size->i∈acc\/i∈l:=by
 intro fuel
 induction fuel with
 | zero=>
  intro t listed acc _ _ _ hm;refine⟨[],by simp [Region.linearise.go],trivial,fun i O=>?_⟩;have h0:DR ops.size acc=[]:=List.eq_nil_of_length_eq_zero (by omega);by_cases G:i∈acc
  ·exact .inl G
  ·exfalso;have:i∈DR ops.size acc:=by simp [DR,O,G]
   rw [h0] at this;simp at this
 | succ fuel ih=>
  intro t listed acc a5 I Z hm;rw [Region.linearise.go];generalize aj:((List.range ops.size).filter fun i=>!listed.getD i true&&((ops[i]?).map (·.after.all fun e=>!Region.binds m e||listed.getD e.on false)).getD false)=rs;have a4:∀i,i∈rs↔i<ops.size/\i∉acc/\∀o,ops[i]?=some o->∀e∈o.after.toList,Region.binds m e=true->e.on∈acc:=by
   intro i;rw [<-aj,List.mem_filter,List.mem_range];constructor
   ·rintro⟨h1,h⟩;have hl:=I i h1;have W:listed[i]?=some (listed[i]'(by omega)):=Array.getElem?_eq_getElem (by omega);simp only [Bool.and_eq_true,Bool.not_eq_true'] at h;obtain⟨h,E⟩:=h;refine⟨h1,fun G=>?_,fun o ho e M J=>?_⟩
    ·have:=hl.2 G;rw [Array.getD_eq_getD_getElem?,this] at h;simp at h
    ·rw [ho] at E;simp only [Option.map_some,Option.getD_some,Array.all_eq_true'] at E;have:=E e (by simpa using M);rw [J] at this;simp only [Bool.not_true,Bool.false_or] at this;rw [Array.getD_eq_getD_getElem?] at this;by_cases ag:e.on<ops.size
     ·have h4:=I e.on ag;cases V:listed[e.on]? with
      | none=>rw [V] at this;simp at this
      | some b=>rw [V] at this;simp at this;subst this;exact h4.1 V
     ·rw [Array.getElem?_eq_none (by omega)] at this;simp at this
   ·rintro⟨h1,h,E⟩;refine⟨h1,?_⟩;have W:listed[i]?=some (listed[i]'(by omega)):=Array.getElem?_eq_getElem (by omega);have J:listed[i]'(by omega)=false:=by
     cases F:listed[i]'(by omega) with
     | false=>rfl
     | true=>exact absurd ((I i h1).1 (by rw [W,F])) h
    simp only [Bool.and_eq_true,Bool.not_eq_true',Array.getD_eq_getD_getElem?,W,J,Option.getD_some,true_and];have ho:ops[i]?=some (ops[i]'h1):=Array.getElem?_eq_getElem h1;rw [ho];simp only [Option.map_some,Option.getD_some,Array.all_eq_true'];intro e M;cases ad:Region.binds m e with
    | false=>rfl
    | true=>
     have a3:=E _ ho e (by simpa using M) ad;have:=(I e.on (Z _ a3)).2 a3;simp [this]
  cases a2:rs[t % rs.length]? with
  | none=>
   dsimp only;refine⟨[],by simp,trivial,fun i O=>?_⟩;by_cases G:i∈acc
   ·exact .inl G
   ·exfalso;obtain⟨k,h1,h,E⟩:=hp acc ⟨i,O,G⟩;have C:k∈rs:=(a4 k).2 ⟨h1,h,E⟩;have ai:0<rs.length:=List.length_pos_of_mem C;rw [List.getElem?_eq_none_iff] at a2;have:=Nat.mod_lt t ai;omega
  | some i=>
   dsimp only;obtain⟨h1,h,E⟩:=(a4 i).1 (List.mem_of_getElem? a2);have hA:∀k,k<ops.size->((listed.setIfInBounds i true)[k]?=some true↔k∈i::acc):=by
    intro k C;by_cases U:k=i
    ·subst U;simp [a5,C]
    ·rw [Array.getElem?_setIfInBounds_ne (fun e=>U e.symm),I k C];simp [U]
   have hB:∀k∈i::acc,k<ops.size:=by
    intro k C;rcases List.mem_cons.1 C with rfl|C
    ·exact h1
    ·exact Z k C
   obtain⟨l,e1,e2,e3⟩:=ih (t / rs.length) (listed.setIfInBounds i true) (i::acc) (by simpa using a5) hA hB (by have:=Q9 (n:=ops.size) h1 h;omega);refine⟨i::l,by rw [e1];simp,⟨h1,h,E,e2⟩,fun k C=>?_⟩;rcases e3 k C with F|F
   ·rcases List.mem_cons.1 F with rfl|F
    ·exact .inr (by simp)
    ·exact .inl F
   ·exact .inr (by simp [F])
theorem Hz {m:Region.Mode} {ops:Array Oper} (G:Ha m ops) (t:Nat):Lin m ops [] (Region.linearise m ops t)/\∀i,i<ops.size->i∈Region.linearise m ops t:=by
 obtain⟨l,h1,E,F⟩:=P3 G ops.size t (Array.replicate ops.size false) [] (by simp) (fun i C=>by simp [C]) (fun i C=>by simp at C) (by
  unfold DR;exact Nat.le_trans (List.length_filter_le _ _) (by simp))
 unfold Region.linearise;rw [h1];refine⟨by simpa using E,fun i C=>?_⟩;rcases F i C with h|h
 ·simp at h
 ·simpa using h
end Reg
end Go.Proofs.YtjejejmeddkciaaGreatDoor
namespace Go.Proofs.YtjejejmeddkciaaGreatDoor
namespace Reg
def Bl (tab:List Nat):Nat->Nat->Bool:=fun i j=>(tab.getD j 0).testBit i
def Gq (ops:Array Oper) (tab:List Nat):Bool:=
 (List.range ops.size).all fun j=>(List.range ops.size).all fun i=>
  !Bl tab i j||(match ops[j]? with
   | some o=>o.after.any fun e=>Region.binds .any e&&(e.on==i||Bl tab i e.on)&&decide (e.on<j)
   | none=>false)
def Bg (m:Region.Mode) (ops:Array Oper):List Nat->List Nat->Bool
  | _,[]=>true
  | done,i::l=>decide (i<ops.size)&&!done.contains i&&(match ops[i]? with
      | some o=>o.after.all fun e=>!Region.binds m e||done.contains e.on
      | none=>true)&&Bg m ops (i::done) l
def FR (ops:Array Oper) (l:List Nat):Bool:=(List.range ops.size).all fun i=>l.contains i
def Gu (ops:Array Oper):Bool:=
 Bg .any ops [] (List.range ops.size)&&
  (!Region.departs ops||(Bg .text ops [] (List.range ops.size)&&Bg .gc ops [] (Region.linearise .gc ops 0)&&FR ops (Region.linearise .gc ops 0)))
def GL (P:Program) (ib:Bool) (ops:Array Oper) (tab:List Nat) (x y:Nat):Bool:=
 x != y&&!Bl tab y x&&(Bl tab x y||(match ops[x]?,ops[y]? with
  | some ox,some oy=>FL P ib ops ox oy
  | _,_=>true))
def ER (f:Nat->Nat->Bool):List Nat->Bool
 | []=>true
 | x::l=>l.all (f x)&&ER f l
def GZ (ops:Array Oper) (tab:List Nat):Bool:=
 (ops.all fun o=>DI o.op&&(!Bq o.op||dis o.dst (BZ ops o)))&&
 (List.range ops.size).all fun x=>match ops[x]? with
  | some ox=>!Bq ox.op||(List.range ops.size).all fun y=>match ops[y]? with
   | some oy=>x==y||Bl tab y x||dis oy.dst (BZ ops ox)
   | none=>true
  | none=>true
def chk (P:Program) (ib:Bool) (ops:Array Oper) (tab T:List Nat):Bool:=
 GZ ops tab&&Gq ops tab&&Gu ops&&ER (GL P ib ops tab) T&&T.all (fun i=>decide (i<ops.size))&&FR ops T
def DS (P:Program) (ib:Bool) (ops:Array Oper) (tab T:List Nat):Bool:=
 ER (fun x y=>match ops[x]?,ops[y]? with
  | some ox,some oy=>!Bq ox.op||!eff P ib oy||Bl tab x y
  | _,_=>true) T
theorem F5 {f:Nat->Nat->Bool} (l:List Nat) (h:ER f l=true):l.Pairwise (fun x y=>f x y=true):=by
 induction l with
 | nil=>exact List.Pairwise.nil
 | cons x l ih=>
  simp only [ER,Bool.and_eq_true,List.all_eq_true] at h;exact List.pairwise_cons.2 ⟨h.1,ih h.2⟩
theorem Hy {m:Region.Mode} {ops:Array Oper} (l:List Nat):∀done,Bg m ops done l=true->Lin m ops done l:=by
 induction l with
 | nil=>exact fun _ _=>trivial
 | cons i l ih=>
  intro done h;simp only [Bg,Bool.and_eq_true,decide_eq_true_eq,Bool.not_eq_true',List.contains_eq_mem,decide_eq_false_iff_not] at h;obtain⟨⟨⟨h1,E⟩,C⟩,F⟩:=h;refine⟨h1,E,fun o ho e I G=>?_,ih _ F⟩;rw [ho] at C;simp only [Array.all_eq_true'] at C;have:=C e (by simpa using I);simpa [G] using this
theorem Hr {ops:Array Oper} {l:List Nat} (h:FR ops l=true):∀i,i<ops.size->i∈l:=by
 intro i C;unfold FR at h;rw [List.all_eq_true] at h;simpa using h i (List.mem_range.2 C)
theorem K0 {ops:Array Oper} (h:Gu ops=true) (F:Bool) (t:Nat):(∃m,Lin m ops [] (Region.schedule F ops t))/\∀i,i<ops.size->i∈Region.schedule F ops t:=by
 simp only [Gu,Bool.and_eq_true,Bool.or_eq_true,Bool.not_eq_true'] at h;obtain⟨h1,C⟩:=h;have E:∀i,i<ops.size->i∈List.range ops.size:=fun i G=>List.mem_range.2 G;unfold Region.schedule;split
 ·have:=Hz (HW (Hy _ _ h1) E) t;exact⟨⟨_,this.1⟩,this.2⟩
 ·rename_i hne;rcases C with C|C
  ·rw [C] at hne;simp at hne
  ·split
   ·have:=Hz (HW (Hy _ _ C.1.1) E) (t / 2);exact⟨⟨_,this.1⟩,this.2⟩
   ·have:=Hz (HW (Hy _ _ C.1.2) (Hr C.2)) (t / 2);exact⟨⟨_,this.1⟩,this.2⟩
theorem IW {ops:Array Oper} {tab:List Nat} (F:Gq ops tab=true) {i j:Nat} (J:j<ops.size) (I:i<ops.size) (h:Bl tab i j=true):
  ∃o,ops[j]?=some o/\∃e∈o.after.toList,Region.binds .any e=true/\(e.on=i\/Bl tab i e.on=true)/\e.on<j:=by
 unfold Gq at F;rw [List.all_eq_true] at F;have h1:=F j (List.mem_range.2 J);rw [List.all_eq_true] at h1;have C:=h1 i (List.mem_range.2 I);rw [h] at C;cases ho:ops[j]? with
 | none=>rw [ho] at C;simp at C
 | some o=>
  rw [ho] at C;refine⟨o,rfl,?_⟩;simp only [Bool.not_true,Bool.false_or] at C;rw [Array.any_eq_true'] at C;obtain⟨e,G,E⟩:=C;simp only [Bool.and_eq_true,Bool.or_eq_true,beq_iff_eq,decide_eq_true_eq] at E;exact⟨e,by simpa using G,E.1.1,E.1.2,E.2⟩
theorem Lp {P:Program} {ops:Array Oper} {tab:List Nat} (h:GZ ops tab=true):Gl P ops (Bl tab):=by
 simp only [GZ,Bool.and_eq_true] at h;obtain⟨h1,E⟩:=h;rw [Array.all_eq_true'] at h1;have F:∀i (o:Oper),ops[i]?=some o->o∈ops:=fun i o ho=>Array.mem_of_getElem? ho;refine⟨fun i o ho=>?_,fun i o ho C=>?_,fun x y U V M G I C J=>?_⟩
 ·have:=h1 o (F i o ho);simp only [Bool.and_eq_true] at this;exact this.1
 ·have:=h1 o (F i o ho);simp only [Bool.and_eq_true,Bool.or_eq_true,Bool.not_eq_true'] at this;rcases this.2 with h|h
  ·rw [C] at h;cases h
  ·exact h
 ·rw [List.all_eq_true] at E;have:=E x (List.mem_range.2 (Array.getElem?_eq_some_iff.1 G).1);rw [G] at this;dsimp only at this;rw [C] at this;simp only [Bool.not_true,Bool.false_or,List.all_eq_true] at this;have:=this y (List.mem_range.2 (Array.getElem?_eq_some_iff.1 I).1);rw [I] at this;dsimp only at this;rw [J] at this;have O:(x==y)=false:=by simpa using M
  simpa [O] using this
theorem IF {P:Program} {ib:Bool} {ops:Array Oper} {bef:Nat->Nat->Bool} {Q:Bo} (hQ:NoQ Q) (l:List Nat):∀(D:Nat->Prop) (a:Act) (w:World),WT P ib ops bef Q D l a w->wpOps P ops Q l a w:=by
 induction l with
 | nil=>exact fun _ _ _ h=>h
 | cons i l ih=>
  intro D a w h;obtain⟨o,ho,C⟩:=h;simp only [wpOps,ho];unfold Bu at C;split
  ·rename_i hw;rw [if_pos hw] at C;exact .inl (E9 hQ C.2 fun v ds w' E=>ih _ _ _ E.2)
  ·rename_i hw;rw [if_neg hw] at C;exact ih _ _ _ C.2
theorem GK {P:Program} {ib:Bool} {ops:Array Oper} {id:Nat} {Q:Bo} {a:Act} {w:World} (tab T:List Nat) (I:chk P ib ops tab T=true) (hQ:NoQ Q)
  (h:WT P ib ops (Bl tab) Q (fun _=>False) T a w.drew):(Code.region id ops true).wp P Q a w:=by
 simp only [chk,Bool.and_eq_true] at I;obtain⟨⟨⟨⟨⟨h1,M⟩,O⟩,U⟩,F⟩,V⟩:=I;have hS:Gl P ops (Bl tab):=Lp h1;have G:T.Pairwise (Rel P ib ops (Bl tab)):=(F5 T U).imp fun {x y} hxy=>by
  simp only [GL,Bool.and_eq_true,bne_iff_ne,ne_eq,Bool.not_eq_true',Bool.or_eq_true] at hxy;refine⟨hxy.1.1,hxy.1.2,?_⟩;rcases hxy.2 with h|h
  ·exact .inl h
  ·exact .inr fun ox oy E hy=>by rw [E,hy] at h;exact h
 have J:∀x∈T,x<ops.size:=fun x E=>by
  rw [List.all_eq_true] at F;simpa using F x E
 refine wp_region_draw fun t=>?_;obtain⟨⟨m,a3⟩,Z⟩:=K0 O (P.follows .mixedOrders) t;obtain⟨p1,p2,p3⟩:=JU (fun {i j}=>IW M) _ [] a3 (fun j hj=>by simp at hj);have W:T.Nodup:=(G.imp fun {x y} hxy=>hxy.1);have a4:(Region.schedule (P.follows .mixedOrders) ops t).Perm T:=
  (List.perm_ext_iff_of_nodup p2 W).2 fun i=>⟨fun C=>Hr V i (p3 i C).1,fun C=>Z i (J i C)⟩
 exact IF hQ _ _ _ _ (Ki hQ hS T _ _ _ _ a4 G J p1 (fun r q hr=>hr.elim) h)
def pick (ops:Array Oper) (T:List Nat):List Oper:=T.filterMap (ops[·]?)
def FQ (ops:Array Oper) (a:Act):Bool:=ops.toList.all fun o=>!intOp o.op||!Region.wanted o (yielded ops a.tmps)||intFine a.eval o.op
def EH (ops:Array Oper) (T:List Nat):Bool:=
 T.all (fun x=>match ops[x]? with|some o=>!intOp o.op||dis o.dst (BZ ops o)|none=>true)&&
 ER (fun x y=>match ops[x]?,ops[y]? with
  | some ox,some oy=>!intOp ox.op||dis oy.dst (BZ ops ox)
  | _,_=>true) T
def finQ (ops:Array Oper) (Q:Bo):Bo
 | .normal,a,w=>FQ ops a=true/\Q .normal a w
 | e,a,w=>Q e a w
def postN (next:Act->World->Prop):Bo:=Exit.then next (fun _ _ _=>False)
theorem NoQ.then {K:Act->World->Prop} {Q:Bo} (h:NoQ Q):NoQ (Exit.then K Q):=⟨fun c a w x=>h.1 c a w x,fun a w x=>h.2 a w x⟩
theorem NoQ.inBlock {i:Nat} {Q:Bo} (h:NoQ Q):NoQ (Exit.inBlock i Q):=⟨fun c a w x=>h.1 c a w x,fun a w x=>h.2 a w x⟩
theorem NoQ.body {P:Program} {fn:Func} {R:Ending->World->Prop} (h1:∀c w,¬R (.panicked c) w) (h:∀w,¬R .outgrown w):NoQ (bodyPost P fn R):=⟨fun c _ w x=>h1 c w x.2,fun _ w x=>h w x⟩
theorem NoQ.postN (next:Act->World->Prop):NoQ (Reg.postN next):=⟨fun _ _ _ x=>x,fun _ _ x=>x⟩
theorem NoQ.finQ {ops:Array Oper} {Q:Bo} (h:NoQ Q):NoQ (Reg.finQ ops Q):=⟨fun c a w x=>h.1 c a w x,fun a w x=>h.2 a w x⟩
theorem GA {Q:Bo} (h:NoQ Q):¬LetsOut Q:=fun⟨a,w,x⟩=>h.2 a w x
section
variable {P:Program} {ib:Bool} {ops:Array Oper} {bef:Nat->Nat->Bool} {Q Qf:Bo}
theorem LF (hQ:NoQ Qf) (l:List Oper):∀(a:Act) (w:World),wpList P ops Qf l a w->∃C E,Qf .normal C E/\∀t,(∀o∈l,o.dst≠some t)->C.tmps[t]?=a.tmps[t]?:=by
 induction l with
 | nil=>exact fun a w h=>⟨a,w,h,fun _ _=>rfl⟩
 | cons o l ih=>
  intro a w h;have key:∃v ds w',wpList P ops Qf l (upd a o.dst ds v) w':=by
   unfold wpList at h;split at h
   ·rcases h with h|h
    ·exact G8 hQ h
    ·exact absurd h.2 (GA hQ)
   ·exact⟨undef,[],w,by rw [CN];exact h⟩
  obtain⟨v,ds,w',h⟩:=key;obtain⟨C,E,h1,F⟩:=ih _ _ h;exact⟨C,E,h1,fun t ht=>(F t fun x G=>ht x (by simp [G])).trans (G6 _ _ _ _ _ (ht o (by simp)))⟩
theorem Kj {i:Nat} {o:Oper} (h:ops[i]?=some o) (T:List Nat):pick ops (i::T)=o::pick ops T:=by
 simp [pick,h]
theorem J2 {T:List Nat} {o:Oper} (h:o∈pick ops T):∃i,i∈T/\ops[i]?=some o:=by
 simpa [pick] using h
theorem Hb (M:NoQ Qf) (T2:List Nat) (C:List Nat):∀(D:Nat->Prop) (a:Act) (w:World),
  (∀i∈C,i<ops.size)->
  (C.Pairwise fun x y=>∀(I E:Oper),ops[x]?=some I->ops[y]?=some E->Bq I.op=true->eff P ib E=true->bef x y=true)->
  (∀r q,D r->ops[r]?=some q->Bq q.op=true->∀y∈C,∀E,ops[y]?=some E->eff P ib E=true->bef r y=true)->
  (∀a w,Qf .normal a w->WT P ib ops bef Q (fun k=>k∈C\/D k) T2 a w)->
  (ib=true->(∀a w,Qf .normal a w->FQ ops a=true)/\(∀x∈C,∀o,ops[x]?=some o->intOp o.op=true->dis o.dst (BZ ops o)=true)/\
   (C.Pairwise fun x y=>∀(I E:Oper),ops[x]?=some I->ops[y]?=some E->intOp I.op=true->dis E.dst (BZ ops I)=true))->
  wpList P ops Qf (pick ops C) a w->WT P ib ops bef Q D (C++T2) a w:=by
 induction C with
 | nil=>
  intro D a w _ _ _ hn _ h;have:=hn a w h;have e:(fun k=>k∈([]:List Nat)\/D k)=D:=by funext k;simp
  rw [e] at this;exact this
 | cons i C ih=>
  intro D a w aa hp hD hn hf h;have hi:=aa i (by simp);have ho:ops[i]?=some ops[i]:=Array.getElem?_eq_getElem hi;rw [Kj ho] at h;obtain⟨am,an⟩:=List.pairwise_cons.1 hp;refine⟨ops[i],ho,?_⟩;have ab:∀b w',wpList P ops Qf (pick ops C) b w'->Obl P ib ops bef D i b w w'/\WT P ib ops bef Q (fun k=>k=i\/D k) (C++T2) b w':=by
   intro b w' hb;refine⟨fun o aj O r q J W U ag=>?_,ih _ b w' (fun x F=>aa x (by simp [F])) an ?_ ?_ ?_ hb⟩
   ·have:=hD r q J W U i (by simp) o aj O;rw [ag] at this;cases this
   ·intro r q J W U y Z E V O;rcases J with rfl|J
    ·exact am y Z q E W V U O
    ·exact hD r q J W U y (by simp [Z]) E V O
   ·intro a' w'' F;have:=hn a' w'' F;have e:(fun k=>k∈i::C\/D k)=(fun k=>k∈C\/k=i\/D k):=by
     funext k;simp only [List.mem_cons,eq_iff_iff];constructor
     ·rintro((h|h)|h) <;> simp [h]
     ·rintro(h|h|h) <;> simp [h]
    rw [e] at this;exact this
   ·intro G;obtain⟨f1,f2,f3⟩:=hf G;exact⟨f1,fun x F=>f2 x (by simp [F]),(List.pairwise_cons.1 f3).2⟩
  unfold wpList at h;unfold Bu;split at h
  ·rename_i hw;rw [if_pos hw];rcases h with h|h
   ·refine⟨fun G=>?_,E9 M h fun v ds w' F=>ab _ _ F⟩;simp only [Bool.and_eq_true] at G;obtain⟨f1,f2,f3⟩:=hf G.1;obtain⟨v,ds,w',F⟩:=G8 M h;obtain⟨aF,wF,g1,g2⟩:=LF M _ _ _ F;have a8:CO ops ops[i] aF a:=by
     intro t ht;have hd:=f2 i (by simp) _ ho G.2;rw [g2 t fun o ak=>?_,G6 _ _ _ _ _ (Fg hd ht)];obtain⟨y,Z,V⟩:=J2 ak;exact Fg ((List.pairwise_cons.1 f3).1 y Z _ _ ho V G.2) ht
    have a5:=f1 _ _ g1;unfold FQ at a5;rw [List.all_eq_true] at a5;have:=a5 ops[i] (by simp);rw [D0 a8,hw,G.2,FT a8] at this;simpa using this
   ·exact absurd h.2 (GA M)
  ·rename_i hw;rw [if_neg hw];exact ab _ _ h
theorem IE {i:Nat} {o:Oper} (ho:ops[i]?=some o) (C:List Nat) (T:List Nat) {D:Nat->Prop} {a:Act} {w:World} (U:(ib&&intOp o.op)=false)
  (J:∀r q,D r->ops[r]?=some q->Bq q.op=true->bef r i=false->r∈C)
  (h:wpList P ops (postN fun b w'=>(∀r∈C,∀q,ops[r]?=some q->C3 P ops q b w w')/\WT P ib ops bef Q (fun k=>k=i\/D k) T b w') [o] a w):WT P ib ops bef Q D (i::T) a w:=by
 refine⟨o,ho,?_⟩
 have G:∀b w',wpList P ops (postN fun b w'=>(∀r∈C,∀q,ops[r]?=some q->C3 P ops q b w w')/\WT P ib ops bef Q (fun k=>k=i\/D k) T b w') [] b w'->
   Obl P ib ops bef D i b w w'/\WT P ib ops bef Q (fun k=>k=i\/D k) T b w':=fun b w' E=>
  ⟨fun Z _ _ r q V F O I=>E.1 r (J r q V F O I) q F,E.2⟩
 unfold wpList at h;unfold Bu;split at h
 ·rename_i hw;rw [if_pos hw];rcases h with h|h
  ·exact⟨fun M=>absurd M (by rw [U];simp),E9 (NoQ.postN _) h fun v ds w' W=>G _ _ W⟩
  ·exact absurd h.2 (GA (NoQ.postN _))
 ·rename_i hw;rw [if_neg hw];exact G _ _ h
end
section
variable {P:Program} {id:Nat} {Q:Bo} {a:Act} {w:World}
theorem GE {ib:Bool} {ops:Array Oper} {tab T:List Nat} (h:DS P ib ops tab T=true):
  T.Pairwise fun x y=>∀(C E:Oper),ops[x]?=some C->ops[y]?=some E->Bq C.op=true->eff P ib E=true->Bl tab x y=true:=
 (F5 T h).imp fun {x y} hxy C E hx hy hl he=>by
  rw [hx,hy] at hxy;dsimp only at hxy;rw [hl,he] at hxy;simpa using hxy
theorem I6 {ib:Bool} {ops:Array Oper} {tab T:List Nat} (h:chk P ib ops tab T=true):∀i∈T,i<ops.size:=fun i C=>by
 simp only [chk,Bool.and_eq_true] at h;have:=h.1.2;rw [List.all_eq_true] at this;simpa using this i C
theorem Rs (l:List Oper):∀(p:List Oper) (k:Nat),p.length=k->(List.range' k l.length).filterMap (fun i=>(p++l)[i]?)=l:=by
 induction l with
 | nil=>intro p k _;rfl
 | cons x l ih=>
  intro p k h;have h0:(p++x::l)[k]?=some x:=by rw [<-h];simp
  have:=ih (p++[x]) (k+1) (by simp [h]);rw [List.append_assoc] at this;simp only [List.length_cons,List.range'_succ,List.filterMap_cons,h0];rw [List.singleton_append] at this;rw [this]
theorem Kk (l:List Oper):pick l.toArray (List.range l.length)=l:=by
 have:=Rs l [] 0 rfl;rw [List.nil_append] at this;unfold pick;rw [List.range_eq_range'];simpa using this
theorem aCh {l:List Oper} (tab:List Nat) (C:(chk P false l.toArray tab (List.range l.length)&&DS P false l.toArray tab (List.range l.length))=true) (hQ:NoQ Q)
  (h:wpList P l.toArray Q l a w.drew):(Code.region id l.toArray true).wp P Q a w:=by
 simp only [Bool.and_eq_true] at C;refine GK tab _ C.1 hQ ?_;have:=Hb (ib:=false) (bef:=Bl tab) hQ [] (List.range l.length) (fun _=>False) a w.drew (I6 C.1) (GE C.2) (fun r q E=>E.elim) (fun a w h=>h) (fun h=>by cases h);rw [List.append_nil] at this;exact this (by rw [Kk];exact h)
theorem R3 {l:List Oper} (tab:List Nat)
  (G:(chk P true l.toArray tab (List.range l.length)&&DS P true l.toArray tab (List.range l.length)&&EH l.toArray (List.range l.length))=true) (hQ:NoQ Q)
  (h:wpList P l.toArray (finQ l.toArray Q) l a w.drew):(Code.region id l.toArray true).wp P Q a w:=by
 simp only [Bool.and_eq_true] at G;obtain⟨⟨h1,I⟩,C⟩:=G;simp only [EH,Bool.and_eq_true,List.all_eq_true] at C;refine GK tab _ h1 hQ ?_
 have:=Hb (ib:=true) (bef:=Bl tab) (Q:=Q) hQ.finQ [] (List.range l.length) (fun _=>False) a w.drew (I6 h1) (GE I) (fun r q J=>J.elim) (fun a w h=>h.2)
  (fun _=>⟨fun a w h=>h.1,fun x F o ho E=>by have:=C.1 x F;rw [ho] at this;dsimp only at this;rw [E] at this;simpa using this,(F5 _ C.2).imp fun {x y} hxy ox oy F hy E=>by
   rw [F,hy] at hxy;dsimp only at hxy;rw [E] at hxy;simpa using hxy⟩)
 rw [List.append_nil] at this;exact this (by rw [Kk];exact h)
def CB (P:Program) (ops:Array Oper) (tab:List Nat) (Q:Bo) (D T:List Nat) (a:Act) (w:World):Prop:=WT P false ops (Bl tab) Q (fun k=>k∈D) T a w
theorem R0 {l:List Oper} (tab T:List Nat) (C:chk P false l.toArray tab T=true) (hQ:NoQ Q) (h:CB P l.toArray tab Q [] T a w.drew):(Code.region id l.toArray true).wp P Q a w:=by
 refine GK tab T C hQ ?_;have e:(fun k=>k∈([]:List Nat))=fun _=>False:=by funext k;simp
 unfold CB at h;rw [e] at h;exact h
theorem Sd {l l1:List Oper} {tab D:List Nat} (C E:List Nat) (U:pick l.toArray C=l1)
  (F:(C.all (fun i=>decide (i<l.length))&&DS P false l.toArray tab C&&D.all (fun r=>C.all fun y=>match l.toArray[r]?,l.toArray[y]? with
   | some q,some G=>!Bq q.op||!eff P false G||Bl tab r y
   | _,_=>true))=true)
  (h:wpList P l.toArray (postN fun a w=>CB P l.toArray tab Q (C++D) E a w) l1 a w):CB P l.toArray tab Q D (C++E) a w:=by
 simp only [Bool.and_eq_true,List.all_eq_true] at F;obtain⟨⟨h1,I⟩,J⟩:=F;refine Hb (ib:=false) (bef:=Bl tab) (Qf:=postN fun a w=>CB P l.toArray tab Q (C++D) E a w) (NoQ.postN _) E C _ a w (fun i O=>by simpa using h1 i O) (GE I) ?_ ?_ (fun h=>by cases h) (by rw [U];exact h)
 ·intro r q hr Z V y hy G W M;have:=J r hr y hy;rw [Z,W] at this;dsimp only at this;rw [V,M] at this;simpa using this
 ·intro a' w' hx;have e:(fun k=>k∈C\/k∈D)=fun k=>k∈C++D:=by funext k;simp
  rw [e];exact hx
theorem Sc {l:List Oper} {o:Oper} {tab D:List Nat} (i:Nat) (T:List Nat) (C:List Nat) (ho:l.toArray[i]?=some o)
  (E:D.all (fun r=>match l.toArray[r]? with
   | some q=>!Bq q.op||Bl tab r i||C.contains r
   | none=>true)=true)
  (h:wpList P l.toArray (postN fun b w'=>(∀r∈C,∀q,l.toArray[r]?=some q->C3 P l.toArray q b w w')/\CB P l.toArray tab Q (i::D) T b w') [o] a w):CB P l.toArray tab Q D (i::T) a w:=by
 rw [List.all_eq_true] at E;refine IE ho C T (by simp) (fun r q J I G F=>?_) ?_
 ·have:=E r J;rw [I] at this;dsimp only at this;rw [G,F] at this;simpa using this
 ·have e:(fun k=>k=i\/k∈D)=fun k=>k∈i::D:=by funext k;simp
  rw [e];exact h
theorem rest_end {l:List Oper} {tab D:List Nat} (h:Q .normal a w):CB P l.toArray tab Q D [] a w:=h
theorem R4 {l:List Oper} (tab:List Nat)
  (C:(chk P true l.toArray tab (List.range l.length)&&DS P true l.toArray tab (List.range l.length)&&EH l.toArray (List.range l.length))=true) (hQ:NoQ Q)
  (h:∀Qf:Bo,(∀a w,FQ l.toArray a=true/\Q .normal a w->Qf .normal a w)->wpList P l.toArray Qf l a w.drew):(Code.region id l.toArray true).wp P Q a w:=
 R3 tab C hQ (h _ fun _ _ x=>x)
theorem rest_walk' {l l1:List Oper} {tab D:List Nat} (C E:List Nat) (G:pick l.toArray C=l1)
  (F:(C.all (fun i=>decide (i<l.length))&&DS P false l.toArray tab C&&D.all (fun r=>C.all fun y=>match l.toArray[r]?,l.toArray[y]? with
   | some q,some oy=>!Bq q.op||!eff P false oy||Bl tab r y
   | _,_=>true))=true)
  (h:∀Qf:Bo,(∀a w,CB P l.toArray tab Q (C++D) E a w->Qf .normal a w)->wpList P l.toArray Qf l1 a w):CB P l.toArray tab Q D (C++E) a w:=
 Sd C E G F (h _ fun _ _ x=>x)
theorem rest_act' {l:List Oper} {o:Oper} {tab D:List Nat} (i:Nat) (T:List Nat) (C:List Nat) (ho:l.toArray[i]?=some o)
  (E:D.all (fun r=>match l.toArray[r]? with
   | some q=>!Bq q.op||Bl tab r i||C.contains r
   | none=>true)=true)
  (h:∀Qf:Bo,(∀b w',(∀r∈C,∀q,l.toArray[r]?=some q->C3 P l.toArray q b w w')/\CB P l.toArray tab Q (i::D) T b w'->Qf .normal b w')->wpList P l.toArray Qf [o] a w):CB P l.toArray tab Q D (i::T) a w:=
 Sc i T C ho E (h _ fun _ _ x=>x)
theorem same_below {ops:Array Oper} {b:Act} {w w':World} (h:RowKit.Below w.heap.size w w') (E:List Nat) (C:E.all (fun r=>match ops[r]? with|some q=>Bq q.op|none=>true)=true):
  ∀r∈E,∀q,ops[r]?=some q->C3 P ops q b w w':=fun r G q F=>by
 rw [List.all_eq_true] at C;have:=C r G;rw [F] at this;exact GV this h.block
end
end Reg
end Go.Proofs.YtjejejmeddkciaaGreatDoor
namespace Go.Proofs.YtjejejmeddkciaaGreatDoor
namespace Reg
theorem SN {P:Program} {w:World} {p:Addr} {v:Value} {ty:TypeId} {d:TypeDesc} (C:w.cell? p=some v) (E:P.underlying ty=some d) (F:d.isRow=false):
  (Instr.loadAt ty (.pointer (some p))).run P w=.ok v w:=by
 have h:(isAgg ty).run P w=.ok false w:=by
  unfold isAgg;rw [Sem.run_bind,run_underlying E w];cases d <;> simp_all
 simp [Instr.loadAt,Instr.sureAddr,Sem.run_bind,loadVar,h,C]
theorem same_load1 {P:Program} {ops:Array Oper} {q:Oper} {b:Act} {w w':World} {ty:TypeId} {x:Operand} {p:Addr} {u:Value} {d:TypeDesc} (ho:q.op=.load ty x) (M:b.eval x=.pointer (some p))
  (F:w.cell? p=some u) (G:w'.cell? p=some u) (J:P.underlying ty=some d) (I:d.isRow=false):C3 P ops q b w w':=by
 intro _ v E;obtain⟨dst,op,type,pos,after,guard⟩:=q;dsimp only at ho;subst ho;have e:∀C,C.cell? p=some u->(execOp b.eval { dst,op:=.load ty x,type,pos,after,guard }).run P C=.ok (.value u) C:=fun C h=>by
  show((Instr.loadAt ty (b.eval x)) >>=fun v=>(Pure.pure (Next.value v):Sem Next)).run P C=_
  rw [M];exact KW (SN h J I)
 rw [e w F] at E;injection E with E _
 rw [<-E];exact e w' G
end Reg
end Go.Proofs.YtjejejmeddkciaaGreatDoor
namespace Go.Proofs.YtjejejmeddkciaaGreatDoor
namespace Reg
def Bx (tab:List Nat) (i j:Nat):List Nat:=tab.mapIdx fun y s=>if y==j||s.testBit j then s||| 2 ^ i||| tab.getD i 0 else s
theorem Mm {tab:List Nat} {i j x y:Nat} (h:Bl (Bx tab i j) x y=true):Bl tab x y=true\/((y=j\/Bl tab j y=true)/\(x=i\/Bl tab x i=true)):=by
 unfold Bl at*;by_cases C:y<tab.length
 ·have e:(Bx tab i j).getD y 0=if y==j||(tab.getD y 0).testBit j then tab.getD y 0||| 2 ^ i||| tab.getD i 0 else tab.getD y 0:=by
   simp [Bx,List.getD,C]
  rw [e] at h;split at h
  ·rename_i hc;simp only [Bool.or_eq_true,beq_iff_eq] at hc;rw [Nat.testBit_or,Nat.testBit_or,Nat.testBit_two_pow] at h;simp only [Bool.or_eq_true,decide_eq_true_eq] at h;rcases h with(h|h)|h
   ·exact .inl h
   ·exact .inr ⟨hc,.inl h.symm⟩
   ·exact .inr ⟨hc,.inr h⟩
  ·exact .inl h
 ·have e:(Bx tab i j).getD y 0=0:=by
   simp [Bx,List.getD,List.getElem?_eq_none (Nat.le_of_not_lt C)]
  rw [e] at h;simp at h
def Con (tab:List Nat) (l:List Nat):Prop:=l.Pairwise fun x y=>x≠y/\Bl tab y x=false
theorem Jd {tab l:List Nat} {p q i j:Nat} (h:Con tab l) (U:l[p]?=some i) (Z:l[q]?=some j) (a5:p<q):Con (Bx tab i j) l:=by
 have E:=List.pairwise_iff_getElem.1 h;have W:=(List.getElem?_eq_some_iff.1 U);have a3:=(List.getElem?_eq_some_iff.1 Z);obtain⟨V,M⟩:=W;obtain⟨a2,O⟩:=a3;refine List.pairwise_iff_getElem.2 fun a b F G J=>⟨(E a b F G J).1,?_⟩;cases hx:Bl (Bx tab i j) l[b] l[a] with
 | false=>rfl
 | true=>
  exfalso;rcases Mm hx with h1|⟨h1,C⟩
  ·rw [(E a b F G J).2] at h1;cases h1
  ·have c1:q<=a:=by
    refine Nat.le_of_not_lt fun I=>?_;have:=E a q F a2 I;rcases h1 with h1|h1
    ·exact this.1 (h1.trans O.symm)
    ·rw [O] at this;rw [this.2] at h1;cases h1
   have c2:b<=p:=by
    refine Nat.le_of_not_lt fun I=>?_;have:=E p b V G I;rcases C with C|C
    ·exact this.1 (M.trans C.symm)
    ·rw [M] at this;rw [this.2] at C;cases C
   omega
inductive Spl where
 | leaf (T:List Nat)
 | node (i j:Nat) (s t:Spl)
def Spl.chk (P:Program) (ops:Array Oper):Spl->List Nat->Bool
 | .leaf T,tab=>GZ ops tab&&ER (GL P false ops tab) T&&T.all (fun i=>decide (i<ops.size))&&FR ops T
 | .node i j s t,tab=>decide (i<ops.size)&&decide (j<ops.size)&&i != j&&s.chk P ops (Bx tab i j)&&t.chk P ops (Bx tab j i)
def Spl.goal (P:Program) (ops:Array Oper) (Q:Bo) (a:Act) (w:World):Spl->List Nat->Prop
 | .leaf T,tab=>CB P ops tab Q [] T a w
 | .node i j s t,tab=>s.goal P ops Q a w (Bx tab i j)/\t.goal P ops Q a w (Bx tab j i)
theorem Te {P:Program} {ops:Array Oper} {Q:Bo} {a:Act} {w:World} (hQ:NoQ Q) (s:Spl):∀(tab l:List Nat),s.chk P ops tab=true->Con tab l->l.Nodup->(∀i∈l,i<ops.size)->(∀i,i<ops.size->i∈l)->s.goal P ops Q a w tab->
  wpOps P ops Q l a w:=by
 induction s with
 | leaf T=>
  intro tab l E J M I C G;simp only [Spl.chk,Bool.and_eq_true] at E;obtain⟨⟨⟨h1,U⟩,F⟩,h6⟩:=E;have hS:Gl P ops (Bl tab):=Lp h1;have hT:T.Pairwise (Rel P false ops (Bl tab)):=(F5 T U).imp fun {x y} hxy=>by
   simp only [GL,Bool.and_eq_true,bne_iff_ne,ne_eq,Bool.not_eq_true',Bool.or_eq_true] at hxy;refine⟨hxy.1.1,hxy.1.2,?_⟩;rcases hxy.2 with h|h
   ·exact .inl h
   ·exact .inr fun ox oy hx hy=>by rw [hx,hy] at h;exact h
  have a4:∀x∈T,x<ops.size:=fun x hx=>by
   rw [List.all_eq_true] at F;simpa using F x hx
  have a8:T.Nodup:=(hT.imp fun {x y} hxy=>hxy.1);have a9:l.Perm T:=(List.perm_ext_iff_of_nodup M a8).2 fun i=>⟨fun W=>Hr h6 i (I i W),fun W=>C i (a4 i W)⟩;have e:(fun k=>k∈([]:List Nat))=fun _=>False:=by funext k;simp
  have V:CB P ops tab Q [] T a w:=G;unfold CB at V;rw [e] at V;exact IF hQ _ _ _ _ (Ki hQ hS T _ _ _ _ a9 hT a4 J (fun r q hr=>hr.elim) V)
 | node i j s t ihs iht=>
  intro tab l E J M I C G;simp only [Spl.chk,Bool.and_eq_true,bne_iff_ne,ne_eq,decide_eq_true_eq] at E;obtain⟨⟨⟨⟨h1,h2⟩,h3⟩,U⟩,F⟩:=E;obtain⟨p,Z⟩:=List.mem_iff_getElem?.1 (C i h1);obtain⟨q,O⟩:=List.mem_iff_getElem?.1 (C j h2);rcases Nat.lt_trichotomy p q with h|h|h
  ·exact ihs _ l U (Jd J Z O h) M I C G.1
  ·subst h;rw [Z] at O;exact absurd (Option.some.inj O) h3
  ·exact iht _ l F (Jd J O Z h) M I C G.2
theorem region_spl {P:Program} {l:List Oper} {id:Nat} {Q:Bo} {a:Act} {w:World} (tab:List Nat) (s:Spl) (E:(Gq l.toArray tab&&Gu l.toArray&&s.chk P l.toArray tab)=true) (hQ:NoQ Q)
  (h:s.goal P l.toArray Q a w.drew tab):(Code.region id l.toArray true).wp P Q a w:=by
 simp only [Bool.and_eq_true] at E;obtain⟨⟨F,G⟩,I⟩:=E;refine wp_region_draw fun t=>?_;obtain⟨⟨m,O⟩,J⟩:=K0 G (P.follows .mixedOrders) t;obtain⟨U,V,W⟩:=JU (fun {i j}=>IW F) _ [] O (fun j M=>by simp at M);exact Te hQ s tab _ I U V (fun i C=>(W i C).1) (fun i C=>J i C) h
end Reg
end Go.Proofs.YtjejejmeddkciaaGreatDoor
namespace Go.Proofs.YtjejejmeddkciaaGreatDoor
namespace Reg
def fineT (ops:Array Oper) (T:List Nat) (a:Act):Bool:=T.all fun x=>match ops[x]? with
 | some o=>!intOp o.op||!Region.wanted o (yielded ops a.tmps)||intFine a.eval o.op
 | none=>true
section
variable {P:Program} {ib:Bool} {ops:Array Oper} {bef:Nat->Nat->Bool} {Q Qf:Bo}
theorem LY (T0:List Nat) (M:NoQ Qf) (T2:List Nat) (C:List Nat):∀(D:Nat->Prop) (a:Act) (w:World),
  (∀x∈C,x∈T0)->(∀i∈C,i<ops.size)->
  (C.Pairwise fun x y=>∀(I F:Oper),ops[x]?=some I->ops[y]?=some F->Bq I.op=true->eff P ib F=true->bef x y=true)->
  (∀r q,D r->ops[r]?=some q->Bq q.op=true->∀y∈C,∀F,ops[y]?=some F->eff P ib F=true->bef r y=true)->
  (∀a w,Qf .normal a w->WT P ib ops bef Q (fun k=>k∈C\/D k) T2 a w)->
  (ib=true->(∀a w,Qf .normal a w->fineT ops T0 a=true)/\(∀x∈C,∀o,ops[x]?=some o->intOp o.op=true->dis o.dst (BZ ops o)=true)/\
   (C.Pairwise fun x y=>∀(I F:Oper),ops[x]?=some I->ops[y]?=some F->intOp I.op=true->dis F.dst (BZ ops I)=true))->
  wpList P ops Qf (pick ops C) a w->WT P ib ops bef Q D (C++T2) a w:=by
 induction C with
 | nil=>
  intro D a w _ _ _ _ hn _ h;have:=hn a w h;have e:(fun k=>k∈([]:List Nat)\/D k)=D:=by funext k;simp
  rw [e] at this;exact this
 | cons i C ih=>
  intro D a w ae ab hp hD hn hf h;have hi:=ab i (by simp);have ho:ops[i]?=some ops[i]:=Array.getElem?_eq_getElem hi;rw [Kj ho] at h;obtain⟨ao,ap⟩:=List.pairwise_cons.1 hp;refine⟨ops[i],ho,?_⟩;have ad:∀b w',wpList P ops Qf (pick ops C) b w'->Obl P ib ops bef D i b w w'/\WT P ib ops bef Q (fun k=>k=i\/D k) (C++T2) b w':=by
   intro b w' hb;refine⟨fun o al O r q J W U ai=>?_,ih _ b w' (fun x E=>ae x (by simp [E])) (fun x E=>ab x (by simp [E])) ap ?_ ?_ ?_ hb⟩
   ·have:=hD r q J W U i (by simp) o al O;rw [ai] at this;cases this
   ·intro r q J W U y Z F V O;rcases J with rfl|J
    ·exact ao y Z q F W V U O
    ·exact hD r q J W U y (by simp [Z]) F V O
   ·intro a' w'' E;have:=hn a' w'' E;have e:(fun k=>k∈i::C\/D k)=(fun k=>k∈C\/k=i\/D k):=by
     funext k;simp only [List.mem_cons,eq_iff_iff];constructor
     ·rintro((h|h)|h) <;> simp [h]
     ·rintro(h|h|h) <;> simp [h]
    rw [e] at this;exact this
   ·intro G;obtain⟨f1,f2,f3⟩:=hf G;exact⟨f1,fun x E=>f2 x (by simp [E]),(List.pairwise_cons.1 f3).2⟩
  unfold wpList at h;unfold Bu;split at h
  ·rename_i hw;rw [if_pos hw];rcases h with h|h
   ·refine⟨fun G=>?_,E9 M h fun v ds w' E=>ad _ _ E⟩;simp only [Bool.and_eq_true] at G;obtain⟨f1,f2,f3⟩:=hf G.1;obtain⟨v,ds,w',E⟩:=G8 M h;obtain⟨aF,wF,g1,g2⟩:=LF M _ _ _ E;have a9:CO ops ops[i] aF a:=by
     intro t ht;have hd:=f2 i (by simp) _ ho G.2;rw [g2 t fun o am=>?_,G6 _ _ _ _ _ (Fg hd ht)];obtain⟨y,Z,V⟩:=J2 am;exact Fg ((List.pairwise_cons.1 f3).1 y Z _ _ ho V G.2) ht
    have a5:=f1 _ _ g1;unfold fineT at a5;rw [List.all_eq_true] at a5;have:=a5 i (ae i (by simp));rw [ho] at this;dsimp only at this;rw [D0 a9,hw,G.2,FT a9] at this;simpa using this
   ·exact absurd h.2 (GA M)
  ·rename_i hw;rw [if_neg hw];exact ad _ _ h
end
section
variable {P:Program} {Q:Bo} {id:Nat} {a:Act} {w:World}
def C2 (P:Program) (ops:Array Oper) (tab:List Nat) (Q:Bo) (D T:List Nat) (a:Act) (w:World):Prop:=WT P true ops (Bl tab) Q (fun k=>k∈D) T a w
theorem region_cutI {l:List Oper} (tab T:List Nat) (C:chk P true l.toArray tab T=true) (hQ:NoQ Q) (h:C2 P l.toArray tab Q [] T a w.drew):(Code.region id l.toArray true).wp P Q a w:=by
 refine GK tab T C hQ ?_;have e:(fun k=>k∈([]:List Nat))=fun _=>False:=by funext k;simp
 unfold C2 at h;rw [e] at h;exact h
theorem R9 {l l1:List Oper} {tab D:List Nat} (C G:List Nat) (hl:pick l.toArray C=l1)
  (U:(C.all (fun i=>decide (i<l.length))&&DS P true l.toArray tab C&&D.all (fun r=>C.all fun y=>match l.toArray[r]?,l.toArray[y]? with
   | some q,some O=>!Bq q.op||!eff P true O||Bl tab r y
   | _,_=>true)&&EH l.toArray C)=true)
  (h:∀Qf:Bo,(∀a w,fineT l.toArray C a=true/\C2 P l.toArray tab Q (C++D) G a w->Qf .normal a w)->wpList P l.toArray Qf l1 a w):C2 P l.toArray tab Q D (C++G) a w:=by
 simp only [Bool.and_eq_true,List.all_eq_true] at U;obtain⟨⟨⟨h1,V⟩,W⟩,I⟩:=U;simp only [EH,Bool.and_eq_true,List.all_eq_true] at I;refine LY (ib:=true) (bef:=Bl tab) (Qf:=postN fun a w=>fineT l.toArray C a=true/\C2 P l.toArray tab Q (C++D) G a w) C (NoQ.postN _) G C _ a w (fun _ E=>E) (fun i F=>by simpa using h1 i F) (GE V) ?_ ?_ ?_ (by rw [hl];exact h _ fun _ _ x=>x)
 ·intro r q hr hq a3 y M O a4 Z;have:=W r hr y M;rw [hq,a4] at this;simp only [a3,Z,Bool.not_true,Bool.or_false,Bool.false_or] at this;simpa using this
 ·intro a w E;have J:=E.2;unfold C2 at J;have e:(fun k=>k∈C++D)=(fun k=>k∈C\/k∈D):=by funext k;simp
  rw [e] at J;exact J
 ·exact fun _=>⟨fun a w h=>h.1,fun x E o ho F=>by have:=I.1 x E;rw [ho] at this;dsimp only at this;rw [F] at this;simpa using this,(F5 _ I.2).imp fun {x y} hxy ox O E M F=>by
   rw [E,M] at hxy;dsimp only at hxy;rw [F] at hxy;simpa using hxy⟩
theorem R8 {l:List Oper} {o:Oper} {tab D:List Nat} (i:Nat) (T:List Nat) (E:List Nat) (ho:l.toArray[i]?=some o)
  (C:(D.all (fun r=>match l.toArray[r]? with
   | some q=>!Bq q.op||Bl tab r i||E.contains r
   | none=>true)&&!intOp o.op)=true)
  (h:∀Qf:Bo,(∀b w',(∀r∈E,∀q,l.toArray[r]?=some q->C3 P l.toArray q b w w')/\C2 P l.toArray tab Q (i::D) T b w'->Qf .normal b w')->wpList P l.toArray Qf [o] a w):C2 P l.toArray tab Q D (i::T) a w:=by
 simp only [Bool.and_eq_true,List.all_eq_true,Bool.not_eq_true'] at C;obtain⟨C,I⟩:=C;refine IE ho E T (by rw [I];rfl) (fun r q M J G F=>?_) ?_
 ·have:=C r M;rw [J] at this;simp only [G,F,Bool.not_true,Bool.false_or] at this;simpa using this
 ·have:=h (postN fun b w'=>(∀r∈E,∀q,l.toArray[r]?=some q->C3 P l.toArray q b w w')/\C2 P l.toArray tab Q (i::D) T b w') fun _ _ x=>x;have e:(fun k=>k∈i::D)=(fun k=>k=i\/k∈D):=by funext k;simp
  unfold C2 at this;rw [e] at this;exact this
theorem restI_end {l:List Oper} {tab D:List Nat} (h:Q .normal a w):C2 P l.toArray tab Q D [] a w:=h
end
end Reg
end Go.Proofs.YtjejejmeddkciaaGreatDoor
namespace Go.Proofs.YtjejejmeddkciaaGreatDoor
namespace Reg
section
variable {P:Program} {Q:Bo} {id:Nat} {a:Act} {w:World}
theorem cI {l:List Oper} (tab T:List Nat) (h:C2 P l.toArray tab Q [] T a w.drew) (C:chk P true l.toArray tab T=true:=by kernel_rfl) (hQ:NoQ Q:=by repeat (first|exact Reg.NoQ.body (fun _ _ h=>h) (fun _ h=>h)|refine Reg.NoQ.then ?_|refine Reg.NoQ.inBlock ?_)):(Code.region id l.toArray true).wp P Q a w:=region_cutI tab T C hQ h
theorem cC {l:List Oper} (tab T:List Nat) (h:CB P l.toArray tab Q [] T a w.drew) (C:chk P false l.toArray tab T=true:=by kernel_rfl) (hQ:NoQ Q:=by repeat (first|exact Reg.NoQ.body (fun _ _ h=>h) (fun _ h=>h)|refine Reg.NoQ.then ?_|refine Reg.NoQ.inBlock ?_)):(Code.region id l.toArray true).wp P Q a w:=R0 tab T C hQ h
theorem cP {l:List Oper} (tab:List Nat) (h:wpList P l.toArray Q l a w.drew) (C:(chk P false l.toArray tab (List.range l.length)&&DS P false l.toArray tab (List.range l.length))=true:=by kernel_rfl) (hQ:NoQ Q:=by repeat (first|exact Reg.NoQ.body (fun _ _ h=>h) (fun _ h=>h)|refine Reg.NoQ.then ?_|refine Reg.NoQ.inBlock ?_)):(Code.region id l.toArray true).wp P Q a w:=aCh tab C hQ h
theorem cN {l:List Oper} (tab:List Nat) (h:∀Qf:Bo,(∀a w,FQ l.toArray a=true/\Q .normal a w->Qf .normal a w)->wpList P l.toArray Qf l a w.drew) (C:(chk P true l.toArray tab (List.range l.length)&&DS P true l.toArray tab (List.range l.length)&&EH l.toArray (List.range l.length))=true:=by kernel_rfl) (hQ:NoQ Q:=by repeat (first|exact Reg.NoQ.body (fun _ _ h=>h) (fun _ h=>h)|refine Reg.NoQ.then ?_|refine Reg.NoQ.inBlock ?_)):(Code.region id l.toArray true).wp P Q a w:=R4 tab C hQ h
theorem wI {l l1:List Oper} {tab D:List Nat} (C E:List Nat) (G:pick l.toArray C=l1)
  (h:∀Qf:Bo,(∀a w,fineT l.toArray C a=true/\C2 P l.toArray tab Q (C++D) E a w->Qf .normal a w)->wpList P l.toArray Qf l1 a w)
  (F:(C.all (fun i=>decide (i<l.length))&&DS P true l.toArray tab C&&D.all (fun r=>C.all fun y=>match l.toArray[r]?,l.toArray[y]? with
   | some q,some oy=>!Bq q.op||!eff P true oy||Bl tab r y
   | _,_=>true)&&EH l.toArray C)=true:=by kernel_rfl):C2 P l.toArray tab Q D (C++E) a w:=R9 C E G F h
theorem aI {l:List Oper} {o:Oper} {tab D:List Nat} (i:Nat) (T:List Nat) (C:List Nat) (ho:l.toArray[i]?=some o)
  (h:∀Qf:Bo,(∀b w',(∀r∈C,∀q,l.toArray[r]?=some q->C3 P l.toArray q b w w')/\C2 P l.toArray tab Q (i::D) T b w'->Qf .normal b w')->wpList P l.toArray Qf [o] a w)
  (E:(D.all (fun r=>match l.toArray[r]? with
   | some q=>!Bq q.op||Bl tab r i||C.contains r
   | none=>true)&&!intOp o.op)=true:=by kernel_rfl):C2 P l.toArray tab Q D (i::T) a w:=R8 i T C ho E h
end
theorem nm {α:Type} {q:α->Prop}:∀r∈([]:List α),q r:=fun _ h=>absurd h List.not_mem_nil
end Reg
theorem gT {α:Type} {l:List α} {i:Nat} (h:i<l.toArray.size):l.toArray[i]=l[i]'(by simpa using h):=List.getElem_toArray h
theorem gS {α:Type} {a:α} {l:List α} {i:Nat} (h:i+1<(a::l).length):(a::l)[i+1]=l[i]'(Nat.lt_of_succ_lt_succ h):=rfl
theorem gZ {α:Type} {a:α} {l:List α} (h:0<(a::l).length):(a::l)[0]=a:=rfl
end Go.Proofs.YtjejejmeddkciaaGreatDoor
namespace Go.Proofs.YtjejejmeddkciaaGreatDoor
open Go.RowKit
def Sl {D:Type} (w:World) (B sz:Nat) (enc:D->Nat->Value) (A:Option Addr) (ds:List D):Prop:=
 ds.length<=9223372036854775807/\(ds≠[]->∃b off,A=some ⟨b,off,none⟩/\b<B/\∀k d,ds[k]?=some d->∀j,j<sz->w.cell? ⟨b,off+k*sz+j,none⟩=some (enc d j))
section
variable {D:Type} {w w':World} {B B' sz:Nat} {enc:D->Nat->Value} {A:Option Addr} {ds:List D}
theorem Sl.nil (h:ds=[]):Sl w B sz enc A ds:=by subst h;exact⟨by simp,fun h=>absurd rfl h⟩
theorem Sl.at (h:Sl w B sz enc A ds) {k:Nat} (C:k<ds.length):
  ∃b off d,A=some ⟨b,off,none⟩/\b<B/\ds[k]?=some d/\∀j,j<sz->w.cell? ⟨b,off+k*sz+j,none⟩=some (enc d j):=by
 obtain⟨b,off,e,E,F⟩:=h.2 (by rintro rfl;simp at C);exact⟨b,off,ds[k],e,E,List.getElem?_eq_getElem C,fun j G=>F k _ (List.getElem?_eq_getElem C) j G⟩
theorem Sl.keep (h:Sl w B sz enc A ds) (I:∀p:Addr,p.block<B->w'.cell? p=w.cell? p) (M:B<=B'):Sl w' B' sz enc A ds:=
 ⟨h.1,fun J=>by
  obtain⟨b,off,e,C,E⟩:=h.2 J;exact⟨b,off,e,by omega,fun k d F j G=>(I _ C).trans (E k d F j G)⟩⟩
theorem Sl.below (h:Sl w B sz enc A ds) (C:Below B w w'):Sl w' B sz enc A ds:=h.keep (fun _ E=>C.cell E) (Nat.le_refl _)
theorem Sl.mono (h:Sl w B sz enc A ds) (C:B<=B'):Sl w B' sz enc A ds:=h.keep (fun _ _=>rfl) C
end
def Ai (x:Int) (_:Nat):Value:=.int .i64 x
def DH (x:Bool) (_:Nat):Value:=.bool x
theorem hide {p:Prop} (h:p):Hid p:=h
theorem GT (fn:Fn) (first cap:Array Value) (w:World):(Instr.makeFunc fn first cap).run Tryz.prog w=.ok (.func fn first cap) w:=rfl
def I3 (f:Value) (args:Array Value):Sem Next:=do
 let d <-Deferred.ofValue f args
 invoke d.target d.args
end Go.Proofs.YtjejejmeddkciaaGreatDoor
namespace Go.Proofs.YtjejejmeddkciaaGreatDoor
open Go.RowKit
def Bw (w:World) (g:Nat) (ks:List Value):Prop:=
 ∃es clock,w.heap[g]?=some (.map es clock)/\es.toList.map (·.key)=ks/\es.toList.map (·.val)=(List.range ks.length).map fun(i:Nat)=>Value.int .i64 (i:Int)
theorem Bw.keep {w w':World} {g:Nat} {ks:List Value} (h:Bw w g ks) (F:w'.heap[g]?=w.heap[g]?):Bw w' g ks:=by
 obtain⟨es,C,h1,E⟩:=h;exact⟨es,C,by rw [F];exact h1,E⟩
theorem Bw.lt {w:World} {g:Nat} {ks:List Value} (h:Bw w g ks):g<w.heap.size:=by
 obtain⟨es,C,h1,E⟩:=h;exact(Array.getElem?_eq_some_iff.1 h1).1
theorem Bw.made (w:World):Bw (w.alloc (.map #[] 0)) w.heap.size []:=⟨#[],0,heap_alloc_new w _,rfl,rfl⟩
structure El {S:Type} [DecidableEq S] (P:Program) (K:TypeId) (enc:S->Value):Prop where
 check:∀em w s,(Instr.checkKey em 10000 K (enc s)).run P w=.ok () w
 find:∀w s (es:List MapEntry) (l:List S),es.map (·.key)=l.map enc->
  (Instr.findKey K (enc s) es).run P w=.ok (if s∈l then some (l.idxOf s,((es[l.idxOf s]?).map (·.val)).getD .nilFunc) else none) w
section
variable {S:Type} [DecidableEq S] {P:Program} {K:TypeId}
theorem PZ (q:IntKind) (f:S->Int) (G:∀a b,f a=f b->a=b) (s:S) (es:List MapEntry):∀(l:List S) (i:Nat),es.map (·.key)=l.map (fun s=>Value.int q (f s))->
  Instr.findNow (.int q) (.int q (f s)) es i=some (if s∈l then some (i+l.idxOf s,((es[l.idxOf s]?).map (·.val)).getD .nilFunc) else none):=by
 induction es with
 | nil=>
  intro l i h;have:l=[]:=by cases l <;> simp_all
  subst this;simp [Instr.findNow]
 | cons e es ih=>
  intro l i h;cases l with
  | nil=>simp at h
  | cons t l=>
   simp only [List.map_cons,List.cons.injEq] at h;obtain⟨h1,F⟩:=h;unfold Instr.findNow;rw [h1];simp only [Instr.sameNow,if_true];by_cases C:s=t
   ·subst C;simp
   ·have J:(f s==f t)=false:=by simpa using fun e=>C (G _ _ e)
    rw [J];dsimp only;rw [ih l (i+1) F];have I:(t::l).idxOf s=l.idxOf s+1:=by
     rw [List.idxOf_cons];have:(t==s)=false:=by simpa using fun e=>C e.symm
     rw [this];rfl
    by_cases E:s∈l
    ·simp only [E,I,List.mem_cons,or_true,if_true,List.getElem?_cons_succ,Option.some.injEq,Prod.mk.injEq,and_true];omega
    ·simp [E,C]
theorem QK (q:IntKind) (C:P.underlying K=some (.int q)) (f:S->Int) (E:∀a b,f a=f b->a=b):El P K (fun s=>Value.int q (f s)) where
 check:=fun F w s=>by
  rw [show(10000:Nat)=9999+1 from rfl];unfold Instr.checkKey;simp [run_underlying C]
 find:=fun w s es l h=>by
  unfold Instr.findKey;simp only [Sem.run_bind,run_underlying C,Result.andThen_ok];rw [PZ q f E s es l 0 h];simp
theorem IY (a b:ByteArray):(a==b)=(a.data==b.data):=rfl
theorem Mw (a:ByteArray):(a==a)=true:=by rw [IY];simp
theorem Mu {a b:ByteArray} (h:a≠b):(a==b)=false:=by rw [IY];simp;intro e;exact h (ByteArray.ext e)
theorem P0 (f:S->ByteArray) (I:∀a b,f a=f b->a=b) (s:S) (es:List MapEntry):∀(l:List S) (i:Nat),es.map (·.key)=l.map (fun s=>Value.string (f s))->
  Instr.findNow .string (.string (f s)) es i=some (if s∈l then some (i+l.idxOf s,((es[l.idxOf s]?).map (·.val)).getD .nilFunc) else none):=by
 induction es with
 | nil=>
  intro l i h;have:l=[]:=by cases l <;> simp_all
  subst this;simp [Instr.findNow]
 | cons e es ih=>
  intro l i h;cases l with
  | nil=>simp at h
  | cons t l=>
   simp only [List.map_cons,List.cons.injEq] at h;obtain⟨h1,F⟩:=h;unfold Instr.findNow;rw [h1];simp only [Instr.sameNow];by_cases C:s=t
   ·subst C;have G:(f s==f s)=true:=Mw _;rw [G];simp
   ·have M:(f s==f t)=false:=Mu fun e=>C (I _ _ e);rw [M];dsimp only;rw [ih l (i+1) F];have J:(t::l).idxOf s=l.idxOf s+1:=by
     rw [List.idxOf_cons];have:(t==s)=false:=by simpa using fun e=>C e.symm
     rw [this];rfl
    by_cases E:s∈l
    ·simp only [E,J,List.mem_cons,or_true,if_true,List.getElem?_cons_succ,Option.some.injEq,Prod.mk.injEq,and_true];omega
    ·simp [E,C]
theorem QL (C:P.underlying K=some .string) (f:S->ByteArray) (E:∀a b,f a=f b->a=b):El P K (fun s=>Value.string (f s)) where
 check:=fun F w s=>by
  rw [show(10000:Nat)=9999+1 from rfl];unfold Instr.checkKey;simp [run_underlying C]
 find:=fun w s es l h=>by
  unfold Instr.findKey;simp only [Sem.run_bind,run_underlying C,Result.andThen_ok];rw [P0 f E s es l 0 h];simp
theorem JE {es:Array MapEntry} {n i:Nat} (h:es.toList.map (·.val)=(List.range n).map fun(i:Nat)=>Value.int .i64 (i:Int)) (C:i<n):((es.toList[i]?).map (·.val)).getD .nilFunc=.int .i64 (i:Int):=by
 have:(es.toList.map (·.val))[i]?=some (Value.int .i64 (i:Int)):=by rw [h];simp [C]
 rw [List.getElem?_map] at this;rw [this];rfl
theorem Ft {enc:S->Value} (F:El P K enc) {T E:TypeId} (O:P.underlying T=some (.map K E)) (M:∀w,(zeroValue E).run P w=.ok (.int .i64 0) w) {w:World} {g:Nat} {l:List S}
  (h:Bw w g (l.map enc)) (s:S):
  (Instr.lookup T (.map (some g)) (enc s) true).run P w=.ok (.tuple #[.int .i64 (if s∈l then (l.idxOf s:Int) else 0),.bool (decide (s∈l))]) w:=by
 obtain⟨es,G,h1,I,J⟩:=h;have V:(getObj g).run P w=.ok (.map es G) w:=by simp [getObj,Sem.run,h1]
 have U:=F.find w s es.toList l I;unfold Instr.lookup;simp only [Sem.run_bind,run_underlying O,Result.andThen_ok,V,Sem.run_pure,F.check,U];by_cases C:s∈l
 ·simp only [C,if_true,decide_true];rw [JE J (by rw [List.length_map];exact List.idxOf_lt_length_of_mem C)];rfl
 ·simp only [C,if_false,Result.andThen_ok,Sem.run_bind,M,Sem.run_pure,decide_false,if_true]
theorem EY {enc:S->Value} (F:El P K enc) {T E:TypeId} (M:P.underlying T=some (.map K E)) {w:World} {g:Nat} {l:List S}
  (h:Bw w g (l.map enc)) (s:S) (W:s∉l):
  ∃w',(Instr.mapUpdate T (.map (some g)) (enc s) (.int .i64 (l.length:Int))).run P w=.ok () w'/\Bw w' g ((l++[s]).map enc)/\w.grownBy w' (some g)/\w'.heap.size=w.heap.size:=by
 obtain⟨es,C,h1,G,J⟩:=h;have O:(getObj g).run P w=.ok (.map es C) w:=by simp [getObj,Sem.run,h1]
 have I:=F.find w s es.toList l G;rw [if_neg W] at I;have U:g<w.heap.size:=(Array.getElem?_eq_some_iff.1 h1).1;have Z:∀o:Obj,(setObj g o).run P w=.ok () { w with heap:=w.heap.setIfInBounds g o }:=fun o=>by
  simp [setObj,Sem.run,h1]
 refine⟨{ w with heap:=w.heap.setIfInBounds g (.map (es.push { key:=enc s,val:=.int .i64 (l.length:Int),born:=C }) (C+1)) },?_,
  ⟨es.push { key:=enc s,val:=.int .i64 (l.length:Int),born:=C },C+1,?_,?_,?_⟩,⟨rfl,rfl,rfl,by simp,fun k F V=>?_⟩,by simp⟩
 ·unfold Instr.mapUpdate;simp only [Sem.run_bind,run_underlying M,Result.andThen_ok,O,F.check,I,Z]
 ·simp [U]
 ·simp [G]
 ·simp only [Array.toList_push,List.map_append,J,List.map_cons,List.map_nil,List.length_append,List.length_cons,List.length_nil,List.length_map];rw [List.range_succ];simp
 ·have:k≠g:=fun e=>V (by rw [e]);simp [Array.getElem?_setIfInBounds_ne (fun e=>this e.symm)]
end
end Go.Proofs.YtjejejmeddkciaaGreatDoor
namespace Go.Proofs.YtjejejmeddkciaaGreatDoor
open Go.RowKit
def Ret (V:Value->World->Prop):Ending->World->Prop
 | .returned v,w=>V v w
 | _,_=>False
theorem Calls.ret {P:Program} {f:FuncId} {args:Array Value} {w:World} {V:Value->World->Prop} {K:Ending->World->Prop} (h:Calls P f args w (Ret V)) (E:∀v w',V v w'->K (.returned v) w'):Calls P f args w K:=
 h.mono fun e w' C=>by
  cases e with
  | returned v=>exact E v w' C
  | panicked c=>exact C.elim
  | outgrown=>exact C.elim
structure Ac (w w':World) (X:Nat->Prop):Prop where
 os:w'.os=w.os
 tape:w'.tape=w.tape
 output:w'.output=w.output
 size:w.heap.size<=w'.heap.size
 block:∀k,k<w.heap.size->¬X k->w'.heap[k]?=w.heap[k]?
section
variable {w w' w'':World} {X Y:Nat->Prop}
theorem Ac.refl (w:World) (X:Nat->Prop):Ac w w X:=⟨rfl,rfl,rfl,Nat.le_refl _,fun _ _ _=>rfl⟩
theorem Ac.trans (h:Ac w w' X) (k:Ac w' w'' Y) (F:∀b,b<w.heap.size->Y b->X b):Ac w w'' X:=
 ⟨k.os.trans h.os,k.tape.trans h.tape,k.output.trans h.output,Nat.le_trans h.size k.size,
  fun b C E=>(k.block b (Nat.lt_of_lt_of_le C h.size) fun G=>E (F b C G)).trans (h.block b C E)⟩
theorem Ac.mono (h:Ac w w' X) (E:∀b,b<w.heap.size->X b->Y b):Ac w w' Y:=⟨h.os,h.tape,h.output,h.size,fun b C F=>h.block b C fun G=>F (E b C G)⟩
theorem Ac.of_below (h:Below w.heap.size w w') (X:Nat->Prop):Ac w w' X:=⟨h.os,h.tape,h.output,h.size,fun b C _=>h.block b C⟩
theorem Ac.of_grown {row:Option Nat} (h:w.grownBy w' row):Ac w w' (fun b=>row=some b):=⟨h.os,h.tape,h.output,h.size,fun b C E=>h.block b C fun e=>E e.symm⟩
theorem Ac.drew (h:Ac w w' X):Ac w w'.drew X:=⟨h.os,h.tape,h.output,h.size,h.block⟩
theorem Ac.alloc (h:Ac w w' X) (o:Obj):Ac w (w'.alloc o) X:=
 ⟨h.os,h.tape,h.output,Nat.le_trans h.size (by simp),fun b C E=>(Below.heap_alloc _ _ _ (Nat.lt_of_lt_of_le C h.size)).trans (h.block b C E)⟩
theorem Ac.setCell (h:Ac w w' X) {p:Addr} (F:p.block<w.heap.size->X p.block) (u:Value):Ac w (w'.setCell p u) X:=
 ⟨h.os,h.tape,h.output,by simpa [World.setCell] using h.size,fun b C E=>(Below.heap_setCell _ _ _ _ (fun e=>E (by subst e;exact F C))).trans (h.block b C E)⟩
theorem Ac.below (h:Ac w w' X) {B:Nat} (F:B<=w.heap.size) (C:∀b,b<B->¬X b):Below B w w':=⟨h.os,h.tape,h.output,h.size,fun b E=>h.block b (by omega) (C b E)⟩
theorem Ac.below' (h:Ac w w' X) (C:∀b,b<w.heap.size->¬X b):Below w.heap.size w w':=h.below (Nat.le_refl _) C
theorem Ac.same (h:Ac w w' X) {o:Obj} {b:Nat} (C:w.heap[b]?=some o) (E:¬X b):w'.heap[b]?=some o:=by
 rw [h.block b (Array.getElem?_eq_some_iff.1 C).1 E];exact C
theorem Ac.cell (h:Ac w w' X) {p:Addr} (C:p.block<w.heap.size) (E:¬X p.block):w'.cell? p=w.cell? p:=World.cell?_of_block (h.block p.block C E)
theorem Ac.ownsRow (h:Ac w w' X) {base n size:Nat} {e:TypeId} {v:Value} {xs:List Value} (ho:w.ownsRow base e size v n xs) (G:∀g,v.ownBlock=some g->¬X g):w'.ownsRow base e size v n xs:=by
 refine⟨ho.1,?_⟩;rcases ho.2 with I|⟨g,cap,C,rfl,E,F,rest⟩
 ·exact .inl I
 ·exact .inr ⟨g,cap,C,rfl,E,h.same F (G g rfl),rest⟩
end
def Blk (w:World) (g:Nat) (t:TypeId) (cs:Array Value):Prop:=w.heap[g]?=some (.cells cs t (0,0))
section
variable {w w':World} {g:Nat} {t:TypeId} {cs:Array Value} {X:Nat->Prop}
theorem Blk.lt (h:Blk w g t cs):g<w.heap.size:=(Array.getElem?_eq_some_iff.1 h).1
theorem Blk.cell (h:Blk w g t cs) (i:Nat):w.cell? ⟨g,i,none⟩=cs[i]?:=cell_of_row w g i cs t (0,0) h
theorem Blk.frozen (h:Blk w g t cs) (i:Nat):w.frozen? ⟨g,i,none⟩=false:=by
 unfold Blk at h;simp [World.frozen?,h]
theorem Blk.new (w:World) (t:TypeId) (cs:Array Value):Blk (w.alloc (.cells cs t)) w.heap.size t cs:=heap_alloc_new w _
theorem Blk.set_ (h:Blk w g t cs) (i:Nat) (u:Value):Blk (w.setCell ⟨g,i,none⟩ u) g t (cs.setIfInBounds i u):=by
 unfold Blk at h ⊢;simp [World.setCell,Array.getElem?_modify,h]
theorem Blk.kept (h:Blk w g t cs) (C:Ac w w' X) (E:¬X g):Blk w' g t cs:=C.same h E
theorem Blk.ne_ {E:Nat} {F:TypeId} {G:Array Value} (h:Blk w g t cs) (C:Blk w E F G) (I:t≠F):g≠E:=by
 rintro rfl;unfold Blk at h C;rw [h] at C;injection C with C
 injection C with _ ht
 exact I ht
theorem Aw {base size n:Nat} {e:TypeId} {v:Value} {xs:List Value} (h:w.ownsRow base e size v n xs) (F:Blk w g t cs) (I:e≠t):v.ownBlock≠some g:=by
 rcases h.2 with⟨rfl,_⟩|⟨C,cap,J,rfl,_,G,_⟩
 ·simp [Value.ownBlock]
 ·intro E;have:C=g:=by simpa [Value.ownBlock] using E
  subst this;exact Blk.ne_ (t:=e) G F I rfl
theorem WO {base size n base' U O:Nat} {e C:TypeId} {v F:Value} {xs V:List Value} (h:w.ownsRow base e size v n xs) (I:w.ownsRow base' C U F O V) (M:e≠C) {k:Nat} (E:v.ownBlock=some k):F.ownBlock≠some k:=by
 rcases h.2 with⟨rfl,_⟩|⟨G,cap,W,rfl,_,J,_⟩
 ·simp [Value.ownBlock] at E
 ·have:G=k:=by simpa [Value.ownBlock] using E
  subst this;exact Aw I J fun e=>M e.symm
theorem Di {base size n:Nat} {e:TypeId} {v:Value} {xs:List Value} {ks:List Value} (h:w.ownsRow base e size v n xs) (F:Bw w g ks):v.ownBlock≠some g:=by
 rcases h.2 with⟨rfl,_⟩|⟨C,cap,J,rfl,_,G,_⟩
 ·simp [Value.ownBlock]
 ·intro E;have:C=g:=by simpa [Value.ownBlock] using E
  subst this;obtain⟨es,I,h1,_⟩:=F;rw [G] at h1;cases h1
theorem BT {C:Nat} {ks:List Value} (h:Blk w g t cs) (E:Bw w C ks):g≠C:=by
 rintro rfl;obtain⟨es,F,h1,_⟩:=E;unfold Blk at h;rw [h] at h1;cases h1
theorem Bw.kept {ks:List Value} (h:Bw w g ks) (C:Ac w w' X) (E:¬X g):Bw w' g ks:=h.keep (C.block g h.lt E)
end
def BJ (w:World) (v v':Value):Prop:=v'.ownBlock=v.ownBlock\/∃g,v'.ownBlock=some g/\w.heap.size<=g
theorem BJ.refl (w:World) (v:Value):BJ w v v:=.inl rfl
theorem BJ.ne {w:World} {a b:Value} (h:BJ w a b) {k:Nat} (F:k<w.heap.size) (C:a.ownBlock≠some k):b.ownBlock≠some k:=by
 rcases h with h|⟨g,h,E⟩
 ·rw [h];exact C
 ·rw [h];intro e;injection e with e;omega
structure Dd (P:Program) (t e:TypeId) (size:Nat):Prop where
 ht:P.underlying t=some (.slice e)
 info:∃i z bytes,P.info? e=some i/\i.zero=some z/\i.size=size/\i.bytes=bytes/\z.cells.size=size/\bytes<=200
 pos:0<size
theorem EX {P:Program} {t e size bytes:Nat} {z:Value} (ht:P.underlying t=some (.slice e)) (G:(P.info? e).map (fun i=>(i.zero,i.size,i.bytes))=some (some z,size,bytes)) (J:z.cells.size=size) (F:bytes<=200) (I:0<size):Dd P t e size:=by
 obtain⟨i,h1,h,C,E⟩:=info_parts G;exact⟨ht,⟨i,z,bytes,h1,h,C,E,J,F⟩,I⟩
theorem AH {w:World} {base e size n:Nat} {v:Value} {xs:List Value} (h:w.ownsRow base e size v n xs):∃A c,v=.slice A n c:=by
 rcases h.2 with⟨rfl,h0⟩|⟨g,cap,C,rfl,_⟩
 ·exact⟨none,0,by rw [h0]⟩
 ·exact⟨_,_,rfl⟩
section
variable {P:Program} {ops:Array Oper} {rest:List Oper} {o:Oper} {a:Act} {Q:Exit->Act->World->Prop}
theorem G9 {w:World} {t e size:Nat} (R:Dd P t e size) (V:o.guard=none) (s x:Operand)
  (ho:o.op=.call { callee:=.builtin .append,args:=#[s,x],argTypes:=#[t,t] })
  (base:Nat) (v:Value) (n:Nat) (xs:List Value) (hs:a.eval s=v) (a5:w.ownsRow base e size v n xs)
  (G:Addr) (m c:Nat) (F:List Value) (hx:a.eval x=.slice (some G) m c) (hl:F.length=m*size) (a4:∀j u,F[j]?=some u->w.cell? (G.add j)=some u) (h1:∀u∈F,u.oneCell'=true)
  (hm:0<m) (I:n+m<=4000000) (O:base<=w.heap.size)
  (h:∀g cap w',w'.ownsRow base e size (.slice (some ⟨g,0,none⟩) (n+m) cap) (n+m) (xs++F)->Ac w w' (fun k=>v.ownBlock=some k)->BJ w v (.slice (some ⟨g,0,none⟩) (n+m) cap)->g<w'.heap.size->
   wpList P ops Q rest (a.put o.dst (.slice (some ⟨g,0,none⟩) (n+m) cap)) w'):
  wpList P ops Q (o::rest) a w:=by
 obtain⟨i,z,bytes,Z,hz,a7,U,aa,M⟩:=R.info;refine wpList_append_own_at w V s x t ho base e i z size bytes R.ht Z hz a7 U aa R.pos v n xs hs a5 G m c F hx hl a4 h1 (by unfold maxLen;omega) ?_ O ?_
 ·exact Nat.le_trans (Nat.mul_le_mul I M) (by decide)
 ·intro v' w' J E ag C;rcases J.2 with⟨rfl,h0⟩|⟨g,cap,ab,rfl,ae,W,_⟩
  ·exact absurd h0 (by omega)
  ·refine h g cap w' J ?_ ?_ (Array.getElem?_eq_some_iff.1 W).1
   ·exact⟨E.os,E.tape,E.output,E.size,fun k hk I=>E.block k hk fun e=>I e.symm⟩
   ·rcases C with C|C
    ·exact .inl C
    ·exact .inr ⟨_,C,Nat.le_refl _⟩
theorem BP {w:World} {t e size:Nat} (R:Dd P t e size) (M:o.guard=none) (s x:Operand)
  (ho:o.op=.call { callee:=.builtin .append,args:=#[s,x],argTypes:=#[t,t] })
  (base:Nat) (v:Value) (n:Nat) (xs:List Value) (hs:a.eval s=v) (Z:w.ownsRow base e size v n xs) (cs:List Value) (c:Nat)
  (hx:a.eval x=.slice (some ⟨w.heap.size,0,none⟩) 1 c) (V:cs.length=size) (h1:∀u∈cs,u.oneCell'=true)
  (W:n+1<=4000000) (a5:base<=w.heap.size)
  (h:∀g cap w',w'.ownsRow base e size (.slice (some ⟨g,0,none⟩) (n+1) cap) (n+1) (xs++cs)->Ac w w' (fun k=>v.ownBlock=some k)->BJ w v (.slice (some ⟨g,0,none⟩) (n+1) cap)->g<w'.heap.size->
   wpList P ops Q rest (a.put o.dst (.slice (some ⟨g,0,none⟩) (n+1) cap)) w'):
  wpList P ops Q (o::rest) a (w.alloc (.cells cs.toArray e)):=by
 refine G9 R M s x ho base v n xs hs (Z.alloc _) ⟨w.heap.size,0,none⟩ 1 c cs hx (by rw [V];omega) ?_ h1 (by omega) W (by simp;omega) ?_
 ·intro j u O;have F:(⟨w.heap.size,0,none⟩:Addr).add j=⟨w.heap.size,j,none⟩:=by unfold Addr.add;split <;> simp_all
  rw [F,cell_of_row _ w.heap.size j cs.toArray e (0,0) (heap_alloc_new w _)];simpa using O
 ·intro g cap w' a2 U C I;refine h g cap w' a2 (((Ac.refl w (fun k=>v.ownBlock=some k)).alloc (.cells cs.toArray e)).trans U fun b _ G=>G) ?_ I;rcases C with C|⟨E,C,J⟩
  ·exact .inl C
  ·refine .inr ⟨E,C,?_⟩;simp at J;omega
end
end Go.Proofs.YtjejejmeddkciaaGreatDoor
