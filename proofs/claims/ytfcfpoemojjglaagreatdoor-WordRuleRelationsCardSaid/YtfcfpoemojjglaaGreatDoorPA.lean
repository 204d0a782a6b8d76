/-
  Part PA of a proof.
-/
import Derived.WalkKit
import Derived.Laws.Panics
import Derived.Deep.MidRow
import Derived.Test.YtfcfpoemojjglaaGreatDoorRows
import Derived.WalkSpells
import Derived.WalkLawsBesides
import Derived.Lib.Hide
import Derived.Deep.AppendLies
import Derived.Deep.Draws
import Derived.Deep.LoopGhost
import Derived.Deep.QuietTactic
import Derived.BigQuiet
import Derived.BigCall
import Derived.Maps.AppendAt
set_option maxHeartbeats 16000000
set_option maxRecDepth 100000
set_option linter.unusedVariables false
set_option linter.unusedSimpArgs false
namespace Go.Proofs.YtfcfpoemojjglaaGreatDoor
namespace Reg
def Ext (w w':World):Prop:=∀k,k<w.heap.size→w'.heap[k]?=w.heap[k]?
theorem Ext.refl (w:World):Ext w w:=fun _ _=>rfl
theorem Ext.some {w w':World} (h:Ext w w') {k:Nat} {o:Obj} (hk:w.heap[k]?=some o):w'.heap[k]?=some o:=by
 rw [h k (Array.getElem?_eq_some_iff.1 hk).1]; exact hk
def Ag {α:Type} (P:Program) (s:Sem α):Prop:=(∃v,∀w,s.run P w=.ok v w)∨(∀w,∃h w',s.run P w=.halt h w')
section
variable {α β:Type} {P:Program}
theorem Ag.pure (v:α):Ag P (Pure.pure v:Sem α):=.inl ⟨v,fun _=>rfl⟩
theorem Ag.halt (h:Halt):Ag P (Sem.halt h:Sem α):=.inr fun w=>⟨h,w,rfl⟩
theorem Ag.haltBind (h:Halt) (f:α→Sem β):Ag P (Sem.halt h >>=f):=.inr fun w=>⟨h,w,rfl⟩
theorem Ag.stuckBind (s:String) (f:α→Sem β):Ag P (Go.stuck s >>=f):=Ag.haltBind _ f
theorem Ag.stuck (s:String):Ag P (Go.stuck s:Sem α):=Ag.halt _
theorem Ag.unsupported (s:Unsupported):Ag P (Go.unsupported s:Sem α):=Ag.halt _
theorem Ag.bind {s:Sem α} {f:α→Sem β} (E:Ag P s) (C:∀v,Ag P (f v)):Ag P (s >>=f):=by
 rcases E with⟨v,y⟩ | x
 ·rcases C v with⟨u,F⟩ | x
  ·exact .inl ⟨u,fun w=>by rw [Sem.run_bind,y]; exact F w⟩
  ·exact .inr fun w=>by rw [Sem.run_bind,y]; exact x w
 ·exact .inr fun w=>by
   obtain⟨h,w',e⟩:=x w
   exact⟨h,w',by rw [Sem.run_bind,e]; rfl⟩
theorem Ag.program {f:Program→Sem β} (h:Ag P (f P)):Ag P (Go.program >>=f):=by
 rcases h with⟨u,y⟩ | x
 ·exact .inl ⟨u,fun w=>by rw [Sem.run_bind,run_program]; exact y w⟩
 ·exact .inr fun w=>by rw [Sem.run_bind,run_program]; exact x w
theorem Ag.ite {c:Prop} [Decidable c] {x y:Sem α} (h:Ag P x) (C:Ag P y):Ag P (if c then x else y):=by
 split
 ·exact h
 ·exact C
theorem Ag.boundsPanic (k:IntKind) (x y:Int) (C:BoundsCode):Ag P (Go.boundsPanic k x y C:Sem α):=.inr fun w=>by
 obtain⟨s,w',h⟩:=run_boundsPanic (α:=α) (P:=P) (w:=w) k x y C
 exact⟨_,w',h⟩
theorem Ag.underlying (t:TypeId):Ag P (Go.underlying t):=by
 unfold Go.underlying
 refine Ag.program ?_
 split
 ·exact Ag.pure _
 ·exact Ag.stuck _
theorem Ag.typeInfo (t:TypeId):Ag P (Go.typeInfo t):=by
 unfold Go.typeInfo
 refine Ag.program ?_
 split
 ·exact Ag.pure _
 ·exact Ag.stuck _
theorem Ag.sizeOf (t:TypeId):Ag P (Go.sizeOf t):=Ag.bind (Ag.typeInfo t) fun _=>Ag.pure _
theorem Ag.nilDeref:Ag P (Go.runtimePanic .nilDeref:Sem α):=by
 unfold Go.runtimePanic
 exact Ag.program (Ag.halt _)
theorem Ag.error (s:String):Ag P (Go.runtimePanic (.error s):Sem α):=by
 unfold Go.runtimePanic
 exact Ag.program (Ag.halt _)
theorem Ag.asIntOf (v:Value):Ag P (Go.asIntOf v):=by
 unfold Go.asIntOf
 split
 ·exact Ag.pure _
 ·exact Ag.unsupported _
 ·exact Ag.stuck _
theorem Ag.asBool (v:Value):Ag P (Go.asBool v):=by
 unfold Go.asBool
 split
 ·exact Ag.pure _
 ·exact Ag.stuck _
theorem Ag.sureAddr (v:Value):Ag P (Instr.sureAddr v):=by
 unfold Instr.sureAddr
 split
 ·exact Ag.pure _
 ·exact Ag.stuck _
theorem Ag.ok {s:Sem α} (h:Ag P s) {w F:World} {v:α} (e:s.run P w=.ok v F):F=w∧∀w',s.run P w'=.ok v w':=by
 rcases h with⟨u,C⟩ | I
 ·have:=C w
  rw [e] at this
  injection this with h1 G
  subst h1; subst G
  exact⟨rfl,C⟩
 ·obtain⟨x,y,E⟩:=I w
  rw [e] at E; cases E
end
def Hp (P:Program) (s:TypeId) (f:Nat):Bool:=
 match P.underlying s with
 | some (.struct fs)=>match fs[f]? with
  | some fl=>match P.info? fl.type with
   | some i=>i.size != 0
   | none=>true
  | none=>true
 | _=>true
def Hx (P:Program) (ts:Array TypeId):Bool:=
 match ts[0]? with
 | some t=>match P.underlying t with
  | some (.slice _)=>true
  | some .string=>true
  | _=>false
 | none=>false
def Gs (P:Program):Op→Bool
 | .move _ | .assign _ | .pick .. | .extract .. | .makeFunc .. | .unOp .. | .indexAddr .. | .nilCheck _=>true
 | .fieldAddr s _ f=>Hp P s f
 | .call { callee:=.builtin .len,argTypes:=ts,.. }=>Hx P ts
 | _=>false
def intOp:Op→Bool
 | .binOp ..=>true
 | _=>false
def isInt:Value→Bool
 | .int ..=>true
 | _=>false
def intFine (ρ:Operand→Value):Op→Bool
 | .binOp _ _ x y _=>isInt (ρ x)&&isInt (ρ y)
 | _=>true
theorem Ag.value {P:Program} {s:Sem Value} (h:Ag P s):Ag P (s >>=fun v=>(Pure.pure (Next.value v):Sem Next)):=Ag.bind h fun _=>Ag.pure _
def D8 (P:Program) (s:Sem Next):Prop:=(∃u,∀w,s.run P w=.ok (.value u) w)∨(∀w,∃h w',s.run P w=.halt h w')
theorem Ag.valueV {P:Program} {s:Sem Value} (h:Ag P s):D8 P (s >>=fun v=>(Pure.pure (Next.value v):Sem Next)):=by
  rcases h with⟨v,E⟩ | C
  · exact .inl ⟨v,fun w=>by rw [Sem.run_bind,E]; rfl⟩
  · exact .inr fun w=>by
      obtain⟨x,y,e⟩:=C w
      exact⟨x,y,by rw [Sem.run_bind,e]; rfl⟩
theorem MJ {P:Program} (op:UnOp) (x:Value):Ag P (Op.unary op x):=by
 unfold Op.unary
 split
 all_goals first
  | exact Ag.pure _
  | exact Ag.stuck _
  | exact Ag.unsupported _
  | (unfold Op.intArith; split <;> first | exact Ag.pure _ | exact Ag.stuck _)
  | (unfold Op.intBits; dsimp only; split <;> first | exact Ag.pure _ | exact Ag.stuck _)
theorem MB {P:Program} (t:Value) (i:Nat):Ag P (Instr.extract t i):=by
 unfold Instr.extract
 split
 ·split
  ·exact Ag.pure _
  ·exact Ag.stuck _
 ·exact Ag.stuck _
theorem ME {P:Program} (t:TypeId) (x i:Value):Ag P (Instr.indexAt t x i):=by
 unfold Instr.indexAt
 refine Ag.bind (Ag.asIntOf i) ?_
 rintro⟨k,n⟩
 refine Ag.bind (Ag.underlying t) ?_
 intro d
 have key:∀(msg:String) (base:Option Addr) (len:Nat) (y:TypeId),Ag P (do
   let h ←Go.underlying t
   have C:Bool:=decide (len≤1)&&(match h with | .array ..=>true | _=>false)
   match base with
   | some a=>
    if 0≤n∧n<(len:Int) then do
     let z ←Go.sizeOf y
     pure (Value.pointer (some (a.add (n.toNat*z))))
    else if C=true then Go.unsupported (.noEntry msg)
    else Go.boundsPanic k n (len:Int) .index
   | none=>Go.boundsPanic k n 0 .index):=by
  intro msg base len y
  refine Ag.bind (Ag.underlying t) ?_
  intro h
  dsimp only
  split
  ·exact Ag.ite (Ag.bind (Ag.sizeOf _) fun _=>Ag.pure _) (Ag.ite (Ag.unsupported _) (Ag.boundsPanic _ _ _ _))
  ·exact Ag.boundsPanic _ _ _ _
 dsimp only
 split
 ·exact Ag.bind (Ag.sureAddr _) fun a=>key _ (some a) _ _
 ·exact key _ _ _ _
 ·exact Ag.stuckBind _ _
theorem MC {P:Program} (s:TypeId) (x:Value) (f:Nat) (h:Hp P s f=true):Ag P (Instr.fieldAt s x f):=by
 unfold Instr.fieldAt Go.underlying
 rw [bind_assoc]
 refine Ag.program ?_
 unfold Hp at h
 cases hd:P.underlying s with
 | none=>exact Ag.stuckBind _ _
 | some d=>
  rw [hd] at h
  dsimp only at h ⊢
  rw [pure_bind]
  cases d <;> try exact Ag.stuck _
  rename_i fs
  dsimp only at h ⊢
  cases y:fs[f]? with
  | none=>exact Ag.stuck _
  | some fl=>
   rw [y] at h
   dsimp only at h ⊢
   refine Ag.bind (Ag.sureAddr _) ?_
   intro a
   refine Ag.bind ?_ fun _=>Ag.pure _
   unfold fieldPlace Go.sizeOf Go.typeInfo
   simp only [bind_assoc]
   refine Ag.program ?_
   cases C:P.info? fl.type with
   | none=>exact Ag.stuckBind _ _
   | some i=>
    rw [C] at h
    dsimp only at h ⊢
    simp only [pure_bind]
    have:i.size≠0:=by simpa using h
    rw [if_neg this]
    exact Ag.pure _
theorem MF {P:Program} (y:Array TypeId) (ty:TypeId) (args:Array Value) (h:Hx P y=true):Ag P (Builtin.len_ y ty args):=by
 unfold Builtin.len_
 unfold Hx at h
 cases ht:y[0]? with
 | none=>rw [ht] at h; simp at h
 | some t=>
 rw [ht] at h
 cases C:args[0]? with
 | none=>exact Ag.stuck _
 | some x=>
  dsimp only at h ⊢
  unfold Go.underlying
  rw [bind_assoc]
  refine Ag.program ?_
  cases hd:P.underlying t with
  | none=>exact Ag.stuckBind _ _
  | some d=>
   rw [hd] at h
   dsimp only at h ⊢
   rw [pure_bind]
   cases d <;> first | (simp at h; done) | skip
   all_goals (cases x <;> first | exact Ag.pure _ | exact Ag.stuck _)
theorem My {P:Program} (op:BinOp) (t:TypeId) (x y:Operand) (k h:IntKind) (a b:Int):
    Ag P (do eqGuard op t x y (.int k a) (.int h b); binOp op t (.int k a) (.int h b)):=by
  have h1:Ag P (eqGuard op t x y (.int k a) (.int h b)):=by
    unfold eqGuard
    cases op <;> exact Ag.pure _
  refine Ag.bind h1 fun _=>?_
  have C:∀o,Ag P (Op.intArith o k a b):=fun o=>by unfold Op.intArith; split <;> first | exact Ag.pure _ | exact Ag.stuck _
  have G:∀o,Ag P (Op.intDiv o k a b):=fun o=>by
    unfold Op.intDiv; split
    · exact Ag.error _
    · split <;> first | exact Ag.pure _ | exact Ag.stuck _
  have E:∀o,Ag P (Op.intBits o k a b):=fun o=>by unfold Op.intBits; dsimp only; split <;> first | exact Ag.pure _ | exact Ag.stuck _
  have F:∀o,Ag P (Op.intCmp o a b):=fun o=>by unfold Op.intCmp; split <;> first | exact Ag.pure _ | exact Ag.stuck _
  have hS:∀o,Ag P (Op.shift o k a h b):=fun o=>by
    unfold Op.shift; split
    · exact Ag.error _
    · dsimp only; split <;> first | exact Ag.pure _ | exact Ag.stuck _
  cases op <;> simp only [binOp] <;> first
    | exact hS _
    | (split
       · exact Ag.stuck _
       · first | exact C _ | exact G _ | exact E _ | exact F _)
theorem I4 {P:Program} (t:TypeId):Ag P (isAgg t):=by
 unfold isAgg
 refine Ag.bind (Ag.underlying t) fun d=>?_
 split <;> exact Ag.pure _
theorem MI {P:Program} (t:TypeId) (cs:Array Value) (off:Nat):Ag P (part t cs off):=by
 unfold part
 refine Ag.bind (I4 t) fun b=>?_
 split
 ·exact Ag.bind (Ag.sizeOf _) fun _=>Ag.pure _
 ·split
  ·exact Ag.pure _
  ·exact Ag.stuck _
theorem MD {P:Program} (l:List FieldStep):∀(t:TypeId) (x:Option Value),Ag P (followBlind l t x):=by
 induction l with
 | nil=>exact fun t x=>Ag.pure _
 | cons s rest ih=>
  intro t x
  unfold followBlind
  refine Ag.bind (Ag.underlying _) fun d=>?_
  split
  ·split
   ·split
    ·exact Ag.pure _
    ·exact ih _ _
    ·exact Ag.stuck _
    ·exact Ag.pure _
    ·exact Ag.bind (MI _ _ _) fun _=>ih _ _
    ·exact Ag.stuck _
    ·exact ih _ _
   ·exact Ag.stuck _
  ·exact Ag.stuck _
theorem MG {P:Program} (n:Nat):∀(t:TypeId) (v:Value) (name:String),Ag P (nilAhead n t v name):=by
 induction n with
 | zero=>exact fun _ _ _=>Ag.pure _
 | succ n ih=>
  intro t v name
  unfold nilAhead
  refine Ag.bind (Ag.typeInfo _) fun i=>?_
  split
  ·refine Ag.bind (MD _ _ _) fun r=>?_
   split
   ·exact Ag.pure _
   ·split
    ·exact ih _ _ _
    ·exact Ag.pure _
    ·exact Ag.stuck _
    ·exact Ag.pure _
    ·exact Ag.pure _
    ·refine Ag.bind (Ag.underlying _) fun d=>?_
     split <;> exact Ag.pure _
  ·exact Ag.stuck _
theorem MH {P:Program} (msg:String) (v:Value):D8 P (match v with
  | .pointer none | .nilIface | .nilFunc=>runtimePanic .nilDeref
  | .func (.method name) first captured=>
   match (first[0]?:Option Value) with
   | some .nilIface=>runtimePanic .nilDeref
   | some (.iface t w)=>do
    if (←nilAhead ((←program).types.size+Made.depth) t w name) != some false then
     unsupported (.noEntry msg)
    pure (.value (.func (.method name) first captured))
   | _=>pure (.value (.func (.method name) first captured))
  | x=>pure (.value x)):=by
 have J:∀{s:Sem Next},Ag P s→(∀w r I,s.run P w=.ok r I→False)→D8 P s:=fun {s} hs hn=>by
  rcases hs with⟨v,E⟩ | h
  ·exact(hn default v default (E default)).elim
  ·exact .inr h
 have C:D8 P (runtimePanic .nilDeref:Sem Next):=.inr fun w=>by
  rcases Ag.nilDeref (P:=P) (α:=Next) with⟨v,E⟩ | h
  ·have:=E w
   simp [runtimePanic,goPanic] at this
  ·exact h w
 split
 ·exact C
 ·exact C
 ·exact C
 ·split
  ·exact C
  ·rename_i name first captured _ t w _
   rcases MG (P:=P) (P.types.size+Made.depth) t w name with⟨r,G⟩ | h
   ·by_cases F:(r != some false)=true
    ·exact .inr fun w=>by
      simp only [Sem.run_bind,run_program,Result.andThen_ok,G,F,if_true]
      exact⟨_,_,rfl⟩
    ·refine .inl ⟨.func (.method name) first captured,fun w=>?_⟩
     simp only [Sem.run_bind,run_program,Result.andThen_ok,G,F]
     rfl
   ·exact .inr fun w=>by
     obtain⟨x,y,e⟩:=h w
     simp only [Sem.run_bind,run_program,Result.andThen_ok,e]
     exact⟨_,_,rfl⟩
  ·exact .inl ⟨_,fun _=>rfl⟩
 ·exact .inl ⟨_,fun _=>rfl⟩
theorem Mz {P:Program} (o:Oper) (ρ:Operand→Value) (h:Gs P o.op=true):D8 P (execOp ρ o):=by
  obtain⟨dst,op,type,pos,after,guard⟩:=o
  cases op <;> simp only [Gs,Bool.false_eq_true] at h
  case move=>exact .inl ⟨_,fun _=>rfl⟩
  case assign=>exact .inl ⟨_,fun _=>rfl⟩
  case pick c x y=>
    show D8 P (asBool (ρ c) >>=fun b=>(Pure.pure (Next.value (if b then ρ x else ρ y)):Sem Next))
    rcases Ag.asBool (P:=P) (ρ c) with⟨v,F⟩ | E
    · exact .inl ⟨if v=true then ρ x else ρ y,fun w=>by rw [Sem.run_bind,F]; rfl⟩
    · exact .inr fun w=>by
        obtain⟨x,y,e⟩:=E w
        exact⟨x,y,by rw [Sem.run_bind,e]; rfl⟩
  case unOp=>exact Ag.valueV (MJ _ _)
  case makeFunc=>exact Ag.valueV (Ag.pure _)
  case fieldAddr=>exact Ag.valueV (MC _ _ _ h)
  case indexAddr=>exact Ag.valueV (ME _ _ _)
  case extract=>exact Ag.valueV (MB _ _)
  case nilCheck=>exact MH _ _
  case call c=>
    obtain⟨C,args,G⟩:=c
    cases C with
    | builtin b=>cases b <;> first | exact Ag.valueV (MF _ _ _ h) | (simp at h; done)
    | value f=>simp at h
    | invoke r m=>simp at h
theorem MA {P:Program} (o:Oper) (ρ:Operand→Value) (h:intOp o.op=true) (C:intFine ρ o.op=true):D8 P (execOp ρ o):=by
 obtain⟨dst,op,type,pos,after,guard⟩:=o
 cases op <;> simp only [intOp,Bool.false_eq_true] at h
 rename_i op t x y yt
 show D8 P ((do eqGuard op t x y (ρ x) (ρ y); binOp op t (ρ x) (ρ y)) >>=fun v=>(pure (Next.value v):Sem Next))
 simp only [intFine,Bool.and_eq_true] at C
 obtain⟨h1,E⟩:=C
 generalize ρ x=u at*
 generalize ρ y=v at*
 cases u <;> simp only [isInt,Bool.false_eq_true] at h1
 cases v <;> simp only [isInt,Bool.false_eq_true] at E
 exact Ag.valueV (My _ _ _ _ _ _ _ _)
def Cs {α:Type} (P:Program) (s:Sem α):Prop:=
 ∀(w w1:World) (v:α),s.run P w=.ok v w1→w1=w∧∀w',Ext w w'→s.run P w'=.ok v w'
section
variable {α β:Type} {P:Program}
theorem Cs.of_calm {s:Sem α} (h:Ag P s):Cs P s:=fun w y v e=>by
 obtain⟨h1,x⟩:=h.ok e
 exact⟨h1,fun w' _=>x w'⟩
theorem Cs.bind {s:Sem α} {f:α→Sem β} (I:Cs P s) (G:∀v,Cs P (f v)):Cs P (s >>=f):=by
 intro w J v e
 rw [Sem.run_bind] at e
 cases h:s.run P w with
 | halt x y=>rw [h] at e; cases e
 | ok u w2=>
  rw [h] at e
  obtain⟨rfl,E⟩:=I w w2 u h
  obtain⟨rfl,F⟩:=G u w2 J v e
  exact⟨rfl,fun w' C=>by rw [Sem.run_bind,E w' C]; exact F w' C⟩
theorem PR {w w':World} (h:Ext w w') {a:Addr} {v:Value} (x:w.cell? a=some v):w'.cell? a=some v:=by
 unfold World.cell? at x ⊢
 cases ho:w.heap[a.block]? with
 | none=>rw [ho] at x; cases x
 | some o=>rw [ho] at x; rw [h.some ho]; exact x
theorem SU {w w':World} (h:Ext w w') (at_:Addr) (u:TypeId) (k:Addr) (b:Bool) {x:Array Value×TypeId×(Nat×Nat)×Nat×Value×List (Nat×Nat×List UInt8)}
  (y:w.seen P at_ u k b=.ok x):w'.seen P at_ u k b=.ok x:=by
 cases ho:w.heap[at_.block]? with
 | some o=>
  have C:=h.some ho
  unfold World.seen at y ⊢
  rw [ho] at y
  rw [C]
  exact y
 | none=>
  exfalso
  unfold World.seen at y
  rw [ho] at y
  simp only [bind,Except.bind,throwThe,MonadExceptOf.throw,MonadExcept.throw] at y
  repeat' (split at y)
  all_goals first | (cases y; done) | (simp at y; done)
theorem T3 {w w':World} (h:Ext w w') (at_:Addr) (u:TypeId) (k:Addr) (b:Bool) {x:Value×List Addr}
  (C:w.viewLoad P at_ u k b=.ok x):w'.viewLoad P at_ u k b=.ok x:=by
 unfold World.viewLoad at C ⊢
 cases h1:w.seen P at_ u k b with
 | error e=>rw [h1] at C; cases C
 | ok y=>rw [h1] at C; rw [SU h at_ u k b h1]; exact C
theorem KD (a:Addr) (m:Mode):Cs P (Go.load a m):=by
 intro w J v e
 simp only [Go.load,Sem.run] at e ⊢
 cases E:w.cell? a with
 | some u=>
  rw [E] at e
  simp only [Result.ok.injEq] at e
  obtain⟨rfl,rfl⟩:=e
  exact⟨rfl,fun w' h=>by rw [PR h E]⟩
 | none=>
  rw [E] at e
  dsimp only at e
  cases F:w.farLoad P a (m==.atomic) with
  | error x=>rw [F] at e; cases e
  | ok y=>
   rw [F] at e
   obtain⟨y,l⟩:=y
   simp only [Result.ok.injEq] at e
   obtain⟨rfl,rfl⟩:=e
   refine⟨rfl,fun w' h=>?_⟩
   have C:=F
   unfold World.farLoad at C
   split at C
   ·rename_i at_ u ho
    have G:=h.some ho
    have I:w'.cell? a=none:=by unfold World.cell?; rw [G]
    rw [I]
    dsimp only
    have:w'.farLoad P a (m==.atomic)=.ok (y,l):=by
     unfold World.farLoad
     rw [G]
     dsimp only
     split at C
     ·rename_i r hr
      rw [T3 h _ _ _ _ hr]
      exact C
     ·cases C
    rw [this]
   ·cases C
theorem RP (a:Addr) (n:Nat):∀(i:Nat) (acc:Array Value),Cs P (loadCellsFrom a i n acc):=by
 induction n with
 | zero=>exact fun i acc=>Cs.of_calm (Ag.pure _)
 | succ n ih=>exact fun i acc=>Cs.bind (KD _ _) fun v=>ih _ _
theorem RO (t:TypeId) (v:Value):Cs P (Instr.loadAt t v):=by
 unfold Instr.loadAt
 refine Cs.bind (Cs.of_calm (Ag.sureAddr _)) fun a=>?_
 unfold loadVar
 refine Cs.bind (Cs.of_calm (I4 t)) fun b=>?_
 split
 ·exact Cs.bind (Cs.of_calm (Ag.sizeOf _)) fun n=>Cs.bind (RP _ _ _ _) fun c=>Cs.of_calm (Ag.pure _)
 ·exact KD _ _
def Bq:Op→Bool
 | .load ..=>true
 | _=>false
theorem KC (o:Oper) (ρ:Operand→Value) (h:Bq o.op=true):∃s:Sem Value,Cs P s∧execOp ρ o=(s >>=fun v=>(Pure.pure (Next.value v):Sem Next)):=by
 obtain⟨dst,op,type,pos,after,guard⟩:=o
 cases op <;> simp only [Bq,Bool.false_eq_true] at h
 exact⟨_,RO _ _,rfl⟩
theorem Iw {s:Sem Value} {w E:World} {r:Next} (h:(s >>=fun v=>(Pure.pure (Next.value v):Sem Next)).run P w=.ok r E):∃u,r=.value u∧s.run P w=.ok u E:=by
 rw [Sem.run_bind] at h
 cases C:s.run P w with
 | halt x y=>rw [C] at h; cases h
 | ok u w2=>
  rw [C] at h
  simp only [Result.andThen_ok,Sem.run_pure,Result.ok.injEq] at h
  obtain⟨rfl,rfl⟩:=h
  exact⟨u,rfl,rfl⟩
theorem KW {s:Sem Value} {w x:World} {u:Value} (h:s.run P w=.ok u x):(s >>=fun v=>(Pure.pure (Next.value v):Sem Next)).run P w=.ok (.value u) x:=by
 rw [Sem.run_bind,h]; rfl
def Bz (P:Program) (s:Sem α):Prop:=∀(w w1:World) (v:α),s.run P w=.ok v w1→Ext w w1∧w.heap.size≤w1.heap.size
theorem Bz.of_calm {s:Sem α} (h:Ag P s):Bz P s:=fun w x v e=>by
 obtain⟨rfl,_⟩:=h.ok e
 exact⟨Ext.refl _,Nat.le_refl _⟩
theorem Ext.trans {a b c:World} (h:Ext a b) (y:a.heap.size≤b.heap.size) (k:Ext b c):Ext a c:=fun i x=>(k i (by omega)).trans (h i x)
theorem Bz.bind {s:Sem α} {f:α→Sem β} (G:Bz P s) (F:∀v,Bz P (f v)):Bz P (s >>=f):=by
 intro w I v e
 rw [Sem.run_bind] at e
 cases h:s.run P w with
 | halt x y=>rw [h] at e; cases e
 | ok u w2=>
  rw [h] at e
  obtain⟨h1,C⟩:=G w w2 u h
  obtain⟨E,J⟩:=F u w2 I v e
  exact⟨h1.trans C E,by omega⟩
theorem QZ (o:Obj):Bz P (newObj o):=by
 intro w h v e
 simp only [newObj,Sem.run,Result.ok.injEq] at e
 obtain⟨_,rfl⟩:=e
 refine⟨fun k hk=>?_,by simp⟩
 show(w.heap.push o)[k]?=_
 rw [Array.getElem?_push,if_neg (by omega)]
theorem HB (t:TypeId) (c:Array Value):Bz P (newRow t c):=Bz.bind (QZ _) fun _=>Bz.of_calm (Ag.pure _)
theorem I5 (t:TypeId):Ag P (zeroValue t):=by
 unfold zeroValue
 refine Ag.bind (Ag.typeInfo t) fun i=>?_
 split
 ·exact Ag.pure _
 ·exact Ag.unsupported _
theorem QV (t:TypeId):Bz P (Instr.alloc t true (.tuple #[])):=by
 unfold Instr.alloc
 exact Bz.bind (Bz.of_calm (I5 t)) fun v=>Bz.bind (HB _ _) fun _=>Bz.of_calm (Ag.pure _)
theorem QW (t:TypeId) (v:Value):Bz P (Instr.box t v):=Bz.bind (HB _ _) fun _=>Bz.of_calm (Ag.pure _)
theorem QX (t:TypeId) (n:Nat) (ps:Array (Nat×Value)):Bz P (Instr.buildSlice t n ps):=by
 unfold Instr.buildSlice
 refine Bz.bind (Bz.of_calm (Ag.underlying t)) fun d=>?_
 split
 ·rename_i elem
  refine Bz.bind (Bz.of_calm (Ag.sizeOf _)) fun z=>?_
  dsimp only
  split
  ·exact Bz.of_calm (Ag.haltBind _ _)
  ·have key:∀(msg:String) (zero:Array Value),Bz P (match
     Instr.fill (fun i=>some (i*z,z)) (Array.map (fun x=>zero[x % zero.size]!) (Array.range (n*z))) ps.toList with
    | some cells=>do
     let r ←newRow elem cells
     pure (Value.slice (some r) n n)
    | _=>Go.stuck msg):=fun msg zero=>by
    split
    ·exact Bz.bind (HB _ _) fun _=>Bz.of_calm (Ag.pure _)
    ·exact Bz.of_calm (Ag.stuck _)
   split
   ·rw [pure_bind]; exact key _ _
   ·exact Bz.bind (Bz.of_calm (I5 _)) fun _=>by rw [pure_bind]; exact key _ _
 ·exact Bz.of_calm (Ag.stuck _)
def FY:Op→Bool
 | .alloc _ | .box .. | .buildSlice ..=>true
 | _=>false
theorem QY (o:Oper) (ρ:Operand→Value) (h:FY o.op=true):∃s:Sem Value,Bz P s∧execOp ρ o=(s >>=fun v=>(Pure.pure (Next.value v):Sem Next)):=by
 obtain⟨dst,op,type,pos,after,guard⟩:=o
 cases op <;> simp only [FY,Bool.false_eq_true] at h
 case alloc=>exact⟨_,QV _,rfl⟩
 case box=>exact⟨_,QW _ _,rfl⟩
 case buildSlice=>exact⟨_,QX _ _ _,rfl⟩
end
end Reg
end Go.Proofs.YtfcfpoemojjglaaGreatDoor
namespace Go.Proofs.YtfcfpoemojjglaaGreatDoor
namespace Reg
theorem P2 (x:Array Value) (d t:Nat) (v:Value) (h:d≠t):(x.setIfInBounds d v)[t]?=x[t]?:=by
 rw [Array.getElem?_setIfInBounds_ne h]
def dis (d:Option Tmp) (l:List Tmp):Bool:=match d with | some x=>!l.contains x | none=>true
def Ed (d d':Option Tmp):Bool:=match d,d' with | some x,some y=>x != y | _,_=>true
theorem LC (a:Act) (d:Option Tmp) (v:Value) (t:Tmp) (h:d≠some t):(a.put d v).tmps[t]?=a.tmps[t]?:=by
 cases d with
 | none=>rfl
 | some x=>exact P2 _ _ _ _ (fun e=>h (by rw [e]))
theorem Fg {d:Option Tmp} {l:List Tmp} (h:dis d l=true) {t:Tmp} (ht:t∈l):d≠some t:=by
 rintro rfl
 simp [dis] at h
 exact h ht
def LB (o:Op):List Tmp:=o.operands.toList.filterMap fun | .tmp t=>some t | _=>none
def JC (ops:Array Oper) (o:Oper):List Tmp:=
 match o.guard with
 | some (j,_)=>((ops[j]?).bind (·.dst)).toList
 | none=>[]
def BZ (ops:Array Oper) (o:Oper):List Tmp:=JC ops o++LB o.op
def CO (ops:Array Oper) (o:Oper) (a b:Act):Prop:=∀t∈BZ ops o,a.tmps[t]?=b.tmps[t]?
theorem CO.symm {ops:Array Oper} {o:Oper} {a b:Act} (h:CO ops o a b):CO ops o b a:=fun t ht=>(h t ht).symm
theorem CO.trans {ops:Array Oper} {o:Oper} {a b c:Act} (h:CO ops o a b) (k:CO ops o b c):CO ops o a c:=fun t ht=>(h t ht).trans (k t ht)
theorem Fd {ops:Array Oper} {o:Oper} {a b:Act} (h:CO ops o a b):∀x∈o.op.operands.toList,a.eval x=b.eval x:=by
 intro x y
 cases x with
 | tmp t=>
  have ht:t∈BZ ops o:=by
   unfold BZ
   refine List.mem_append.2 (.inr ?_)
   unfold LB
   exact List.mem_filterMap.2 ⟨.tmp t,y,rfl⟩
  have:=h t ht
  simp only [Act.eval,Array.getD_eq_getD_getElem?,this]
 | const v=>rfl
 | global g=>rfl
 | func f=>rfl
theorem D0 {ops:Array Oper} {o:Oper} {a b:Act} (h:CO ops o a b):Region.wanted o (yielded ops a.tmps)=Region.wanted o (yielded ops b.tmps):=by
 unfold Region.wanted
 cases x:o.guard with
 | none=>rfl
 | some g=>
  obtain⟨j,y⟩:=g
  dsimp only
  have:yielded ops a.tmps j=yielded ops b.tmps j:=by
   unfold yielded
   cases hd:(ops[j]?).bind (·.dst) with
   | none=>rfl
   | some t=>
    have ht:t∈BZ ops o:=by
     unfold BZ JC
     rw [x]
     exact List.mem_append.2 (.inl (by simp [hd]))
    simp only [Option.bind_some,h t ht]
  rw [this]
def DI:Op→Bool
 | .move _ | .assign _ | .pick .. | .alloc _ | .box .. | .build .. | .buildSlice .. | .load .. | .store .. | .nilCheck _ | .binOp .. | .unOp .. | .convert .. | .makeInterface .. | .makeFunc .. | .makeMap ..
 | .makeSlice .. | .slice .. | .fieldAddr .. | .field .. | .indexAddr .. | .index .. | .lookup .. | .mapUpdate .. | .extract .. | .call _=>true
 | _=>false
theorem JX (l:Array (Nat×Operand)) (ρ y:Operand→Value) (h:∀x∈(l.toList.map (·.2)),ρ x=y x):
  (l.map fun(i,x)=>(i,ρ x))=(l.map fun(i,x)=>(i,y x)):=by
 refine Array.map_congr_left fun p C=>?_
 obtain⟨i,x⟩:=p
 have:=h x (List.mem_map.2 ⟨(i,x),by simpa using C,rfl⟩)
 simp only [this]
theorem HD (l:Array Operand) (ρ y:Operand→Value) (h:∀x∈l.toList,ρ x=y x):l.map ρ=l.map y:=
 Array.map_congr_left fun x C=>h x (by simpa using C)
theorem GB (l:Option Operand) (ρ y:Operand→Value) (h:∀x∈l.toList,ρ x=y x):l.map ρ=l.map y:=by
 cases l with
 | none=>rfl
 | some x=>simp [h x (by simp)]
theorem FO (o:Oper) (ρ C:Operand→Value) (hk:DI o.op=true) (h:∀x∈o.op.operands.toList,ρ x=C x):execOp ρ o=execOp C o:=by
 obtain⟨dst,op,type,pos,after,guard⟩:=o
 dsimp only at h hk
 cases op <;> simp only [DI,Bool.false_eq_true] at hk
 case build t ps=>simp only [execOp]; rw [JX ps ρ C (by simpa [Op.operands] using h)]
 case buildSlice t n ps=>simp only [execOp]; rw [JX ps ρ C (by simpa [Op.operands] using h)]
 case makeFunc fn f c=>
  simp only [Op.operands,Array.toList_append,List.mem_append] at h
  simp only [execOp]
  rw [HD f ρ C (fun x y=>h x (.inl y)),HD c ρ C (fun x y=>h x (.inr y))]
 case makeMap t r=>simp only [execOp]; rw [GB r ρ C (by simpa [Op.operands] using h)]
 case slice t x lo hi mx=>
  simp only [Op.operands,Array.toList_append,List.mem_append] at h
  simp only [execOp]
  rw [h x (by simp),GB lo ρ C (fun x y=>h x (by simp at y; simp [y])),GB hi ρ C (fun x y=>h x (by simp at y; simp [y])),GB mx ρ C (fun x y=>h x (by simp at y; simp [y]))]
 case call c=>
  obtain⟨E,args,G⟩:=c
  simp only [Op.operands,Call.operands,Array.toList_append,List.mem_append] at h
  have F:=HD args ρ C fun x y=>h x (.inr y)
  simp only [execOp,resolve,F]
  cases E with
  | builtin b=>rfl
  | value f=>simp only [h f (.inl (by simp))]
  | invoke r m=>simp only [h r (.inl (by simp))]
 all_goals (simp only [Op.operands,List.mem_cons,List.not_mem_nil,or_false,forall_eq_or_imp,forall_eq] at h; try simp only [execOp,h])
abbrev Bo:=Exit→Act→World→Prop
def NoQ (Q:Bo):Prop:=(∀c a w,¬Q (.panic c) a w)∧(∀a w,¬Q .outgrown a w)
def upd (a:Act) (d:Option Tmp) (ds:List Deferred) (v:Value):Act:={ tmps:=(a.put d v).tmps,defers:=ds++a.defers }
theorem CN (a:Act) (d:Option Tmp) (v:Value):upd a d [] v=a.put d v:=by
 cases d <;> rfl
theorem Iu (a:Act) (d:Option Tmp) (x:Deferred) (v:Value):upd a d [x] v=({ a with defers:=x::a.defers }:Act).put d v:=by
 cases d <;> rfl
theorem G6 (a:Act) (d:Option Tmp) (ds:List Deferred) (v:Value) (t:Tmp) (h:d≠some t):(upd a d ds v).tmps[t]?=a.tmps[t]?:=LC a d v t h
theorem FI {ops:Array Oper} {o:Oper} {d:Option Tmp} (h:dis d (BZ ops o)=true) (a:Act) (ds:List Deferred) (v:Value):CO ops o (upd a d ds v) a:=
 fun _ ht=>G6 _ _ _ _ _ (Fg h ht)
theorem Em {ops:Array Oper} {o:Oper} {d:Option Tmp} (h:dis d (BZ ops o)=true) (a:Act) (v:Value):CO ops o (a.put d v) a:=
 fun _ ht=>LC _ _ _ _ (Fg h ht)
theorem HY {d C:Option Tmp} (h:Ed d C=true) (a:Act) (ds:List Deferred) (u v:Value):upd (a.put d u) C ds v=(upd a C ds v).put d u:=by
 cases d with
 | none=>rfl
 | some x=>
  cases C with
  | none=>rfl
  | some y=>
   have E:x≠y:=by simpa [Ed] using h
   simp only [upd,Act.put]
   congr 1
   exact(Array.setIfInBounds_comm _ _ E)
theorem HX {d x:Option Tmp} (h:Ed d x=true) (a:Act) (u v:Value):(a.put d u).put x v=(a.put x v).put d u:=by
 rw [←CN,HY h,CN]
section
variable {P:Program} {Q Q':Bo} {o:Oper} {a a':Act} {w:World} {N N':Act→World→Prop}
theorem E9 (hQ:NoQ Q) {r:Result Next} (h:o.upon P a N Q r) (E:∀v ds w',N (upd a o.dst ds v) w'→N' (upd a' o.dst ds v) w'):o.upon P a' N' Q' r:=by
  cases r with
  | halt x w'=>cases x <;> first | exact h | exact absurd h (hQ.1 _ _ _)
  | ok x w'=>
    cases x with
    | value v=>
      have:=E v [] w' (by rw [CN]; exact h)
      rw [CN] at this; exact this
    | skip=>
      have:=E undef [] w' (by rw [CN]; exact h)
      rw [CN] at this; exact this
    | enter f args=>
      refine Calls.mono (R:=fun
        | .returned v,w''=>N (a.put o.dst v) w''
        | .panicked chain,w''=>Q (.panic chain) a w''
        | .outgrown,_=>LetsOut Q) h ?_
      intro e w'' C
      cases e with
      | returned v=>
        have:=E v [] w'' (by rw [CN]; exact C)
        rw [CN] at this; exact this
      | panicked c=>exact absurd C (hQ.1 _ _ _)
      | outgrown=>obtain⟨x,y,F⟩:=C; exact absurd F (hQ.2 _ _)
    | row s args=>
      refine Rows.mono (R:=fun v w''=>N (a.put o.dst v) w'') h ?_
      intro v w'' C
      have:=E v [] w'' (by rw [CN]; exact C)
      rw [CN] at this; exact this
    | _=>
      first
      | exact h
      | (rename_i d
         have:=E undef [d] w' (by rw [Iu]; exact h)
         rw [Iu] at this; exact this)
theorem G8 (hQ:NoQ Q) {r:Result Next} (h:o.upon P a N Q r):∃v ds w',N (upd a o.dst ds v) w':=by
 cases r with
 | halt x w'=>cases x <;> first | exact h.elim | exact absurd h (hQ.1 _ _ _)
 | ok x w'=>
  cases x with
  | value v=>exact⟨v,[],w',by rw [CN]; exact h⟩
  | skip=>exact⟨undef,[],w',by rw [CN]; exact h⟩
  | enter f args=>
   obtain⟨e,w'',fr,C,_⟩:=h []
   cases e with
   | returned v=>exact⟨v,[],w'',by rw [CN]; exact C⟩
   | panicked c=>exact absurd C (hQ.1 _ _ _)
   | outgrown=>obtain⟨x,y,E⟩:=C; exact absurd E (hQ.2 _ _)
  | row s args=>
   obtain⟨v,w'',C,_⟩:=h default []
   exact⟨v,[],w'',by rw [CN]; exact C⟩
  | _=>
   first
   | exact h.elim
   | (rename_i d; exact⟨undef,[d],w',by rw [Iu]; exact h⟩)
end
def En (P:Program) (ib:Bool) (o:Oper):Bool:=Gs P o.op||(ib&&intOp o.op)
def eff (P:Program) (ib:Bool) (o:Oper):Bool:=!En P ib o&&!Bq o.op&&!FY o.op
def Bu (P:Program) (ib:Bool) (ops:Array Oper) (Q:Bo) (o:Oper) (N:Act→World→Prop) (a:Act) (w:World):Prop:=
 if Region.wanted o (yielded ops a.tmps)=true then ((ib&&intOp o.op)=true→intFine a.eval o.op=true)∧o.wp P a w N Q else N (a.put o.dst undef) w
theorem FT {ops:Array Oper} {o:Oper} {a b:Act} (h:CO ops o a b):intFine a.eval o.op=intFine b.eval o.op:=by
 have x:=Fd h
 cases y:o.op <;> simp only [intFine]
 rw [y] at x
 simp only [Op.operands] at x
 rw [x _ (by simp),x _ (by simp)]
section
variable {P:Program} {ib:Bool} {ops:Array Oper} {Q:Bo} (hQ:NoQ Q) {o:Oper} {a a' b:Act} {w:World} {N N':Act→World→Prop}
include hQ
theorem Ey (h:Bu P ib ops Q o N a w) (x:∀v ds w',N (upd a o.dst ds v) w'→N' (upd a o.dst ds v) w'):Bu P ib ops Q o N' a w:=by
 unfold Bu at h ⊢
 split
 ·rename_i hw
  rw [if_pos hw] at h
  exact⟨h.1,E9 hQ h.2 x⟩
 ·rename_i hw
  rw [if_neg hw] at h
  have:=x undef [] w (by rw [CN]; exact h)
  rwa [CN] at this
theorem Tl (h:Bu P ib ops Q o N a w):∃v ds w',N (upd a o.dst ds v) w':=by
 unfold Bu at h
 split at h
 ·exact G8 hQ h.2
 ·exact⟨undef,[],w,by rw [CN]; exact h⟩
theorem Lr (hk:DI o.op=true) {d:Option Tmp} (hd:dis d (BZ ops o)=true) (E:Ed d o.dst=true) (u:Value) (h:Bu P ib ops Q o N (a.put d u) w):
  Bu P ib ops Q o (fun x w'=>N (x.put d u) w') a w:=by
 have C:=Em hd a u
 unfold Bu at h ⊢
 rw [D0 C] at h
 split
 ·rename_i hw
  rw [if_pos hw] at h
  refine⟨fun G=>by rw [←FT C]; exact h.1 G,?_⟩
  have y:=h.2
  unfold Oper.wp at y ⊢
  rw [FO o _ _ hk (Fd C)] at y
  exact E9 hQ y fun v ds w' F=>by rw [HY E] at F; exact F
 ·rename_i hw
  rw [if_neg hw] at h
  rw [HX E] at h
  exact h
theorem Tm (hk:DI o.op=true) {d:Option Tmp} (hd:dis d (BZ ops o)=true) (E:Ed d o.dst=true) (u:Value) (h:Bu P ib ops Q o (fun x w'=>N (x.put d u) w') a w):
  Bu P ib ops Q o N (a.put d u) w:=by
 have y:=Em hd a u
 unfold Bu at h ⊢
 rw [D0 y]
 split
 ·rename_i hw
  rw [if_pos hw] at h
  refine⟨fun F=>by rw [FT y]; exact h.1 F,?_⟩
  have C:=h.2
  unfold Oper.wp at C ⊢
  rw [FO o _ _ hk (Fd y)]
  exact E9 hQ C fun v ds w' G=>by rw [HY E]; exact G
 ·rename_i hw
  rw [if_neg hw] at h
  rw [HX E]
  exact h
theorem Lq (hk:DI o.op=true) (G:En P ib o=true) (h:Bu P ib ops Q o N b w):
  ∃u,N (b.put o.dst u) w∧∀(a:Act) (w':World) (M:Act→World→Prop),CO ops o a b→(Bu P ib ops Q o M a w'↔M (a.put o.dst u) w'):=by
 unfold Bu at h
 split at h
 ·rename_i hw
  have J:D8 P (execOp b.eval o):=by
   simp only [En,Bool.or_eq_true] at G
   by_cases E:(ib&&intOp o.op)=true
   ·exact MA o _ (by simp only [Bool.and_eq_true] at E; exact E.2) (h.1 E)
   ·exact Mz o _ (G.resolve_right E)
  have C:=h.2
  unfold Oper.wp at C
  rcases J with⟨u,I⟩ | O
  ·rw [I] at C
   refine⟨u,C,fun a w' M F=>?_⟩
   unfold Bu
   rw [D0 F,if_pos hw]
   unfold Oper.wp
   rw [FO o _ _ hk (Fd F),I]
   exact⟨fun x=>x.2,fun x=>⟨fun E=>by rw [FT F]; exact h.1 E,x⟩⟩
  ·obtain⟨x,y,e⟩:=O w
   rw [e] at C
   cases x <;> first | exact C.elim | exact absurd C (hQ.1 _ _ _)
 ·rename_i hw
  refine⟨undef,h,fun a w' M F=>?_⟩
  unfold Bu
  rw [D0 F,if_neg hw]
def C3 (P:Program) (ops:Array Oper) (o:Oper) (a:Act) (w w':World):Prop:=
 Region.wanted o (yielded ops a.tmps)=true→∀v,(execOp a.eval o).run P w=.ok (.value v) w→(execOp a.eval o).run P w'=.ok (.value v) w'
omit hQ in
theorem GU (hk:DI o.op=true) (x:CO ops o a b) {w w':World} (h:C3 P ops o a w w'):C3 P ops o b w w':=by
 unfold C3 at h ⊢
 rw [FO o _ _ hk (Fd x),D0 x] at h
 exact h
omit hQ in
theorem GV (E:Bq o.op=true) {w w':World} (h:Ext w w'):C3 P ops o a w w':=by
 intro _ v y
 obtain⟨s,G,C⟩:=KC (P:=P) o a.eval E
 rw [C] at y ⊢
 obtain⟨u,x,F⟩:=Iw y
 injection x with x
 subst x
 exact KW ((G w w v F).2 w' h)
theorem Ls (hk:DI o.op=true) (G:Bq o.op=true) (h:Bu P ib ops Q o N b w):
  ∃u,N (b.put o.dst u) w∧∀(a:Act) (w':World) (M:Act→World→Prop),CO ops o a b→C3 P ops o a w w'→M (a.put o.dst u) w'→Bu P ib ops Q o M a w':=by
 have U:intOp o.op=false:=by
  cases V:o.op <;> rw [V] at G <;> simp only [Bq,Bool.false_eq_true] at G <;> rfl
 unfold Bu at h
 split at h
 ·rename_i hw
  have C:=h.2
  unfold Oper.wp at C
  obtain⟨s,Z,J⟩:=KC (P:=P) o b.eval G
  cases F:(execOp b.eval o).run P w with
  | halt x y=>
   rw [F] at C
   cases x <;> first | exact C.elim | exact absurd C (hQ.1 _ _ _)
  | ok r w1=>
   rw [F] at C
   rw [J] at F
   obtain⟨u,rfl,a3⟩:=Iw F
   obtain⟨rfl,_⟩:=Z _ _ _ a3
   refine⟨u,C,fun a w' M E a2 I=>?_⟩
   unfold Bu
   rw [D0 E,if_pos hw]
   refine⟨fun O=>absurd O (by rw [U]; simp),?_⟩
   unfold Oper.wp
   have W:=a2 (by rw [D0 E]; exact hw) u (by rw [FO o _ _ hk (Fd E),J]; exact F)
   rw [W]
   exact I
 ·rename_i hw
  refine⟨undef,h,fun a w' M E _ I=>?_⟩
  unfold Bu
  rw [D0 E,if_neg hw]
  exact I
theorem Tn (G:FY o.op=true) (h:Bu P ib ops Q o N a w):Bu P ib ops Q o (fun x w'=>N x w'∧Ext w w') a w:=by
 unfold Bu at h ⊢
 split
 ·rename_i hw
  rw [if_pos hw] at h
  refine⟨h.1,?_⟩
  have C:=h.2
  unfold Oper.wp at C ⊢
  obtain⟨s,I,F⟩:=QY (P:=P) o a.eval G
  cases E:(execOp a.eval o).run P w with
  | halt x y=>
   rw [E] at C
   cases x <;> first | exact C.elim | exact absurd C (hQ.1 _ _ _)
  | ok r w1=>
   rw [E] at C
   rw [F] at E
   obtain⟨u,rfl,J⟩:=Iw E
   exact⟨C,(I _ _ _ J).1⟩
 ·rename_i hw
  rw [if_neg hw] at h
  exact⟨h,Ext.refl _⟩
end
def Obl (P:Program) (ib:Bool) (ops:Array Oper) (bef:Nat→Nat→Bool) (D:Nat→Prop) (i:Nat) (b:Act) (w w':World):Prop:=
 ∀o,ops[i]?=some o→eff P ib o=true→∀r q,D r→ops[r]?=some q→Bq q.op=true→bef r i=false→C3 P ops q b w w'
def WT (P:Program) (ib:Bool) (ops:Array Oper) (bef:Nat→Nat→Bool) (Q:Bo):(Nat→Prop)→List Nat→Act→World→Prop
 | _,[],a,w=>Q .normal a w
 | D,i::l,a,w=>∃o,ops[i]?=some o∧Bu P ib ops Q o (fun b w'=>Obl P ib ops bef D i b w w'∧WT P ib ops bef Q (fun k=>k=i∨D k) l b w') a w
def FL (P:Program) (ib:Bool) (ops:Array Oper) (x y:Oper):Bool:=
 dis x.dst (BZ ops y)&&dis y.dst (BZ ops x)&&Ed x.dst y.dst&&(En P ib x||En P ib y||Bq x.op)
section
variable {P:Program} {ib:Bool} {ops:Array Oper} {bef:Nat→Nat→Bool} {Q:Bo} (hQ:NoQ Q)
theorem Jn {d x:Option Tmp} (h:Ed d x=true):Ed x d=true:=by
 cases d <;> cases x <;> first | rfl | (simp only [Ed,bne_iff_ne,ne_eq] at h ⊢; exact fun e=>h e.symm)
theorem Rn (A B:Nat) (D:Nat→Prop):(fun k=>k=A∨k=B∨D k)=(fun k=>k=B∨k=A∨D k):=by
 funext k; exact propext ⟨fun h=>by rcases h with h | h | h <;> simp [h],fun h=>by rcases h with h | h | h <;> simp [h]⟩
include hQ in
theorem TF {A B:Nat} {U y:Oper} (hA:ops[A]?=some U) (hB:ops[B]?=some y) (af:DI U.op=true) (ag:DI y.op=true) (hc:FL P ib ops U y=true) (aw:bef A B=false)
  {D:Nat→Prop} (hD:∀r q,D r→ops[r]?=some q→Bq q.op=true→DI q.op=true∧dis U.dst (BZ ops q)=true∧dis y.dst (BZ ops q)=true)
  (az:Bq U.op=true→dis U.dst (BZ ops U)=true)
  {l:List Nat} {a:Act} {w:World} (h:WT P ib ops bef Q D (A::B::l) a w):WT P ib ops bef Q D (B::A::l) a w:=by
 simp only [FL,Bool.and_eq_true] at hc
 obtain⟨⟨⟨a4,ad⟩,ae⟩,av⟩:=hc
 obtain⟨C,am,h⟩:=h
 obtain rfl:C=U:=by rw [hA] at am; injection am with e; exact e.symm
 have aa:∀(i:Nat) (o:Oper),ops[i]?=some o→eff P ib o=false→∀(E:Nat→Prop) (b:Act) (w w':World),Obl P ib ops bef E i b w w':=fun i o ho Z E b w w' o' ap ao=>by
  rw [ho] at ap; injection ap with e; subst e; rw [Z] at ao; cases ao
 have h':Bu P ib ops Q C (fun b x=>Obl P ib ops bef D A b w x∧Bu P ib ops Q y (fun b2 V=>Obl P ib ops bef (fun k=>k=A∨D k) B b2 x V∧WT P ib ops bef Q (fun k=>k=B∨k=A∨D k) l b2 V) b x) a w:=
  Ey hQ h fun v ds w' F=>by
   obtain⟨h1,o,ho,O⟩:=F
   rw [hB] at ho; injection ho with e; subst e
   exact⟨h1,O⟩
 clear h
 refine⟨y,hB,?_⟩
 suffices hs:Bu P ib ops Q y (fun b x=>Obl P ib ops bef D B b w x∧Bu P ib ops Q C (fun b2 V=>Obl P ib ops bef (fun k=>k=B∨D k) A b2 x V∧WT P ib ops bef Q (fun k=>k=B∨k=A∨D k) l b2 V) b x) a w from
  Ey hQ hs fun v ds w' F=>⟨F.1,C,hA,by rw [Rn A B D]; exact F.2⟩
 by_cases cB:En P ib y=true
 ·-- B is calm
  have eB:eff P ib y=false:=by simp [eff,cB]
  obtain⟨v0,al,w0,_,ax⟩:=Tl hQ h'
  obtain⟨u,_,hu⟩:=Lq hQ ag cB ax
  refine(hu a w _ (FI a4 a al v0).symm).2 ⟨aa B y hB eB _ _ _ _,?_⟩
  refine Tm hQ af ad (Jn ae) u ?_
  refine Ey hQ h' fun v ds x F=>?_
  obtain⟨h1,O⟩:=F
  have G:=(hu _ x _ ((FI a4 a ds v).trans (FI a4 a al v0).symm)).1 O
  refine⟨fun o ho Z r q M J I hb=>?_,G.2⟩
  rcases M with rfl | M
  ·rw [hB] at J; injection J with e; subst e
   exfalso
   cases aq:y.op <;> rw [aq] at I <;> simp only [Bq,Bool.false_eq_true] at I
   simp [En,Gs,intOp,aq] at cB
  ·obtain⟨k1,k2,k3⟩:=hD r q M J I
   exact GU k1 (Em k3 _ _).symm (h1 o ho Z r q M J I hb)
 ·by_cases cA:En P ib C=true
  ·-- A is calm
   have eA:eff P ib C=false:=by simp [eff,cA]
   obtain⟨u,ah,hu⟩:=Lq hQ af cA h'
   have O:=Lr hQ ag a4 ae u ah.2
   refine Ey hQ O fun v ds x F=>?_
   obtain⟨G,W⟩:=F
   refine⟨fun o ho Z r q M J I hb=>?_,(hu _ x _ (FI ad a ds v)).2 ⟨aa A C hA eA _ _ _ _,W⟩⟩
   obtain⟨k1,k2,k3⟩:=hD r q M J I
   exact GU k1 (Em k2 _ _) (G o ho Z r q (.inr M) J I hb)
  ·have lA:Bq C.op=true:=by simpa [cA,cB] using av
   have eA:eff P ib C=false:=by simp [eff,lA]
   obtain⟨u,ah,hu⟩:=Ls hQ af lA h'
   by_cases lB:Bq y.op=true
   ·have eB:eff P ib y=false:=by simp [eff,lB]
    obtain⟨u2,aB,hv⟩:=Ls hQ ag lB ah.2
    refine hv a w _ (Em a4 a u).symm (GV lB (Ext.refl _)) ⟨aa B y hB eB _ _ _ _,?_⟩
    refine hu _ w _ (Em ad a u2) (GV lA (Ext.refl _)) ⟨aa A C hA eA _ _ _ _,?_⟩
    rw [HX (Jn ae)]
    exact aB.2
   ·have O:=Lr hQ ag a4 ae u ah.2
    have fin:∀(v:Value) (ds:List Deferred) (x:World),Obl P ib ops bef (fun k=>k=A∨D k) B ((upd a y.dst ds v).put C.dst u) w x→C3 P ops C (upd a y.dst ds v) w x→
      WT P ib ops bef Q (fun k=>k=B∨k=A∨D k) l ((upd a y.dst ds v).put C.dst u) x→
      Obl P ib ops bef D B (upd a y.dst ds v) w x∧Bu P ib ops Q C (fun b2 V=>Obl P ib ops bef (fun k=>k=B∨D k) A b2 x V∧WT P ib ops bef Q (fun k=>k=B∨k=A∨D k) l b2 V) (upd a y.dst ds v) x:=by
     intro v ds x G ay W
     refine⟨fun o ho Z r q M J I hb=>?_,hu _ x _ (FI ad a ds v) ay ⟨aa A C hA eA _ _ _ _,W⟩⟩
     obtain⟨k1,k2,k3⟩:=hD r q M J I
     exact GU k1 (Em k2 _ _) (G o ho Z r q (.inr M) J I hb)
    by_cases mB:FY y.op=true
    ·refine Ey hQ (Tn hQ mB O) fun v ds x F=>?_
     obtain⟨⟨G,W⟩,F⟩:=F
     exact fin v ds x G (GV lA F) W
    ·have eB:eff P ib y=true:=by simp [eff,cB,lB,mB]
     refine Ey hQ O fun v ds x F=>?_
     obtain⟨G,W⟩:=F
     exact fin v ds x G (GU af (Em (az lA) _ _) (G y hB eB A C (.inl rfl) hA lA aw)) W
end
end Reg
end Go.Proofs.YtfcfpoemojjglaaGreatDoor
namespace Go.Proofs.YtfcfpoemojjglaaGreatDoor
namespace Reg
structure Gl (P:Program) (ops:Array Oper) (bef:Nat→Nat→Bool):Prop where
 ok:∀(i:Nat) (o:Oper),ops[i]?=some o→DI o.op=true
 self:∀(i:Nat) (o:Oper),ops[i]?=some o→Bq o.op=true→dis o.dst (BZ ops o)=true
 war:∀(x y:Nat) (ox oy:Oper),x≠y→ops[x]?=some ox→ops[y]?=some oy→Bq ox.op=true→bef y x=false→dis oy.dst (BZ ops ox)=true
def Rel (P:Program) (ib:Bool) (ops:Array Oper) (bef:Nat→Nat→Bool) (x y:Nat):Prop:=
 x≠y∧bef y x=false∧(bef x y=true∨∀(ox oy:Oper),ops[x]?=some ox→ops[y]?=some oy→FL P ib ops ox oy=true)
section
variable {P:Program} {ib:Bool} {ops:Array Oper} {bef:Nat→Nat→Bool} {Q:Bo} (hQ:NoQ Q) (hS:Gl P ops bef)
include hQ hS
theorem Mt {A:Nat} {V:Oper} (M:ops[A]?=some V) (l2:List Nat):∀(l1:List Nat) (D:Nat→Prop) (a:Act) (w:World),
  (∀x∈l1,∃J,ops[x]?=some J∧bef A x=false∧FL P ib ops V J=true)→(l1++A::l2).Pairwise (fun x y=>x≠y∧bef y x=false)→
  (∀r q,D r→ops[r]?=some q→Bq q.op=true→∀y∈l1++A::l2,∀O,ops[y]?=some O→dis O.dst (BZ ops q)=true)→
  WT P ib ops bef Q D (A::(l1++l2)) a w→WT P ib ops bef Q D (l1++A::l2) a w:=by
 intro l1
 induction l1 with
 | nil=>intro D a w _ _ _ h; exact h
 | cons x l1 ih=>
  intro D a w hx W U h
  obtain⟨J,G,a6,hc⟩:=hx x (by simp)
  have h1:=TF hQ M G (hS.ok _ _ M) (hS.ok _ _ G) hc a6 (fun r q E C F=>⟨hS.ok _ _ C,U r q E C F A (by simp) V M,U r q E C F x (by simp) J G⟩) (hS.self _ _ M) h
  obtain⟨o,ho,h2⟩:=h1
  rw [G] at ho; injection ho with e; subst e
  refine⟨J,G,Ey hQ h2 fun v ds w' hz=>⟨hz.1,ih _ _ _ (fun y I=>hx y (by simp [I])) (List.Pairwise.of_cons W) ?_ hz.2⟩⟩
  intro r q E C F y I O Z
  rcases E with rfl | E
  ·have:=(List.pairwise_cons.1 W).1 y I
   exact hS.war _ _ _ _ this.1 C Z F this.2
  ·exact U r q E C F y (by simp at I ⊢; exact .inr I) O Z
theorem Ki (T:List Nat):∀(l:List Nat) (D:Nat→Prop) (a:Act) (w:World),l.Perm T→T.Pairwise (Rel P ib ops bef)→(∀x∈T,x<ops.size)→l.Pairwise (fun x y=>x≠y∧bef y x=false)→
  (∀r q,D r→ops[r]?=some q→Bq q.op=true→∀y∈T,∀C,ops[y]?=some C→dis C.dst (BZ ops q)=true)→
  WT P ib ops bef Q D T a w→WT P ib ops bef Q D l a w:=by
 induction T with
 | nil=>
  intro l D a w E _ _ _ _ h
  rw [E.eq_nil]
  exact h
 | cons A T ih=>
  intro l D a w E hT a6 W hD h
  have ae:A∈l:=E.symm.subset (by simp)
  obtain⟨l1,l2,rfl⟩:=List.append_of_mem ae
  have a7:(l1++l2).Perm T:=by
   have h1:(l1++A::l2).Perm (A::(l1++l2)):=List.perm_middle
   exact(List.perm_cons A).1 (h1.symm.trans E)
  obtain⟨oA,V,h2⟩:=h
  have ad:(l1++l2).Pairwise (fun x y=>x≠y∧bef y x=false):=W.sublist (List.Sublist.append_left (List.sublist_cons_self A l2) l1)
  have a4:=(List.pairwise_cons.1 hT).1
  refine Mt hQ hS V l2 l1 D a w ?_ W (fun r q F M I y U C J=>hD r q F M I y (E.subset U) C J) ⟨oA,V,Ey hQ h2 fun v ds w' hz=>⟨hz.1,ih _ _ _ _ a7 (List.Pairwise.of_cons hT) (fun x O=>a6 x (by simp [O])) ad ?_ hz.2⟩⟩
  ·intro x O
   have a8:x∈T:=a7.subset (by simp [O])
   have hb:bef A x=false:=by
    have:=List.pairwise_append.1 W
    exact(this.2.2 x O A (by simp)).2
   have hR:=a4 x a8
   cases Z:ops[x]? with
   | none=>
    exfalso
    have:=a6 x (by simp [a8])
    rw [Array.getElem?_eq_getElem this] at Z
    cases Z
   | some ox=>
    refine⟨ox,rfl,hb,?_⟩
    rcases hR.2.2 with G | G
    ·rw [hb] at G; cases G
    ·exact G oA ox V Z
  ·intro r q F M I y U C J
   rcases F with rfl | F
   ·have:=a4 y U
    exact hS.war _ _ _ _ this.1 M J I this.2.1
   ·exact hD r q F M I y (by simp [U]) C J
end
def Lin (m:Region.Mode) (ops:Array Oper) (done:List Nat) (l:List Nat):Prop:=
 match l with
 | []=>True
 | i::l=>i<ops.size∧i∉done∧(∀o,ops[i]?=some o→∀e∈o.after.toList,Region.binds m e=true→e.on∈done)∧Lin m ops (i::done) l
theorem Mr {m:Region.Mode} {e:Edge} (h:Region.binds .any e=true):Region.binds m e=true:=by
 obtain⟨on,g⟩:=e
 cases g <;> first | rfl | (simp [Region.binds] at h)
theorem JU {m:Region.Mode} {ops:Array Oper} {bef:Nat→Nat→Bool} (C:∀{i j:Nat},j<ops.size→i<ops.size→bef i j=true→
  ∃o,ops[j]?=some o∧∃e∈o.after.toList,Region.binds .any e=true∧(e.on=i∨bef i e.on=true)∧e.on<j) (l:List Nat):∀(done:List Nat),Lin m ops done l→
  (∀j∈done,j<ops.size∧∀i,i<ops.size→bef i j=true→i∈done)→
  l.Pairwise (fun x y=>x≠y∧bef y x=false)∧l.Nodup∧(∀i∈l,i<ops.size∧i∉done):=by
 induction l with
 | nil=>exact fun _ _ _=>⟨List.Pairwise.nil,List.nodup_nil,fun i I=>by simp at I⟩
 | cons i l ih=>
  intro done h hd
  obtain⟨h1,U,V,W⟩:=h
  have M:∀k,k<ops.size→bef k i=true→k∈done:=by
   intro k hk a4
   obtain⟨o,ho,e,he,a2,G,a9⟩:=C h1 hk a4
   have O:=V o ho e he (Mr a2)
   rcases G with rfl | G
   ·exact O
   ·exact(hd _ O).2 k hk G
  obtain⟨p1,p2,F⟩:=ih (i::done) W (by
   intro j E
   rcases List.mem_cons.1 E with rfl | E
   ·exact⟨h1,fun k hk C=>List.mem_cons.2 (.inr (M k hk C))⟩
   ·exact⟨(hd j E).1,fun k hk C=>List.mem_cons.2 (.inr ((hd j E).2 k hk C))⟩)
  refine⟨List.pairwise_cons.2 ⟨fun y hy=>?_,p1⟩,List.nodup_cons.2 ⟨fun I=>(F i I).2 (by simp),p2⟩,?_⟩
  ·have J:=F y hy
   refine⟨fun e=>J.2 (by simp [e]),?_⟩
   cases Z:bef y i with
   | false=>rfl
   | true=>exact absurd (List.mem_cons.2 (.inr (M y J.1 Z))) J.2
  ·intro k hk
   rcases List.mem_cons.1 hk with rfl | hk
   ·exact⟨h1,U⟩
   ·exact⟨(F k hk).1,fun hn=>(F k hk).2 (List.mem_cons.2 (.inr hn))⟩
def DR (n:Nat) (done:List Nat):List Nat:=(List.range n).filter fun i=>!done.contains i
theorem Q9 {n i:Nat} {done:List Nat} (h:i<n) (hd:i∉done):(DR n (i::done)).length<(DR n done).length:=by
 have e:DR n (i::done)=(DR n done).filter fun k=>!(k==i):=by
  unfold DR
  rw [List.filter_filter]
  congr 1
  funext k
  by_cases hk:k=i <;> simp [hk]
 rw [e,List.length_filter_lt_length_iff_exists]
 exact⟨i,by simp [DR,h,hd],by simp⟩
def Ha (m:Region.Mode) (ops:Array Oper):Prop:=
 ∀done:List Nat,(∃i,i<ops.size∧i∉done)→∃i,i<ops.size∧i∉done∧∀o,ops[i]?=some o→∀e∈o.after.toList,Region.binds m e=true→e.on∈done
theorem QQ {m:Region.Mode} {ops:Array Oper} (T:List Nat):∀(y:List Nat),Lin m ops y T→∀done:List Nat,(∀i∈y,i∈done)→(∃i,i∈T∧i∉done)→
  ∃i,i<ops.size∧i∉done∧∀o,ops[i]?=some o→∀e∈o.after.toList,Region.binds m e=true→e.on∈done:=by
 induction T with
 | nil=>exact fun _ _ _ _ h=>by obtain⟨i,x,_⟩:=h; simp at x
 | cons k T ih=>
  intro y h done hd J
  obtain⟨h1,M,E,F⟩:=h
  by_cases hk:k∈done
  ·refine ih (k::y) F done (fun i x=>?_) ?_
   ·rcases List.mem_cons.1 x with rfl | x
    ·exact hk
    ·exact hd i x
   ·obtain⟨i,x,C⟩:=J
    rcases List.mem_cons.1 x with rfl | x
    ·exact absurd hk C
    ·exact⟨i,x,C⟩
  ·exact⟨k,h1,hk,fun o ho e I G=>hd _ (E o ho e I G)⟩
theorem HW {m:Region.Mode} {ops:Array Oper} {T:List Nat} (x:Lin m ops [] T) (y:∀i,i<ops.size→i∈T):Ha m ops:=
 fun done ⟨i,C,E⟩=>QQ T [] x done (fun _ h=>by simp at h) ⟨i,y i C,E⟩
theorem P3 {m:Region.Mode} {ops:Array Oper} (hp:Ha m ops):∀(fuel t:Nat) (listed:Array Bool) (acc:List Nat),listed.size=ops.size→
  (∀i,i<ops.size→(listed[i]?=some true↔i∈acc))→(∀i∈acc,i<ops.size)→(DR ops.size acc).length≤fuel→
  ∃l,Region.linearise.go m ops fuel t listed acc=acc.reverse++l∧Lin m ops acc l∧∀i,i<ops.size→i∈acc∨i∈l:=by
 intro fuel
 induction fuel with
 | zero=>
  intro t listed acc _ _ _ hm
  refine⟨[],by simp [Region.linearise.go],trivial,fun i I=>?_⟩
  have h0:DR ops.size acc=[]:=List.eq_nil_of_length_eq_zero (by omega)
  by_cases C:i∈acc
  ·exact .inl C
  ·exfalso
   have:i∈DR ops.size acc:=by simp [DR,I,C]
   rw [h0] at this; simp at this
 | succ fuel ih=>
  intro t listed acc a2 E U hm
  rw [Region.linearise.go]
  generalize af:((List.range ops.size).filter fun i=>!listed.getD i true&&((ops[i]?).map (·.after.all fun e=>!Region.binds m e||listed.getD e.on false)).getD false)=rs
  have Z:∀i,i∈rs↔i<ops.size∧i∉acc∧∀o,ops[i]?=some o→∀e∈o.after.toList,Region.binds m e=true→e.on∈acc:=by
   intro i
   rw [←af,List.mem_filter,List.mem_range]
   constructor
   ·rintro⟨h1,h⟩
    have hl:=E i h1
    have O:listed[i]?=some (listed[i]'(by omega)):=Array.getElem?_eq_getElem (by omega)
    simp only [Bool.and_eq_true,Bool.not_eq_true'] at h
    obtain⟨h,x⟩:=h
    refine⟨h1,fun C=>?_,fun o ho e G F=>?_⟩
    ·have:=hl.2 C
     rw [Array.getD_eq_getD_getElem?,this] at h
     simp at h
    ·rw [ho] at x
     simp only [Option.map_some,Option.getD_some,Array.all_eq_true'] at x
     have:=x e (by simpa using G)
     rw [F] at this
     simp only [Bool.not_true,Bool.false_or] at this
     rw [Array.getD_eq_getD_getElem?] at this
     by_cases ac:e.on<ops.size
     ·have h4:=E e.on ac
      cases M:listed[e.on]? with
      | none=>rw [M] at this; simp at this
      | some b=>rw [M] at this; simp at this; subst this; exact h4.1 M
     ·rw [Array.getElem?_eq_none (by omega)] at this
      simp at this
   ·rintro⟨h1,h,x⟩
    refine⟨h1,?_⟩
    have O:listed[i]?=some (listed[i]'(by omega)):=Array.getElem?_eq_getElem (by omega)
    have F:listed[i]'(by omega)=false:=by
     cases y:listed[i]'(by omega) with
     | false=>rfl
     | true=>exact absurd ((E i h1).1 (by rw [O,y])) h
    simp only [Bool.and_eq_true,Bool.not_eq_true',Array.getD_eq_getD_getElem?,O,F,Option.getD_some,true_and]
    have ho:ops[i]?=some (ops[i]'h1):=Array.getElem?_eq_getElem h1
    rw [ho]
    simp only [Option.map_some,Option.getD_some,Array.all_eq_true']
    intro e G
    cases a9:Region.binds m e with
    | false=>rfl
    | true=>
     have W:=x _ ho e (by simpa using G) a9
     have:=(E e.on (U _ W)).2 W
     simp [this]
  cases V:rs[t % rs.length]? with
  | none=>
   dsimp only
   refine⟨[],by simp,trivial,fun i I=>?_⟩
   by_cases C:i∈acc
   ·exact .inl C
   ·exfalso
    obtain⟨k,h1,h,x⟩:=hp acc ⟨i,I,C⟩
    have hk:k∈rs:=(Z k).2 ⟨h1,h,x⟩
    have ae:0<rs.length:=List.length_pos_of_mem hk
    rw [List.getElem?_eq_none_iff] at V
    have:=Nat.mod_lt t ae
    omega
  | some i=>
   dsimp only
   obtain⟨h1,h,x⟩:=(Z i).1 (List.mem_of_getElem? V)
   have hA:∀k,k<ops.size→((listed.setIfInBounds i true)[k]?=some true↔k∈i::acc):=by
    intro k hk
    by_cases J:k=i
    ·subst J
     simp [a2,hk]
    ·rw [Array.getElem?_setIfInBounds_ne (fun e=>J e.symm),E k hk]
     simp [J]
   have hB:∀k∈i::acc,k<ops.size:=by
    intro k hk
    rcases List.mem_cons.1 hk with rfl | hk
    ·exact h1
    ·exact U k hk
   obtain⟨l,e1,e2,e3⟩:=ih (t / rs.length) (listed.setIfInBounds i true) (i::acc) (by simpa using a2) hA hB (by have:=Q9 (n:=ops.size) h1 h; omega)
   refine⟨i::l,by rw [e1]; simp,⟨h1,h,x,e2⟩,fun k hk=>?_⟩
   rcases e3 k hk with y | y
   ·rcases List.mem_cons.1 y with rfl | y
    ·exact .inr (by simp)
    ·exact .inl y
   ·exact .inr (by simp [y])
theorem Hz {m:Region.Mode} {ops:Array Oper} (E:Ha m ops) (t:Nat):Lin m ops [] (Region.linearise m ops t)∧∀i,i<ops.size→i∈Region.linearise m ops t:=by
 obtain⟨l,h1,y,C⟩:=P3 E ops.size t (Array.replicate ops.size false) [] (by simp) (fun i x=>by simp [x]) (fun i x=>by simp at x) (by
  unfold DR
  exact Nat.le_trans (List.length_filter_le _ _) (by simp))
 unfold Region.linearise
 rw [h1]
 refine⟨by simpa using y,fun i x=>?_⟩
 rcases C i x with h | h
 ·simp at h
 ·simpa using h
end Reg
end Go.Proofs.YtfcfpoemojjglaaGreatDoor
namespace Go.Proofs.YtfcfpoemojjglaaGreatDoor
namespace Reg
def Bl (tab:List Nat):Nat→Nat→Bool:=fun i j=>(tab.getD j 0).testBit i
def Gq (ops:Array Oper) (tab:List Nat):Bool:=
 (List.range ops.size).all fun j=>(List.range ops.size).all fun i=>
  !Bl tab i j||(match ops[j]? with
   | some o=>o.after.any fun e=>Region.binds .any e&&(e.on==i||Bl tab i e.on)&&decide (e.on<j)
   | none=>false)
def Bg (m:Region.Mode) (ops:Array Oper):List Nat→List Nat→Bool
  | _,[]=>true
  | done,i::l=>decide (i<ops.size)&&!done.contains i&&(match ops[i]? with
      | some o=>o.after.all fun e=>!Region.binds m e||done.contains e.on
      | none=>true)&&Bg m ops (i::done) l
def FR (ops:Array Oper) (l:List Nat):Bool:=(List.range ops.size).all fun i=>l.contains i
def Gu (ops:Array Oper):Bool:=
 Bg .any ops [] (List.range ops.size)&&
  (!Region.departs ops||(Bg .text ops [] (List.range ops.size)&&Bg .gc ops [] (Region.linearise .gc ops 0)&&FR ops (Region.linearise .gc ops 0)))
def GL (P:Program) (ib:Bool) (ops:Array Oper) (tab:List Nat) (x y:Nat):Bool:=
 x != y&&!Bl tab y x&&(Bl tab x y||(match ops[x]?,ops[y]? with
  | some ox,some oy=>FL P ib ops ox oy
  | _,_=>true))
def ER (f:Nat→Nat→Bool):List Nat→Bool
 | []=>true
 | x::l=>l.all (f x)&&ER f l
def GZ (ops:Array Oper) (tab:List Nat):Bool:=
 (ops.all fun o=>DI o.op&&(!Bq o.op||dis o.dst (BZ ops o)))&&
 (List.range ops.size).all fun x=>match ops[x]? with
  | some ox=>!Bq ox.op||(List.range ops.size).all fun y=>match ops[y]? with
   | some oy=>x==y||Bl tab y x||dis oy.dst (BZ ops ox)
   | none=>true
  | none=>true
def chk (P:Program) (ib:Bool) (ops:Array Oper) (tab T:List Nat):Bool:=
 GZ ops tab&&Gq ops tab&&Gu ops&&ER (GL P ib ops tab) T&&T.all (fun i=>decide (i<ops.size))&&FR ops T
def DS (P:Program) (ib:Bool) (ops:Array Oper) (tab T:List Nat):Bool:=
 ER (fun x y=>match ops[x]?,ops[y]? with
  | some ox,some oy=>!Bq ox.op||!eff P ib oy||Bl tab x y
  | _,_=>true) T
theorem F5 {f:Nat→Nat→Bool} (l:List Nat) (h:ER f l=true):l.Pairwise (fun x y=>f x y=true):=by
 induction l with
 | nil=>exact List.Pairwise.nil
 | cons x l ih=>
  simp only [ER,Bool.and_eq_true,List.all_eq_true] at h
  exact List.pairwise_cons.2 ⟨h.1,ih h.2⟩
theorem Hy {m:Region.Mode} {ops:Array Oper} (l:List Nat):∀done,Bg m ops done l=true→Lin m ops done l:=by
 induction l with
 | nil=>exact fun _ _=>trivial
 | cons i l ih=>
  intro done h
  simp only [Bg,Bool.and_eq_true,decide_eq_true_eq,Bool.not_eq_true',List.contains_eq_mem,decide_eq_false_iff_not] at h
  obtain⟨⟨⟨h1,y⟩,x⟩,C⟩:=h
  refine⟨h1,y,fun o ho e F E=>?_,ih _ C⟩
  rw [ho] at x
  simp only [Array.all_eq_true'] at x
  have:=x e (by simpa using F)
  simpa [E] using this
theorem Hr {ops:Array Oper} {l:List Nat} (h:FR ops l=true):∀i,i<ops.size→i∈l:=by
 intro i x
 unfold FR at h
 rw [List.all_eq_true] at h
 simpa using h i (List.mem_range.2 x)
theorem K0 {ops:Array Oper} (h:Gu ops=true) (C:Bool) (t:Nat):(∃m,Lin m ops [] (Region.schedule C ops t))∧∀i,i<ops.size→i∈Region.schedule C ops t:=by
 simp only [Gu,Bool.and_eq_true,Bool.or_eq_true,Bool.not_eq_true'] at h
 obtain⟨h1,x⟩:=h
 have y:∀i,i<ops.size→i∈List.range ops.size:=fun i E=>List.mem_range.2 E
 unfold Region.schedule
 split
 ·have:=Hz (HW (Hy _ _ h1) y) t
  exact⟨⟨_,this.1⟩,this.2⟩
 ·rename_i hne
  rcases x with x | x
  ·rw [x] at hne; simp at hne
  ·split
   ·have:=Hz (HW (Hy _ _ x.1.1) y) (t / 2)
    exact⟨⟨_,this.1⟩,this.2⟩
   ·have:=Hz (HW (Hy _ _ x.1.2) (Hr x.2)) (t / 2)
    exact⟨⟨_,this.1⟩,this.2⟩
theorem IW {ops:Array Oper} {tab:List Nat} (C:Gq ops tab=true) {i j:Nat} (G:j<ops.size) (F:i<ops.size) (h:Bl tab i j=true):
  ∃o,ops[j]?=some o∧∃e∈o.after.toList,Region.binds .any e=true∧(e.on=i∨Bl tab i e.on=true)∧e.on<j:=by
 unfold Gq at C
 rw [List.all_eq_true] at C
 have h1:=C j (List.mem_range.2 G)
 rw [List.all_eq_true] at h1
 have x:=h1 i (List.mem_range.2 F)
 rw [h] at x
 cases ho:ops[j]? with
 | none=>rw [ho] at x; simp at x
 | some o=>
  rw [ho] at x
  refine⟨o,rfl,?_⟩
  simp only [Bool.not_true,Bool.false_or] at x
  rw [Array.any_eq_true'] at x
  obtain⟨e,E,y⟩:=x
  simp only [Bool.and_eq_true,Bool.or_eq_true,beq_iff_eq,decide_eq_true_eq] at y
  exact⟨e,by simpa using E,y.1.1,y.1.2,y.2⟩
theorem Lp {P:Program} {ops:Array Oper} {tab:List Nat} (h:GZ ops tab=true):Gl P ops (Bl tab):=by
 simp only [GZ,Bool.and_eq_true] at h
 obtain⟨h1,E⟩:=h
 rw [Array.all_eq_true'] at h1
 have F:∀i (o:Oper),ops[i]?=some o→o∈ops:=fun i o ho=>Array.mem_of_getElem? ho
 refine⟨fun i o ho=>?_,fun i o ho C=>?_,fun x y U V M G I C J=>?_⟩
 ·have:=h1 o (F i o ho)
  simp only [Bool.and_eq_true] at this
  exact this.1
 ·have:=h1 o (F i o ho)
  simp only [Bool.and_eq_true,Bool.or_eq_true,Bool.not_eq_true'] at this
  rcases this.2 with h | h
  ·rw [C] at h; cases h
  ·exact h
 ·rw [List.all_eq_true] at E
  have:=E x (List.mem_range.2 (Array.getElem?_eq_some_iff.1 G).1)
  rw [G] at this
  dsimp only at this
  rw [C] at this
  simp only [Bool.not_true,Bool.false_or,List.all_eq_true] at this
  have:=this y (List.mem_range.2 (Array.getElem?_eq_some_iff.1 I).1)
  rw [I] at this
  dsimp only at this
  rw [J] at this
  have O:(x==y)=false:=by simpa using M
  simpa [O] using this
theorem IF {P:Program} {ib:Bool} {ops:Array Oper} {bef:Nat→Nat→Bool} {Q:Bo} (hQ:NoQ Q) (l:List Nat):∀(D:Nat→Prop) (a:Act) (w:World),WT P ib ops bef Q D l a w→wpOps P ops Q l a w:=by
 induction l with
 | nil=>exact fun _ _ _ h=>h
 | cons i l ih=>
  intro D a w h
  obtain⟨o,ho,x⟩:=h
  simp only [wpOps,ho]
  unfold Bu at x
  split
  ·rename_i hw
   rw [if_pos hw] at x
   exact .inl (E9 hQ x.2 fun v ds w' y=>ih _ _ _ y.2)
  ·rename_i hw
   rw [if_neg hw] at x
   exact ih _ _ _ x.2
theorem GK {P:Program} {ib:Bool} {ops:Array Oper} {id:Nat} {Q:Bo} {a:Act} {w:World} (tab T:List Nat) (I:chk P ib ops tab T=true) (hQ:NoQ Q)
  (h:WT P ib ops (Bl tab) Q (fun _=>False) T a w.drew):(Code.region id ops true).wp P Q a w:=by
 simp only [chk,Bool.and_eq_true] at I
 obtain⟨⟨⟨⟨⟨h1,M⟩,O⟩,U⟩,F⟩,V⟩:=I
 have hS:Gl P ops (Bl tab):=Lp h1
 have G:T.Pairwise (Rel P ib ops (Bl tab)):=(F5 T U).imp fun {x y} hxy=>by
  simp only [GL,Bool.and_eq_true,bne_iff_ne,ne_eq,Bool.not_eq_true',Bool.or_eq_true] at hxy
  refine⟨hxy.1.1,hxy.1.2,?_⟩
  rcases hxy.2 with h | h
  ·exact .inl h
  ·exact .inr fun ox oy E hy=>by rw [E,hy] at h; exact h
 have J:∀x∈T,x<ops.size:=fun x E=>by
  rw [List.all_eq_true] at F
  simpa using F x E
 refine wp_region_draw fun t=>?_
 obtain⟨⟨m,a3⟩,Z⟩:=K0 O (P.follows .mixedOrders) t
 obtain⟨p1,p2,p3⟩:=JU (fun {i j}=>IW M) _ [] a3 (fun j hj=>by simp at hj)
 have W:T.Nodup:=(G.imp fun {x y} hxy=>hxy.1)
 have a4:(Region.schedule (P.follows .mixedOrders) ops t).Perm T:=
  (List.perm_ext_iff_of_nodup p2 W).2 fun i=>⟨fun C=>Hr V i (p3 i C).1,fun C=>Z i (J i C)⟩
 exact IF hQ _ _ _ _ (Ki hQ hS T _ _ _ _ a4 G J p1 (fun r q hr=>hr.elim) h)
def pick (ops:Array Oper) (T:List Nat):List Oper:=T.filterMap (ops[·]?)
def FQ (ops:Array Oper) (a:Act):Bool:=ops.toList.all fun o=>!intOp o.op||!Region.wanted o (yielded ops a.tmps)||intFine a.eval o.op
def EH (ops:Array Oper) (T:List Nat):Bool:=
 T.all (fun x=>match ops[x]? with | some o=>!intOp o.op||dis o.dst (BZ ops o) | none=>true)&&
 ER (fun x y=>match ops[x]?,ops[y]? with
  | some ox,some oy=>!intOp ox.op||dis oy.dst (BZ ops ox)
  | _,_=>true) T
def finQ (ops:Array Oper) (Q:Bo):Bo
 | .normal,a,w=>FQ ops a=true∧Q .normal a w
 | e,a,w=>Q e a w
def postN (next:Act→World→Prop):Bo:=Exit.then next (fun _ _ _=>False)
theorem NoQ.then {K:Act→World→Prop} {Q:Bo} (h:NoQ Q):NoQ (Exit.then K Q):=⟨fun c a w x=>h.1 c a w x,fun a w x=>h.2 a w x⟩
theorem NoQ.inBlock {i:Nat} {Q:Bo} (h:NoQ Q):NoQ (Exit.inBlock i Q):=⟨fun c a w x=>h.1 c a w x,fun a w x=>h.2 a w x⟩
theorem NoQ.body {P:Program} {fn:Func} {R:Ending→World→Prop} (h1:∀c w,¬R (.panicked c) w) (h:∀w,¬R .outgrown w):NoQ (bodyPost P fn R):=⟨fun c _ w x=>h1 c w x.2,fun _ w x=>h w x⟩
theorem NoQ.postN (next:Act→World→Prop):NoQ (Reg.postN next):=⟨fun _ _ _ x=>x,fun _ _ x=>x⟩
theorem NoQ.finQ {ops:Array Oper} {Q:Bo} (h:NoQ Q):NoQ (Reg.finQ ops Q):=⟨fun c a w x=>h.1 c a w x,fun a w x=>h.2 a w x⟩
theorem GA {Q:Bo} (h:NoQ Q):¬LetsOut Q:=fun⟨a,w,x⟩=>h.2 a w x
section
variable {P:Program} {ib:Bool} {ops:Array Oper} {bef:Nat→Nat→Bool} {Q Qf:Bo}
theorem LF (hQ:NoQ Qf) (l:List Oper):∀(a:Act) (w:World),wpList P ops Qf l a w→∃y C,Qf .normal y C∧∀t,(∀o∈l,o.dst≠some t)→y.tmps[t]?=a.tmps[t]?:=by
 induction l with
 | nil=>exact fun a w h=>⟨a,w,h,fun _ _=>rfl⟩
 | cons o l ih=>
  intro a w h
  have key:∃v ds w',wpList P ops Qf l (upd a o.dst ds v) w':=by
   unfold wpList at h
   split at h
   ·rcases h with h | h
    ·exact G8 hQ h
    ·exact absurd h.2 (GA hQ)
   ·exact⟨undef,[],w,by rw [CN]; exact h⟩
  obtain⟨v,ds,w',h⟩:=key
  obtain⟨y,C,h1,E⟩:=ih _ _ h
  exact⟨y,C,h1,fun t ht=>(E t fun x F=>ht x (by simp [F])).trans (G6 _ _ _ _ _ (ht o (by simp)))⟩
theorem Kj {i:Nat} {o:Oper} (h:ops[i]?=some o) (T:List Nat):pick ops (i::T)=o::pick ops T:=by
 simp [pick,h]
theorem J2 {T:List Nat} {o:Oper} (h:o∈pick ops T):∃i,i∈T∧ops[i]?=some o:=by
 simpa [pick] using h
theorem Hb (M:NoQ Qf) (T2:List Nat) (C:List Nat):∀(D:Nat→Prop) (a:Act) (w:World),
  (∀i∈C,i<ops.size)→
  (C.Pairwise fun x y=>∀(I E:Oper),ops[x]?=some I→ops[y]?=some E→Bq I.op=true→eff P ib E=true→bef x y=true)→
  (∀r q,D r→ops[r]?=some q→Bq q.op=true→∀y∈C,∀E,ops[y]?=some E→eff P ib E=true→bef r y=true)→
  (∀a w,Qf .normal a w→WT P ib ops bef Q (fun k=>k∈C∨D k) T2 a w)→
  (ib=true→(∀a w,Qf .normal a w→FQ ops a=true)∧(∀x∈C,∀o,ops[x]?=some o→intOp o.op=true→dis o.dst (BZ ops o)=true)∧
   (C.Pairwise fun x y=>∀(I E:Oper),ops[x]?=some I→ops[y]?=some E→intOp I.op=true→dis E.dst (BZ ops I)=true))→
  wpList P ops Qf (pick ops C) a w→WT P ib ops bef Q D (C++T2) a w:=by
 induction C with
 | nil=>
  intro D a w _ _ _ hn _ h
  have:=hn a w h
  have e:(fun k=>k∈([]:List Nat)∨D k)=D:=by funext k; simp
  rw [e] at this
  exact this
 | cons i C ih=>
  intro D a w ab hp hD hn hf h
  have hi:=ab i (by simp)
  have ho:ops[i]?=some ops[i]:=Array.getElem?_eq_getElem hi
  rw [Kj ho] at h
  obtain⟨al,am⟩:=List.pairwise_cons.1 hp
  refine⟨ops[i],ho,?_⟩
  have ac:∀b w',wpList P ops Qf (pick ops C) b w'→Obl P ib ops bef D i b w w'∧WT P ib ops bef Q (fun k=>k=i∨D k) (C++T2) b w':=by
   intro b w' hb
   refine⟨fun o ai O r q J W U ag=>?_,ih _ b w' (fun x F=>ab x (by simp [F])) am ?_ ?_ ?_ hb⟩
   ·have:=hD r q J W U i (by simp) o ai O
    rw [ag] at this; cases this
   ·intro r q J W U y Z E V O
    rcases J with rfl | J
    ·exact al y Z q E W V U O
    ·exact hD r q J W U y (by simp [Z]) E V O
   ·intro a' w'' F
    have:=hn a' w'' F
    have e:(fun k=>k∈i::C∨D k)=(fun k=>k∈C∨k=i∨D k):=by
     funext k; simp only [List.mem_cons,eq_iff_iff]; constructor
     ·rintro((h | h) | h) <;> simp [h]
     ·rintro(h | h | h) <;> simp [h]
    rw [e] at this
    exact this
   ·intro G
    obtain⟨f1,f2,f3⟩:=hf G
    exact⟨f1,fun x F=>f2 x (by simp [F]),(List.pairwise_cons.1 f3).2⟩
  unfold wpList at h
  unfold Bu
  split at h
  ·rename_i hw
   rw [if_pos hw]
   rcases h with h | h
   ·refine⟨fun G=>?_,E9 M h fun v ds w' F=>ac _ _ F⟩
    simp only [Bool.and_eq_true] at G
    obtain⟨f1,f2,f3⟩:=hf G.1
    obtain⟨v,ds,w',F⟩:=G8 M h
    obtain⟨aF,wF,g1,g2⟩:=LF M _ _ _ F
    have a9:CO ops ops[i] aF a:=by
     intro t ht
     have hd:=f2 i (by simp) _ ho G.2
     rw [g2 t fun o aj=>?_,G6 _ _ _ _ _ (Fg hd ht)]
     obtain⟨y,Z,V⟩:=J2 aj
     exact Fg ((List.pairwise_cons.1 f3).1 y Z _ _ ho V G.2) ht
    have a6:=f1 _ _ g1
    unfold FQ at a6
    rw [List.all_eq_true] at a6
    have:=a6 ops[i] (by simp)
    rw [D0 a9,hw,G.2,FT a9] at this
    simpa using this
   ·exact absurd h.2 (GA M)
  ·rename_i hw
   rw [if_neg hw]
   exact ac _ _ h
theorem IE {i:Nat} {o:Oper} (ho:ops[i]?=some o) (x:List Nat) (T:List Nat) {D:Nat→Prop} {a:Act} {w:World} (M:(ib&&intOp o.op)=false)
  (G:∀r q,D r→ops[r]?=some q→Bq q.op=true→bef r i=false→r∈x)
  (h:wpList P ops (postN fun b w'=>(∀r∈x,∀q,ops[r]?=some q→C3 P ops q b w w')∧WT P ib ops bef Q (fun k=>k=i∨D k) T b w') [o] a w):WT P ib ops bef Q D (i::T) a w:=by
 refine⟨o,ho,?_⟩
 have E:∀b w',wpList P ops (postN fun b w'=>(∀r∈x,∀q,ops[r]?=some q→C3 P ops q b w w')∧WT P ib ops bef Q (fun k=>k=i∨D k) T b w') [] b w'→
   Obl P ib ops bef D i b w w'∧WT P ib ops bef Q (fun k=>k=i∨D k) T b w':=fun b w' y=>
  ⟨fun V _ _ r q O C J F=>y.1 r (G r q O C J F) q C,y.2⟩
 unfold wpList at h
 unfold Bu
 split at h
 ·rename_i hw
  rw [if_pos hw]
  rcases h with h | h
  ·exact⟨fun I=>absurd I (by rw [M]; simp),E9 (NoQ.postN _) h fun v ds w' U=>E _ _ U⟩
  ·exact absurd h.2 (GA (NoQ.postN _))
 ·rename_i hw
  rw [if_neg hw]
  exact E _ _ h
end
section
variable {P:Program} {id:Nat} {Q:Bo} {a:Act} {w:World}
theorem GE {ib:Bool} {ops:Array Oper} {tab T:List Nat} (h:DS P ib ops tab T=true):
  T.Pairwise fun x y=>∀(C E:Oper),ops[x]?=some C→ops[y]?=some E→Bq C.op=true→eff P ib E=true→Bl tab x y=true:=
 (F5 T h).imp fun {x y} hxy C E hx hy hl he=>by
  rw [hx,hy] at hxy
  dsimp only at hxy
  rw [hl,he] at hxy
  simpa using hxy
theorem I6 {ib:Bool} {ops:Array Oper} {tab T:List Nat} (h:chk P ib ops tab T=true):∀i∈T,i<ops.size:=fun i x=>by
 simp only [chk,Bool.and_eq_true] at h
 have:=h.1.2
 rw [List.all_eq_true] at this
 simpa using this i x
theorem Rs (l:List Oper):∀(p:List Oper) (k:Nat),p.length=k→(List.range' k l.length).filterMap (fun i=>(p++l)[i]?)=l:=by
 induction l with
 | nil=>intro p k _; rfl
 | cons x l ih=>
  intro p k hk
  have h0:(p++x::l)[k]?=some x:=by rw [←hk]; simp
  have:=ih (p++[x]) (k+1) (by simp [hk])
  rw [List.append_assoc] at this
  simp only [List.length_cons,List.range'_succ,List.filterMap_cons,h0]
  rw [List.singleton_append] at this
  rw [this]
theorem Kk (l:List Oper):pick l.toArray (List.range l.length)=l:=by
 have:=Rs l [] 0 rfl
 rw [List.nil_append] at this
 unfold pick
 rw [List.range_eq_range']
 simpa using this
theorem region_plain {l:List Oper} (tab:List Nat) (x:(chk P false l.toArray tab (List.range l.length)&&DS P false l.toArray tab (List.range l.length))=true) (hQ:NoQ Q)
  (h:wpList P l.toArray Q l a w.drew):(Code.region id l.toArray true).wp P Q a w:=by
 simp only [Bool.and_eq_true] at x
 refine GK tab _ x.1 hQ ?_
 have:=Hb (ib:=false) (bef:=Bl tab) hQ [] (List.range l.length) (fun _=>False) a w.drew (I6 x.1) (GE x.2) (fun r q y=>y.elim) (fun a w h=>h) (fun h=>by cases h)
 rw [List.append_nil] at this
 exact this (by rw [Kk]; exact h)
theorem R3 {l:List Oper} (tab:List Nat)
  (G:(chk P true l.toArray tab (List.range l.length)&&DS P true l.toArray tab (List.range l.length)&&EH l.toArray (List.range l.length))=true) (hQ:NoQ Q)
  (h:wpList P l.toArray (finQ l.toArray Q) l a w.drew):(Code.region id l.toArray true).wp P Q a w:=by
 simp only [Bool.and_eq_true] at G
 obtain⟨⟨h1,I⟩,C⟩:=G
 simp only [EH,Bool.and_eq_true,List.all_eq_true] at C
 refine GK tab _ h1 hQ ?_
 have:=Hb (ib:=true) (bef:=Bl tab) (Q:=Q) hQ.finQ [] (List.range l.length) (fun _=>False) a w.drew (I6 h1) (GE I) (fun r q J=>J.elim) (fun a w h=>h.2)
  (fun _=>⟨fun a w h=>h.1,fun x F o ho E=>by have:=C.1 x F; rw [ho] at this; dsimp only at this; rw [E] at this; simpa using this,(F5 _ C.2).imp fun {x y} hxy ox oy F hy E=>by
   rw [F,hy] at hxy; dsimp only at hxy; rw [E] at hxy; simpa using hxy⟩)
 rw [List.append_nil] at this
 exact this (by rw [Kk]; exact h)
def CB (P:Program) (ops:Array Oper) (tab:List Nat) (Q:Bo) (D T:List Nat) (a:Act) (w:World):Prop:=WT P false ops (Bl tab) Q (fun k=>k∈D) T a w
theorem R0 {l:List Oper} (tab T:List Nat) (x:chk P false l.toArray tab T=true) (hQ:NoQ Q) (h:CB P l.toArray tab Q [] T a w.drew):(Code.region id l.toArray true).wp P Q a w:=by
 refine GK tab T x hQ ?_
 have e:(fun k=>k∈([]:List Nat))=fun _=>False:=by funext k; simp
 unfold CB at h
 rw [e] at h
 exact h
theorem Sd {l l1:List Oper} {tab D:List Nat} (x C:List Nat) (O:pick l.toArray x=l1)
  (E:(x.all (fun i=>decide (i<l.length))&&DS P false l.toArray tab x&&D.all (fun r=>x.all fun y=>match l.toArray[r]?,l.toArray[y]? with
   | some q,some F=>!Bq q.op||!eff P false F||Bl tab r y
   | _,_=>true))=true)
  (h:wpList P l.toArray (postN fun a w=>CB P l.toArray tab Q (x++D) C a w) l1 a w):CB P l.toArray tab Q D (x++C) a w:=by
 simp only [Bool.and_eq_true,List.all_eq_true] at E
 obtain⟨⟨h1,G⟩,I⟩:=E
 refine Hb (ib:=false) (bef:=Bl tab) (Qf:=postN fun a w=>CB P l.toArray tab Q (x++D) C a w) (NoQ.postN _) C x _ a w (fun i M=>by simpa using h1 i M) (GE G) ?_ ?_ (fun h=>by cases h) (by rw [O]; exact h)
 ·intro r q Z W U y hy F V J
  have:=I r Z y hy
  rw [W,V] at this
  dsimp only at this
  rw [U,J] at this
  simpa using this
 ·intro a' w' hx
  have e:(fun k=>k∈x∨k∈D)=fun k=>k∈x++D:=by funext k; simp
  rw [e]
  exact hx
theorem Sc {l:List Oper} {o:Oper} {tab D:List Nat} (i:Nat) (T:List Nat) (x:List Nat) (ho:l.toArray[i]?=some o)
  (y:D.all (fun r=>match l.toArray[r]? with
   | some q=>!Bq q.op||Bl tab r i||x.contains r
   | none=>true)=true)
  (h:wpList P l.toArray (postN fun b w'=>(∀r∈x,∀q,l.toArray[r]?=some q→C3 P l.toArray q b w w')∧CB P l.toArray tab Q (i::D) T b w') [o] a w):CB P l.toArray tab Q D (i::T) a w:=by
 rw [List.all_eq_true] at y
 refine IE ho x T (by simp) (fun r q G F E C=>?_) ?_
 ·have:=y r G
  rw [F] at this
  dsimp only at this
  rw [E,C] at this
  simpa using this
 ·have e:(fun k=>k=i∨k∈D)=fun k=>k∈i::D:=by funext k; simp
  rw [e]
  exact h
theorem rest_end {l:List Oper} {tab D:List Nat} (h:Q .normal a w):CB P l.toArray tab Q D [] a w:=h
theorem R4 {l:List Oper} (tab:List Nat)
  (y:(chk P true l.toArray tab (List.range l.length)&&DS P true l.toArray tab (List.range l.length)&&EH l.toArray (List.range l.length))=true) (hQ:NoQ Q)
  (h:∀Qf:Bo,(∀a w,FQ l.toArray a=true∧Q .normal a w→Qf .normal a w)→wpList P l.toArray Qf l a w.drew):(Code.region id l.toArray true).wp P Q a w:=
 R3 tab y hQ (h _ fun _ _ x=>x)
theorem rest_walk' {l l1:List Oper} {tab D:List Nat} (C E:List Nat) (G:pick l.toArray C=l1)
  (F:(C.all (fun i=>decide (i<l.length))&&DS P false l.toArray tab C&&D.all (fun r=>C.all fun y=>match l.toArray[r]?,l.toArray[y]? with
   | some q,some oy=>!Bq q.op||!eff P false oy||Bl tab r y
   | _,_=>true))=true)
  (h:∀Qf:Bo,(∀a w,CB P l.toArray tab Q (C++D) E a w→Qf .normal a w)→wpList P l.toArray Qf l1 a w):CB P l.toArray tab Q D (C++E) a w:=
 Sd C E G F (h _ fun _ _ x=>x)
theorem rest_act' {l:List Oper} {o:Oper} {tab D:List Nat} (i:Nat) (T:List Nat) (y:List Nat) (ho:l.toArray[i]?=some o)
  (C:D.all (fun r=>match l.toArray[r]? with
   | some q=>!Bq q.op||Bl tab r i||y.contains r
   | none=>true)=true)
  (h:∀Qf:Bo,(∀b w',(∀r∈y,∀q,l.toArray[r]?=some q→C3 P l.toArray q b w w')∧CB P l.toArray tab Q (i::D) T b w'→Qf .normal b w')→wpList P l.toArray Qf [o] a w):CB P l.toArray tab Q D (i::T) a w:=
 Sc i T y ho C (h _ fun _ _ x=>x)
theorem same_below {ops:Array Oper} {b:Act} {w w':World} (h:RowKit.Below w.heap.size w w') (y:List Nat) (x:y.all (fun r=>match ops[r]? with | some q=>Bq q.op | none=>true)=true):
  ∀r∈y,∀q,ops[r]?=some q→C3 P ops q b w w':=fun r E q C=>by
 rw [List.all_eq_true] at x
 have:=x r E
 rw [C] at this
 exact GV this h.block
end
end Reg
end Go.Proofs.YtfcfpoemojjglaaGreatDoor
namespace Go.Proofs.YtfcfpoemojjglaaGreatDoor
namespace Reg
theorem SN {P:Program} {w:World} {p:Addr} {v:Value} {ty:TypeId} {d:TypeDesc} (x:w.cell? p=some v) (y:P.underlying ty=some d) (hd:d.isRow=false):
  (Instr.loadAt ty (.pointer (some p))).run P w=.ok v w:=by
 have h:(isAgg ty).run P w=.ok false w:=by
  unfold isAgg
  rw [Sem.run_bind,run_underlying y w]
  cases d <;> simp_all
 simp [Instr.loadAt,Instr.sureAddr,Sem.run_bind,loadVar,h,x]
theorem same_load1 {P:Program} {ops:Array Oper} {q:Oper} {b:Act} {w w':World} {ty:TypeId} {x:Operand} {p:Addr} {u:Value} {d:TypeDesc} (ho:q.op=.load ty x) (I:b.eval x=.pointer (some p))
  (E:w.cell? p=some u) (F:w'.cell? p=some u) (G:P.underlying ty=some d) (hd:d.isRow=false):C3 P ops q b w w':=by
 intro _ v C
 obtain⟨dst,op,type,pos,after,guard⟩:=q
 dsimp only at ho
 subst ho
 have e:∀y,y.cell? p=some u→(execOp b.eval { dst,op:=.load ty x,type,pos,after,guard }).run P y=.ok (.value u) y:=fun y h=>by
  show((Instr.loadAt ty (b.eval x)) >>=fun v=>(Pure.pure (Next.value v):Sem Next)).run P y=_
  rw [I]
  exact KW (SN h G hd)
 rw [e w E] at C
 injection C with C _
 rw [←C]
 exact e w' F
end Reg
end Go.Proofs.YtfcfpoemojjglaaGreatDoor
namespace Go.Proofs.YtfcfpoemojjglaaGreatDoor
namespace Reg
def Bx (tab:List Nat) (i j:Nat):List Nat:=tab.mapIdx fun y s=>if y==j||s.testBit j then s||| 2 ^ i||| tab.getD i 0 else s
theorem Mm {tab:List Nat} {i j x y:Nat} (h:Bl (Bx tab i j) x y=true):Bl tab x y=true∨((y=j∨Bl tab j y=true)∧(x=i∨Bl tab x i=true)):=by
 unfold Bl at*
 by_cases C:y<tab.length
 ·have e:(Bx tab i j).getD y 0=if y==j||(tab.getD y 0).testBit j then tab.getD y 0||| 2 ^ i||| tab.getD i 0 else tab.getD y 0:=by
   simp [Bx,List.getD,C]
  rw [e] at h
  split at h
  ·rename_i hc
   simp only [Bool.or_eq_true,beq_iff_eq] at hc
   rw [Nat.testBit_or,Nat.testBit_or,Nat.testBit_two_pow] at h
   simp only [Bool.or_eq_true,decide_eq_true_eq] at h
   rcases h with(h | h) | h
   ·exact .inl h
   ·exact .inr ⟨hc,.inl h.symm⟩
   ·exact .inr ⟨hc,.inr h⟩
  ·exact .inl h
 ·have e:(Bx tab i j).getD y 0=0:=by
   simp [Bx,List.getD,List.getElem?_eq_none (Nat.le_of_not_lt C)]
  rw [e] at h
  simp at h
def Con (tab:List Nat) (l:List Nat):Prop:=l.Pairwise fun x y=>x≠y∧Bl tab y x=false
theorem Jd {tab l:List Nat} {p q i j:Nat} (h:Con tab l) (M:l[p]?=some i) (V:l[q]?=some j) (a3:p<q):Con (Bx tab i j) l:=by
 have y:=List.pairwise_iff_getElem.1 h
 have U:=(List.getElem?_eq_some_iff.1 M)
 have Z:=(List.getElem?_eq_some_iff.1 V)
 obtain⟨O,I⟩:=U
 obtain⟨W,J⟩:=Z
 refine List.pairwise_iff_getElem.2 fun a b C E G=>⟨(y a b C E G).1,?_⟩
 cases hx:Bl (Bx tab i j) l[b] l[a] with
 | false=>rfl
 | true=>
  exfalso
  rcases Mm hx with h1 | ⟨h1,x⟩
  ·rw [(y a b C E G).2] at h1; cases h1
  ·have c1:q≤a:=by
    refine Nat.le_of_not_lt fun F=>?_
    have:=y a q C W F
    rcases h1 with h1 | h1
    ·exact this.1 (h1.trans J.symm)
    ·rw [J] at this; rw [this.2] at h1; cases h1
   have c2:b≤p:=by
    refine Nat.le_of_not_lt fun F=>?_
    have:=y p b O E F
    rcases x with x | x
    ·exact this.1 (I.trans x.symm)
    ·rw [I] at this; rw [this.2] at x; cases x
   omega
inductive Spl where
 | leaf (T:List Nat)
 | node (i j:Nat) (s t:Spl)
def Spl.chk (P:Program) (ops:Array Oper):Spl→List Nat→Bool
 | .leaf T,tab=>GZ ops tab&&ER (GL P false ops tab) T&&T.all (fun i=>decide (i<ops.size))&&FR ops T
 | .node i j s t,tab=>decide (i<ops.size)&&decide (j<ops.size)&&i != j&&s.chk P ops (Bx tab i j)&&t.chk P ops (Bx tab j i)
def Spl.goal (P:Program) (ops:Array Oper) (Q:Bo) (a:Act) (w:World):Spl→List Nat→Prop
 | .leaf T,tab=>CB P ops tab Q [] T a w
 | .node i j s t,tab=>s.goal P ops Q a w (Bx tab i j)∧t.goal P ops Q a w (Bx tab j i)
theorem Te {P:Program} {ops:Array Oper} {Q:Bo} {a:Act} {w:World} (hQ:NoQ Q) (s:Spl):∀(tab l:List Nat),s.chk P ops tab=true→Con tab l→l.Nodup→(∀i∈l,i<ops.size)→(∀i,i<ops.size→i∈l)→s.goal P ops Q a w tab→
  wpOps P ops Q l a w:=by
 induction s with
 | leaf T=>
  intro tab l E J M I C G
  simp only [Spl.chk,Bool.and_eq_true] at E
  obtain⟨⟨⟨h1,U⟩,F⟩,h6⟩:=E
  have hS:Gl P ops (Bl tab):=Lp h1
  have hT:T.Pairwise (Rel P false ops (Bl tab)):=(F5 T U).imp fun {x y} hxy=>by
   simp only [GL,Bool.and_eq_true,bne_iff_ne,ne_eq,Bool.not_eq_true',Bool.or_eq_true] at hxy
   refine⟨hxy.1.1,hxy.1.2,?_⟩
   rcases hxy.2 with h | h
   ·exact .inl h
   ·exact .inr fun ox oy hx hy=>by rw [hx,hy] at h; exact h
  have a4:∀x∈T,x<ops.size:=fun x hx=>by
   rw [List.all_eq_true] at F
   simpa using F x hx
  have a8:T.Nodup:=(hT.imp fun {x y} hxy=>hxy.1)
  have a9:l.Perm T:=(List.perm_ext_iff_of_nodup M a8).2 fun i=>⟨fun W=>Hr h6 i (I i W),fun W=>C i (a4 i W)⟩
  have e:(fun k=>k∈([]:List Nat))=fun _=>False:=by funext k; simp
  have V:CB P ops tab Q [] T a w:=G
  unfold CB at V
  rw [e] at V
  exact IF hQ _ _ _ _ (Ki hQ hS T _ _ _ _ a9 hT a4 J (fun r q hr=>hr.elim) V)
 | node i j s t ihs iht=>
  intro tab l E J M I C G
  simp only [Spl.chk,Bool.and_eq_true,bne_iff_ne,ne_eq,decide_eq_true_eq] at E
  obtain⟨⟨⟨⟨h1,h2⟩,h3⟩,U⟩,F⟩:=E
  obtain⟨p,Z⟩:=List.mem_iff_getElem?.1 (C i h1)
  obtain⟨q,O⟩:=List.mem_iff_getElem?.1 (C j h2)
  rcases Nat.lt_trichotomy p q with h | h | h
  ·exact ihs _ l U (Jd J Z O h) M I C G.1
  ·subst h
   rw [Z] at O
   exact absurd (Option.some.inj O) h3
  ·exact iht _ l F (Jd J O Z h) M I C G.2
theorem region_spl {P:Program} {l:List Oper} {id:Nat} {Q:Bo} {a:Act} {w:World} (tab:List Nat) (s:Spl) (y:(Gq l.toArray tab&&Gu l.toArray&&s.chk P l.toArray tab)=true) (hQ:NoQ Q)
  (h:s.goal P l.toArray Q a w.drew tab):(Code.region id l.toArray true).wp P Q a w:=by
 simp only [Bool.and_eq_true] at y
 obtain⟨⟨C,E⟩,F⟩:=y
 refine wp_region_draw fun t=>?_
 obtain⟨⟨m,J⟩,G⟩:=K0 E (P.follows .mixedOrders) t
 obtain⟨M,O,U⟩:=JU (fun {i j}=>IW C) _ [] J (fun j I=>by simp at I)
 exact Te hQ s tab _ F M O (fun i x=>(U i x).1) (fun i x=>G i x) h
end Reg
end Go.Proofs.YtfcfpoemojjglaaGreatDoor
namespace Go.Proofs.YtfcfpoemojjglaaGreatDoor
namespace Reg
def fineT (ops:Array Oper) (T:List Nat) (a:Act):Bool:=T.all fun x=>match ops[x]? with
 | some o=>!intOp o.op||!Region.wanted o (yielded ops a.tmps)||intFine a.eval o.op
 | none=>true
section
variable {P:Program} {ib:Bool} {ops:Array Oper} {bef:Nat→Nat→Bool} {Q Qf:Bo}
theorem LY (T0:List Nat) (M:NoQ Qf) (T2:List Nat) (C:List Nat):∀(D:Nat→Prop) (a:Act) (w:World),
  (∀x∈C,x∈T0)→(∀i∈C,i<ops.size)→
  (C.Pairwise fun x y=>∀(I F:Oper),ops[x]?=some I→ops[y]?=some F→Bq I.op=true→eff P ib F=true→bef x y=true)→
  (∀r q,D r→ops[r]?=some q→Bq q.op=true→∀y∈C,∀F,ops[y]?=some F→eff P ib F=true→bef r y=true)→
  (∀a w,Qf .normal a w→WT P ib ops bef Q (fun k=>k∈C∨D k) T2 a w)→
  (ib=true→(∀a w,Qf .normal a w→fineT ops T0 a=true)∧(∀x∈C,∀o,ops[x]?=some o→intOp o.op=true→dis o.dst (BZ ops o)=true)∧
   (C.Pairwise fun x y=>∀(I F:Oper),ops[x]?=some I→ops[y]?=some F→intOp I.op=true→dis F.dst (BZ ops I)=true))→
  wpList P ops Qf (pick ops C) a w→WT P ib ops bef Q D (C++T2) a w:=by
 induction C with
 | nil=>
  intro D a w _ _ _ _ hn _ h
  have:=hn a w h
  have e:(fun k=>k∈([]:List Nat)∨D k)=D:=by funext k; simp
  rw [e] at this
  exact this
 | cons i C ih=>
  intro D a w ae ac hp hD hn hf h
  have hi:=ac i (by simp)
  have ho:ops[i]?=some ops[i]:=Array.getElem?_eq_getElem hi
  rw [Kj ho] at h
  obtain⟨an,ao⟩:=List.pairwise_cons.1 hp
  refine⟨ops[i],ho,?_⟩
  have ad:∀b w',wpList P ops Qf (pick ops C) b w'→Obl P ib ops bef D i b w w'∧WT P ib ops bef Q (fun k=>k=i∨D k) (C++T2) b w':=by
   intro b w' hb
   refine⟨fun o ak O r q J W U ai=>?_,ih _ b w' (fun x E=>ae x (by simp [E])) (fun x E=>ac x (by simp [E])) ao ?_ ?_ ?_ hb⟩
   ·have:=hD r q J W U i (by simp) o ak O
    rw [ai] at this; cases this
   ·intro r q J W U y Z F V O
    rcases J with rfl | J
    ·exact an y Z q F W V U O
    ·exact hD r q J W U y (by simp [Z]) F V O
   ·intro a' w'' E
    have:=hn a' w'' E
    have e:(fun k=>k∈i::C∨D k)=(fun k=>k∈C∨k=i∨D k):=by
     funext k; simp only [List.mem_cons,eq_iff_iff]; constructor
     ·rintro((h | h) | h) <;> simp [h]
     ·rintro(h | h | h) <;> simp [h]
    rw [e] at this
    exact this
   ·intro G
    obtain⟨f1,f2,f3⟩:=hf G
    exact⟨f1,fun x E=>f2 x (by simp [E]),(List.pairwise_cons.1 f3).2⟩
  unfold wpList at h
  unfold Bu
  split at h
  ·rename_i hw
   rw [if_pos hw]
   rcases h with h | h
   ·refine⟨fun G=>?_,E9 M h fun v ds w' E=>ad _ _ E⟩
    simp only [Bool.and_eq_true] at G
    obtain⟨f1,f2,f3⟩:=hf G.1
    obtain⟨v,ds,w',E⟩:=G8 M h
    obtain⟨aF,wF,g1,g2⟩:=LF M _ _ _ E
    have aa:CO ops ops[i] aF a:=by
     intro t ht
     have hd:=f2 i (by simp) _ ho G.2
     rw [g2 t fun o al=>?_,G6 _ _ _ _ _ (Fg hd ht)]
     obtain⟨y,Z,V⟩:=J2 al
     exact Fg ((List.pairwise_cons.1 f3).1 y Z _ _ ho V G.2) ht
    have a6:=f1 _ _ g1
    unfold fineT at a6
    rw [List.all_eq_true] at a6
    have:=a6 i (ae i (by simp))
    rw [ho] at this
    dsimp only at this
    rw [D0 aa,hw,G.2,FT aa] at this
    simpa using this
   ·exact absurd h.2 (GA M)
  ·rename_i hw
   rw [if_neg hw]
   exact ad _ _ h
end
section
variable {P:Program} {Q:Bo} {id:Nat} {a:Act} {w:World}
def C2 (P:Program) (ops:Array Oper) (tab:List Nat) (Q:Bo) (D T:List Nat) (a:Act) (w:World):Prop:=WT P true ops (Bl tab) Q (fun k=>k∈D) T a w
theorem region_cutI {l:List Oper} (tab T:List Nat) (x:chk P true l.toArray tab T=true) (hQ:NoQ Q) (h:C2 P l.toArray tab Q [] T a w.drew):(Code.region id l.toArray true).wp P Q a w:=by
 refine GK tab T x hQ ?_
 have e:(fun k=>k∈([]:List Nat))=fun _=>False:=by funext k; simp
 unfold C2 at h
 rw [e] at h
 exact h
theorem R9 {l l1:List Oper} {tab D:List Nat} (C G:List Nat) (hl:pick l.toArray C=l1)
  (U:(C.all (fun i=>decide (i<l.length))&&DS P true l.toArray tab C&&D.all (fun r=>C.all fun y=>match l.toArray[r]?,l.toArray[y]? with
   | some q,some O=>!Bq q.op||!eff P true O||Bl tab r y
   | _,_=>true)&&EH l.toArray C)=true)
  (h:∀Qf:Bo,(∀a w,fineT l.toArray C a=true∧C2 P l.toArray tab Q (C++D) G a w→Qf .normal a w)→wpList P l.toArray Qf l1 a w):C2 P l.toArray tab Q D (C++G) a w:=by
 simp only [Bool.and_eq_true,List.all_eq_true] at U
 obtain⟨⟨⟨h1,V⟩,W⟩,I⟩:=U
 simp only [EH,Bool.and_eq_true,List.all_eq_true] at I
 refine LY (ib:=true) (bef:=Bl tab) (Qf:=postN fun a w=>fineT l.toArray C a=true∧C2 P l.toArray tab Q (C++D) G a w) C (NoQ.postN _) G C _ a w (fun _ E=>E) (fun i F=>by simpa using h1 i F) (GE V) ?_ ?_ ?_ (by rw [hl]; exact h _ fun _ _ x=>x)
 ·intro r q hr hq a3 y M O a4 Z
  have:=W r hr y M
  rw [hq,a4] at this
  simp only [a3,Z,Bool.not_true,Bool.or_false,Bool.false_or] at this
  simpa using this
 ·intro a w E
  have J:=E.2
  unfold C2 at J
  have e:(fun k=>k∈C++D)=(fun k=>k∈C∨k∈D):=by funext k; simp
  rw [e] at J
  exact J
 ·exact fun _=>⟨fun a w h=>h.1,fun x E o ho F=>by have:=I.1 x E; rw [ho] at this; dsimp only at this; rw [F] at this; simpa using this,(F5 _ I.2).imp fun {x y} hxy ox O E M F=>by
   rw [E,M] at hxy; dsimp only at hxy; rw [F] at hxy; simpa using hxy⟩
theorem R8 {l:List Oper} {o:Oper} {tab D:List Nat} (i:Nat) (T:List Nat) (C:List Nat) (ho:l.toArray[i]?=some o)
  (y:(D.all (fun r=>match l.toArray[r]? with
   | some q=>!Bq q.op||Bl tab r i||C.contains r
   | none=>true)&&!intOp o.op)=true)
  (h:∀Qf:Bo,(∀b w',(∀r∈C,∀q,l.toArray[r]?=some q→C3 P l.toArray q b w w')∧C2 P l.toArray tab Q (i::D) T b w'→Qf .normal b w')→wpList P l.toArray Qf [o] a w):C2 P l.toArray tab Q D (i::T) a w:=by
 simp only [Bool.and_eq_true,List.all_eq_true,Bool.not_eq_true'] at y
 obtain⟨y,G⟩:=y
 refine IE ho C T (by rw [G]; rfl) (fun r q J I F E=>?_) ?_
 ·have:=y r J
  rw [I] at this
  simp only [F,E,Bool.not_true,Bool.false_or] at this
  simpa using this
 ·have:=h (postN fun b w'=>(∀r∈C,∀q,l.toArray[r]?=some q→C3 P l.toArray q b w w')∧C2 P l.toArray tab Q (i::D) T b w') fun _ _ x=>x
  have e:(fun k=>k∈i::D)=(fun k=>k=i∨k∈D):=by funext k; simp
  unfold C2 at this
  rw [e] at this
  exact this
theorem restI_end {l:List Oper} {tab D:List Nat} (h:Q .normal a w):C2 P l.toArray tab Q D [] a w:=h
end
end Reg
end Go.Proofs.YtfcfpoemojjglaaGreatDoor
namespace Go.Proofs.YtfcfpoemojjglaaGreatDoor
namespace Reg
section
variable {P:Program} {Q:Bo} {id:Nat} {a:Act} {w:World}
theorem cI {l:List Oper} (tab T:List Nat) (h:C2 P l.toArray tab Q [] T a w.drew) (x:chk P true l.toArray tab T=true:=by kernel_rfl) (hQ:NoQ Q:=by repeat (first | exact Reg.NoQ.body (fun _ _ h=>h) (fun _ h=>h) | refine Reg.NoQ.then ?_ | refine Reg.NoQ.inBlock ?_)):(Code.region id l.toArray true).wp P Q a w:=region_cutI tab T x hQ h
theorem cC {l:List Oper} (tab T:List Nat) (h:CB P l.toArray tab Q [] T a w.drew) (x:chk P false l.toArray tab T=true:=by kernel_rfl) (hQ:NoQ Q:=by repeat (first | exact Reg.NoQ.body (fun _ _ h=>h) (fun _ h=>h) | refine Reg.NoQ.then ?_ | refine Reg.NoQ.inBlock ?_)):(Code.region id l.toArray true).wp P Q a w:=R0 tab T x hQ h
theorem cP {l:List Oper} (tab:List Nat) (h:wpList P l.toArray Q l a w.drew) (x:(chk P false l.toArray tab (List.range l.length)&&DS P false l.toArray tab (List.range l.length))=true:=by kernel_rfl) (hQ:NoQ Q:=by repeat (first | exact Reg.NoQ.body (fun _ _ h=>h) (fun _ h=>h) | refine Reg.NoQ.then ?_ | refine Reg.NoQ.inBlock ?_)):(Code.region id l.toArray true).wp P Q a w:=region_plain tab x hQ h
theorem cN {l:List Oper} (tab:List Nat) (h:∀Qf:Bo,(∀a w,FQ l.toArray a=true∧Q .normal a w→Qf .normal a w)→wpList P l.toArray Qf l a w.drew) (x:(chk P true l.toArray tab (List.range l.length)&&DS P true l.toArray tab (List.range l.length)&&EH l.toArray (List.range l.length))=true:=by kernel_rfl) (hQ:NoQ Q:=by repeat (first | exact Reg.NoQ.body (fun _ _ h=>h) (fun _ h=>h) | refine Reg.NoQ.then ?_ | refine Reg.NoQ.inBlock ?_)):(Code.region id l.toArray true).wp P Q a w:=R4 tab x hQ h
theorem wI {l l1:List Oper} {tab D:List Nat} (x C:List Nat) (F:pick l.toArray x=l1)
  (h:∀Qf:Bo,(∀a w,fineT l.toArray x a=true∧C2 P l.toArray tab Q (x++D) C a w→Qf .normal a w)→wpList P l.toArray Qf l1 a w)
  (E:(x.all (fun i=>decide (i<l.length))&&DS P true l.toArray tab x&&D.all (fun r=>x.all fun y=>match l.toArray[r]?,l.toArray[y]? with
   | some q,some oy=>!Bq q.op||!eff P true oy||Bl tab r y
   | _,_=>true)&&EH l.toArray x)=true:=by kernel_rfl):C2 P l.toArray tab Q D (x++C) a w:=R9 x C F E h
theorem aI {l:List Oper} {o:Oper} {tab D:List Nat} (i:Nat) (T:List Nat) (x:List Nat) (ho:l.toArray[i]?=some o)
  (h:∀Qf:Bo,(∀b w',(∀r∈x,∀q,l.toArray[r]?=some q→C3 P l.toArray q b w w')∧C2 P l.toArray tab Q (i::D) T b w'→Qf .normal b w')→wpList P l.toArray Qf [o] a w)
  (y:(D.all (fun r=>match l.toArray[r]? with
   | some q=>!Bq q.op||Bl tab r i||x.contains r
   | none=>true)&&!intOp o.op)=true:=by kernel_rfl):C2 P l.toArray tab Q D (i::T) a w:=R8 i T x ho y h
end
theorem nm {α:Type} {q:α→Prop}:∀r∈([]:List α),q r:=fun _ h=>absurd h List.not_mem_nil
end Reg
theorem gT {α:Type} {l:List α} {i:Nat} (h:i<l.toArray.size):l.toArray[i]=l[i]'(by simpa using h):=List.getElem_toArray h
theorem gS {α:Type} {a:α} {l:List α} {i:Nat} (h:i+1<(a::l).length):(a::l)[i+1]=l[i]'(Nat.lt_of_succ_lt_succ h):=rfl
theorem gZ {α:Type} {a:α} {l:List α} (h:0<(a::l).length):(a::l)[0]=a:=rfl
end Go.Proofs.YtfcfpoemojjglaaGreatDoor
namespace Go.Proofs.YtfcfpoemojjglaaGreatDoor
open Go.RowKit
def Sl {D:Type} (w:World) (B sz:Nat) (enc:D→Nat→Value) (A:Option Addr) (ds:List D):Prop:=
 ds.length≤9223372036854775807∧(ds≠[]→∃b off,A=some ⟨b,off,none⟩∧b<B∧∀k d,ds[k]?=some d→∀j,j<sz→w.cell? ⟨b,off+k*sz+j,none⟩=some (enc d j))
section
variable {D:Type} {w w':World} {B B' sz:Nat} {enc:D→Nat→Value} {A:Option Addr} {ds:List D}
theorem Sl.nil (h:ds=[]):Sl w B sz enc A ds:=by subst h; exact⟨by simp,fun h=>absurd rfl h⟩
theorem Sl.at (h:Sl w B sz enc A ds) {k:Nat} (hk:k<ds.length):
  ∃b off d,A=some ⟨b,off,none⟩∧b<B∧ds[k]?=some d∧∀j,j<sz→w.cell? ⟨b,off+k*sz+j,none⟩=some (enc d j):=by
 obtain⟨b,off,e,x,y⟩:=h.2 (by rintro rfl; simp at hk)
 exact⟨b,off,ds[k],e,x,List.getElem?_eq_getElem hk,fun j C=>y k _ (List.getElem?_eq_getElem hk) j C⟩
theorem Sl.keep (h:Sl w B sz enc A ds) (hk:∀p:Addr,p.block<B→w'.cell? p=w.cell? p) (F:B≤B'):Sl w' B' sz enc A ds:=
 ⟨h.1,fun E=>by
  obtain⟨b,off,e,x,y⟩:=h.2 E
  exact⟨b,off,e,by omega,fun k d hd j C=>(hk _ x).trans (y k d hd j C)⟩⟩
theorem Sl.below (h:Sl w B sz enc A ds) (x:Below B w w'):Sl w' B sz enc A ds:=h.keep (fun _ y=>x.cell y) (Nat.le_refl _)
theorem Sl.mono (h:Sl w B sz enc A ds) (x:B≤B'):Sl w B' sz enc A ds:=h.keep (fun _ _=>rfl) x
end
def Ai (x:Int) (_:Nat):Value:=.int .i64 x
def DH (x:Bool) (_:Nat):Value:=.bool x
structure Iz where
 letter:Int
 to:Int
structure Ix where
 letter:Int
 first:Int
 second:Int
 to:Int
structure TA where
 letters:Int
 states:Int
 accept:List Int
 leaves:List Iz
 branches:List Ix
theorem hide {p:Prop} (h:p):Hid p:=h
theorem GT (fn:Fn) (first cap:Array Value) (w:World):(Instr.makeFunc fn first cap).run Tryz.prog w=.ok (.func fn first cap) w:=rfl
def I3 (f:Value) (args:Array Value):Sem Next:=do
 let d ←Deferred.ofValue f args
 invoke d.target d.args
theorem PO (ρ:Operand→Value) (dst:Option Tmp) (t:Tmp) (xs:Array Operand) (h:Array TypeId) (ty:TypeId) (pos:String) (after:Array Edge) (guard:Option (Nat×Bool)):
  execOp ρ { dst,op:=.call { callee:=.value (.tmp t),args:=xs,argTypes:=h },type:=ty,pos,after,guard }=I3 (ρ (.tmp t)) (xs.map ρ):=rfl
theorem Mx (n:FuncId) (first caps args:Array Value):I3 (.func (.func n) first caps) args=callFunc n (first++args++caps):=rfl
theorem Al {P:Program} {f:FuncId} {fn:Func} (x:P.funcs[f]?=some fn) (y:(fn.name=="runtime.NumGoroutine")=false) (h:fn.body.isNone=false) (args:Array Value) (w:World):
  (callFunc f args).run P w=.ok (.enter f args) w:=by
 unfold callFunc
 simp only [Sem.run_bind,run_program,Result.andThen_ok,x,y,h]
 rfl
abbrev EN (n:Nat):Prop:=∀(args:Array Value) (w:World),(callFunc n args).run Tryz.prog w=.ok (.enter n args) w
theorem OW:EN 3:=Al Tryz.func3 (by kernel_rfl) (by kernel_rfl)
theorem O5:EN 4:=Al Tryz.func4 (by kernel_rfl) (by kernel_rfl)
theorem Zq:EN 7:=Al Tryz.func7 (by kernel_rfl) (by kernel_rfl)
theorem PD:EN 9:=Al Tryz.func9 (by kernel_rfl) (by kernel_rfl)
theorem Ny:EN 10:=Al Tryz.func10 (by kernel_rfl) (by kernel_rfl)
theorem NW:EN 13:=Al Tryz.func13 (by kernel_rfl) (by kernel_rfl)
theorem Oo:EN 18:=Al Tryz.func18 (by kernel_rfl) (by kernel_rfl)
theorem Ov:EN 20:=Al Tryz.func20 (by kernel_rfl) (by kernel_rfl)
theorem Zb:EN 21:=Al Tryz.func21 (by kernel_rfl) (by kernel_rfl)
theorem ON:EN 22:=Al Tryz.func22 (by kernel_rfl) (by kernel_rfl)
theorem Zc:EN 23:=Al Tryz.func23 (by kernel_rfl) (by kernel_rfl)
theorem OT:EN 24:=Al Tryz.func24 (by kernel_rfl) (by kernel_rfl)
theorem Zd:EN 25:=Al Tryz.func25 (by kernel_rfl) (by kernel_rfl)
theorem OU:EN 26:=Al Tryz.func26 (by kernel_rfl) (by kernel_rfl)
theorem Ze:EN 27:=Al Tryz.func27 (by kernel_rfl) (by kernel_rfl)
theorem Zf:EN 28:=Al Tryz.func28 (by kernel_rfl) (by kernel_rfl)
theorem OV:EN 29:=Al Tryz.func29 (by kernel_rfl) (by kernel_rfl)
theorem OX:EN 30:=Al Tryz.func30 (by kernel_rfl) (by kernel_rfl)
theorem OY:EN 31:=Al Tryz.func31 (by kernel_rfl) (by kernel_rfl)
theorem O0:EN 33:=Al Tryz.func33 (by kernel_rfl) (by kernel_rfl)
theorem O1:EN 34:=Al Tryz.func34 (by kernel_rfl) (by kernel_rfl)
theorem O4:EN 39:=Al Tryz.func39 (by kernel_rfl) (by kernel_rfl)
theorem O6:EN 40:=Al Tryz.func40 (by kernel_rfl) (by kernel_rfl)
theorem O7:EN 41:=Al Tryz.func41 (by kernel_rfl) (by kernel_rfl)
theorem O8:EN 42:=Al Tryz.func42 (by kernel_rfl) (by kernel_rfl)
theorem O9:EN 43:=Al Tryz.func43 (by kernel_rfl) (by kernel_rfl)
theorem Pa:EN 44:=Al Tryz.func44 (by kernel_rfl) (by kernel_rfl)
theorem Pd:EN 47:=Al Tryz.func47 (by kernel_rfl) (by kernel_rfl)
theorem Pg:EN 52:=Al Tryz.func52 (by kernel_rfl) (by kernel_rfl)
theorem Ph:EN 53:=Al Tryz.func53 (by kernel_rfl) (by kernel_rfl)
theorem Pi:EN 54:=Al Tryz.func54 (by kernel_rfl) (by kernel_rfl)
theorem Zg:EN 55:=Al Tryz.func55 (by kernel_rfl) (by kernel_rfl)
theorem Zh:EN 56:=Al Tryz.func56 (by kernel_rfl) (by kernel_rfl)
theorem Pj:EN 57:=Al Tryz.func57 (by kernel_rfl) (by kernel_rfl)
theorem Zi:EN 58:=Al Tryz.func58 (by kernel_rfl) (by kernel_rfl)
theorem Zj:EN 59:=Al Tryz.func59 (by kernel_rfl) (by kernel_rfl)
theorem Pk:EN 60:=Al Tryz.func60 (by kernel_rfl) (by kernel_rfl)
theorem Pm:EN 61:=Al Tryz.func61 (by kernel_rfl) (by kernel_rfl)
theorem Zk:EN 62:=Al Tryz.func62 (by kernel_rfl) (by kernel_rfl)
theorem Zl:EN 63:=Al Tryz.func63 (by kernel_rfl) (by kernel_rfl)
theorem Zm:EN 64:=Al Tryz.func64 (by kernel_rfl) (by kernel_rfl)
theorem Zn:EN 65:=Al Tryz.func65 (by kernel_rfl) (by kernel_rfl)
theorem Zo:EN 66:=Al Tryz.func66 (by kernel_rfl) (by kernel_rfl)
theorem Pn:EN 67:=Al Tryz.func67 (by kernel_rfl) (by kernel_rfl)
theorem Zp:EN 68:=Al Tryz.func68 (by kernel_rfl) (by kernel_rfl)
theorem Po:EN 69:=Al Tryz.func69 (by kernel_rfl) (by kernel_rfl)
theorem Pp:EN 70:=Al Tryz.func70 (by kernel_rfl) (by kernel_rfl)
theorem Pt:EN 74:=Al Tryz.func74 (by kernel_rfl) (by kernel_rfl)
theorem Pu:EN 75:=Al Tryz.func75 (by kernel_rfl) (by kernel_rfl)
theorem Pv:EN 76:=Al Tryz.func76 (by kernel_rfl) (by kernel_rfl)
theorem Pz:EN 86:=Al Tryz.func86 (by kernel_rfl) (by kernel_rfl)
theorem PA:EN 87:=Al Tryz.func87 (by kernel_rfl) (by kernel_rfl)
theorem PB:EN 88:=Al Tryz.func88 (by kernel_rfl) (by kernel_rfl)
theorem PC:EN 89:=Al Tryz.func89 (by kernel_rfl) (by kernel_rfl)
theorem PE:EN 90:=Al Tryz.func90 (by kernel_rfl) (by kernel_rfl)
theorem PF:EN 91:=Al Tryz.func91 (by kernel_rfl) (by kernel_rfl)
theorem PG:EN 92:=Al Tryz.func92 (by kernel_rfl) (by kernel_rfl)
theorem PH:EN 93:=Al Tryz.func93 (by kernel_rfl) (by kernel_rfl)
theorem PJ:EN 95:=Al Tryz.func95 (by kernel_rfl) (by kernel_rfl)
theorem PK:EN 96:=Al Tryz.func96 (by kernel_rfl) (by kernel_rfl)
theorem PL:EN 97:=Al Tryz.func97 (by kernel_rfl) (by kernel_rfl)
theorem PM:EN 98:=Al Tryz.func98 (by kernel_rfl) (by kernel_rfl)
theorem PN:EN 99:=Al Tryz.func99 (by kernel_rfl) (by kernel_rfl)
theorem Nz:EN 100:=Al Tryz.func100 (by kernel_rfl) (by kernel_rfl)
theorem Vu:EN 101:=Al Tryz.func101 (by kernel_rfl) (by kernel_rfl)
theorem NA:EN 102:=Al Tryz.func102 (by kernel_rfl) (by kernel_rfl)
theorem YF:EN 103:=Al Tryz.func103 (by kernel_rfl) (by kernel_rfl)
theorem YG:EN 104:=Al Tryz.func104 (by kernel_rfl) (by kernel_rfl)
theorem YH:EN 105:=Al Tryz.func105 (by kernel_rfl) (by kernel_rfl)
theorem YI:EN 106:=Al Tryz.func106 (by kernel_rfl) (by kernel_rfl)
theorem NB:EN 107:=Al Tryz.func107 (by kernel_rfl) (by kernel_rfl)
theorem YJ:EN 109:=Al Tryz.func109 (by kernel_rfl) (by kernel_rfl)
theorem YK:EN 110:=Al Tryz.func110 (by kernel_rfl) (by kernel_rfl)
theorem ND:EN 111:=Al Tryz.func111 (by kernel_rfl) (by kernel_rfl)
theorem NE:EN 112:=Al Tryz.func112 (by kernel_rfl) (by kernel_rfl)
theorem NG:EN 113:=Al Tryz.func113 (by kernel_rfl) (by kernel_rfl)
theorem NH:EN 114:=Al Tryz.func114 (by kernel_rfl) (by kernel_rfl)
theorem NI:EN 115:=Al Tryz.func115 (by kernel_rfl) (by kernel_rfl)
theorem NJ:EN 116:=Al Tryz.func116 (by kernel_rfl) (by kernel_rfl)
theorem NK:EN 117:=Al Tryz.func117 (by kernel_rfl) (by kernel_rfl)
theorem NL:EN 118:=Al Tryz.func118 (by kernel_rfl) (by kernel_rfl)
theorem NM:EN 119:=Al Tryz.func119 (by kernel_rfl) (by kernel_rfl)
theorem NO:EN 120:=Al Tryz.func120 (by kernel_rfl) (by kernel_rfl)
theorem NP:EN 121:=Al Tryz.func121 (by kernel_rfl) (by kernel_rfl)
theorem NQ:EN 122:=Al Tryz.func122 (by kernel_rfl) (by kernel_rfl)
theorem NR:EN 123:=Al Tryz.func123 (by kernel_rfl) (by kernel_rfl)
theorem NS:EN 124:=Al Tryz.func124 (by kernel_rfl) (by kernel_rfl)
theorem NV:EN 129:=Al Tryz.func129 (by kernel_rfl) (by kernel_rfl)
theorem NX:EN 132:=Al Tryz.func132 (by kernel_rfl) (by kernel_rfl)
theorem NY:EN 133:=Al Tryz.func133 (by kernel_rfl) (by kernel_rfl)
theorem NZ:EN 134:=Al Tryz.func134 (by kernel_rfl) (by kernel_rfl)
theorem N0:EN 136:=Al Tryz.func136 (by kernel_rfl) (by kernel_rfl)
theorem N1:EN 137:=Al Tryz.func137 (by kernel_rfl) (by kernel_rfl)
theorem N2:EN 138:=Al Tryz.func138 (by kernel_rfl) (by kernel_rfl)
theorem N3:EN 139:=Al Tryz.func139 (by kernel_rfl) (by kernel_rfl)
theorem N4:EN 140:=Al Tryz.func140 (by kernel_rfl) (by kernel_rfl)
theorem YL:EN 142:=Al Tryz.func142 (by kernel_rfl) (by kernel_rfl)
theorem YM:EN 143:=Al Tryz.func143 (by kernel_rfl) (by kernel_rfl)
theorem YN:EN 144:=Al Tryz.func144 (by kernel_rfl) (by kernel_rfl)
theorem YO:EN 145:=Al Tryz.func145 (by kernel_rfl) (by kernel_rfl)
theorem YP:EN 146:=Al Tryz.func146 (by kernel_rfl) (by kernel_rfl)
theorem YQ:EN 147:=Al Tryz.func147 (by kernel_rfl) (by kernel_rfl)
theorem YR:EN 148:=Al Tryz.func148 (by kernel_rfl) (by kernel_rfl)
theorem YS:EN 149:=Al Tryz.func149 (by kernel_rfl) (by kernel_rfl)
theorem YT:EN 150:=Al Tryz.func150 (by kernel_rfl) (by kernel_rfl)
theorem YU:EN 151:=Al Tryz.func151 (by kernel_rfl) (by kernel_rfl)
theorem YV:EN 152:=Al Tryz.func152 (by kernel_rfl) (by kernel_rfl)
theorem YW:EN 153:=Al Tryz.func153 (by kernel_rfl) (by kernel_rfl)
theorem YX:EN 154:=Al Tryz.func154 (by kernel_rfl) (by kernel_rfl)
theorem YY:EN 155:=Al Tryz.func155 (by kernel_rfl) (by kernel_rfl)
theorem YZ:EN 156:=Al Tryz.func156 (by kernel_rfl) (by kernel_rfl)
theorem Y0:EN 157:=Al Tryz.func157 (by kernel_rfl) (by kernel_rfl)
theorem Y3:EN 158:=Al Tryz.func158 (by kernel_rfl) (by kernel_rfl)
theorem Y4:EN 159:=Al Tryz.func159 (by kernel_rfl) (by kernel_rfl)
theorem Y5:EN 160:=Al Tryz.func160 (by kernel_rfl) (by kernel_rfl)
theorem N6:EN 163:=Al Tryz.func163 (by kernel_rfl) (by kernel_rfl)
theorem N7:EN 164:=Al Tryz.func164 (by kernel_rfl) (by kernel_rfl)
theorem N8:EN 165:=Al Tryz.func165 (by kernel_rfl) (by kernel_rfl)
theorem N9:EN 166:=Al Tryz.func166 (by kernel_rfl) (by kernel_rfl)
theorem Oa:EN 167:=Al Tryz.func167 (by kernel_rfl) (by kernel_rfl)
theorem Ob:EN 168:=Al Tryz.func168 (by kernel_rfl) (by kernel_rfl)
theorem Oc:EN 169:=Al Tryz.func169 (by kernel_rfl) (by kernel_rfl)
theorem Oe:EN 170:=Al Tryz.func170 (by kernel_rfl) (by kernel_rfl)
theorem Of:EN 171:=Al Tryz.func171 (by kernel_rfl) (by kernel_rfl)
theorem Og:EN 172:=Al Tryz.func172 (by kernel_rfl) (by kernel_rfl)
theorem Oh:EN 173:=Al Tryz.func173 (by kernel_rfl) (by kernel_rfl)
theorem Oi:EN 174:=Al Tryz.func174 (by kernel_rfl) (by kernel_rfl)
theorem Oq:EN 192:=Al Tryz.func192 (by kernel_rfl) (by kernel_rfl)
theorem Ot:EN 193:=Al Tryz.func193 (by kernel_rfl) (by kernel_rfl)
theorem Y6:EN 194:=Al Tryz.func194 (by kernel_rfl) (by kernel_rfl)
theorem Y7:EN 195:=Al Tryz.func195 (by kernel_rfl) (by kernel_rfl)
theorem Y8:EN 196:=Al Tryz.func196 (by kernel_rfl) (by kernel_rfl)
theorem Y9:EN 197:=Al Tryz.func197 (by kernel_rfl) (by kernel_rfl)
theorem Za:EN 198:=Al Tryz.func198 (by kernel_rfl) (by kernel_rfl)
theorem Ou:EN 199:=Al Tryz.func199 (by kernel_rfl) (by kernel_rfl)
theorem Ow:EN 200:=Al Tryz.func200 (by kernel_rfl) (by kernel_rfl)
theorem Ox:EN 201:=Al Tryz.func201 (by kernel_rfl) (by kernel_rfl)
theorem Oy:EN 202:=Al Tryz.func202 (by kernel_rfl) (by kernel_rfl)
theorem Oz:EN 203:=Al Tryz.func203 (by kernel_rfl) (by kernel_rfl)
theorem OA:EN 204:=Al Tryz.func204 (by kernel_rfl) (by kernel_rfl)
theorem OB:EN 205:=Al Tryz.func205 (by kernel_rfl) (by kernel_rfl)
theorem OC:EN 206:=Al Tryz.func206 (by kernel_rfl) (by kernel_rfl)
theorem OD:EN 207:=Al Tryz.func207 (by kernel_rfl) (by kernel_rfl)
theorem OE:EN 208:=Al Tryz.func208 (by kernel_rfl) (by kernel_rfl)
theorem OG:EN 209:=Al Tryz.func209 (by kernel_rfl) (by kernel_rfl)
theorem OH:EN 210:=Al Tryz.func210 (by kernel_rfl) (by kernel_rfl)
theorem OI:EN 211:=Al Tryz.func211 (by kernel_rfl) (by kernel_rfl)
theorem OJ:EN 212:=Al Tryz.func212 (by kernel_rfl) (by kernel_rfl)
theorem OL:EN 213:=Al Tryz.func213 (by kernel_rfl) (by kernel_rfl)
theorem OM:EN 214:=Al Tryz.func214 (by kernel_rfl) (by kernel_rfl)
theorem OO:EN 221:=Al Tryz.func221 (by kernel_rfl) (by kernel_rfl)
theorem OP:EN 224:=Al Tryz.func224 (by kernel_rfl) (by kernel_rfl)
theorem OQ:EN 225:=Al Tryz.func225 (by kernel_rfl) (by kernel_rfl)
theorem OR:EN 226:=Al Tryz.func226 (by kernel_rfl) (by kernel_rfl)
theorem OS:EN 227:=Al Tryz.func227 (by kernel_rfl) (by kernel_rfl)
attribute [go_sem ↓] PO OW O5 Zq PD Ny NW Oo Ov Zb ON Zc OT Zd OU Ze Zf OV OX OY O0 O1 O4 O6 O7 O8 O9 Pa Pd Pg Ph Pi Zg Zh Pj Zi Zj Pk Pm Zk Zl Zm Zn Zo Pn Zp Po Pp Pt Pu Pv Pz PA PB PC PE PF PG PH PJ PK PL PM PN Nz Vu NA YF YG YH YI NB YJ YK ND NE NG NH NI NJ NK NL NM NO NP NQ NR NS NV NX NY NZ N0 N1 N2 N3 N4 YL YM YN YO YP YQ YR YS YT YU YV YW YX YY YZ Y0 Y3 Y4 Y5 N6 N7 N8 N9 Oa Ob Oc Oe Of Og Oh Oi Oq Ot Y6 Y7 Y8 Y9 Za Ou Ow Ox Oy Oz OA OB OC OD OE OG OH OI OJ OL OM OO OP OQ OR OS
attribute [go_sem] Mx
end Go.Proofs.YtfcfpoemojjglaaGreatDoor
namespace Go.Proofs.YtfcfpoemojjglaaGreatDoor
open Go.RowKit
def Bw (w:World) (g:Nat) (ks:List Value):Prop:=
 ∃es clock,w.heap[g]?=some (.map es clock)∧es.toList.map (·.key)=ks∧es.toList.map (·.val)=(List.range ks.length).map fun(i:Nat)=>Value.int .i64 (i:Int)
theorem Bw.keep {w w':World} {g:Nat} {ks:List Value} (h:Bw w g ks) (C:w'.heap[g]?=w.heap[g]?):Bw w' g ks:=by
 obtain⟨es,x,h1,y⟩:=h
 exact⟨es,x,by rw [C]; exact h1,y⟩
theorem Bw.lt {w:World} {g:Nat} {ks:List Value} (h:Bw w g ks):g<w.heap.size:=by
 obtain⟨es,x,h1,y⟩:=h
 exact(Array.getElem?_eq_some_iff.1 h1).1
theorem Bw.made (w:World):Bw (w.alloc (.map #[] 0)) w.heap.size []:=⟨#[],0,heap_alloc_new w _,rfl,rfl⟩
structure El {S:Type} [DecidableEq S] (P:Program) (K:TypeId) (enc:S→Value):Prop where
 check:∀em w s,(Instr.checkKey em 10000 K (enc s)).run P w=.ok () w
 find:∀w s (es:List MapEntry) (l:List S),es.map (·.key)=l.map enc→
  (Instr.findKey K (enc s) es).run P w=.ok (if s∈l then some (l.idxOf s,((es[l.idxOf s]?).map (·.val)).getD .nilFunc) else none) w
section
variable {S:Type} [DecidableEq S] {P:Program} {K:TypeId}
theorem PZ (q:IntKind) (f:S→Int) (E:∀a b,f a=f b→a=b) (s:S) (es:List MapEntry):∀(l:List S) (i:Nat),es.map (·.key)=l.map (fun s=>Value.int q (f s))→
  Instr.findNow (.int q) (.int q (f s)) es i=some (if s∈l then some (i+l.idxOf s,((es[l.idxOf s]?).map (·.val)).getD .nilFunc) else none):=by
 induction es with
 | nil=>
  intro l i h
  have:l=[]:=by cases l <;> simp_all
  subst this
  simp [Instr.findNow]
 | cons e es ih=>
  intro l i h
  cases l with
  | nil=>simp at h
  | cons t l=>
   simp only [List.map_cons,List.cons.injEq] at h
   obtain⟨h1,C⟩:=h
   unfold Instr.findNow
   rw [h1]
   simp only [Instr.sameNow,if_true]
   by_cases x:s=t
   ·subst x
    simp
   ·have G:(f s==f t)=false:=by simpa using fun e=>x (E _ _ e)
    rw [G]
    dsimp only
    rw [ih l (i+1) C]
    have F:(t::l).idxOf s=l.idxOf s+1:=by
     rw [List.idxOf_cons]
     have:(t==s)=false:=by simpa using fun e=>x e.symm
     rw [this]; rfl
    by_cases y:s∈l
    ·simp only [y,F,List.mem_cons,or_true,if_true,List.getElem?_cons_succ,Option.some.injEq,Prod.mk.injEq,and_true]; omega
    ·simp [y,x]
theorem QK (q:IntKind) (x:P.underlying K=some (.int q)) (f:S→Int) (y:∀a b,f a=f b→a=b):El P K (fun s=>Value.int q (f s)) where
 check:=fun C w s=>by
  rw [show(10000:Nat)=9999+1 from rfl]
  unfold Instr.checkKey
  simp [run_underlying x]
 find:=fun w s es l h=>by
  unfold Instr.findKey
  simp only [Sem.run_bind,run_underlying x,Result.andThen_ok]
  rw [PZ q f y s es l 0 h]
  simp
theorem IY (a b:ByteArray):(a==b)=(a.data==b.data):=rfl
theorem Mw (a:ByteArray):(a==a)=true:=by rw [IY]; simp
theorem Mu {a b:ByteArray} (h:a≠b):(a==b)=false:=by rw [IY]; simp; intro e; exact h (ByteArray.ext e)
theorem P0 (f:S→ByteArray) (F:∀a b,f a=f b→a=b) (s:S) (es:List MapEntry):∀(l:List S) (i:Nat),es.map (·.key)=l.map (fun s=>Value.string (f s))→
  Instr.findNow .string (.string (f s)) es i=some (if s∈l then some (i+l.idxOf s,((es[l.idxOf s]?).map (·.val)).getD .nilFunc) else none):=by
 induction es with
 | nil=>
  intro l i h
  have:l=[]:=by cases l <;> simp_all
  subst this
  simp [Instr.findNow]
 | cons e es ih=>
  intro l i h
  cases l with
  | nil=>simp at h
  | cons t l=>
   simp only [List.map_cons,List.cons.injEq] at h
   obtain⟨h1,C⟩:=h
   unfold Instr.findNow
   rw [h1]
   simp only [Instr.sameNow]
   by_cases x:s=t
   ·subst x
    have E:(f s==f s)=true:=Mw _
    rw [E]
    simp
   ·have I:(f s==f t)=false:=Mu fun e=>x (F _ _ e)
    rw [I]
    dsimp only
    rw [ih l (i+1) C]
    have G:(t::l).idxOf s=l.idxOf s+1:=by
     rw [List.idxOf_cons]
     have:(t==s)=false:=by simpa using fun e=>x e.symm
     rw [this]; rfl
    by_cases y:s∈l
    ·simp only [y,G,List.mem_cons,or_true,if_true,List.getElem?_cons_succ,Option.some.injEq,Prod.mk.injEq,and_true]; omega
    ·simp [y,x]
theorem QL (x:P.underlying K=some .string) (f:S→ByteArray) (y:∀a b,f a=f b→a=b):El P K (fun s=>Value.string (f s)) where
 check:=fun C w s=>by
  rw [show(10000:Nat)=9999+1 from rfl]
  unfold Instr.checkKey
  simp [run_underlying x]
 find:=fun w s es l h=>by
  unfold Instr.findKey
  simp only [Sem.run_bind,run_underlying x,Result.andThen_ok]
  rw [P0 f y s es l 0 h]
  simp
theorem JE {es:Array MapEntry} {n i:Nat} (h:es.toList.map (·.val)=(List.range n).map fun(i:Nat)=>Value.int .i64 (i:Int)) (x:i<n):((es.toList[i]?).map (·.val)).getD .nilFunc=.int .i64 (i:Int):=by
 have:(es.toList.map (·.val))[i]?=some (Value.int .i64 (i:Int)):=by rw [h]; simp [x]
 rw [List.getElem?_map] at this
 rw [this]; rfl
theorem Ft {enc:S→Value} (hk:El P K enc) {T E:TypeId} (I:P.underlying T=some (.map K E)) (G:∀w,(zeroValue E).run P w=.ok (.int .i64 0) w) {w:World} {g:Nat} {l:List S}
  (h:Bw w g (l.map enc)) (s:S):
  (Instr.lookup T (.map (some g)) (enc s) true).run P w=.ok (.tuple #[.int .i64 (if s∈l then (l.idxOf s:Int) else 0),.bool (decide (s∈l))]) w:=by
 obtain⟨es,y,h1,C,F⟩:=h
 have M:(getObj g).run P w=.ok (.map es y) w:=by simp [getObj,Sem.run,h1]
 have J:=hk.find w s es.toList l C
 unfold Instr.lookup
 simp only [Sem.run_bind,run_underlying I,Result.andThen_ok,M,Sem.run_pure,hk.check,J]
 by_cases x:s∈l
 ·simp only [x,if_true,decide_true]
  rw [JE F (by rw [List.length_map]; exact List.idxOf_lt_length_of_mem x)]
  rfl
 ·simp only [x,if_false,Result.andThen_ok,Sem.run_bind,G,Sem.run_pure,decide_false,if_true]
theorem EY {enc:S→Value} (hk:El P K enc) {T E:TypeId} (G:P.underlying T=some (.map K E)) {w:World} {g:Nat} {l:List S}
  (h:Bw w g (l.map enc)) (s:S) (O:s∉l):
  ∃w',(Instr.mapUpdate T (.map (some g)) (enc s) (.int .i64 (l.length:Int))).run P w=.ok () w'∧Bw w' g ((l++[s]).map enc)∧w.grownBy w' (some g)∧w'.heap.size=w.heap.size:=by
 obtain⟨es,x,h1,y,F⟩:=h
 have I:(getObj g).run P w=.ok (.map es x) w:=by simp [getObj,Sem.run,h1]
 have C:=hk.find w s es.toList l y
 rw [if_neg O] at C
 have J:g<w.heap.size:=(Array.getElem?_eq_some_iff.1 h1).1
 have U:∀o:Obj,(setObj g o).run P w=.ok () { w with heap:=w.heap.setIfInBounds g o }:=fun o=>by
  simp [setObj,Sem.run,h1]
 refine⟨{ w with heap:=w.heap.setIfInBounds g (.map (es.push { key:=enc s,val:=.int .i64 (l.length:Int),born:=x }) (x+1)) },?_,
  ⟨es.push { key:=enc s,val:=.int .i64 (l.length:Int),born:=x },x+1,?_,?_,?_⟩,⟨rfl,rfl,rfl,by simp,fun k hk M=>?_⟩,by simp⟩
 ·unfold Instr.mapUpdate
  simp only [Sem.run_bind,run_underlying G,Result.andThen_ok,I,hk.check,C,U]
 ·simp [J]
 ·simp [y]
 ·simp only [Array.toList_push,List.map_append,F,List.map_cons,List.map_nil,List.length_append,List.length_cons,List.length_nil,List.length_map]
  rw [List.range_succ]
  simp
 ·have:k≠g:=fun e=>M (by rw [e])
  simp [Array.getElem?_setIfInBounds_ne (fun e=>this e.symm)]
end
end Go.Proofs.YtfcfpoemojjglaaGreatDoor
namespace Go.Proofs.YtfcfpoemojjglaaGreatDoor
open Go.RowKit
def Ret (V:Value→World→Prop):Ending→World→Prop
 | .returned v,w=>V v w
 | _,_=>False
theorem Calls.ret {P:Program} {f:FuncId} {args:Array Value} {w:World} {V:Value→World→Prop} {K:Ending→World→Prop} (h:Calls P f args w (Ret V)) (y:∀v w',V v w'→K (.returned v) w'):Calls P f args w K:=
 h.mono fun e w' x=>by
  cases e with
  | returned v=>exact y v w' x
  | panicked c=>exact x.elim
  | outgrown=>exact x.elim
structure Ac (w w':World) (X:Nat→Prop):Prop where
 os:w'.os=w.os
 tape:w'.tape=w.tape
 output:w'.output=w.output
 size:w.heap.size≤w'.heap.size
 block:∀k,k<w.heap.size→¬X k→w'.heap[k]?=w.heap[k]?
section
variable {w w' w'':World} {X Y:Nat→Prop}
theorem Ac.refl (w:World) (X:Nat→Prop):Ac w w X:=⟨rfl,rfl,rfl,Nat.le_refl _,fun _ _ _=>rfl⟩
theorem Ac.trans (h:Ac w w' X) (k:Ac w' w'' Y) (C:∀b,b<w.heap.size→Y b→X b):Ac w w'' X:=
 ⟨k.os.trans h.os,k.tape.trans h.tape,k.output.trans h.output,Nat.le_trans h.size k.size,
  fun b x y=>(k.block b (Nat.lt_of_lt_of_le x h.size) fun E=>y (C b x E)).trans (h.block b x y)⟩
theorem Ac.mono (h:Ac w w' X) (y:∀b,b<w.heap.size→X b→Y b):Ac w w' Y:=⟨h.os,h.tape,h.output,h.size,fun b x C=>h.block b x fun E=>C (y b x E)⟩
theorem Ac.of_below (h:Below w.heap.size w w') (X:Nat→Prop):Ac w w' X:=⟨h.os,h.tape,h.output,h.size,fun b x _=>h.block b x⟩
theorem Ac.of_grown {row:Option Nat} (h:w.grownBy w' row):Ac w w' (fun b=>row=some b):=⟨h.os,h.tape,h.output,h.size,fun b x y=>h.block b x fun e=>y e.symm⟩
theorem Ac.drew (h:Ac w w' X):Ac w w'.drew X:=⟨h.os,h.tape,h.output,h.size,h.block⟩
theorem Ac.drewN (h:Ac w w' X) (n:Nat):Ac w (w'.drewN n) X:=⟨h.os,h.tape,h.output,h.size,h.block⟩
theorem Ac.alloc (h:Ac w w' X) (o:Obj):Ac w (w'.alloc o) X:=
 ⟨h.os,h.tape,h.output,Nat.le_trans h.size (by simp),fun b x y=>(Below.heap_alloc _ _ _ (Nat.lt_of_lt_of_le x h.size)).trans (h.block b x y)⟩
theorem Ac.setCell (h:Ac w w' X) {p:Addr} (C:p.block<w.heap.size→X p.block) (u:Value):Ac w (w'.setCell p u) X:=
 ⟨h.os,h.tape,h.output,by simpa [World.setCell] using h.size,fun b x y=>(Below.heap_setCell _ _ _ _ (fun e=>y (by subst e; exact C x))).trans (h.block b x y)⟩
theorem Ac.below (h:Ac w w' X) {B:Nat} (C:B≤w.heap.size) (x:∀b,b<B→¬X b):Below B w w':=⟨h.os,h.tape,h.output,h.size,fun b y=>h.block b (by omega) (x b y)⟩
theorem Ac.below' (h:Ac w w' X) (x:∀b,b<w.heap.size→¬X b):Below w.heap.size w w':=h.below (Nat.le_refl _) x
theorem Ac.same (h:Ac w w' X) {o:Obj} {b:Nat} (x:w.heap[b]?=some o) (y:¬X b):w'.heap[b]?=some o:=by
 rw [h.block b (Array.getElem?_eq_some_iff.1 x).1 y]; exact x
theorem Ac.cell (h:Ac w w' X) {p:Addr} (x:p.block<w.heap.size) (y:¬X p.block):w'.cell? p=w.cell? p:=World.cell?_of_block (h.block p.block x y)
theorem Ac.ownsRow (h:Ac w w' X) {base n size:Nat} {e:TypeId} {v:Value} {xs:List Value} (ho:w.ownsRow base e size v n xs) (E:∀g,v.ownBlock=some g→¬X g):w'.ownsRow base e size v n xs:=by
 refine⟨ho.1,?_⟩
 rcases ho.2 with F | ⟨g,cap,x,rfl,y,C,rest⟩
 ·exact .inl F
 ·exact .inr ⟨g,cap,x,rfl,y,h.same C (E g rfl),rest⟩
end
def Blk (w:World) (g:Nat) (t:TypeId) (cs:Array Value):Prop:=w.heap[g]?=some (.cells cs t (0,0))
section
variable {w w':World} {g:Nat} {t:TypeId} {cs:Array Value} {X:Nat→Prop}
theorem Blk.lt (h:Blk w g t cs):g<w.heap.size:=(Array.getElem?_eq_some_iff.1 h).1
theorem Blk.cell (h:Blk w g t cs) (i:Nat):w.cell? ⟨g,i,none⟩=cs[i]?:=cell_of_row w g i cs t (0,0) h
theorem Blk.frozen (h:Blk w g t cs) (i:Nat):w.frozen? ⟨g,i,none⟩=false:=by
 unfold Blk at h
 simp [World.frozen?,h]
theorem Blk.new (w:World) (t:TypeId) (cs:Array Value):Blk (w.alloc (.cells cs t)) w.heap.size t cs:=heap_alloc_new w _
theorem Blk.set_ (h:Blk w g t cs) (i:Nat) (u:Value):Blk (w.setCell ⟨g,i,none⟩ u) g t (cs.setIfInBounds i u):=by
 unfold Blk at h ⊢
 simp [World.setCell,Array.getElem?_modify,h]
theorem Blk.kept (h:Blk w g t cs) (hk:Ac w w' X) (x:¬X g):Blk w' g t cs:=hk.same h x
theorem Blk.ne_ {y:Nat} {C:TypeId} {E:Array Value} (h:Blk w g t cs) (x:Blk w y C E) (F:t≠C):g≠y:=by
 rintro rfl
 unfold Blk at h x
 rw [h] at x
 injection x with x
 injection x with _ ht
 exact F ht
theorem Aw {base size n:Nat} {e:TypeId} {v:Value} {xs:List Value} (h:w.ownsRow base e size v n xs) (C:Blk w g t cs) (F:e≠t):v.ownBlock≠some g:=by
 rcases h.2 with⟨rfl,_⟩ | ⟨x,cap,G,rfl,_,E,_⟩
 ·simp [Value.ownBlock]
 ·intro y
  have:x=g:=by simpa [Value.ownBlock] using y
  subst this
  exact Blk.ne_ (t:=e) E C F rfl
theorem WO {base size n C M J:Nat} {e x:TypeId} {v y:Value} {xs O:List Value} (h:w.ownsRow base e size v n xs) (F:w.ownsRow C x M y J O) (I:e≠x) {k:Nat} (hk:v.ownBlock=some k):y.ownBlock≠some k:=by
 rcases h.2 with⟨rfl,_⟩ | ⟨E,cap,U,rfl,_,G,_⟩
 ·simp [Value.ownBlock] at hk
 ·have:E=k:=by simpa [Value.ownBlock] using hk
  subst this
  exact Aw F G fun e=>I e.symm
theorem Di {base size n:Nat} {e:TypeId} {v:Value} {xs:List Value} {ks:List Value} (h:w.ownsRow base e size v n xs) (C:Bw w g ks):v.ownBlock≠some g:=by
 rcases h.2 with⟨rfl,_⟩ | ⟨x,cap,G,rfl,_,E,_⟩
 ·simp [Value.ownBlock]
 ·intro y
  have:x=g:=by simpa [Value.ownBlock] using y
  subst this
  obtain⟨es,F,h1,_⟩:=C
  rw [E] at h1; cases h1
theorem BT {x:Nat} {ks:List Value} (h:Blk w g t cs) (y:Bw w x ks):g≠x:=by
 rintro rfl
 obtain⟨es,C,h1,_⟩:=y
 unfold Blk at h
 rw [h] at h1; cases h1
theorem Bw.kept {ks:List Value} (h:Bw w g ks) (hk:Ac w w' X) (x:¬X g):Bw w' g ks:=h.keep (hk.block g h.lt x)
end
def BJ (w:World) (v v':Value):Prop:=v'.ownBlock=v.ownBlock∨∃g,v'.ownBlock=some g∧w.heap.size≤g
theorem BJ.refl (w:World) (v:Value):BJ w v v:=.inl rfl
theorem BJ.trans {w w':World} {a b c:Value} (h:BJ w a b) (y:w.heap.size≤w'.heap.size) (k:BJ w' b c):BJ w a c:=by
 rcases k with k | ⟨g,k,x⟩
 ·rcases h with h | ⟨g,h,x⟩
  ·exact .inl (k.trans h)
  ·exact .inr ⟨g,k.trans h,x⟩
 ·exact .inr ⟨g,k,by omega⟩
theorem BJ.ne {w:World} {a b:Value} (h:BJ w a b) {k:Nat} (hk:k<w.heap.size) (x:a.ownBlock≠some k):b.ownBlock≠some k:=by
 rcases h with h | ⟨g,h,y⟩
 ·rw [h]; exact x
 ·rw [h]; intro e; injection e with e; omega
structure Dd (P:Program) (t e:TypeId) (size:Nat):Prop where
 ht:P.underlying t=some (.slice e)
 info:∃i z bytes,P.info? e=some i∧i.zero=some z∧i.size=size∧i.bytes=bytes∧z.cells.size=size∧bytes≤200
 pos:0<size
theorem EX {P:Program} {t e size bytes:Nat} {z:Value} (ht:P.underlying t=some (.slice e)) (E:(P.info? e).map (fun i=>(i.zero,i.size,i.bytes))=some (some z,size,bytes)) (G:z.cells.size=size) (C:bytes≤200) (F:0<size):Dd P t e size:=by
 obtain⟨i,h1,h,x,y⟩:=info_parts E
 exact⟨ht,⟨i,z,bytes,h1,h,x,y,G,C⟩,F⟩
theorem AH {w:World} {base e size n:Nat} {v:Value} {xs:List Value} (h:w.ownsRow base e size v n xs):∃A c,v=.slice A n c:=by
 rcases h.2 with⟨rfl,h0⟩ | ⟨g,cap,x,rfl,_⟩
 ·exact⟨none,0,by rw [h0]⟩
 ·exact⟨_,_,rfl⟩
section
variable {P:Program} {ops:Array Oper} {rest:List Oper} {o:Oper} {a:Act} {Q:Exit→Act→World→Prop}
theorem G9 {w:World} {t e size:Nat} (R:Dd P t e size) (U:o.guard=none) (s x:Operand)
  (ho:o.op=.call { callee:=.builtin .append,args:=#[s,x],argTypes:=#[t,t] })
  (base:Nat) (v:Value) (n:Nat) (xs:List Value) (hs:a.eval s=v) (a3:w.ownsRow base e size v n xs)
  (F:Addr) (m c:Nat) (E:List Value) (hx:a.eval x=.slice (some F) m c) (Z:E.length=m*size) (a2:∀j u,E[j]?=some u→w.cell? (F.add j)=some u) (h1:∀u∈E,u.oneCell'=true)
  (hm:0<m) (G:n+m≤4000000) (M:base≤w.heap.size)
  (h:∀g cap w',w'.ownsRow base e size (.slice (some ⟨g,0,none⟩) (n+m) cap) (n+m) (xs++E)→Ac w w' (fun k=>v.ownBlock=some k)→BJ w v (.slice (some ⟨g,0,none⟩) (n+m) cap)→g<w'.heap.size→
   wpList P ops Q rest (a.put o.dst (.slice (some ⟨g,0,none⟩) (n+m) cap)) w'):
  wpList P ops Q (o::rest) a w:=by
 obtain⟨i,z,bytes,W,hz,a5,O,a8,J⟩:=R.info
 refine wpList_append_own_at w U s x t ho base e i z size bytes R.ht W hz a5 O a8 R.pos v n xs hs a3 F m c E hx Z a2 h1 (by unfold maxLen; omega) ?_ M ?_
 ·exact Nat.le_trans (Nat.mul_le_mul G J) (by decide)
 ·intro v' w' I C ac y
  rcases I.2 with⟨rfl,h0⟩ | ⟨g,cap,a9,rfl,aa,V,_⟩
  ·exact absurd h0 (by omega)
  ·refine h g cap w' I ?_ ?_ (Array.getElem?_eq_some_iff.1 V).1
   ·exact⟨C.os,C.tape,C.output,C.size,fun k hk G=>C.block k hk fun e=>G e.symm⟩
   ·rcases y with y | y
    ·exact .inl y
    ·exact .inr ⟨_,y,Nat.le_refl _⟩
theorem BP {w:World} {t e size:Nat} (R:Dd P t e size) (J:o.guard=none) (s x:Operand)
  (ho:o.op=.call { callee:=.builtin .append,args:=#[s,x],argTypes:=#[t,t] })
  (base:Nat) (v:Value) (n:Nat) (xs:List Value) (Z:a.eval s=v) (V:w.ownsRow base e size v n xs) (cs:List Value) (c:Nat)
  (hx:a.eval x=.slice (some ⟨w.heap.size,0,none⟩) 1 c) (O:cs.length=size) (h1:∀u∈cs,u.oneCell'=true)
  (U:n+1≤4000000) (a3:base≤w.heap.size)
  (h:∀g cap w',w'.ownsRow base e size (.slice (some ⟨g,0,none⟩) (n+1) cap) (n+1) (xs++cs)→Ac w w' (fun k=>v.ownBlock=some k)→BJ w v (.slice (some ⟨g,0,none⟩) (n+1) cap)→g<w'.heap.size→
   wpList P ops Q rest (a.put o.dst (.slice (some ⟨g,0,none⟩) (n+1) cap)) w'):
  wpList P ops Q (o::rest) a (w.alloc (.cells cs.toArray e)):=by
 refine G9 R J s x ho base v n xs Z (V.alloc _) ⟨w.heap.size,0,none⟩ 1 c cs hx (by rw [O]; omega) ?_ h1 (by omega) U (by simp; omega) ?_
 ·intro j u M
  have E:(⟨w.heap.size,0,none⟩:Addr).add j=⟨w.heap.size,j,none⟩:=by unfold Addr.add; split <;> simp_all
  rw [E,cell_of_row _ w.heap.size j cs.toArray e (0,0) (heap_alloc_new w _)]
  simpa using M
 ·intro g cap w' W hk y G
  refine h g cap w' W (((Ac.refl w (fun k=>v.ownBlock=some k)).alloc (.cells cs.toArray e)).trans hk fun b _ F=>F) ?_ G
  rcases y with y | ⟨C,y,I⟩
  ·exact .inl y
  ·refine .inr ⟨C,y,?_⟩
   simp at I
   omega
end
end Go.Proofs.YtfcfpoemojjglaaGreatDoor
