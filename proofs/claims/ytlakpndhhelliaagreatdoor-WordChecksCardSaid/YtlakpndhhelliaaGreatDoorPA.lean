/-
  Part PA of a proof.
-/
import Derived.WalkKit
import Derived.Laws.Panics
import Derived.Deep.MidRow
import Derived.Test.YtlakpndhhelliaaGreatDoorRows
import Derived.WalkSpells
import Derived.WalkLawsBesides
import Derived.Lib.Hide
import Derived.Deep.AppendLies
import Derived.Deep.Draws
import Derived.Deep.LoopGhost
import Derived.Deep.QuietTactic
import Derived.BigQuiet
import Derived.BigCall
import Derived.Maps.AppendAt
set_option maxHeartbeats 16000000
set_option maxRecDepth 100000
set_option linter.unusedVariables false
set_option linter.unusedSimpArgs false
namespace Go.Proofs.YtlakpndhhelliaaGreatDoor
namespace Reg
def Ext (w w':World):Prop:=∀k,k<w.heap.size→w'.heap[k]?=w.heap[k]?
theorem Ext.refl (w:World):Ext w w:=fun _ _=>rfl
theorem Ext.some {w w':World} (h:Ext w w') {k:Nat} {o:Obj} (hk:w.heap[k]?=some o):w'.heap[k]?=some o:=by
 rw [h k (Array.getElem?_eq_some_iff.1 hk).1]; exact hk
def Ad {α:Type} (P:Program) (s:Sem α):Prop:=(∃v,∀w,s.run P w=.ok v w)∨(∀w,∃h w',s.run P w=.halt h w')
section
variable {α β:Type} {P:Program}
theorem Ad.pure (v:α):Ad P (Pure.pure v:Sem α):=.inl ⟨v,fun _=>rfl⟩
theorem Ad.halt (h:Halt):Ad P (Sem.halt h:Sem α):=.inr fun w=>⟨h,w,rfl⟩
theorem Ad.haltBind (h:Halt) (f:α→Sem β):Ad P (Sem.halt h >>=f):=.inr fun w=>⟨h,w,rfl⟩
theorem Ad.stuckBind (s:String) (f:α→Sem β):Ad P (Go.stuck s >>=f):=Ad.haltBind _ f
theorem Ad.stuck (s:String):Ad P (Go.stuck s:Sem α):=Ad.halt _
theorem Ad.unsupported (s:Unsupported):Ad P (Go.unsupported s:Sem α):=Ad.halt _
theorem Ad.bind {s:Sem α} {f:α→Sem β} (C:Ad P s) (E:∀v,Ad P (f v)):Ad P (s >>=f):=by
 rcases C with⟨v,z⟩ | y
 ·rcases E v with⟨u,F⟩ | y
  ·exact .inl ⟨u,fun w=>by rw [Sem.run_bind,z]; exact F w⟩
  ·exact .inr fun w=>by rw [Sem.run_bind,z]; exact y w
 ·exact .inr fun w=>by
   obtain⟨h,w',e⟩:=y w
   exact⟨h,w',by rw [Sem.run_bind,e]; rfl⟩
theorem Ad.program {f:Program→Sem β} (h:Ad P (f P)):Ad P (Go.program >>=f):=by
 rcases h with⟨u,y⟩ | z
 ·exact .inl ⟨u,fun w=>by rw [Sem.run_bind,run_program]; exact y w⟩
 ·exact .inr fun w=>by rw [Sem.run_bind,run_program]; exact z w
theorem Ad.ite {c:Prop} [Decidable c] {x y:Sem α} (f:Ad P x) (h:Ad P y):Ad P (if c then x else y):=by
 split
 ·exact f
 ·exact h
theorem Ad.boundsPanic (k:IntKind) (x y:Int) (f:BoundsCode):Ad P (Go.boundsPanic k x y f:Sem α):=.inr fun w=>by
 obtain⟨s,w',h⟩:=run_boundsPanic (α:=α) (P:=P) (w:=w) k x y f
 exact⟨_,w',h⟩
theorem Ad.underlying (t:TypeId):Ad P (Go.underlying t):=by
 unfold Go.underlying
 refine Ad.program ?_
 split
 ·exact Ad.pure _
 ·exact Ad.stuck _
theorem Ad.typeInfo (t:TypeId):Ad P (Go.typeInfo t):=by
 unfold Go.typeInfo
 refine Ad.program ?_
 split
 ·exact Ad.pure _
 ·exact Ad.stuck _
theorem Ad.sizeOf (t:TypeId):Ad P (Go.sizeOf t):=Ad.bind (Ad.typeInfo t) fun _=>Ad.pure _
theorem Ad.nilDeref:Ad P (Go.runtimePanic .nilDeref:Sem α):=by
 unfold Go.runtimePanic
 exact Ad.program (Ad.halt _)
theorem Ad.error (s:String):Ad P (Go.runtimePanic (.error s):Sem α):=by
 unfold Go.runtimePanic
 exact Ad.program (Ad.halt _)
theorem Ad.asIntOf (v:Value):Ad P (Go.asIntOf v):=by
 unfold Go.asIntOf
 split
 ·exact Ad.pure _
 ·exact Ad.unsupported _
 ·exact Ad.stuck _
theorem Ad.asBool (v:Value):Ad P (Go.asBool v):=by
 unfold Go.asBool
 split
 ·exact Ad.pure _
 ·exact Ad.stuck _
theorem Ad.sureAddr (v:Value):Ad P (Instr.sureAddr v):=by
 unfold Instr.sureAddr
 split
 ·exact Ad.pure _
 ·exact Ad.stuck _
theorem Ad.ok {s:Sem α} (h:Ad P s) {w w1:World} {v:α} (e:s.run P w=.ok v w1):w1=w∧∀w',s.run P w'=.ok v w':=by
 rcases h with⟨u,f⟩ | C
 ·have:=f w
  rw [e] at this
  injection this with E F
  subst E; subst F
  exact⟨rfl,f⟩
 ·obtain⟨x,y,z⟩:=C w
  rw [e] at z; cases z
end
def Hf (P:Program) (s:TypeId) (f:Nat):Bool:=
 match P.underlying s with
 | some (.struct fs)=>match fs[f]? with
  | some fl=>match P.info? fl.type with
   | some i=>i.size != 0
   | none=>true
  | none=>true
 | _=>true
def GR (P:Program) (ts:Array TypeId):Bool:=
 match ts[0]? with
 | some t=>match P.underlying t with
  | some (.slice _)=>true
  | some .string=>true
  | _=>false
 | none=>false
def FW (P:Program):Op→Bool
 | .move _ | .assign _ | .pick .. | .extract .. | .makeFunc .. | .unOp .. | .indexAddr .. | .nilCheck _=>true
 | .fieldAddr s _ f=>Hf P s f
 | .call { callee:=.builtin .len,argTypes:=ts,.. }=>GR P ts
 | _=>false
def intOp:Op→Bool
 | .binOp ..=>true
 | _=>false
def isInt:Value→Bool
 | .int ..=>true
 | _=>false
def intFine (ρ:Operand→Value):Op→Bool
 | .binOp _ _ x y _=>isInt (ρ x)&&isInt (ρ y)
 | _=>true
theorem Ad.value {P:Program} {s:Sem Value} (h:Ad P s):Ad P (s >>=fun v=>(Pure.pure (Next.value v):Sem Next)):=Ad.bind h fun _=>Ad.pure _
def DL (P:Program) (s:Sem Next):Prop:=(∃u,∀w,s.run P w=.ok (.value u) w)∨(∀w,∃h w',s.run P w=.halt h w')
theorem Ad.valueV {P:Program} {s:Sem Value} (h:Ad P s):DL P (s >>=fun v=>(Pure.pure (Next.value v):Sem Next)):=by
  rcases h with⟨v,f⟩ | z
  · exact .inl ⟨v,fun w=>by rw [Sem.run_bind,f]; rfl⟩
  · exact .inr fun w=>by
      obtain⟨x,y,e⟩:=z w
      exact⟨x,y,by rw [Sem.run_bind,e]; rfl⟩
theorem L7 {P:Program} (op:UnOp) (x:Value):Ad P (Op.unary op x):=by
 unfold Op.unary
 split
 all_goals first
  | exact Ad.pure _
  | exact Ad.stuck _
  | exact Ad.unsupported _
  | (unfold Op.intArith; split <;> first | exact Ad.pure _ | exact Ad.stuck _)
  | (unfold Op.intBits; dsimp only; split <;> first | exact Ad.pure _ | exact Ad.stuck _)
theorem Qj {P:Program} (t:Value) (i:Nat):Ad P (Instr.extract t i):=by
 unfold Instr.extract
 split
 ·split
  ·exact Ad.pure _
  ·exact Ad.stuck _
 ·exact Ad.stuck _
theorem Q9 {P:Program} (t:TypeId) (x i:Value):Ad P (Instr.indexAt t x i):=by
 unfold Instr.indexAt
 refine Ad.bind (Ad.asIntOf i) ?_
 rintro⟨k,n⟩
 refine Ad.bind (Ad.underlying t) ?_
 intro d
 have key:∀(msg:String) (base:Option Addr) (len:Nat) (f:TypeId),Ad P (do
   let h ←Go.underlying t
   have y:Bool:=decide (len≤1)&&(match h with | .array ..=>true | _=>false)
   match base with
   | some a=>
    if 0≤n∧n<(len:Int) then do
     let z ←Go.sizeOf f
     pure (Value.pointer (some (a.add (n.toNat*z))))
    else if y=true then Go.unsupported (.noEntry msg)
    else Go.boundsPanic k n (len:Int) .index
   | none=>Go.boundsPanic k n 0 .index):=by
  intro msg base len f
  refine Ad.bind (Ad.underlying t) ?_
  intro h
  dsimp only
  split
  ·exact Ad.ite (Ad.bind (Ad.sizeOf _) fun _=>Ad.pure _) (Ad.ite (Ad.unsupported _) (Ad.boundsPanic _ _ _ _))
  ·exact Ad.boundsPanic _ _ _ _
 dsimp only
 split
 ·exact Ad.bind (Ad.sureAddr _) fun a=>key _ (some a) _ _
 ·exact key _ _ _ _
 ·exact Ad.stuckBind _ _
theorem Qx {P:Program} (s:TypeId) (x:Value) (f:Nat) (h:Hf P s f=true):Ad P (Instr.fieldAt s x f):=by
 unfold Instr.fieldAt Go.underlying
 rw [bind_assoc]
 refine Ad.program ?_
 unfold Hf at h
 cases hd:P.underlying s with
 | none=>exact Ad.stuckBind _ _
 | some d=>
  rw [hd] at h
  dsimp only at h ⊢
  rw [pure_bind]
  cases d <;> try exact Ad.stuck _
  rename_i fs
  dsimp only at h ⊢
  cases y:fs[f]? with
  | none=>exact Ad.stuck _
  | some fl=>
   rw [y] at h
   dsimp only at h ⊢
   refine Ad.bind (Ad.sureAddr _) ?_
   intro a
   refine Ad.bind ?_ fun _=>Ad.pure _
   unfold fieldPlace Go.sizeOf Go.typeInfo
   simp only [bind_assoc]
   refine Ad.program ?_
   cases z:P.info? fl.type with
   | none=>exact Ad.stuckBind _ _
   | some i=>
    rw [z] at h
    dsimp only at h ⊢
    simp only [pure_bind]
    have:i.size≠0:=by simpa using h
    rw [if_neg this]
    exact Ad.pure _
theorem Pe {P:Program} (f:Array TypeId) (ty:TypeId) (args:Array Value) (h:GR P f=true):Ad P (Builtin.len_ f ty args):=by
 unfold Builtin.len_
 unfold GR at h
 cases ht:f[0]? with
 | none=>rw [ht] at h; simp at h
 | some t=>
 rw [ht] at h
 cases y:args[0]? with
 | none=>exact Ad.stuck _
 | some x=>
  dsimp only at h ⊢
  unfold Go.underlying
  rw [bind_assoc]
  refine Ad.program ?_
  cases hd:P.underlying t with
  | none=>exact Ad.stuckBind _ _
  | some d=>
   rw [hd] at h
   dsimp only at h ⊢
   rw [pure_bind]
   cases d <;> first | (simp at h; done) | skip
   all_goals (cases x <;> first | exact Ad.pure _ | exact Ad.stuck _)
theorem Mk {P:Program} (op:BinOp) (t:TypeId) (x y:Operand) (k f:IntKind) (a b:Int):
    Ad P (do eqGuard op t x y (.int k a) (.int f b); binOp op t (.int k a) (.int f b)):=by
  have h:Ad P (eqGuard op t x y (.int k a) (.int f b)):=by
    unfold eqGuard
    cases op <;> exact Ad.pure _
  refine Ad.bind h fun _=>?_
  have z:∀o,Ad P (Op.intArith o k a b):=fun o=>by unfold Op.intArith; split <;> first | exact Ad.pure _ | exact Ad.stuck _
  have C:∀o,Ad P (Op.intDiv o k a b):=fun o=>by
    unfold Op.intDiv; split
    · exact Ad.error _
    · split <;> first | exact Ad.pure _ | exact Ad.stuck _
  have E:∀o,Ad P (Op.intBits o k a b):=fun o=>by unfold Op.intBits; dsimp only; split <;> first | exact Ad.pure _ | exact Ad.stuck _
  have F:∀o,Ad P (Op.intCmp o a b):=fun o=>by unfold Op.intCmp; split <;> first | exact Ad.pure _ | exact Ad.stuck _
  have hS:∀o,Ad P (Op.shift o k a f b):=fun o=>by
    unfold Op.shift; split
    · exact Ad.error _
    · dsimp only; split <;> first | exact Ad.pure _ | exact Ad.stuck _
  cases op <;> simp only [binOp] <;> first
    | exact hS _
    | (split
       · exact Ad.stuck _
       · first | exact z _ | exact C _ | exact E _ | exact F _)
theorem Jr {P:Program} (t:TypeId):Ad P (isAgg t):=by
 unfold isAgg
 refine Ad.bind (Ad.underlying t) fun d=>?_
 split <;> exact Ad.pure _
theorem L0 {P:Program} (t:TypeId) (cs:Array Value) (f:Nat):Ad P (part t cs f):=by
 unfold part
 refine Ad.bind (Jr t) fun b=>?_
 split
 ·exact Ad.bind (Ad.sizeOf _) fun _=>Ad.pure _
 ·split
  ·exact Ad.pure _
  ·exact Ad.stuck _
theorem Qp {P:Program} (l:List FieldStep):∀(t:TypeId) (x:Option Value),Ad P (followBlind l t x):=by
 induction l with
 | nil=>exact fun t x=>Ad.pure _
 | cons s rest ih=>
  intro t x
  unfold followBlind
  refine Ad.bind (Ad.underlying _) fun d=>?_
  split
  ·split
   ·split
    ·exact Ad.pure _
    ·exact ih _ _
    ·exact Ad.stuck _
    ·exact Ad.pure _
    ·exact Ad.bind (L0 _ _ _) fun _=>ih _ _
    ·exact Ad.stuck _
    ·exact ih _ _
   ·exact Ad.stuck _
  ·exact Ad.stuck _
theorem Lu {P:Program} (n:Nat):∀(t:TypeId) (v:Value) (name:String),Ad P (nilAhead n t v name):=by
 induction n with
 | zero=>exact fun _ _ _=>Ad.pure _
 | succ n ih=>
  intro t v name
  unfold nilAhead
  refine Ad.bind (Ad.typeInfo _) fun i=>?_
  split
  ·refine Ad.bind (Qp _ _ _) fun r=>?_
   split
   ·exact Ad.pure _
   ·split
    ·exact ih _ _ _
    ·exact Ad.pure _
    ·exact Ad.stuck _
    ·exact Ad.pure _
    ·exact Ad.pure _
    ·refine Ad.bind (Ad.underlying _) fun d=>?_
     split <;> exact Ad.pure _
  ·exact Ad.stuck _
theorem NX {P:Program} (msg:String) (v:Value):DL P (match v with
  | .pointer none | .nilIface | .nilFunc=>runtimePanic .nilDeref
  | .func (.method name) first captured=>
   match (first[0]?:Option Value) with
   | some .nilIface=>runtimePanic .nilDeref
   | some (.iface t w)=>do
    if (←nilAhead ((←program).types.size+Made.depth) t w name) != some false then
     unsupported (.noEntry msg)
    pure (.value (.func (.method name) first captured))
   | _=>pure (.value (.func (.method name) first captured))
  | x=>pure (.value x)):=by
 have F:∀{s:Sem Next},Ad P s→(∀w r w1,s.run P w=.ok r w1→False)→DL P s:=fun {s} hs hn=>by
  rcases hs with⟨v,z⟩ | f
  ·exact(hn default v default (z default)).elim
  ·exact .inr f
 have h:DL P (runtimePanic .nilDeref:Sem Next):=.inr fun w=>by
  rcases Ad.nilDeref (P:=P) (α:=Next) with⟨v,z⟩ | f
  ·have:=z w
   simp [runtimePanic,goPanic] at this
  ·exact f w
 split
 ·exact h
 ·exact h
 ·exact h
 ·split
  ·exact h
  ·rename_i name first captured _ t w _
   rcases Lu (P:=P) (P.types.size+Made.depth) t w name with⟨r,C⟩ | f
   ·by_cases E:(r != some false)=true
    ·exact .inr fun w=>by
      simp only [Sem.run_bind,run_program,Result.andThen_ok,C,E,if_true]
      exact⟨_,_,rfl⟩
    ·refine .inl ⟨.func (.method name) first captured,fun w=>?_⟩
     simp only [Sem.run_bind,run_program,Result.andThen_ok,C,E]
     rfl
   ·exact .inr fun w=>by
     obtain⟨x,y,e⟩:=f w
     simp only [Sem.run_bind,run_program,Result.andThen_ok,e]
     exact⟨_,_,rfl⟩
  ·exact .inl ⟨_,fun _=>rfl⟩
 ·exact .inl ⟨_,fun _=>rfl⟩
theorem QI {P:Program} (o:Oper) (ρ:Operand→Value) (h:FW P o.op=true):DL P (execOp ρ o):=by
  obtain⟨dst,op,type,pos,after,guard⟩:=o
  cases op <;> simp only [FW,Bool.false_eq_true] at h
  case move=>exact .inl ⟨_,fun _=>rfl⟩
  case assign=>exact .inl ⟨_,fun _=>rfl⟩
  case pick c x y=>
    show DL P (asBool (ρ c) >>=fun b=>(Pure.pure (Next.value (if b then ρ x else ρ y)):Sem Next))
    rcases Ad.asBool (P:=P) (ρ c) with⟨v,z⟩ | C
    · exact .inl ⟨if v=true then ρ x else ρ y,fun w=>by rw [Sem.run_bind,z]; rfl⟩
    · exact .inr fun w=>by
        obtain⟨x,y,e⟩:=C w
        exact⟨x,y,by rw [Sem.run_bind,e]; rfl⟩
  case unOp=>exact Ad.valueV (L7 _ _)
  case makeFunc=>exact Ad.valueV (Ad.pure _)
  case fieldAddr=>exact Ad.valueV (Qx _ _ _ h)
  case indexAddr=>exact Ad.valueV (Q9 _ _ _)
  case extract=>exact Ad.valueV (Qj _ _)
  case nilCheck=>exact NX _ _
  case call c=>
    obtain⟨E,args,F⟩:=c
    cases E with
    | builtin b=>cases b <;> first | exact Ad.valueV (Pe _ _ _ h) | (simp at h; done)
    | value f=>simp at h
    | invoke r m=>simp at h
theorem M4 {P:Program} (o:Oper) (ρ:Operand→Value) (h:intOp o.op=true) (f:intFine ρ o.op=true):DL P (execOp ρ o):=by
 obtain⟨dst,op,type,pos,after,guard⟩:=o
 cases op <;> simp only [intOp,Bool.false_eq_true] at h
 rename_i op t x y yt
 show DL P ((do eqGuard op t x y (ρ x) (ρ y); binOp op t (ρ x) (ρ y)) >>=fun v=>(pure (Next.value v):Sem Next))
 simp only [intFine,Bool.and_eq_true] at f
 obtain⟨z,C⟩:=f
 generalize ρ x=u at*
 generalize ρ y=v at*
 cases u <;> simp only [isInt,Bool.false_eq_true] at z
 cases v <;> simp only [isInt,Bool.false_eq_true] at C
 exact Ad.valueV (Mk _ _ _ _ _ _ _ _)
def Cg {α:Type} (P:Program) (s:Sem α):Prop:=
 ∀(w w1:World) (v:α),s.run P w=.ok v w1→w1=w∧∀w',Ext w w'→s.run P w'=.ok v w'
section
variable {α β:Type} {P:Program}
theorem Cg.of_calm {s:Sem α} (h:Ad P s):Cg P s:=fun w w1 v e=>by
 obtain⟨f,y⟩:=h.ok e
 exact⟨f,fun w' _=>y w'⟩
theorem Cg.bind {s:Sem α} {f:α→Sem β} (C:Cg P s) (E:∀v,Cg P (f v)):Cg P (s >>=f):=by
 intro w w1 v e
 rw [Sem.run_bind] at e
 cases h:s.run P w with
 | halt x y=>rw [h] at e; cases e
 | ok u w2=>
  rw [h] at e
  obtain⟨rfl,F⟩:=C w w2 u h
  obtain⟨rfl,G⟩:=E u w2 w1 v e
  exact⟨rfl,fun w' z=>by rw [Sem.run_bind,F w' z]; exact G w' z⟩
theorem PA {w w':World} (h:Ext w w') {a:Addr} {v:Value} (f:w.cell? a=some v):w'.cell? a=some v:=by
 unfold World.cell? at f ⊢
 cases y:w.heap[a.block]? with
 | none=>rw [y] at f; cases f
 | some o=>rw [y] at f; rw [h.some y]; exact f
theorem Km {w w':World} (h:Ext w w') (at_:Addr) (u:TypeId) (k:Addr) (b:Bool) {x:Array Value×TypeId×(Nat×Nat)×Nat×Value×List (Nat×Nat×List UInt8)}
  (f:w.seen P at_ u k b=.ok x):w'.seen P at_ u k b=.ok x:=by
 cases y:w.heap[at_.block]? with
 | some o=>
  have z:=h.some y
  unfold World.seen at f ⊢
  rw [y] at f
  rw [z]
  exact f
 | none=>
  exfalso
  unfold World.seen at f
  rw [y] at f
  simp only [bind,Except.bind,throwThe,MonadExceptOf.throw,MonadExcept.throw] at f
  repeat' (split at f)
  all_goals first | (cases f; done) | (simp at f; done)
theorem Mc {w w':World} (h:Ext w w') (at_:Addr) (u:TypeId) (k:Addr) (b:Bool) {x:Value×List Addr}
  (f:w.viewLoad P at_ u k b=.ok x):w'.viewLoad P at_ u k b=.ok x:=by
 unfold World.viewLoad at f ⊢
 cases z:w.seen P at_ u k b with
 | error e=>rw [z] at f; cases f
 | ok y=>rw [z] at f; rw [Km h at_ u k b z]; exact f
theorem JO (a:Addr) (m:Mode):Cg P (Go.load a m):=by
 intro w w1 v e
 simp only [Go.load,Sem.run] at e ⊢
 cases z:w.cell? a with
 | some u=>
  rw [z] at e
  simp only [Result.ok.injEq] at e
  obtain⟨rfl,rfl⟩:=e
  exact⟨rfl,fun w' h=>by rw [PA h z]⟩
 | none=>
  rw [z] at e
  dsimp only at e
  cases C:w.farLoad P a (m==.atomic) with
  | error x=>rw [C] at e; cases e
  | ok y=>
   rw [C] at e
   obtain⟨y,l⟩:=y
   simp only [Result.ok.injEq] at e
   obtain⟨rfl,rfl⟩:=e
   refine⟨rfl,fun w' h=>?_⟩
   have f:=C
   unfold World.farLoad at f
   split at f
   ·rename_i at_ u ho
    have E:=h.some ho
    have F:w'.cell? a=none:=by unfold World.cell?; rw [E]
    rw [F]
    dsimp only
    have:w'.farLoad P a (m==.atomic)=.ok (y,l):=by
     unfold World.farLoad
     rw [E]
     dsimp only
     split at f
     ·rename_i r hr
      rw [Mc h _ _ _ _ hr]
      exact f
     ·cases f
    rw [this]
   ·cases f
theorem NV (a:Addr) (n:Nat):∀(i:Nat) (acc:Array Value),Cg P (loadCellsFrom a i n acc):=by
 induction n with
 | zero=>exact fun i acc=>Cg.of_calm (Ad.pure _)
 | succ n ih=>exact fun i acc=>Cg.bind (JO _ _) fun v=>ih _ _
theorem Mu (t:TypeId) (v:Value):Cg P (Instr.loadAt t v):=by
 unfold Instr.loadAt
 refine Cg.bind (Cg.of_calm (Ad.sureAddr _)) fun a=>?_
 unfold loadVar
 refine Cg.bind (Cg.of_calm (Jr t)) fun b=>?_
 split
 ·exact Cg.bind (Cg.of_calm (Ad.sizeOf _)) fun n=>Cg.bind (NV _ _ _ _) fun c=>Cg.of_calm (Ad.pure _)
 ·exact JO _ _
def Bl:Op→Bool
 | .load ..=>true
 | _=>false
theorem Im (o:Oper) (ρ:Operand→Value) (h:Bl o.op=true):∃s:Sem Value,Cg P s∧execOp ρ o=(s >>=fun v=>(Pure.pure (Next.value v):Sem Next)):=by
 obtain⟨dst,op,type,pos,after,guard⟩:=o
 cases op <;> simp only [Bl,Bool.false_eq_true] at h
 exact⟨_,Mu _ _,rfl⟩
theorem GO {s:Sem Value} {w w1:World} {r:Next} (h:(s >>=fun v=>(Pure.pure (Next.value v):Sem Next)).run P w=.ok r w1):∃u,r=.value u∧s.run P w=.ok u w1:=by
 rw [Sem.run_bind] at h
 cases f:s.run P w with
 | halt x y=>rw [f] at h; cases h
 | ok u w2=>
  rw [f] at h
  simp only [Result.andThen_ok,Sem.run_pure,Result.ok.injEq] at h
  obtain⟨rfl,rfl⟩:=h
  exact⟨u,rfl,rfl⟩
theorem JZ {s:Sem Value} {w w1:World} {u:Value} (h:s.run P w=.ok u w1):(s >>=fun v=>(Pure.pure (Next.value v):Sem Next)).run P w=.ok (.value u) w1:=by
 rw [Sem.run_bind,h]; rfl
def Bv (P:Program) (s:Sem α):Prop:=∀(w w1:World) (v:α),s.run P w=.ok v w1→Ext w w1∧w.heap.size≤w1.heap.size
theorem Bv.of_calm {s:Sem α} (h:Ad P s):Bv P s:=fun w w1 v e=>by
 obtain⟨rfl,_⟩:=h.ok e
 exact⟨Ext.refl _,Nat.le_refl _⟩
theorem Ext.trans {a b c:World} (h:Ext a b) (y:a.heap.size≤b.heap.size) (k:Ext b c):Ext a c:=fun i f=>(k i (by omega)).trans (h i f)
theorem Bv.bind {s:Sem α} {f:α→Sem β} (z:Bv P s) (C:∀v,Bv P (f v)):Bv P (s >>=f):=by
 intro w w1 v e
 rw [Sem.run_bind] at e
 cases h:s.run P w with
 | halt x y=>rw [h] at e; cases e
 | ok u w2=>
  rw [h] at e
  obtain⟨E,F⟩:=z w w2 u h
  obtain⟨G,I⟩:=C u w2 w1 v e
  exact⟨E.trans F G,by omega⟩
theorem Rl (o:Obj):Bv P (newObj o):=by
 intro w w1 v e
 simp only [newObj,Sem.run,Result.ok.injEq] at e
 obtain⟨_,rfl⟩:=e
 refine⟨fun k hk=>?_,by simp⟩
 show(w.heap.push o)[k]?=_
 rw [Array.getElem?_push,if_neg (by omega)]
theorem Gl (t:TypeId) (c:Array Value):Bv P (newRow t c):=Bv.bind (Rl _) fun _=>Bv.of_calm (Ad.pure _)
theorem JT (t:TypeId):Ad P (zeroValue t):=by
 unfold zeroValue
 refine Ad.bind (Ad.typeInfo t) fun i=>?_
 split
 ·exact Ad.pure _
 ·exact Ad.unsupported _
theorem N9 (t:TypeId):Bv P (Instr.alloc t true (.tuple #[])):=by
 unfold Instr.alloc
 exact Bv.bind (Bv.of_calm (JT t)) fun v=>Bv.bind (Gl _ _) fun _=>Bv.of_calm (Ad.pure _)
theorem K1 (t:TypeId) (v:Value):Bv P (Instr.box t v):=Bv.bind (Gl _ _) fun _=>Bv.of_calm (Ad.pure _)
theorem Kg (t:TypeId) (n:Nat) (ps:Array (Nat×Value)):Bv P (Instr.buildSlice t n ps):=by
 unfold Instr.buildSlice
 refine Bv.bind (Bv.of_calm (Ad.underlying t)) fun d=>?_
 split
 ·rename_i elem
  refine Bv.bind (Bv.of_calm (Ad.sizeOf _)) fun z=>?_
  dsimp only
  split
  ·exact Bv.of_calm (Ad.haltBind _ _)
  ·have key:∀(msg:String) (zero:Array Value),Bv P (match
     Instr.fill (fun i=>some (i*z,z)) (Array.map (fun x=>zero[x % zero.size]!) (Array.range (n*z))) ps.toList with
    | some cells=>do
     let r ←newRow elem cells
     pure (Value.slice (some r) n n)
    | _=>Go.stuck msg):=fun msg zero=>by
    split
    ·exact Bv.bind (Gl _ _) fun _=>Bv.of_calm (Ad.pure _)
    ·exact Bv.of_calm (Ad.stuck _)
   split
   ·rw [pure_bind]; exact key _ _
   ·exact Bv.bind (Bv.of_calm (JT _)) fun _=>by rw [pure_bind]; exact key _ _
 ·exact Bv.of_calm (Ad.stuck _)
def Fw:Op→Bool
 | .alloc _ | .box .. | .buildSlice ..=>true
 | _=>false
theorem Ku (o:Oper) (ρ:Operand→Value) (h:Fw o.op=true):∃s:Sem Value,Bv P s∧execOp ρ o=(s >>=fun v=>(Pure.pure (Next.value v):Sem Next)):=by
 obtain⟨dst,op,type,pos,after,guard⟩:=o
 cases op <;> simp only [Fw,Bool.false_eq_true] at h
 case alloc=>exact⟨_,N9 _,rfl⟩
 case box=>exact⟨_,K1 _ _,rfl⟩
 case buildSlice=>exact⟨_,Kg _ _ _,rfl⟩
end
end Reg
end Go.Proofs.YtlakpndhhelliaaGreatDoor
namespace Go.Proofs.YtlakpndhhelliaaGreatDoor
namespace Reg
theorem Kv (f:Array Value) (d t:Nat) (v:Value) (h:d≠t):(f.setIfInBounds d v)[t]?=f[t]?:=by
 rw [Array.getElem?_setIfInBounds_ne h]
def dis (d:Option Tmp) (l:List Tmp):Bool:=match d with | some x=>!l.contains x | none=>true
def DN (d d':Option Tmp):Bool:=match d,d' with | some x,some y=>x != y | _,_=>true
theorem Hr (a:Act) (d:Option Tmp) (v:Value) (t:Tmp) (h:d≠some t):(a.put d v).tmps[t]?=a.tmps[t]?:=by
 cases d with
 | none=>rfl
 | some x=>exact Kv _ _ _ _ (fun e=>h (by rw [e]))
theorem EF {d:Option Tmp} {l:List Tmp} (h:dis d l=true) {t:Tmp} (ht:t∈l):d≠some t:=by
 rintro rfl
 simp [dis] at h
 exact h ht
def JH (o:Op):List Tmp:=o.operands.toList.filterMap fun | .tmp t=>some t | _=>none
def Jm (ops:Array Oper) (o:Oper):List Tmp:=
 match o.guard with
 | some (j,_)=>((ops[j]?).bind (·.dst)).toList
 | none=>[]
def BO (ops:Array Oper) (o:Oper):List Tmp:=Jm ops o++JH o.op
def CE (ops:Array Oper) (o:Oper) (a b:Act):Prop:=∀t∈BO ops o,a.tmps[t]?=b.tmps[t]?
theorem CE.symm {ops:Array Oper} {o:Oper} {a b:Act} (h:CE ops o a b):CE ops o b a:=fun t ht=>(h t ht).symm
theorem CE.trans {ops:Array Oper} {o:Oper} {a b c:Act} (h:CE ops o a b) (k:CE ops o b c):CE ops o a c:=fun t ht=>(h t ht).trans (k t ht)
theorem Eu {ops:Array Oper} {o:Oper} {a b:Act} (h:CE ops o a b):∀x∈o.op.operands.toList,a.eval x=b.eval x:=by
 intro x y
 cases x with
 | tmp t=>
  have ht:t∈BO ops o:=by
   unfold BO
   refine List.mem_append.2 (.inr ?_)
   unfold JH
   exact List.mem_filterMap.2 ⟨.tmp t,y,rfl⟩
  have:=h t ht
  simp only [Act.eval,Array.getD_eq_getD_getElem?,this]
 | const v=>rfl
 | global g=>rfl
 | func f=>rfl
theorem DF {ops:Array Oper} {o:Oper} {a b:Act} (h:CE ops o a b):Region.wanted o (yielded ops a.tmps)=Region.wanted o (yielded ops b.tmps):=by
 unfold Region.wanted
 cases f:o.guard with
 | none=>rfl
 | some g=>
  obtain⟨j,y⟩:=g
  dsimp only
  have:yielded ops a.tmps j=yielded ops b.tmps j:=by
   unfold yielded
   cases hd:(ops[j]?).bind (·.dst) with
   | none=>rfl
   | some t=>
    have ht:t∈BO ops o:=by
     unfold BO Jm
     rw [f]
     exact List.mem_append.2 (.inl (by simp [hd]))
    simp only [Option.bind_some,h t ht]
  rw [this]
def Dg:Op→Bool
 | .move _ | .assign _ | .pick .. | .alloc _ | .box .. | .build .. | .buildSlice .. | .load .. | .store .. | .nilCheck _ | .binOp .. | .unOp .. | .convert .. | .makeInterface .. | .makeFunc .. | .makeMap ..
 | .makeSlice .. | .slice .. | .fieldAddr .. | .field .. | .indexAddr .. | .index .. | .lookup .. | .mapUpdate .. | .extract .. | .call _=>true
 | _=>false
theorem Jh (l:Array (Nat×Operand)) (ρ f:Operand→Value) (h:∀x∈(l.toList.map (·.2)),ρ x=f x):
  (l.map fun(i,x)=>(i,ρ x))=(l.map fun(i,x)=>(i,f x)):=by
 refine Array.map_congr_left fun p y=>?_
 obtain⟨i,x⟩:=p
 have:=h x (List.mem_map.2 ⟨(i,x),by simpa using y,rfl⟩)
 simp only [this]
theorem Gz (l:Array Operand) (ρ f:Operand→Value) (h:∀x∈l.toList,ρ x=f x):l.map ρ=l.map f:=
 Array.map_congr_left fun x y=>h x (by simpa using y)
theorem Gh (l:Option Operand) (ρ f:Operand→Value) (h:∀x∈l.toList,ρ x=f x):l.map ρ=l.map f:=by
 cases l with
 | none=>rfl
 | some x=>simp [h x (by simp)]
theorem Ft (o:Oper) (ρ z:Operand→Value) (hk:Dg o.op=true) (h:∀x∈o.op.operands.toList,ρ x=z x):execOp ρ o=execOp z o:=by
 obtain⟨dst,op,type,pos,after,guard⟩:=o
 dsimp only at h hk
 cases op <;> simp only [Dg,Bool.false_eq_true] at hk
 case build t ps=>simp only [execOp]; rw [Jh ps ρ z (by simpa [Op.operands] using h)]
 case buildSlice t n ps=>simp only [execOp]; rw [Jh ps ρ z (by simpa [Op.operands] using h)]
 case makeFunc fn f c=>
  simp only [Op.operands,Array.toList_append,List.mem_append] at h
  simp only [execOp]
  rw [Gz f ρ z (fun x y=>h x (.inl y)),Gz c ρ z (fun x y=>h x (.inr y))]
 case makeMap t r=>simp only [execOp]; rw [Gh r ρ z (by simpa [Op.operands] using h)]
 case slice t x lo hi mx=>
  simp only [Op.operands,Array.toList_append,List.mem_append] at h
  simp only [execOp]
  rw [h x (by simp),Gh lo ρ z (fun x y=>h x (by simp at y; simp [y])),Gh hi ρ z (fun x y=>h x (by simp at y; simp [y])),Gh mx ρ z (fun x y=>h x (by simp at y; simp [y]))]
 case call c=>
  obtain⟨C,args,F⟩:=c
  simp only [Op.operands,Call.operands,Array.toList_append,List.mem_append] at h
  have E:=Gz args ρ z fun x y=>h x (.inr y)
  simp only [execOp,resolve,E]
  cases C with
  | builtin b=>rfl
  | value f=>simp only [h f (.inl (by simp))]
  | invoke r m=>simp only [h r (.inl (by simp))]
 all_goals (simp only [Op.operands,List.mem_cons,List.not_mem_nil,or_false,forall_eq_or_imp,forall_eq] at h; try simp only [execOp,h])
abbrev Bj:=Exit→Act→World→Prop
def NoQ (Q:Bj):Prop:=(∀c a w,¬Q (.panic c) a w)∧(∀a w,¬Q .outgrown a w)
def upd (a:Act) (d:Option Tmp) (ds:List Deferred) (v:Value):Act:={ tmps:=(a.put d v).tmps,defers:=ds++a.defers }
theorem Cw (a:Act) (d:Option Tmp) (v:Value):upd a d [] v=a.put d v:=by
 cases d <;> rfl
theorem Hd (a:Act) (d:Option Tmp) (x:Deferred) (v:Value):upd a d [x] v=({ a with defers:=x::a.defers }:Act).put d v:=by
 cases d <;> rfl
theorem F3 (a:Act) (d:Option Tmp) (ds:List Deferred) (v:Value) (t:Tmp) (h:d≠some t):(upd a d ds v).tmps[t]?=a.tmps[t]?:=Hr a d v t h
theorem EU {ops:Array Oper} {o:Oper} {d:Option Tmp} (h:dis d (BO ops o)=true) (a:Act) (ds:List Deferred) (v:Value):CE ops o (upd a d ds v) a:=
 fun _ ht=>F3 _ _ _ _ _ (EF h ht)
theorem D1 {ops:Array Oper} {o:Oper} {d:Option Tmp} (h:dis d (BO ops o)=true) (a:Act) (v:Value):CE ops o (a.put d v) a:=
 fun _ ht=>Hr _ _ _ _ (EF h ht)
theorem GV {d f:Option Tmp} (h:DN d f=true) (a:Act) (ds:List Deferred) (u v:Value):upd (a.put d u) f ds v=(upd a f ds v).put d u:=by
 cases d with
 | none=>rfl
 | some x=>
  cases f with
  | none=>rfl
  | some y=>
   have z:x≠y:=by simpa [DN] using h
   simp only [upd,Act.put]
   congr 1
   exact(Array.setIfInBounds_comm _ _ z)
theorem GU {d f:Option Tmp} (h:DN d f=true) (a:Act) (u v:Value):(a.put d u).put f v=(a.put f v).put d u:=by
 rw [←Cw,GV h,Cw]
section
variable {P:Program} {Q Q':Bj} {o:Oper} {a a':Act} {w:World} {N N':Act→World→Prop}
theorem Er (hQ:NoQ Q) {r:Result Next} (h:o.upon P a N Q r) (z:∀v ds w',N (upd a o.dst ds v) w'→N' (upd a' o.dst ds v) w'):o.upon P a' N' Q' r:=by
  cases r with
  | halt x w'=>cases x <;> first | exact h | exact absurd h (hQ.1 _ _ _)
  | ok x w'=>
    cases x with
    | value v=>
      have:=z v [] w' (by rw [Cw]; exact h)
      rw [Cw] at this; exact this
    | skip=>
      have:=z undef [] w' (by rw [Cw]; exact h)
      rw [Cw] at this; exact this
    | enter f args=>
      refine Calls.mono (R:=fun
        | .returned v,w''=>N (a.put o.dst v) w''
        | .panicked chain,w''=>Q (.panic chain) a w''
        | .outgrown,_=>LetsOut Q) h ?_
      intro e w'' C
      cases e with
      | returned v=>
        have:=z v [] w'' (by rw [Cw]; exact C)
        rw [Cw] at this; exact this
      | panicked c=>exact absurd C (hQ.1 _ _ _)
      | outgrown=>obtain⟨x,y,E⟩:=C; exact absurd E (hQ.2 _ _)
    | row s args=>
      refine Rows.mono (R:=fun v w''=>N (a.put o.dst v) w'') h ?_
      intro v w'' C
      have:=z v [] w'' (by rw [Cw]; exact C)
      rw [Cw] at this; exact this
    | _=>
      first
      | exact h
      | (rename_i d
         have:=z undef [d] w' (by rw [Hd]; exact h)
         rw [Hd] at this; exact this)
theorem FI (hQ:NoQ Q) {r:Result Next} (h:o.upon P a N Q r):∃v ds w',N (upd a o.dst ds v) w':=by
 cases r with
 | halt x w'=>cases x <;> first | exact h.elim | exact absurd h (hQ.1 _ _ _)
 | ok x w'=>
  cases x with
  | value v=>exact⟨v,[],w',by rw [Cw]; exact h⟩
  | skip=>exact⟨undef,[],w',by rw [Cw]; exact h⟩
  | enter f args=>
   obtain⟨e,w'',fr,z,_⟩:=h []
   cases e with
   | returned v=>exact⟨v,[],w'',by rw [Cw]; exact z⟩
   | panicked c=>exact absurd z (hQ.1 _ _ _)
   | outgrown=>obtain⟨x,y,C⟩:=z; exact absurd C (hQ.2 _ _)
  | row s args=>
   obtain⟨v,w'',z,_⟩:=h default []
   exact⟨v,[],w'',by rw [Cw]; exact z⟩
  | _=>
   first
   | exact h.elim
   | (rename_i d; exact⟨undef,[d],w',by rw [Hd]; exact h⟩)
end
def D2 (P:Program) (ib:Bool) (o:Oper):Bool:=FW P o.op||(ib&&intOp o.op)
def eff (P:Program) (ib:Bool) (o:Oper):Bool:=!D2 P ib o&&!Bl o.op&&!Fw o.op
def Bo (P:Program) (ib:Bool) (ops:Array Oper) (Q:Bj) (o:Oper) (N:Act→World→Prop) (a:Act) (w:World):Prop:=
 if Region.wanted o (yielded ops a.tmps)=true then ((ib&&intOp o.op)=true→intFine a.eval o.op=true)∧o.wp P a w N Q else N (a.put o.dst undef) w
theorem E9 {ops:Array Oper} {o:Oper} {a b:Act} (h:CE ops o a b):intFine a.eval o.op=intFine b.eval o.op:=by
 have f:=Eu h
 cases y:o.op <;> simp only [intFine]
 rw [y] at f
 simp only [Op.operands] at f
 rw [f _ (by simp),f _ (by simp)]
section
variable {P:Program} {ib:Bool} {ops:Array Oper} {Q:Bj} (hQ:NoQ Q) {o:Oper} {a a' b:Act} {w:World} {N N':Act→World→Prop}
include hQ
theorem DZ (h:Bo P ib ops Q o N a w) (f:∀v ds w',N (upd a o.dst ds v) w'→N' (upd a o.dst ds v) w'):Bo P ib ops Q o N' a w:=by
 unfold Bo at h ⊢
 split
 ·rename_i hw
  rw [if_pos hw] at h
  exact⟨h.1,Er hQ h.2 f⟩
 ·rename_i hw
  rw [if_neg hw] at h
  have:=f undef [] w (by rw [Cw]; exact h)
  rwa [Cw] at this
theorem Qy (h:Bo P ib ops Q o N a w):∃v ds w',N (upd a o.dst ds v) w':=by
 unfold Bo at h
 split at h
 ·exact FI hQ h.2
 ·exact⟨undef,[],w,by rw [Cw]; exact h⟩
theorem HW (hk:Dg o.op=true) {d:Option Tmp} (hd:dis d (BO ops o)=true) (z:DN d o.dst=true) (u:Value) (h:Bo P ib ops Q o N (a.put d u) w):
  Bo P ib ops Q o (fun x w'=>N (x.put d u) w') a w:=by
 have f:=D1 hd a u
 unfold Bo at h ⊢
 rw [DF f] at h
 split
 ·rename_i hw
  rw [if_pos hw] at h
  refine⟨fun E=>by rw [←E9 f]; exact h.1 E,?_⟩
  have y:=h.2
  unfold Oper.wp at y ⊢
  rw [Ft o _ _ hk (Eu f)] at y
  exact Er hQ y fun v ds w' C=>by rw [GV z] at C; exact C
 ·rename_i hw
  rw [if_neg hw] at h
  rw [GU z] at h
  exact h
theorem PG (hk:Dg o.op=true) {d:Option Tmp} (hd:dis d (BO ops o)=true) (y:DN d o.dst=true) (u:Value) (h:Bo P ib ops Q o (fun x w'=>N (x.put d u) w') a w):
  Bo P ib ops Q o N (a.put d u) w:=by
 have f:=D1 hd a u
 unfold Bo at h ⊢
 rw [DF f]
 split
 ·rename_i hw
  rw [if_pos hw] at h
  refine⟨fun C=>by rw [E9 f]; exact h.1 C,?_⟩
  have z:=h.2
  unfold Oper.wp at z ⊢
  rw [Ft o _ _ hk (Eu f)]
  exact Er hQ z fun v ds w' E=>by rw [GV y]; exact E
 ·rename_i hw
  rw [if_neg hw] at h
  rw [GU y]
  exact h
theorem JK (hk:Dg o.op=true) (E:D2 P ib o=true) (h:Bo P ib ops Q o N b w):
  ∃u,N (b.put o.dst u) w∧∀(a:Act) (w':World) (M:Act→World→Prop),CE ops o a b→(Bo P ib ops Q o M a w'↔M (a.put o.dst u) w'):=by
 unfold Bo at h
 split at h
 ·rename_i hw
  have G:DL P (execOp b.eval o):=by
   simp only [D2,Bool.or_eq_true] at E
   by_cases f:(ib&&intOp o.op)=true
   ·exact M4 o _ (by simp only [Bool.and_eq_true] at f; exact f.2) (h.1 f)
   ·exact QI o _ (E.resolve_right f)
  have z:=h.2
  unfold Oper.wp at z
  rcases G with⟨u,F⟩ | I
  ·rw [F] at z
   refine⟨u,z,fun a w' M C=>?_⟩
   unfold Bo
   rw [DF C,if_pos hw]
   unfold Oper.wp
   rw [Ft o _ _ hk (Eu C),F]
   exact⟨fun x=>x.2,fun x=>⟨fun f=>by rw [E9 C]; exact h.1 f,x⟩⟩
  ·obtain⟨x,y,e⟩:=I w
   rw [e] at z
   cases x <;> first | exact z.elim | exact absurd z (hQ.1 _ _ _)
 ·rename_i hw
  refine⟨undef,h,fun a w' M C=>?_⟩
  unfold Bo
  rw [DF C,if_neg hw]
def CI (P:Program) (ops:Array Oper) (o:Oper) (a:Act) (w w':World):Prop:=
 Region.wanted o (yielded ops a.tmps)=true→∀v,(execOp a.eval o).run P w=.ok (.value v) w→(execOp a.eval o).run P w'=.ok (.value v) w'
omit hQ in
theorem FT (hk:Dg o.op=true) (f:CE ops o a b) {w w':World} (h:CI P ops o a w w'):CI P ops o b w w':=by
 unfold CI at h ⊢
 rw [Ft o _ _ hk (Eu f),DF f] at h
 exact h
omit hQ in
theorem Ge (z:Bl o.op=true) {w w':World} (h:Ext w w'):CI P ops o a w w':=by
 intro _ v y
 obtain⟨s,C,E⟩:=Im (P:=P) o a.eval z
 rw [E] at y ⊢
 obtain⟨u,f,F⟩:=GO y
 injection f with f
 subst f
 exact JZ ((C w w v F).2 w' h)
theorem Hs (hk:Dg o.op=true) (E:Bl o.op=true) (h:Bo P ib ops Q o N b w):
  ∃u,N (b.put o.dst u) w∧∀(a:Act) (w':World) (M:Act→World→Prop),CE ops o a b→CI P ops o a w w'→M (a.put o.dst u) w'→Bo P ib ops Q o M a w':=by
 have I:intOp o.op=false:=by
  cases J:o.op <;> rw [J] at E <;> simp only [Bl,Bool.false_eq_true] at E <;> rfl
 unfold Bo at h
 split at h
 ·rename_i hw
  have f:=h.2
  unfold Oper.wp at f
  obtain⟨s,O,G⟩:=Im (P:=P) o b.eval E
  cases z:(execOp b.eval o).run P w with
  | halt x y=>
   rw [z] at f
   cases x <;> first | exact f.elim | exact absurd f (hQ.1 _ _ _)
  | ok r w1=>
   rw [z] at f
   rw [G] at z
   obtain⟨u,rfl,U⟩:=GO z
   obtain⟨rfl,_⟩:=O _ _ _ U
   refine⟨u,f,fun a w' M C V F=>?_⟩
   unfold Bo
   rw [DF C,if_pos hw]
   refine⟨fun W=>absurd W (by rw [I]; simp),?_⟩
   unfold Oper.wp
   have Z:=V (by rw [DF C]; exact hw) u (by rw [Ft o _ _ hk (Eu C),G]; exact z)
   rw [Z]
   exact F
 ·rename_i hw
  refine⟨undef,h,fun a w' M C _ F=>?_⟩
  unfold Bo
  rw [DF C,if_neg hw]
  exact F
theorem MB (C:Fw o.op=true) (h:Bo P ib ops Q o N a w):Bo P ib ops Q o (fun x w'=>N x w'∧Ext w w') a w:=by
 unfold Bo at h ⊢
 split
 ·rename_i hw
  rw [if_pos hw] at h
  refine⟨h.1,?_⟩
  have f:=h.2
  unfold Oper.wp at f ⊢
  obtain⟨s,E,F⟩:=Ku (P:=P) o a.eval C
  cases z:(execOp a.eval o).run P w with
  | halt x y=>
   rw [z] at f
   cases x <;> first | exact f.elim | exact absurd f (hQ.1 _ _ _)
  | ok r w1=>
   rw [z] at f
   rw [F] at z
   obtain⟨u,rfl,G⟩:=GO z
   exact⟨f,(E _ _ _ G).1⟩
 ·rename_i hw
  rw [if_neg hw] at h
  exact⟨h,Ext.refl _⟩
end
def Obl (P:Program) (ib:Bool) (ops:Array Oper) (bef:Nat→Nat→Bool) (D:Nat→Prop) (i:Nat) (b:Act) (w w':World):Prop:=
 ∀o,ops[i]?=some o→eff P ib o=true→∀r q,D r→ops[r]?=some q→Bl q.op=true→bef r i=false→CI P ops q b w w'
def WT (P:Program) (ib:Bool) (ops:Array Oper) (bef:Nat→Nat→Bool) (Q:Bj):(Nat→Prop)→List Nat→Act→World→Prop
 | _,[],a,w=>Q .normal a w
 | D,i::l,a,w=>∃o,ops[i]?=some o∧Bo P ib ops Q o (fun b w'=>Obl P ib ops bef D i b w w'∧WT P ib ops bef Q (fun k=>k=i∨D k) l b w') a w
def Fx (P:Program) (ib:Bool) (ops:Array Oper) (x y:Oper):Bool:=
 dis x.dst (BO ops y)&&dis y.dst (BO ops x)&&DN x.dst y.dst&&(D2 P ib x||D2 P ib y||Bl x.op)
section
variable {P:Program} {ib:Bool} {ops:Array Oper} {bef:Nat→Nat→Bool} {Q:Bj} (hQ:NoQ Q)
theorem Jz {d f:Option Tmp} (h:DN d f=true):DN f d=true:=by
 cases d <;> cases f <;> first | rfl | (simp only [DN,bne_iff_ne,ne_eq] at h ⊢; exact fun e=>h e.symm)
theorem NJ (A B:Nat) (D:Nat→Prop):(fun k=>k=A∨k=B∨D k)=(fun k=>k=B∨k=A∨D k):=by
 funext k; exact propext ⟨fun h=>by rcases h with h | h | h <;> simp [h],fun h=>by rcases h with h | h | h <;> simp [h]⟩
include hQ in
theorem Pv {A B:Nat} {M f:Oper} (Z:ops[A]?=some M) (hB:ops[B]?=some f) (aa:Dg M.op=true) (ab:Dg f.op=true) (hc:Fx P ib ops M f=true) (ax:bef A B=false)
  {D:Nat→Prop} (hD:∀r q,D r→ops[r]?=some q→Bl q.op=true→Dg q.op=true∧dis M.dst (BO ops q)=true∧dis f.dst (BO ops q)=true)
  (ay:Bl M.op=true→dis M.dst (BO ops M)=true)
  {l:List Nat} {a:Act} {w:World} (h:WT P ib ops bef Q D (A::B::l) a w):WT P ib ops bef Q D (B::A::l) a w:=by
 simp only [Fx,Bool.and_eq_true] at hc
 obtain⟨⟨⟨a3,ad⟩,ae⟩,az⟩:=hc
 obtain⟨y,ap,h⟩:=h
 obtain rfl:y=M:=by rw [Z] at ap; injection ap with e; exact e.symm
 have a5:∀(i:Nat) (o:Oper),ops[i]?=some o→eff P ib o=false→∀(E:Nat→Prop) (b:Act) (w w':World),Obl P ib ops bef E i b w w':=fun i o C U E b w w' o' aq ar=>by
  rw [C] at aq; injection aq with e; subst e; rw [U] at ar; cases ar
 have h':Bo P ib ops Q y (fun b w1=>Obl P ib ops bef D A b w w1∧Bo P ib ops Q f (fun b2 w2=>Obl P ib ops bef (fun k=>k=A∨D k) B b2 w1 w2∧WT P ib ops bef Q (fun k=>k=B∨k=A∨D k) l b2 w2) b w1) a w:=
  DZ hQ h fun v ds w' z=>by
   obtain⟨h1,o,C,O⟩:=z
   rw [hB] at C; injection C with e; subst e
   exact⟨h1,O⟩
 clear h
 refine⟨f,hB,?_⟩
 suffices hs:Bo P ib ops Q f (fun b w1=>Obl P ib ops bef D B b w w1∧Bo P ib ops Q y (fun b2 w2=>Obl P ib ops bef (fun k=>k=B∨D k) A b2 w1 w2∧WT P ib ops bef Q (fun k=>k=B∨k=A∨D k) l b2 w2) b w1) a w from
  DZ hQ hs fun v ds w' z=>⟨z.1,y,Z,by rw [NJ A B D]; exact z.2⟩
 by_cases cB:D2 P ib f=true
 ·-- B is calm
  have eB:eff P ib f=false:=by simp [eff,cB]
  obtain⟨v0,au,w0,_,aA⟩:=Qy hQ h'
  obtain⟨u,_,V⟩:=JK hQ ab cB aA
  refine(V a w _ (EU a3 a au v0).symm).2 ⟨a5 B f hB eB _ _ _ _,?_⟩
  refine PG hQ aa ad (Jz ae) u ?_
  refine DZ hQ h' fun v ds w1 z=>?_
  obtain⟨h1,O⟩:=z
  have F:=(V _ w1 _ ((EU a3 a ds v).trans (EU a3 a au v0).symm)).1 O
  refine⟨fun o C U r q G I J hb=>?_,F.2⟩
  rcases G with rfl | G
  ·rw [hB] at I; injection I with e; subst e
   exfalso
   cases av:f.op <;> rw [av] at J <;> simp only [Bl,Bool.false_eq_true] at J
   simp [D2,FW,intOp,av] at cB
  ·obtain⟨k1,k2,k3⟩:=hD r q G I J
   exact FT k1 (D1 k3 _ _).symm (h1 o C U r q G I J hb)
 ·by_cases cA:D2 P ib y=true
  ·-- A is calm
   have eA:eff P ib y=false:=by simp [eff,cA]
   obtain⟨u,ai,V⟩:=JK hQ aa cA h'
   have O:=HW hQ ab a3 ae u ai.2
   refine DZ hQ O fun v ds w1 z=>?_
   obtain⟨F,W⟩:=z
   refine⟨fun o C U r q G I J hb=>?_,(V _ w1 _ (EU ad a ds v)).2 ⟨a5 A y Z eA _ _ _ _,W⟩⟩
   obtain⟨k1,k2,k3⟩:=hD r q G I J
   exact FT k1 (D1 k2 _ _) (F o C U r q (.inr G) I J hb)
  ·have lA:Bl y.op=true:=by simpa [cA,cB] using az
   have eA:eff P ib y=false:=by simp [eff,lA]
   obtain⟨u,ai,V⟩:=Hs hQ aa lA h'
   by_cases lB:Bl f.op=true
   ·have eB:eff P ib f=false:=by simp [eff,lB]
    obtain⟨u2,aC,hv⟩:=Hs hQ ab lB ai.2
    refine hv a w _ (D1 a3 a u).symm (Ge lB (Ext.refl _)) ⟨a5 B f hB eB _ _ _ _,?_⟩
    refine V _ w _ (D1 ad a u2) (Ge lA (Ext.refl _)) ⟨a5 A y Z eA _ _ _ _,?_⟩
    rw [GU (Jz ae)]
    exact aC.2
   ·have O:=HW hQ ab a3 ae u ai.2
    have fin:∀(v:Value) (ds:List Deferred) (w1:World),Obl P ib ops bef (fun k=>k=A∨D k) B ((upd a f.dst ds v).put y.dst u) w w1→CI P ops y (upd a f.dst ds v) w w1→
      WT P ib ops bef Q (fun k=>k=B∨k=A∨D k) l ((upd a f.dst ds v).put y.dst u) w1→
      Obl P ib ops bef D B (upd a f.dst ds v) w w1∧Bo P ib ops Q y (fun b2 w2=>Obl P ib ops bef (fun k=>k=B∨D k) A b2 w1 w2∧WT P ib ops bef Q (fun k=>k=B∨k=A∨D k) l b2 w2) (upd a f.dst ds v) w1:=by
     intro v ds w1 F aE W
     refine⟨fun o C U r q G I J hb=>?_,V _ w1 _ (EU ad a ds v) aE ⟨a5 A y Z eA _ _ _ _,W⟩⟩
     obtain⟨k1,k2,k3⟩:=hD r q G I J
     exact FT k1 (D1 k2 _ _) (F o C U r q (.inr G) I J hb)
    by_cases mB:Fw f.op=true
    ·refine DZ hQ (MB hQ mB O) fun v ds w1 z=>?_
     obtain⟨⟨F,W⟩,z⟩:=z
     exact fin v ds w1 F (Ge lA z) W
    ·have eB:eff P ib f=true:=by simp [eff,cB,lB,mB]
     refine DZ hQ O fun v ds w1 z=>?_
     obtain⟨F,W⟩:=z
     exact fin v ds w1 F (FT aa (D1 (ay lA) _ _) (F f hB eB A y (.inl rfl) Z lA ax)) W
end
end Reg
end Go.Proofs.YtlakpndhhelliaaGreatDoor
namespace Go.Proofs.YtlakpndhhelliaaGreatDoor
namespace Reg
structure FH (P:Program) (ops:Array Oper) (bef:Nat→Nat→Bool):Prop where
 ok:∀(i:Nat) (o:Oper),ops[i]?=some o→Dg o.op=true
 self:∀(i:Nat) (o:Oper),ops[i]?=some o→Bl o.op=true→dis o.dst (BO ops o)=true
 war:∀(x y:Nat) (ox oy:Oper),x≠y→ops[x]?=some ox→ops[y]?=some oy→Bl ox.op=true→bef y x=false→dis oy.dst (BO ops ox)=true
def Rel (P:Program) (ib:Bool) (ops:Array Oper) (bef:Nat→Nat→Bool) (x y:Nat):Prop:=
 x≠y∧bef y x=false∧(bef x y=true∨∀(ox oy:Oper),ops[x]?=some ox→ops[y]?=some oy→Fx P ib ops ox oy=true)
section
variable {P:Program} {ib:Bool} {ops:Array Oper} {bef:Nat→Nat→Bool} {Q:Bj} (hQ:NoQ Q) (hS:FH P ops bef)
include hQ hS
theorem LB {A:Nat} {U:Oper} (J:ops[A]?=some U) (M:List Nat):∀(f:List Nat) (D:Nat→Prop) (a:Act) (w:World),
  (∀x∈f,∃E,ops[x]?=some E∧bef A x=false∧Fx P ib ops U E=true)→(f++A::M).Pairwise (fun x y=>x≠y∧bef y x=false)→
  (∀r q,D r→ops[r]?=some q→Bl q.op=true→∀y∈f++A::M,∀O,ops[y]?=some O→dis O.dst (BO ops q)=true)→
  WT P ib ops bef Q D (A::(f++M)) a w→WT P ib ops bef Q D (f++A::M) a w:=by
 intro f
 induction f with
 | nil=>intro D a w _ _ _ h; exact h
 | cons x f ih=>
  intro D a w W Z V h
  obtain⟨E,F,a5,hc⟩:=W x (by simp)
  have h1:=Pv hQ J F (hS.ok _ _ J) (hS.ok _ _ F) hc a5 (fun r q z C G=>⟨hS.ok _ _ C,V r q z C G A (by simp) U J,V r q z C G x (by simp) E F⟩) (hS.self _ _ J) h
  obtain⟨o,ho,h2⟩:=h1
  rw [F] at ho; injection ho with e; subst e
  refine⟨E,F,DZ hQ h2 fun v ds w' hz=>⟨hz.1,ih _ _ _ (fun y I=>W y (by simp [I])) (List.Pairwise.of_cons Z) ?_ hz.2⟩⟩
  intro r q z C G y I O a4
  rcases z with rfl | z
  ·have:=(List.pairwise_cons.1 Z).1 y I
   exact hS.war _ _ _ _ this.1 C a4 G this.2
  ·exact V r q z C G y (by simp at I ⊢; exact .inr I) O a4
theorem Jq (T:List Nat):∀(l:List Nat) (D:Nat→Prop) (a:Act) (w:World),l.Perm T→T.Pairwise (Rel P ib ops bef)→(∀x∈T,x<ops.size)→l.Pairwise (fun x y=>x≠y∧bef y x=false)→
  (∀r q,D r→ops[r]?=some q→Bl q.op=true→∀y∈T,∀f,ops[y]?=some f→dis f.dst (BO ops q)=true)→
  WT P ib ops bef Q D T a w→WT P ib ops bef Q D l a w:=by
 induction T with
 | nil=>
  intro l D a w E _ _ _ _ h
  rw [E.eq_nil]
  exact h
 | cons A T ih=>
  intro l D a w E hT a3 V hD h
  have ab:A∈l:=E.symm.subset (by simp)
  obtain⟨z,C,rfl⟩:=List.append_of_mem ab
  have a5:(z++C).Perm T:=by
   have h1:(z++A::C).Perm (A::(z++C)):=List.perm_middle
   exact(List.perm_cons A).1 (h1.symm.trans E)
  obtain⟨oA,W,h2⟩:=h
  have af:(z++C).Pairwise (fun x y=>x≠y∧bef y x=false):=V.sublist (List.Sublist.append_left (List.sublist_cons_self A C) z)
  have a7:=(List.pairwise_cons.1 hT).1
  refine LB hQ hS W C z D a w ?_ V (fun r q F G I y J f M=>hD r q F G I y (E.subset J) f M) ⟨oA,W,DZ hQ h2 fun v ds w' hz=>⟨hz.1,ih _ _ _ _ a5 (List.Pairwise.of_cons hT) (fun x O=>a3 x (by simp [O])) af ?_ hz.2⟩⟩
  ·intro x O
   have a9:x∈T:=a5.subset (by simp [O])
   have hb:bef A x=false:=by
    have:=List.pairwise_append.1 V
    exact(this.2.2 x O A (by simp)).2
   have hR:=a7 x a9
   cases Z:ops[x]? with
   | none=>
    exfalso
    have:=a3 x (by simp [a9])
    rw [Array.getElem?_eq_getElem this] at Z
    cases Z
   | some ox=>
    refine⟨ox,rfl,hb,?_⟩
    rcases hR.2.2 with U | U
    ·rw [hb] at U; cases U
    ·exact U oA ox W Z
  ·intro r q F G I y J f M
   rcases F with rfl | F
   ·have:=a7 y J
    exact hS.war _ _ _ _ this.1 G M I this.2.1
   ·exact hD r q F G I y (by simp [J]) f M
end
def Lin (m:Region.Mode) (ops:Array Oper) (done:List Nat) (l:List Nat):Prop:=
 match l with
 | []=>True
 | i::l=>i<ops.size∧i∉done∧(∀o,ops[i]?=some o→∀e∈o.after.toList,Region.binds m e=true→e.on∈done)∧Lin m ops (i::done) l
theorem QD {m:Region.Mode} {e:Edge} (h:Region.binds .any e=true):Region.binds m e=true:=by
 obtain⟨on,g⟩:=e
 cases g <;> first | rfl | (simp [Region.binds] at h)
theorem JN {m:Region.Mode} {ops:Array Oper} {bef:Nat→Nat→Bool} (f:∀{i j:Nat},j<ops.size→i<ops.size→bef i j=true→
  ∃o,ops[j]?=some o∧∃e∈o.after.toList,Region.binds .any e=true∧(e.on=i∨bef i e.on=true)∧e.on<j) (l:List Nat):∀(done:List Nat),Lin m ops done l→
  (∀j∈done,j<ops.size∧∀i,i<ops.size→bef i j=true→i∈done)→
  l.Pairwise (fun x y=>x≠y∧bef y x=false)∧l.Nodup∧(∀i∈l,i<ops.size∧i∉done):=by
 induction l with
 | nil=>exact fun _ _ _=>⟨List.Pairwise.nil,List.nodup_nil,fun i E=>by simp at E⟩
 | cons i l ih=>
  intro done h hd
  obtain⟨F,O,U,V⟩:=h
  have J:∀k,k<ops.size→bef k i=true→k∈done:=by
   intro k hk W
   obtain⟨o,Z,e,he,a3,G,a9⟩:=f F hk W
   have M:=U o Z e he (QD a3)
   rcases G with rfl | G
   ·exact M
   ·exact(hd _ M).2 k hk G
  obtain⟨p1,p2,z⟩:=ih (i::done) V (by
   intro j C
   rcases List.mem_cons.1 C with rfl | C
   ·exact⟨F,fun k hk f=>List.mem_cons.2 (.inr (J k hk f))⟩
   ·exact⟨(hd j C).1,fun k hk f=>List.mem_cons.2 (.inr ((hd j C).2 k hk f))⟩)
  refine⟨List.pairwise_cons.2 ⟨fun y hy=>?_,p1⟩,List.nodup_cons.2 ⟨fun E=>(z i E).2 (by simp),p2⟩,?_⟩
  ·have I:=z y hy
   refine⟨fun e=>I.2 (by simp [e]),?_⟩
   cases a7:bef y i with
   | false=>rfl
   | true=>exact absurd (List.mem_cons.2 (.inr (J y I.1 a7))) I.2
  ·intro k hk
   rcases List.mem_cons.1 hk with rfl | hk
   ·exact⟨F,O⟩
   ·exact⟨(z k hk).1,fun hn=>(z k hk).2 (List.mem_cons.2 (.inr hn))⟩
def Dr (n:Nat) (done:List Nat):List Nat:=(List.range n).filter fun i=>!done.contains i
theorem N1 {n i:Nat} {done:List Nat} (f:i<n) (hd:i∉done):(Dr n (i::done)).length<(Dr n done).length:=by
 have e:Dr n (i::done)=(Dr n done).filter fun k=>!(k==i):=by
  unfold Dr
  rw [List.filter_filter]
  congr 1
  funext k
  by_cases hk:k=i <;> simp [hk]
 rw [e,List.length_filter_lt_length_iff_exists]
 exact⟨i,by simp [Dr,f,hd],by simp⟩
def GT (m:Region.Mode) (ops:Array Oper):Prop:=
 ∀done:List Nat,(∃i,i<ops.size∧i∉done)→∃i,i<ops.size∧i∉done∧∀o,ops[i]?=some o→∀e∈o.after.toList,Region.binds m e=true→e.on∈done
theorem Qo {m:Region.Mode} {ops:Array Oper} (T:List Nat):∀(y:List Nat),Lin m ops y T→∀done:List Nat,(∀i∈y,i∈done)→(∃i,i∈T∧i∉done)→
  ∃i,i<ops.size∧i∉done∧∀o,ops[i]?=some o→∀e∈o.after.toList,Region.binds m e=true→e.on∈done:=by
 induction T with
 | nil=>exact fun _ _ _ _ h=>by obtain⟨i,f,_⟩:=h; simp at f
 | cons k T ih=>
  intro y h done hd C
  obtain⟨E,O,F,G⟩:=h
  by_cases hk:k∈done
  ·refine ih (k::y) G done (fun i f=>?_) ?_
   ·rcases List.mem_cons.1 f with rfl | f
    ·exact hk
    ·exact hd i f
   ·obtain⟨i,f,z⟩:=C
    rcases List.mem_cons.1 f with rfl | f
    ·exact absurd hk z
    ·exact⟨i,f,z⟩
  ·exact⟨k,E,hk,fun o I e J M=>hd _ (F o I e J M)⟩
theorem G7 {m:Region.Mode} {ops:Array Oper} {T:List Nat} (f:Lin m ops [] T) (y:∀i,i<ops.size→i∈T):GT m ops:=
 fun done ⟨i,z,C⟩=>Qo T [] f done (fun _ h=>by simp at h) ⟨i,y i z,C⟩
theorem M9 {m:Region.Mode} {ops:Array Oper} (hp:GT m ops):∀(fuel t:Nat) (listed:Array Bool) (acc:List Nat),listed.size=ops.size→
  (∀i,i<ops.size→(listed[i]?=some true↔i∈acc))→(∀i∈acc,i<ops.size)→(Dr ops.size acc).length≤fuel→
  ∃l,Region.linearise.go m ops fuel t listed acc=acc.reverse++l∧Lin m ops acc l∧∀i,i<ops.size→i∈acc∨i∈l:=by
 intro fuel
 induction fuel with
 | zero=>
  intro t listed acc _ _ _ hm
  refine⟨[],by simp [Region.linearise.go],trivial,fun i G=>?_⟩
  have h0:Dr ops.size acc=[]:=List.eq_nil_of_length_eq_zero (by omega)
  by_cases z:i∈acc
  ·exact .inl z
  ·exfalso
   have:i∈Dr ops.size acc:=by simp [Dr,G,z]
   rw [h0] at this; simp at this
 | succ fuel ih=>
  intro t listed acc V E W hm
  rw [Region.linearise.go]
  generalize a7:((List.range ops.size).filter fun i=>!listed.getD i true&&((ops[i]?).map (·.after.all fun e=>!Region.binds m e||listed.getD e.on false)).getD false)=rs
  have Z:∀i,i∈rs↔i<ops.size∧i∉acc∧∀o,ops[i]?=some o→∀e∈o.after.toList,Region.binds m e=true→e.on∈acc:=by
   intro i
   rw [←a7,List.mem_filter,List.mem_range]
   constructor
   ·rintro⟨f,h⟩
    have hl:=E i f
    have I:listed[i]?=some (listed[i]'(by omega)):=Array.getElem?_eq_getElem (by omega)
    simp only [Bool.and_eq_true,Bool.not_eq_true'] at h
    obtain⟨h,y⟩:=h
    refine⟨f,fun z=>?_,fun o F e J M=>?_⟩
    ·have:=hl.2 z
     rw [Array.getD_eq_getD_getElem?,this] at h
     simp at h
    ·rw [F] at y
     simp only [Option.map_some,Option.getD_some,Array.all_eq_true'] at y
     have:=y e (by simpa using J)
     rw [M] at this
     simp only [Bool.not_true,Bool.false_or] at this
     rw [Array.getD_eq_getD_getElem?] at this
     by_cases a9:e.on<ops.size
     ·have h4:=E e.on a9
      cases O:listed[e.on]? with
      | none=>rw [O] at this; simp at this
      | some b=>rw [O] at this; simp at this; subst this; exact h4.1 O
     ·rw [Array.getElem?_eq_none (by omega)] at this
      simp at this
   ·rintro⟨f,h,y⟩
    refine⟨f,?_⟩
    have I:listed[i]?=some (listed[i]'(by omega)):=Array.getElem?_eq_getElem (by omega)
    have M:listed[i]'(by omega)=false:=by
     cases C:listed[i]'(by omega) with
     | false=>rfl
     | true=>exact absurd ((E i f).1 (by rw [I,C])) h
    simp only [Bool.and_eq_true,Bool.not_eq_true',Array.getD_eq_getD_getElem?,I,M,Option.getD_some,true_and]
    have F:ops[i]?=some (ops[i]'f):=Array.getElem?_eq_getElem f
    rw [F]
    simp only [Option.map_some,Option.getD_some,Array.all_eq_true']
    intro e J
    cases ab:Region.binds m e with
    | false=>rfl
    | true=>
     have a2:=y _ F e (by simpa using J) ab
     have:=(E e.on (W _ a2)).2 a2
     simp [this]
  cases a3:rs[t % rs.length]? with
  | none=>
   dsimp only
   refine⟨[],by simp,trivial,fun i G=>?_⟩
   by_cases z:i∈acc
   ·exact .inl z
   ·exfalso
    obtain⟨k,f,h,y⟩:=hp acc ⟨i,G,z⟩
    have hk:k∈rs:=(Z k).2 ⟨f,h,y⟩
    have ad:0<rs.length:=List.length_pos_of_mem hk
    rw [List.getElem?_eq_none_iff] at a3
    have:=Nat.mod_lt t ad
    omega
  | some i=>
   dsimp only
   obtain⟨f,h,y⟩:=(Z i).1 (List.mem_of_getElem? a3)
   have hA:∀k,k<ops.size→((listed.setIfInBounds i true)[k]?=some true↔k∈i::acc):=by
    intro k hk
    by_cases U:k=i
    ·subst U
     simp [V,hk]
    ·rw [Array.getElem?_setIfInBounds_ne (fun e=>U e.symm),E k hk]
     simp [U]
   have hB:∀k∈i::acc,k<ops.size:=by
    intro k hk
    rcases List.mem_cons.1 hk with rfl | hk
    ·exact f
    ·exact W k hk
   obtain⟨l,e1,e2,e3⟩:=ih (t / rs.length) (listed.setIfInBounds i true) (i::acc) (by simpa using V) hA hB (by have:=N1 (n:=ops.size) f h; omega)
   refine⟨i::l,by rw [e1]; simp,⟨f,h,y,e2⟩,fun k hk=>?_⟩
   rcases e3 k hk with C | C
   ·rcases List.mem_cons.1 C with rfl | C
    ·exact .inr (by simp)
    ·exact .inl C
   ·exact .inr (by simp [C])
theorem GX {m:Region.Mode} {ops:Array Oper} (y:GT m ops) (t:Nat):Lin m ops [] (Region.linearise m ops t)∧∀i,i<ops.size→i∈Region.linearise m ops t:=by
 obtain⟨l,z,C,E⟩:=M9 y ops.size t (Array.replicate ops.size false) [] (by simp) (fun i f=>by simp [f]) (fun i f=>by simp at f) (by
  unfold Dr
  exact Nat.le_trans (List.length_filter_le _ _) (by simp))
 unfold Region.linearise
 rw [z]
 refine⟨by simpa using C,fun i f=>?_⟩
 rcases E i f with h | h
 ·simp at h
 ·simpa using h
end Reg
end Go.Proofs.YtlakpndhhelliaaGreatDoor
namespace Go.Proofs.YtlakpndhhelliaaGreatDoor
namespace Reg
def Bg (tab:List Nat):Nat→Nat→Bool:=fun i j=>(tab.getD j 0).testBit i
def F5 (ops:Array Oper) (tab:List Nat):Bool:=
 (List.range ops.size).all fun j=>(List.range ops.size).all fun i=>
  !Bg tab i j||(match ops[j]? with
   | some o=>o.after.any fun e=>Region.binds .any e&&(e.on==i||Bg tab i e.on)&&decide (e.on<j)
   | none=>false)
def AR (m:Region.Mode) (ops:Array Oper):List Nat→List Nat→Bool
  | _,[]=>true
  | done,i::l=>decide (i<ops.size)&&!done.contains i&&(match ops[i]? with
      | some o=>o.after.all fun e=>!Region.binds m e||done.contains e.on
      | none=>true)&&AR m ops (i::done) l
def FA (ops:Array Oper) (l:List Nat):Bool:=(List.range ops.size).all fun i=>l.contains i
def Gc (ops:Array Oper):Bool:=
 AR .any ops [] (List.range ops.size)&&
  (!Region.departs ops||(AR .text ops [] (List.range ops.size)&&AR .gc ops [] (Region.linearise .gc ops 0)&&FA ops (Region.linearise .gc ops 0)))
def Ga (P:Program) (ib:Bool) (ops:Array Oper) (tab:List Nat) (x y:Nat):Bool:=
 x != y&&!Bg tab y x&&(Bg tab x y||(match ops[x]?,ops[y]? with
  | some ox,some oy=>Fx P ib ops ox oy
  | _,_=>true))
def El (f:Nat→Nat→Bool):List Nat→Bool
 | []=>true
 | x::l=>l.all (f x)&&El f l
def FJ (ops:Array Oper) (tab:List Nat):Bool:=
 (ops.all fun o=>Dg o.op&&(!Bl o.op||dis o.dst (BO ops o)))&&
 (List.range ops.size).all fun x=>match ops[x]? with
  | some ox=>!Bl ox.op||(List.range ops.size).all fun y=>match ops[y]? with
   | some oy=>x==y||Bg tab y x||dis oy.dst (BO ops ox)
   | none=>true
  | none=>true
def chk (P:Program) (ib:Bool) (ops:Array Oper) (tab T:List Nat):Bool:=
 FJ ops tab&&F5 ops tab&&Gc ops&&El (Ga P ib ops tab) T&&T.all (fun i=>decide (i<ops.size))&&FA ops T
def Du (P:Program) (ib:Bool) (ops:Array Oper) (tab T:List Nat):Bool:=
 El (fun x y=>match ops[x]?,ops[y]? with
  | some ox,some oy=>!Bl ox.op||!eff P ib oy||Bg tab x y
  | _,_=>true) T
theorem EY {f:Nat→Nat→Bool} (l:List Nat) (h:El f l=true):l.Pairwise (fun x y=>f x y=true):=by
 induction l with
 | nil=>exact List.Pairwise.nil
 | cons x l ih=>
  simp only [El,Bool.and_eq_true,List.all_eq_true] at h
  exact List.pairwise_cons.2 ⟨h.1,ih h.2⟩
theorem GC {m:Region.Mode} {ops:Array Oper} (l:List Nat):∀done,AR m ops done l=true→Lin m ops done l:=by
 induction l with
 | nil=>exact fun _ _=>trivial
 | cons i l ih=>
  intro done h
  simp only [AR,Bool.and_eq_true,decide_eq_true_eq,Bool.not_eq_true',List.contains_eq_mem,decide_eq_false_iff_not] at h
  obtain⟨⟨⟨y,z⟩,f⟩,C⟩:=h
  refine⟨y,z,fun o E e F G=>?_,ih _ C⟩
  rw [E] at f
  simp only [Array.all_eq_true'] at f
  have:=f e (by simpa using F)
  simpa [G] using this
theorem GW {ops:Array Oper} {l:List Nat} (h:FA ops l=true):∀i,i<ops.size→i∈l:=by
 intro i f
 unfold FA at h
 rw [List.all_eq_true] at h
 simpa using h i (List.mem_range.2 f)
theorem Ip {ops:Array Oper} (h:Gc ops=true) (y:Bool) (t:Nat):(∃m,Lin m ops [] (Region.schedule y ops t))∧∀i,i<ops.size→i∈Region.schedule y ops t:=by
 simp only [Gc,Bool.and_eq_true,Bool.or_eq_true,Bool.not_eq_true'] at h
 obtain⟨C,f⟩:=h
 have z:∀i,i<ops.size→i∈List.range ops.size:=fun i E=>List.mem_range.2 E
 unfold Region.schedule
 split
 ·have:=GX (G7 (GC _ _ C) z) t
  exact⟨⟨_,this.1⟩,this.2⟩
 ·rename_i hne
  rcases f with f | f
  ·rw [f] at hne; simp at hne
  ·split
   ·have:=GX (G7 (GC _ _ f.1.1) z) (t / 2)
    exact⟨⟨_,this.1⟩,this.2⟩
   ·have:=GX (G7 (GC _ _ f.1.2) (GW f.2)) (t / 2)
    exact⟨⟨_,this.1⟩,this.2⟩
theorem HE {ops:Array Oper} {tab:List Nat} (z:F5 ops tab=true) {i j:Nat} (F:j<ops.size) (G:i<ops.size) (h:Bg tab i j=true):
  ∃o,ops[j]?=some o∧∃e∈o.after.toList,Region.binds .any e=true∧(e.on=i∨Bg tab i e.on=true)∧e.on<j:=by
 unfold F5 at z
 rw [List.all_eq_true] at z
 have C:=z j (List.mem_range.2 F)
 rw [List.all_eq_true] at C
 have f:=C i (List.mem_range.2 G)
 rw [h] at f
 cases E:ops[j]? with
 | none=>rw [E] at f; simp at f
 | some o=>
  rw [E] at f
  refine⟨o,rfl,?_⟩
  simp only [Bool.not_true,Bool.false_or] at f
  rw [Array.any_eq_true'] at f
  obtain⟨e,I,y⟩:=f
  simp only [Bool.and_eq_true,Bool.or_eq_true,beq_iff_eq,decide_eq_true_eq] at y
  exact⟨e,by simpa using I,y.1.1,y.1.2,y.2⟩
theorem IO {P:Program} {ops:Array Oper} {tab:List Nat} (h:FJ ops tab=true):FH P ops (Bg tab):=by
 simp only [FJ,Bool.and_eq_true] at h
 obtain⟨z,E⟩:=h
 rw [Array.all_eq_true'] at z
 have F:∀i (o:Oper),ops[i]?=some o→o∈ops:=fun i o f=>Array.mem_of_getElem? f
 refine⟨fun i o f=>?_,fun i o f C=>?_,fun x y U V J G I C M=>?_⟩
 ·have:=z o (F i o f)
  simp only [Bool.and_eq_true] at this
  exact this.1
 ·have:=z o (F i o f)
  simp only [Bool.and_eq_true,Bool.or_eq_true,Bool.not_eq_true'] at this
  rcases this.2 with h | h
  ·rw [C] at h; cases h
  ·exact h
 ·rw [List.all_eq_true] at E
  have:=E x (List.mem_range.2 (Array.getElem?_eq_some_iff.1 G).1)
  rw [G] at this
  dsimp only at this
  rw [C] at this
  simp only [Bool.not_true,Bool.false_or,List.all_eq_true] at this
  have:=this y (List.mem_range.2 (Array.getElem?_eq_some_iff.1 I).1)
  rw [I] at this
  dsimp only at this
  rw [M] at this
  have O:(x==y)=false:=by simpa using J
  simpa [O] using this
theorem Ic {P:Program} {ib:Bool} {ops:Array Oper} {bef:Nat→Nat→Bool} {Q:Bj} (hQ:NoQ Q) (l:List Nat):∀(D:Nat→Prop) (a:Act) (w:World),WT P ib ops bef Q D l a w→wpOps P ops Q l a w:=by
 induction l with
 | nil=>exact fun _ _ _ h=>h
 | cons i l ih=>
  intro D a w h
  obtain⟨o,y,f⟩:=h
  simp only [wpOps,y]
  unfold Bo at f
  split
  ·rename_i hw
   rw [if_pos hw] at f
   exact .inl (Er hQ f.2 fun v ds w' z=>ih _ _ _ z.2)
  ·rename_i hw
   rw [if_neg hw] at f
   exact ih _ _ _ f.2
theorem FV {P:Program} {ib:Bool} {ops:Array Oper} {id:Nat} {Q:Bj} {a:Act} {w:World} (tab T:List Nat) (C:chk P ib ops tab T=true) (hQ:NoQ Q)
  (h:WT P ib ops (Bg tab) Q (fun _=>False) T a w.drew):(Code.region id ops true).wp P Q a w:=by
 simp only [chk,Bool.and_eq_true] at C
 obtain⟨⟨⟨⟨⟨I,J⟩,M⟩,O⟩,E⟩,U⟩:=C
 have hS:FH P ops (Bg tab):=IO I
 have F:T.Pairwise (Rel P ib ops (Bg tab)):=(EY T O).imp fun {x y} hxy=>by
  simp only [Ga,Bool.and_eq_true,bne_iff_ne,ne_eq,Bool.not_eq_true',Bool.or_eq_true] at hxy
  refine⟨hxy.1.1,hxy.1.2,?_⟩
  rcases hxy.2 with h | h
  ·exact .inl h
  ·exact .inr fun ox oy f V=>by rw [f,V] at h; exact h
 have G:∀x∈T,x<ops.size:=fun x f=>by
  rw [List.all_eq_true] at E
  simpa using E x f
 refine wp_region_draw fun t=>?_
 obtain⟨⟨m,W⟩,Z⟩:=Ip M (P.follows .mixedOrders) t
 obtain⟨p1,p2,p3⟩:=JN (fun {i j}=>HE J) _ [] W (fun j hj=>by simp at hj)
 have a6:T.Nodup:=(F.imp fun {x y} hxy=>hxy.1)
 have a7:(Region.schedule (P.follows .mixedOrders) ops t).Perm T:=
  (List.perm_ext_iff_of_nodup p2 a6).2 fun i=>⟨fun z=>GW U i (p3 i z).1,fun z=>Z i (G i z)⟩
 exact Ic hQ _ _ _ _ (Jq hQ hS T _ _ _ _ a7 F G p1 (fun r q hr=>hr.elim) h)
def pick (ops:Array Oper) (T:List Nat):List Oper:=T.filterMap (ops[·]?)
def EW (ops:Array Oper) (a:Act):Bool:=ops.toList.all fun o=>!intOp o.op||!Region.wanted o (yielded ops a.tmps)||intFine a.eval o.op
def D6 (ops:Array Oper) (T:List Nat):Bool:=
 T.all (fun x=>match ops[x]? with | some o=>!intOp o.op||dis o.dst (BO ops o) | none=>true)&&
 El (fun x y=>match ops[x]?,ops[y]? with
  | some ox,some oy=>!intOp ox.op||dis oy.dst (BO ops ox)
  | _,_=>true) T
def finQ (ops:Array Oper) (Q:Bj):Bj
 | .normal,a,w=>EW ops a=true∧Q .normal a w
 | e,a,w=>Q e a w
def postN (next:Act→World→Prop):Bj:=Exit.then next (fun _ _ _=>False)
theorem NoQ.then {K:Act→World→Prop} {Q:Bj} (h:NoQ Q):NoQ (Exit.then K Q):=⟨fun c a w x=>h.1 c a w x,fun a w x=>h.2 a w x⟩
theorem NoQ.inBlock {i:Nat} {Q:Bj} (h:NoQ Q):NoQ (Exit.inBlock i Q):=⟨fun c a w x=>h.1 c a w x,fun a w x=>h.2 a w x⟩
theorem NoQ.body {P:Program} {fn:Func} {R:Ending→World→Prop} (f:∀c w,¬R (.panicked c) w) (h:∀w,¬R .outgrown w):NoQ (bodyPost P fn R):=⟨fun c _ w x=>f c w x.2,fun _ w x=>h w x⟩
theorem NoQ.postN (next:Act→World→Prop):NoQ (Reg.postN next):=⟨fun _ _ _ x=>x,fun _ _ x=>x⟩
theorem NoQ.finQ {ops:Array Oper} {Q:Bj} (h:NoQ Q):NoQ (Reg.finQ ops Q):=⟨fun c a w x=>h.1 c a w x,fun a w x=>h.2 a w x⟩
theorem FR {Q:Bj} (h:NoQ Q):¬LetsOut Q:=fun⟨a,w,x⟩=>h.2 a w x
section
variable {P:Program} {ib:Bool} {ops:Array Oper} {bef:Nat→Nat→Bool} {Q Qf:Bj}
theorem IG (hQ:NoQ Qf) (l:List Oper):∀(a:Act) (w:World),wpList P ops Qf l a w→∃f y,Qf .normal f y∧∀t,(∀o∈l,o.dst≠some t)→f.tmps[t]?=a.tmps[t]?:=by
 induction l with
 | nil=>exact fun a w h=>⟨a,w,h,fun _ _=>rfl⟩
 | cons o l ih=>
  intro a w h
  have key:∃v ds w',wpList P ops Qf l (upd a o.dst ds v) w':=by
   unfold wpList at h
   split at h
   ·rcases h with h | h
    ·exact FI hQ h
    ·exact absurd h.2 (FR hQ)
   ·exact⟨undef,[],w,by rw [Cw]; exact h⟩
  obtain⟨v,ds,w',h⟩:=key
  obtain⟨f,y,z,C⟩:=ih _ _ h
  exact⟨f,y,z,fun t ht=>(C t fun x E=>ht x (by simp [E])).trans (F3 _ _ _ _ _ (ht o (by simp)))⟩
theorem Ii {i:Nat} {o:Oper} (h:ops[i]?=some o) (T:List Nat):pick ops (i::T)=o::pick ops T:=by
 simp [pick,h]
theorem HS {T:List Nat} {o:Oper} (h:o∈pick ops T):∃i,i∈T∧ops[i]?=some o:=by
 simpa [pick] using h
theorem Hk (I:NoQ Qf) (Z:List Nat) (f:List Nat):∀(D:Nat→Prop) (a:Act) (w:World),
  (∀i∈f,i<ops.size)→
  (f.Pairwise fun x y=>∀(F z:Oper),ops[x]?=some F→ops[y]?=some z→Bl F.op=true→eff P ib z=true→bef x y=true)→
  (∀r q,D r→ops[r]?=some q→Bl q.op=true→∀y∈f,∀z,ops[y]?=some z→eff P ib z=true→bef r y=true)→
  (∀a w,Qf .normal a w→WT P ib ops bef Q (fun k=>k∈f∨D k) Z a w)→
  (ib=true→(∀a w,Qf .normal a w→EW ops a=true)∧(∀x∈f,∀o,ops[x]?=some o→intOp o.op=true→dis o.dst (BO ops o)=true)∧
   (f.Pairwise fun x y=>∀(F z:Oper),ops[x]?=some F→ops[y]?=some z→intOp F.op=true→dis z.dst (BO ops F)=true))→
  wpList P ops Qf (pick ops f) a w→WT P ib ops bef Q D (f++Z) a w:=by
 induction f with
 | nil=>
  intro D a w _ _ _ hn _ h
  have:=hn a w h
  have e:(fun k=>k∈([]:List Nat)∨D k)=D:=by funext k; simp
  rw [e] at this
  exact this
 | cons i f ih=>
  intro D a w a6 hp hD hn hf h
  have hi:=a6 i (by simp)
  have J:ops[i]?=some ops[i]:=Array.getElem?_eq_getElem hi
  rw [Ii J] at h
  obtain⟨ae,af⟩:=List.pairwise_cons.1 hp
  refine⟨ops[i],J,?_⟩
  have a9:∀b w',wpList P ops Qf (pick ops f) b w'→Obl P ib ops bef D i b w w'∧WT P ib ops bef Q (fun k=>k=i∨D k) (f++Z) b w':=by
   intro b w' hb
   refine⟨fun o ah M r q G O U ai=>?_,ih _ b w' (fun x C=>a6 x (by simp [C])) af ?_ ?_ ?_ hb⟩
   ·have:=hD r q G O U i (by simp) o ah M
    rw [ai] at this; cases this
   ·intro r q G O U y V z W M
    rcases G with rfl | G
    ·exact ae y V q z O W U M
    ·exact hD r q G O U y (by simp [V]) z W M
   ·intro a' w'' C
    have:=hn a' w'' C
    have e:(fun k=>k∈i::f∨D k)=(fun k=>k∈f∨k=i∨D k):=by
     funext k; simp only [List.mem_cons,eq_iff_iff]; constructor
     ·rintro((h | h) | h) <;> simp [h]
     ·rintro(h | h | h) <;> simp [h]
    rw [e] at this
    exact this
   ·intro E
    obtain⟨f1,f2,f3⟩:=hf E
    exact⟨f1,fun x C=>f2 x (by simp [C]),(List.pairwise_cons.1 f3).2⟩
  unfold wpList at h
  unfold Bo
  split at h
  ·rename_i hw
   rw [if_pos hw]
   rcases h with h | h
   ·refine⟨fun E=>?_,Er I h fun v ds w' C=>a9 _ _ C⟩
    simp only [Bool.and_eq_true] at E
    obtain⟨f1,f2,f3⟩:=hf E.1
    obtain⟨v,ds,w',C⟩:=FI I h
    obtain⟨aF,wF,g1,g2⟩:=IG I _ _ _ C
    have aa:CE ops ops[i] aF a:=by
     intro t ht
     have hd:=f2 i (by simp) _ J E.2
     rw [g2 t fun o al=>?_,F3 _ _ _ _ _ (EF hd ht)]
     obtain⟨y,V,W⟩:=HS al
     exact EF ((List.pairwise_cons.1 f3).1 y V _ _ J W E.2) ht
    have a5:=f1 _ _ g1
    unfold EW at a5
    rw [List.all_eq_true] at a5
    have:=a5 ops[i] (by simp)
    rw [DF aa,hw,E.2,E9 aa] at this
    simpa using this
   ·exact absurd h.2 (FR I)
  ·rename_i hw
   rw [if_neg hw]
   exact a9 _ _ h
theorem Ij {i:Nat} {o:Oper} (E:ops[i]?=some o) (f:List Nat) (T:List Nat) {D:Nat→Prop} {a:Act} {w:World} (F:(ib&&intOp o.op)=false)
  (G:∀r q,D r→ops[r]?=some q→Bl q.op=true→bef r i=false→r∈f)
  (h:wpList P ops (postN fun b w'=>(∀r∈f,∀q,ops[r]?=some q→CI P ops q b w w')∧WT P ib ops bef Q (fun k=>k=i∨D k) T b w') [o] a w):WT P ib ops bef Q D (i::T) a w:=by
 refine⟨o,E,?_⟩
 have y:∀b w',wpList P ops (postN fun b w'=>(∀r∈f,∀q,ops[r]?=some q→CI P ops q b w w')∧WT P ib ops bef Q (fun k=>k=i∨D k) T b w') [] b w'→
   Obl P ib ops bef D i b w w'∧WT P ib ops bef Q (fun k=>k=i∨D k) T b w':=fun b w' z=>
  ⟨fun V _ _ r q I C J M=>z.1 r (G r q I C J M) q C,z.2⟩
 unfold wpList at h
 unfold Bo
 split at h
 ·rename_i hw
  rw [if_pos hw]
  rcases h with h | h
  ·exact⟨fun O=>absurd O (by rw [F]; simp),Er (NoQ.postN _) h fun v ds w' U=>y _ _ U⟩
  ·exact absurd h.2 (FR (NoQ.postN _))
 ·rename_i hw
  rw [if_neg hw]
  exact y _ _ h
end
section
variable {P:Program} {id:Nat} {Q:Bj} {a:Act} {w:World}
theorem FM {ib:Bool} {ops:Array Oper} {tab T:List Nat} (h:Du P ib ops tab T=true):
  T.Pairwise fun x y=>∀(f z:Oper),ops[x]?=some f→ops[y]?=some z→Bl f.op=true→eff P ib z=true→Bg tab x y=true:=
 (EY T h).imp fun {x y} hxy f z hx hy hl he=>by
  rw [hx,hy] at hxy
  dsimp only at hxy
  rw [hl,he] at hxy
  simpa using hxy
theorem Id {ib:Bool} {ops:Array Oper} {tab T:List Nat} (h:chk P ib ops tab T=true):∀i∈T,i<ops.size:=fun i f=>by
 simp only [chk,Bool.and_eq_true] at h
 have:=h.1.2
 rw [List.all_eq_true] at this
 simpa using this i f
theorem PZ (l:List Oper):∀(p:List Oper) (k:Nat),p.length=k→(List.range' k l.length).filterMap (fun i=>(p++l)[i]?)=l:=by
 induction l with
 | nil=>intro p k _; rfl
 | cons x l ih=>
  intro p k hk
  have f:(p++x::l)[k]?=some x:=by rw [←hk]; simp
  have:=ih (p++[x]) (k+1) (by simp [hk])
  rw [List.append_assoc] at this
  simp only [List.length_cons,List.range'_succ,List.filterMap_cons,f]
  rw [List.singleton_append] at this
  rw [this]
theorem HU (l:List Oper):pick l.toArray (List.range l.length)=l:=by
 have:=PZ l [] 0 rfl
 rw [List.nil_append] at this
 unfold pick
 rw [List.range_eq_range']
 simpa using this
theorem region_plain {l:List Oper} (tab:List Nat) (f:(chk P false l.toArray tab (List.range l.length)&&Du P false l.toArray tab (List.range l.length))=true) (hQ:NoQ Q)
  (h:wpList P l.toArray Q l a w.drew):(Code.region id l.toArray true).wp P Q a w:=by
 simp only [Bool.and_eq_true] at f
 refine FV tab _ f.1 hQ ?_
 have:=Hk (ib:=false) (bef:=Bg tab) hQ [] (List.range l.length) (fun _=>False) a w.drew (Id f.1) (FM f.2) (fun r q y=>y.elim) (fun a w h=>h) (fun h=>by cases h)
 rw [List.append_nil] at this
 exact this (by rw [HU]; exact h)
theorem Ol {l:List Oper} (tab:List Nat)
  (E:(chk P true l.toArray tab (List.range l.length)&&Du P true l.toArray tab (List.range l.length)&&D6 l.toArray (List.range l.length))=true) (hQ:NoQ Q)
  (h:wpList P l.toArray (finQ l.toArray Q) l a w.drew):(Code.region id l.toArray true).wp P Q a w:=by
 simp only [Bool.and_eq_true] at E
 obtain⟨⟨F,G⟩,f⟩:=E
 simp only [D6,Bool.and_eq_true,List.all_eq_true] at f
 refine FV tab _ F hQ ?_
 have:=Hk (ib:=true) (bef:=Bg tab) (Q:=Q) hQ.finQ [] (List.range l.length) (fun _=>False) a w.drew (Id F) (FM G) (fun r q I=>I.elim) (fun a w h=>h.2)
  (fun _=>⟨fun a w h=>h.1,fun x z o J C=>by have:=f.1 x z; rw [J] at this; dsimp only at this; rw [C] at this; simpa using this,(EY _ f.2).imp fun {x y} hxy ox oy z hy C=>by
   rw [z,hy] at hxy; dsimp only at hxy; rw [C] at hxy; simpa using hxy⟩)
 rw [List.append_nil] at this
 exact this (by rw [HU]; exact h)
def Cp (P:Program) (ops:Array Oper) (tab:List Nat) (Q:Bj) (D T:List Nat) (a:Act) (w:World):Prop:=WT P false ops (Bg tab) Q (fun k=>k∈D) T a w
theorem LU {l:List Oper} (tab T:List Nat) (f:chk P false l.toArray tab T=true) (hQ:NoQ Q) (h:Cp P l.toArray tab Q [] T a w.drew):(Code.region id l.toArray true).wp P Q a w:=by
 refine FV tab T f hQ ?_
 have e:(fun k=>k∈([]:List Nat))=fun _=>False:=by funext k; simp
 unfold Cp at h
 rw [e] at h
 exact h
theorem Nv {l C:List Oper} {tab D:List Nat} (f z:List Nat) (G:pick l.toArray f=C)
  (E:(f.all (fun i=>decide (i<l.length))&&Du P false l.toArray tab f&&D.all (fun r=>f.all fun y=>match l.toArray[r]?,l.toArray[y]? with
   | some q,some F=>!Bl q.op||!eff P false F||Bg tab r y
   | _,_=>true))=true)
  (h:wpList P l.toArray (postN fun a w=>Cp P l.toArray tab Q (f++D) z a w) C a w):Cp P l.toArray tab Q D (f++z) a w:=by
 simp only [Bool.and_eq_true,List.all_eq_true] at E
 obtain⟨⟨I,J⟩,M⟩:=E
 refine Hk (ib:=false) (bef:=Bg tab) (Qf:=postN fun a w=>Cp P l.toArray tab Q (f++D) z a w) (NoQ.postN _) z f _ a w (fun i O=>by simpa using I i O) (FM J) ?_ ?_ (fun h=>by cases h) (by rw [G]; exact h)
 ·intro r q U V W y Z F a2 he
  have:=M r U y Z
  rw [V,a2] at this
  dsimp only at this
  rw [W,he] at this
  simpa using this
 ·intro a' w' hx
  have e:(fun k=>k∈f∨k∈D)=fun k=>k∈f++D:=by funext k; simp
  rw [e]
  exact hx
theorem PU {l:List Oper} {o:Oper} {tab D:List Nat} (i:Nat) (T:List Nat) (f:List Nat) (z:l.toArray[i]?=some o)
  (y:D.all (fun r=>match l.toArray[r]? with
   | some q=>!Bl q.op||Bg tab r i||f.contains r
   | none=>true)=true)
  (h:wpList P l.toArray (postN fun b w'=>(∀r∈f,∀q,l.toArray[r]?=some q→CI P l.toArray q b w w')∧Cp P l.toArray tab Q (i::D) T b w') [o] a w):Cp P l.toArray tab Q D (i::T) a w:=by
 rw [List.all_eq_true] at y
 refine Ij z f T (by simp) (fun r q C E F G=>?_) ?_
 ·have:=y r C
  rw [E] at this
  dsimp only at this
  rw [F,G] at this
  simpa using this
 ·have e:(fun k=>k=i∨k∈D)=fun k=>k∈i::D:=by funext k; simp
  rw [e]
  exact h
theorem rest_end {l:List Oper} {tab D:List Nat} (h:Q .normal a w):Cp P l.toArray tab Q D [] a w:=h
theorem N2 {l:List Oper} (tab:List Nat)
  (f:(chk P true l.toArray tab (List.range l.length)&&Du P true l.toArray tab (List.range l.length)&&D6 l.toArray (List.range l.length))=true) (hQ:NoQ Q)
  (h:∀Qf:Bj,(∀a w,EW l.toArray a=true∧Q .normal a w→Qf .normal a w)→wpList P l.toArray Qf l a w.drew):(Code.region id l.toArray true).wp P Q a w:=
 Ol tab f hQ (h _ fun _ _ x=>x)
theorem rest_walk' {l C:List Oper} {tab D:List Nat} (f z:List Nat) (E:pick l.toArray f=C)
  (F:(f.all (fun i=>decide (i<l.length))&&Du P false l.toArray tab f&&D.all (fun r=>f.all fun y=>match l.toArray[r]?,l.toArray[y]? with
   | some q,some oy=>!Bl q.op||!eff P false oy||Bg tab r y
   | _,_=>true))=true)
  (h:∀Qf:Bj,(∀a w,Cp P l.toArray tab Q (f++D) z a w→Qf .normal a w)→wpList P l.toArray Qf C a w):Cp P l.toArray tab Q D (f++z) a w:=
 Nv f z E F (h _ fun _ _ x=>x)
theorem rest_act' {l:List Oper} {o:Oper} {tab D:List Nat} (i:Nat) (T:List Nat) (f:List Nat) (y:l.toArray[i]?=some o)
  (z:D.all (fun r=>match l.toArray[r]? with
   | some q=>!Bl q.op||Bg tab r i||f.contains r
   | none=>true)=true)
  (h:∀Qf:Bj,(∀b w',(∀r∈f,∀q,l.toArray[r]?=some q→CI P l.toArray q b w w')∧Cp P l.toArray tab Q (i::D) T b w'→Qf .normal b w')→wpList P l.toArray Qf [o] a w):Cp P l.toArray tab Q D (i::T) a w:=
 PU i T f y z (h _ fun _ _ x=>x)
theorem same_below {ops:Array Oper} {b:Act} {w w':World} (h:RowKit.Below w.heap.size w w') (f:List Nat) (y:f.all (fun r=>match ops[r]? with | some q=>Bl q.op | none=>true)=true):
  ∀r∈f,∀q,ops[r]?=some q→CI P ops q b w w':=fun r z q C=>by
 rw [List.all_eq_true] at y
 have:=y r z
 rw [C] at this
 exact Ge this h.block
end
end Reg
end Go.Proofs.YtlakpndhhelliaaGreatDoor
namespace Go.Proofs.YtlakpndhhelliaaGreatDoor
namespace Reg
theorem Rc {P:Program} {w:World} {p:Addr} {v:Value} {ty:TypeId} {d:TypeDesc} (f:w.cell? p=some v) (h:P.underlying ty=some d) (hd:d.isRow=false):
  (Instr.loadAt ty (.pointer (some p))).run P w=.ok v w:=by
 have y:(isAgg ty).run P w=.ok false w:=by
  unfold isAgg
  rw [Sem.run_bind,run_underlying h w]
  cases d <;> simp_all
 simp [Instr.loadAt,Instr.sureAddr,Sem.run_bind,loadVar,y,f]
theorem same_load1 {P:Program} {ops:Array Oper} {q:Oper} {b:Act} {w w':World} {ty:TypeId} {x:Operand} {p:Addr} {u:Value} {d:TypeDesc} (y:q.op=.load ty x) (z:b.eval x=.pointer (some p))
  (C:w.cell? p=some u) (E:w'.cell? p=some u) (F:P.underlying ty=some d) (hd:d.isRow=false):CI P ops q b w w':=by
 intro _ v f
 obtain⟨dst,op,type,pos,after,guard⟩:=q
 dsimp only at y
 subst y
 have e:∀w1,w1.cell? p=some u→(execOp b.eval { dst,op:=.load ty x,type,pos,after,guard }).run P w1=.ok (.value u) w1:=fun w1 h=>by
  show((Instr.loadAt ty (b.eval x)) >>=fun v=>(Pure.pure (Next.value v):Sem Next)).run P w1=_
  rw [z]
  exact JZ (Rc h F hd)
 rw [e w C] at f
 injection f with f _
 rw [←f]
 exact e w' E
end Reg
end Go.Proofs.YtlakpndhhelliaaGreatDoor
namespace Go.Proofs.YtlakpndhhelliaaGreatDoor
namespace Reg
def Bp (tab:List Nat) (i j:Nat):List Nat:=tab.mapIdx fun y s=>if y==j||s.testBit j then s||| 2 ^ i||| tab.getD i 0 else s
theorem OR {tab:List Nat} {i j x y:Nat} (h:Bg (Bp tab i j) x y=true):Bg tab x y=true∨((y=j∨Bg tab j y=true)∧(x=i∨Bg tab x i=true)):=by
 unfold Bg at*
 by_cases f:y<tab.length
 ·have e:(Bp tab i j).getD y 0=if y==j||(tab.getD y 0).testBit j then tab.getD y 0||| 2 ^ i||| tab.getD i 0 else tab.getD y 0:=by
   simp [Bp,List.getD,f]
  rw [e] at h
  split at h
  ·rename_i hc
   simp only [Bool.or_eq_true,beq_iff_eq] at hc
   rw [Nat.testBit_or,Nat.testBit_or,Nat.testBit_two_pow] at h
   simp only [Bool.or_eq_true,decide_eq_true_eq] at h
   rcases h with(h | h) | h
   ·exact .inl h
   ·exact .inr ⟨hc,.inl h.symm⟩
   ·exact .inr ⟨hc,.inr h⟩
  ·exact .inl h
 ·have e:(Bp tab i j).getD y 0=0:=by
   simp [Bp,List.getD,List.getElem?_eq_none (Nat.le_of_not_lt f)]
  rw [e] at h
  simp at h
def Con (tab:List Nat) (l:List Nat):Prop:=l.Pairwise fun x y=>x≠y∧Bg tab y x=false
theorem IC {tab l:List Nat} {p q i j:Nat} (h:Con tab l) (M:l[p]?=some i) (O:l[q]?=some j) (a3:p<q):Con (Bp tab i j) l:=by
 have z:=List.pairwise_iff_getElem.1 h
 have U:=(List.getElem?_eq_some_iff.1 M)
 have V:=(List.getElem?_eq_some_iff.1 O)
 obtain⟨W,G⟩:=U
 obtain⟨Z,I⟩:=V
 refine List.pairwise_iff_getElem.2 fun a b C E J=>⟨(z a b C E J).1,?_⟩
 cases hx:Bg (Bp tab i j) l[b] l[a] with
 | false=>rfl
 | true=>
  exfalso
  rcases OR hx with f | ⟨f,y⟩
  ·rw [(z a b C E J).2] at f; cases f
  ·have c1:q≤a:=by
    refine Nat.le_of_not_lt fun F=>?_
    have:=z a q C Z F
    rcases f with f | f
    ·exact this.1 (f.trans I.symm)
    ·rw [I] at this; rw [this.2] at f; cases f
   have c2:b≤p:=by
    refine Nat.le_of_not_lt fun F=>?_
    have:=z p b W E F
    rcases y with y | y
    ·exact this.1 (G.trans y.symm)
    ·rw [G] at this; rw [this.2] at y; cases y
   omega
inductive Spl where
 | leaf (T:List Nat)
 | node (i j:Nat) (s t:Spl)
def Spl.chk (P:Program) (ops:Array Oper):Spl→List Nat→Bool
 | .leaf T,tab=>FJ ops tab&&El (Ga P false ops tab) T&&T.all (fun i=>decide (i<ops.size))&&FA ops T
 | .node i j s t,tab=>decide (i<ops.size)&&decide (j<ops.size)&&i != j&&s.chk P ops (Bp tab i j)&&t.chk P ops (Bp tab j i)
def Spl.goal (P:Program) (ops:Array Oper) (Q:Bj) (a:Act) (w:World):Spl→List Nat→Prop
 | .leaf T,tab=>Cp P ops tab Q [] T a w
 | .node i j s t,tab=>s.goal P ops Q a w (Bp tab i j)∧t.goal P ops Q a w (Bp tab j i)
theorem Lz {P:Program} {ops:Array Oper} {Q:Bj} {a:Act} {w:World} (hQ:NoQ Q) (s:Spl):∀(tab l:List Nat),s.chk P ops tab=true→Con tab l→l.Nodup→(∀i∈l,i<ops.size)→(∀i,i<ops.size→i∈l)→s.goal P ops Q a w tab→
  wpOps P ops Q l a w:=by
 induction s with
 | leaf T=>
  intro tab l z C E F f G
  simp only [Spl.chk,Bool.and_eq_true] at z
  obtain⟨⟨⟨M,O⟩,I⟩,h6⟩:=z
  have hS:FH P ops (Bg tab):=IO M
  have hT:T.Pairwise (Rel P false ops (Bg tab)):=(EY T O).imp fun {x y} hxy=>by
   simp only [Ga,Bool.and_eq_true,bne_iff_ne,ne_eq,Bool.not_eq_true',Bool.or_eq_true] at hxy
   refine⟨hxy.1.1,hxy.1.2,?_⟩
   rcases hxy.2 with h | h
   ·exact .inl h
   ·exact .inr fun ox oy U hy=>by rw [U,hy] at h; exact h
  have a3:∀x∈T,x<ops.size:=fun x U=>by
   rw [List.all_eq_true] at I
   simpa using I x U
  have a6:T.Nodup:=(hT.imp fun {x y} hxy=>hxy.1)
  have a7:l.Perm T:=(List.perm_ext_iff_of_nodup E a6).2 fun i=>⟨fun V=>GW h6 i (F i V),fun V=>f i (a3 i V)⟩
  have e:(fun k=>k∈([]:List Nat))=fun _=>False:=by funext k; simp
  have W:Cp P ops tab Q [] T a w:=G
  unfold Cp at W
  rw [e] at W
  exact Ic hQ _ _ _ _ (Jq hQ hS T _ _ _ _ a7 hT a3 C (fun r q hr=>hr.elim) W)
 | node i j s t ihs iht=>
  intro tab l z C E F f G
  simp only [Spl.chk,Bool.and_eq_true,bne_iff_ne,ne_eq,decide_eq_true_eq] at z
  obtain⟨⟨⟨⟨M,h2⟩,h3⟩,O⟩,I⟩:=z
  obtain⟨p,Z⟩:=List.mem_iff_getElem?.1 (f i M)
  obtain⟨q,J⟩:=List.mem_iff_getElem?.1 (f j h2)
  rcases Nat.lt_trichotomy p q with h | h | h
  ·exact ihs _ l O (IC C Z J h) E F f G.1
  ·subst h
   rw [Z] at J
   exact absurd (Option.some.inj J) h3
  ·exact iht _ l I (IC C J Z h) E F f G.2
theorem region_spl {P:Program} {l:List Oper} {id:Nat} {Q:Bj} {a:Act} {w:World} (tab:List Nat) (s:Spl) (y:(F5 l.toArray tab&&Gc l.toArray&&s.chk P l.toArray tab)=true) (hQ:NoQ Q)
  (h:s.goal P l.toArray Q a w.drew tab):(Code.region id l.toArray true).wp P Q a w:=by
 simp only [Bool.and_eq_true] at y
 obtain⟨⟨z,C⟩,E⟩:=y
 refine wp_region_draw fun t=>?_
 obtain⟨⟨m,F⟩,G⟩:=Ip C (P.follows .mixedOrders) t
 obtain⟨I,J,M⟩:=JN (fun {i j}=>HE z) _ [] F (fun j O=>by simp at O)
 exact Lz hQ s tab _ E I J (fun i f=>(M i f).1) (fun i f=>G i f) h
end Reg
end Go.Proofs.YtlakpndhhelliaaGreatDoor
namespace Go.Proofs.YtlakpndhhelliaaGreatDoor
namespace Reg
def fineT (ops:Array Oper) (T:List Nat) (a:Act):Bool:=T.all fun x=>match ops[x]? with
 | some o=>!intOp o.op||!Region.wanted o (yielded ops a.tmps)||intFine a.eval o.op
 | none=>true
section
variable {P:Program} {ib:Bool} {ops:Array Oper} {bef:Nat→Nat→Bool} {Q Qf:Bj}
theorem Rd (T0:List Nat) (J:NoQ Qf) (Z:List Nat) (f:List Nat):∀(D:Nat→Prop) (a:Act) (w:World),
  (∀x∈f,x∈T0)→(∀i∈f,i<ops.size)→
  (f.Pairwise fun x y=>∀(F z:Oper),ops[x]?=some F→ops[y]?=some z→Bl F.op=true→eff P ib z=true→bef x y=true)→
  (∀r q,D r→ops[r]?=some q→Bl q.op=true→∀y∈f,∀z,ops[y]?=some z→eff P ib z=true→bef r y=true)→
  (∀a w,Qf .normal a w→WT P ib ops bef Q (fun k=>k∈f∨D k) Z a w)→
  (ib=true→(∀a w,Qf .normal a w→fineT ops T0 a=true)∧(∀x∈f,∀o,ops[x]?=some o→intOp o.op=true→dis o.dst (BO ops o)=true)∧
   (f.Pairwise fun x y=>∀(F z:Oper),ops[x]?=some F→ops[y]?=some z→intOp F.op=true→dis z.dst (BO ops F)=true))→
  wpList P ops Qf (pick ops f) a w→WT P ib ops bef Q D (f++Z) a w:=by
 induction f with
 | nil=>
  intro D a w _ _ _ _ hn _ h
  have:=hn a w h
  have e:(fun k=>k∈([]:List Nat)∨D k)=D:=by funext k; simp
  rw [e] at this
  exact this
 | cons i f ih=>
  intro D a w a7 a8 hp hD hn hf h
  have hi:=a8 i (by simp)
  have G:ops[i]?=some ops[i]:=Array.getElem?_eq_getElem hi
  rw [Ii G] at h
  obtain⟨ag,ah⟩:=List.pairwise_cons.1 hp
  refine⟨ops[i],G,?_⟩
  have ab:∀b w',wpList P ops Qf (pick ops f) b w'→Obl P ib ops bef D i b w w'∧WT P ib ops bef Q (fun k=>k=i∨D k) (f++Z) b w':=by
   intro b w' hb
   refine⟨fun o aj M r q I O U ak=>?_,ih _ b w' (fun x C=>a7 x (by simp [C])) (fun x C=>a8 x (by simp [C])) ah ?_ ?_ ?_ hb⟩
   ·have:=hD r q I O U i (by simp) o aj M
    rw [ak] at this; cases this
   ·intro r q I O U y V z W M
    rcases I with rfl | I
    ·exact ag y V q z O W U M
    ·exact hD r q I O U y (by simp [V]) z W M
   ·intro a' w'' C
    have:=hn a' w'' C
    have e:(fun k=>k∈i::f∨D k)=(fun k=>k∈f∨k=i∨D k):=by
     funext k; simp only [List.mem_cons,eq_iff_iff]; constructor
     ·rintro((h | h) | h) <;> simp [h]
     ·rintro(h | h | h) <;> simp [h]
    rw [e] at this
    exact this
   ·intro E
    obtain⟨f1,f2,f3⟩:=hf E
    exact⟨f1,fun x C=>f2 x (by simp [C]),(List.pairwise_cons.1 f3).2⟩
  unfold wpList at h
  unfold Bo
  split at h
  ·rename_i hw
   rw [if_pos hw]
   rcases h with h | h
   ·refine⟨fun E=>?_,Er J h fun v ds w' C=>ab _ _ C⟩
    simp only [Bool.and_eq_true] at E
    obtain⟨f1,f2,f3⟩:=hf E.1
    obtain⟨v,ds,w',C⟩:=FI J h
    obtain⟨aF,wF,g1,g2⟩:=IG J _ _ _ C
    have ad:CE ops ops[i] aF a:=by
     intro t ht
     have hd:=f2 i (by simp) _ G E.2
     rw [g2 t fun o an=>?_,F3 _ _ _ _ _ (EF hd ht)]
     obtain⟨y,V,W⟩:=HS an
     exact EF ((List.pairwise_cons.1 f3).1 y V _ _ G W E.2) ht
    have a5:=f1 _ _ g1
    unfold fineT at a5
    rw [List.all_eq_true] at a5
    have:=a5 i (a7 i (by simp))
    rw [G] at this
    dsimp only at this
    rw [DF ad,hw,E.2,E9 ad] at this
    simpa using this
   ·exact absurd h.2 (FR J)
  ·rename_i hw
   rw [if_neg hw]
   exact ab _ _ h
end
section
variable {P:Program} {Q:Bj} {id:Nat} {a:Act} {w:World}
def CN (P:Program) (ops:Array Oper) (tab:List Nat) (Q:Bj) (D T:List Nat) (a:Act) (w:World):Prop:=WT P true ops (Bg tab) Q (fun k=>k∈D) T a w
theorem region_cutI {l:List Oper} (tab T:List Nat) (f:chk P true l.toArray tab T=true) (hQ:NoQ Q) (h:CN P l.toArray tab Q [] T a w.drew):(Code.region id l.toArray true).wp P Q a w:=by
 refine FV tab T f hQ ?_
 have e:(fun k=>k∈([]:List Nat))=fun _=>False:=by funext k; simp
 unfold CN at h
 rw [e] at h
 exact h
theorem Pw {l M:List Oper} {tab D:List Nat} (f E:List Nat) (U:pick l.toArray f=M)
  (O:(f.all (fun i=>decide (i<l.length))&&Du P true l.toArray tab f&&D.all (fun r=>f.all fun y=>match l.toArray[r]?,l.toArray[y]? with
   | some q,some F=>!Bl q.op||!eff P true F||Bg tab r y
   | _,_=>true)&&D6 l.toArray f)=true)
  (h:∀Qf:Bj,(∀a w,fineT l.toArray f a=true∧CN P l.toArray tab Q (f++D) E a w→Qf .normal a w)→wpList P l.toArray Qf M a w):CN P l.toArray tab Q D (f++E) a w:=by
 simp only [Bool.and_eq_true,List.all_eq_true] at O
 obtain⟨⟨⟨V,W⟩,Z⟩,G⟩:=O
 simp only [D6,Bool.and_eq_true,List.all_eq_true] at G
 refine Rd (ib:=true) (bef:=Bg tab) (Qf:=postN fun a w=>fineT l.toArray f a=true∧CN P l.toArray tab Q (f++D) E a w) f (NoQ.postN _) E f _ a w (fun _ z=>z) (fun i C=>by simpa using V i C) (FM W) ?_ ?_ ?_ (by rw [U]; exact h _ fun _ _ x=>x)
 ·intro r q hr hq a4 y I F a5 he
  have:=Z r hr y I
  rw [hq,a5] at this
  simp only [a4,he,Bool.not_true,Bool.or_false,Bool.false_or] at this
  simpa using this
 ·intro a w z
  have J:=z.2
  unfold CN at J
  have e:(fun k=>k∈f++D)=(fun k=>k∈f∨k∈D):=by funext k; simp
  rw [e] at J
  exact J
 ·exact fun _=>⟨fun a w h=>h.1,fun x z o ho C=>by have:=G.1 x z; rw [ho] at this; dsimp only at this; rw [C] at this; simpa using this,(EY _ G.2).imp fun {x y} hxy ox F z I C=>by
   rw [z,I] at hxy; dsimp only at hxy; rw [C] at hxy; simpa using hxy⟩
theorem K3 {l:List Oper} {o:Oper} {tab D:List Nat} (i:Nat) (T:List Nat) (f:List Nat) (z:l.toArray[i]?=some o)
  (y:(D.all (fun r=>match l.toArray[r]? with
   | some q=>!Bl q.op||Bg tab r i||f.contains r
   | none=>true)&&!intOp o.op)=true)
  (h:∀Qf:Bj,(∀b w',(∀r∈f,∀q,l.toArray[r]?=some q→CI P l.toArray q b w w')∧CN P l.toArray tab Q (i::D) T b w'→Qf .normal b w')→wpList P l.toArray Qf [o] a w):CN P l.toArray tab Q D (i::T) a w:=by
 simp only [Bool.and_eq_true,List.all_eq_true,Bool.not_eq_true'] at y
 obtain⟨y,C⟩:=y
 refine Ij z f T (by rw [C]; rfl) (fun r q E F G I=>?_) ?_
 ·have:=y r E
  rw [F] at this
  simp only [G,I,Bool.not_true,Bool.false_or] at this
  simpa using this
 ·have:=h (postN fun b w'=>(∀r∈f,∀q,l.toArray[r]?=some q→CI P l.toArray q b w w')∧CN P l.toArray tab Q (i::D) T b w') fun _ _ x=>x
  have e:(fun k=>k∈i::D)=(fun k=>k=i∨k∈D):=by funext k; simp
  unfold CN at this
  rw [e] at this
  exact this
theorem restI_end {l:List Oper} {tab D:List Nat} (h:Q .normal a w):CN P l.toArray tab Q D [] a w:=h
end
end Reg
end Go.Proofs.YtlakpndhhelliaaGreatDoor
namespace Go.Proofs.YtlakpndhhelliaaGreatDoor
namespace Reg
section
variable {P:Program} {Q:Bj} {id:Nat} {a:Act} {w:World}
theorem cI {l:List Oper} (tab T:List Nat) (h:CN P l.toArray tab Q [] T a w.drew) (f:chk P true l.toArray tab T=true:=by kernel_rfl) (hQ:NoQ Q:=by repeat (first | exact Reg.NoQ.body (fun _ _ h=>h) (fun _ h=>h) | refine Reg.NoQ.then ?_ | refine Reg.NoQ.inBlock ?_)):(Code.region id l.toArray true).wp P Q a w:=region_cutI tab T f hQ h
theorem cC {l:List Oper} (tab T:List Nat) (h:Cp P l.toArray tab Q [] T a w.drew) (f:chk P false l.toArray tab T=true:=by kernel_rfl) (hQ:NoQ Q:=by repeat (first | exact Reg.NoQ.body (fun _ _ h=>h) (fun _ h=>h) | refine Reg.NoQ.then ?_ | refine Reg.NoQ.inBlock ?_)):(Code.region id l.toArray true).wp P Q a w:=LU tab T f hQ h
theorem cP {l:List Oper} (tab:List Nat) (h:wpList P l.toArray Q l a w.drew) (f:(chk P false l.toArray tab (List.range l.length)&&Du P false l.toArray tab (List.range l.length))=true:=by kernel_rfl) (hQ:NoQ Q:=by repeat (first | exact Reg.NoQ.body (fun _ _ h=>h) (fun _ h=>h) | refine Reg.NoQ.then ?_ | refine Reg.NoQ.inBlock ?_)):(Code.region id l.toArray true).wp P Q a w:=region_plain tab f hQ h
theorem cN {l:List Oper} (tab:List Nat) (h:∀Qf:Bj,(∀a w,EW l.toArray a=true∧Q .normal a w→Qf .normal a w)→wpList P l.toArray Qf l a w.drew) (f:(chk P true l.toArray tab (List.range l.length)&&Du P true l.toArray tab (List.range l.length)&&D6 l.toArray (List.range l.length))=true:=by kernel_rfl) (hQ:NoQ Q:=by repeat (first | exact Reg.NoQ.body (fun _ _ h=>h) (fun _ h=>h) | refine Reg.NoQ.then ?_ | refine Reg.NoQ.inBlock ?_)):(Code.region id l.toArray true).wp P Q a w:=N2 tab f hQ h
theorem wI {l C:List Oper} {tab D:List Nat} (f z:List Nat) (E:pick l.toArray f=C)
  (h:∀Qf:Bj,(∀a w,fineT l.toArray f a=true∧CN P l.toArray tab Q (f++D) z a w→Qf .normal a w)→wpList P l.toArray Qf C a w)
  (F:(f.all (fun i=>decide (i<l.length))&&Du P true l.toArray tab f&&D.all (fun r=>f.all fun y=>match l.toArray[r]?,l.toArray[y]? with
   | some q,some oy=>!Bl q.op||!eff P true oy||Bg tab r y
   | _,_=>true)&&D6 l.toArray f)=true:=by kernel_rfl):CN P l.toArray tab Q D (f++z) a w:=Pw f z E F h
theorem aI {l:List Oper} {o:Oper} {tab D:List Nat} (i:Nat) (T:List Nat) (f:List Nat) (y:l.toArray[i]?=some o)
  (h:∀Qf:Bj,(∀b w',(∀r∈f,∀q,l.toArray[r]?=some q→CI P l.toArray q b w w')∧CN P l.toArray tab Q (i::D) T b w'→Qf .normal b w')→wpList P l.toArray Qf [o] a w)
  (z:(D.all (fun r=>match l.toArray[r]? with
   | some q=>!Bl q.op||Bg tab r i||f.contains r
   | none=>true)&&!intOp o.op)=true:=by kernel_rfl):CN P l.toArray tab Q D (i::T) a w:=K3 i T f y z h
end
theorem nm {α:Type} {q:α→Prop}:∀r∈([]:List α),q r:=fun _ f=>absurd f List.not_mem_nil
end Reg
theorem gT {α:Type} {l:List α} {i:Nat} (h:i<l.toArray.size):l.toArray[i]=l[i]'(by simpa using h):=List.getElem_toArray h
theorem gS {α:Type} {a:α} {l:List α} {i:Nat} (h:i+1<(a::l).length):(a::l)[i+1]=l[i]'(Nat.lt_of_succ_lt_succ h):=rfl
theorem gZ {α:Type} {a:α} {l:List α} (h:0<(a::l).length):(a::l)[0]=a:=rfl
end Go.Proofs.YtlakpndhhelliaaGreatDoor
namespace Go.Proofs.YtlakpndhhelliaaGreatDoor
open Go.RowKit
def Sl {D:Type} (w:World) (B sz:Nat) (enc:D→Nat→Value) (A:Option Addr) (ds:List D):Prop:=
 ds.length≤9223372036854775807∧(ds≠[]→∃b off,A=some ⟨b,off,none⟩∧b<B∧∀k d,ds[k]?=some d→∀j,j<sz→w.cell? ⟨b,off+k*sz+j,none⟩=some (enc d j))
section
variable {D:Type} {w w':World} {B B' sz:Nat} {enc:D→Nat→Value} {A:Option Addr} {ds:List D}
theorem Sl.nil (h:ds=[]):Sl w B sz enc A ds:=by subst h; exact⟨by simp,fun h=>absurd rfl h⟩
theorem Sl.at (h:Sl w B sz enc A ds) {k:Nat} (hk:k<ds.length):
  ∃b f d,A=some ⟨b,f,none⟩∧b<B∧ds[k]?=some d∧∀j,j<sz→w.cell? ⟨b,f+k*sz+j,none⟩=some (enc d j):=by
 obtain⟨b,f,e,y,z⟩:=h.2 (by rintro rfl; simp at hk)
 exact⟨b,f,ds[k],e,y,List.getElem?_eq_getElem hk,fun j C=>z k _ (List.getElem?_eq_getElem hk) j C⟩
theorem Sl.keep (h:Sl w B sz enc A ds) (hk:∀p:Addr,p.block<B→w'.cell? p=w.cell? p) (F:B≤B'):Sl w' B' sz enc A ds:=
 ⟨h.1,fun f=>by
  obtain⟨b,y,e,z,C⟩:=h.2 f
  exact⟨b,y,e,by omega,fun k d hd j E=>(hk _ z).trans (C k d hd j E)⟩⟩
theorem Sl.below (h:Sl w B sz enc A ds) (f:Below B w w'):Sl w' B sz enc A ds:=h.keep (fun _ y=>f.cell y) (Nat.le_refl _)
theorem Sl.mono (h:Sl w B sz enc A ds) (f:B≤B'):Sl w B' sz enc A ds:=h.keep (fun _ _=>rfl) f
end
def Ai (x:Int) (_:Nat):Value:=.int .i64 x
def Dh (x:Bool) (_:Nat):Value:=.bool x
structure IF where
 letter:Int
 to:Int
structure IB where
 letter:Int
 first:Int
 second:Int
 to:Int
def NA (l:IF):Nat→Value
 | 0=>.int .i64 l.letter
 | _=>.int .i64 l.to
def Nu (b:IB):Nat→Value
 | 0=>.int .i64 b.letter
 | 1=>.int .i64 b.first
 | 2=>.int .i64 b.second
 | _=>.int .i64 b.to
structure TA where
 letters:Int
 states:Int
 accept:List Int
 leaves:List IF
 branches:List IB
def EN (w:World) (B:Nat) (v:Value) (a:TA):Prop:=
 ∃A1 c1 A2 c2 A3 c3,v=.agg #[.int .i64 a.letters,.int .i64 a.states,.slice A1 a.accept.length c1,.slice A2 a.leaves.length c2,.slice A3 a.branches.length c3]∧
  Sl w B 1 Ai A1 a.accept∧Sl w B 2 NA A2 a.leaves∧Sl w B 4 Nu A3 a.branches
theorem EN.keep {w w':World} {B B':Nat} {v:Value} {a:TA} (h:EN w B v a) (hk:∀p:Addr,p.block<B→w'.cell? p=w.cell? p) (f:B≤B'):EN w' B' v a:=by
 obtain⟨y,z,C,c2,E,F,e,G,I,J⟩:=h
 exact⟨y,z,C,c2,E,F,e,G.keep hk f,I.keep hk f,J.keep hk f⟩
theorem EN.below {w w':World} {B:Nat} {v:Value} {a:TA} (h:EN w B v a) (f:Below B w w'):EN w' B v a:=h.keep (fun _ y=>f.cell y) (Nat.le_refl _)
theorem hide {p:Prop} (h:p):Hid p:=h
theorem FU (fn:Fn) (first f:Array Value) (w:World):(Instr.makeFunc fn first f).run Tryz.prog w=.ok (.func fn first f) w:=rfl
def J9 (f:Value) (args:Array Value):Sem Next:=do
 let d ←Deferred.ofValue f args
 invoke d.target d.args
theorem Lr (ρ:Operand→Value) (dst:Option Tmp) (t:Tmp) (xs:Array Operand) (f:Array TypeId) (ty:TypeId) (pos:String) (after:Array Edge) (guard:Option (Nat×Bool)):
  execOp ρ { dst,op:=.call { callee:=.value (.tmp t),args:=xs,argTypes:=f },type:=ty,pos,after,guard }=J9 (ρ (.tmp t)) (xs.map ρ):=rfl
theorem LT (n:FuncId) (first f args:Array Value):J9 (.func (.func n) first f) args=callFunc n (first++args++f):=rfl
theorem Ak {P:Program} {f:FuncId} {fn:Func} (h:P.funcs[f]?=some fn) (y:(fn.name=="runtime.NumGoroutine")=false) (z:fn.body.isNone=false) (args:Array Value) (w:World):
  (callFunc f args).run P w=.ok (.enter f args) w:=by
 unfold callFunc
 simp only [Sem.run_bind,run_program,Result.andThen_ok,h,y,z]
 rfl
theorem PD (args:Array Value) (w:World):(callFunc 3 args).run Tryz.prog w=.ok (.enter 3 args) w:=Ak Tryz.func3 (by kernel_rfl) (by kernel_rfl) args w
theorem KL (args:Array Value) (w:World):(callFunc 4 args).run Tryz.prog w=.ok (.enter 4 args) w:=Ak Tryz.func4 (by kernel_rfl) (by kernel_rfl) args w
theorem Oa (args:Array Value) (w:World):(callFunc 5 args).run Tryz.prog w=.ok (.enter 5 args) w:=Ak Tryz.func5 (by kernel_rfl) (by kernel_rfl) args w
theorem K4 (args:Array Value) (w:World):(callFunc 6 args).run Tryz.prog w=.ok (.enter 6 args) w:=Ak Tryz.func6 (by kernel_rfl) (by kernel_rfl) args w
theorem KB (args:Array Value) (w:World):(callFunc 7 args).run Tryz.prog w=.ok (.enter 7 args) w:=Ak Tryz.func7 (by kernel_rfl) (by kernel_rfl) args w
theorem Rf (args:Array Value) (w:World):(callFunc 8 args).run Tryz.prog w=.ok (.enter 8 args) w:=Ak Tryz.func8 (by kernel_rfl) (by kernel_rfl) args w
theorem OD (args:Array Value) (w:World):(callFunc 9 args).run Tryz.prog w=.ok (.enter 9 args) w:=Ak Tryz.func9 (by kernel_rfl) (by kernel_rfl) args w
theorem KJ (args:Array Value) (w:World):(callFunc 10 args).run Tryz.prog w=.ok (.enter 10 args) w:=Ak Tryz.func10 (by kernel_rfl) (by kernel_rfl) args w
theorem NP (args:Array Value) (w:World):(callFunc 11 args).run Tryz.prog w=.ok (.enter 11 args) w:=Ak Tryz.func11 (by kernel_rfl) (by kernel_rfl) args w
theorem Mw (args:Array Value) (w:World):(callFunc 12 args).run Tryz.prog w=.ok (.enter 12 args) w:=Ak Tryz.func12 (by kernel_rfl) (by kernel_rfl) args w
theorem MR (args:Array Value) (w:World):(callFunc 13 args).run Tryz.prog w=.ok (.enter 13 args) w:=Ak Tryz.func13 (by kernel_rfl) (by kernel_rfl) args w
theorem OM (args:Array Value) (w:World):(callFunc 14 args).run Tryz.prog w=.ok (.enter 14 args) w:=Ak Tryz.func14 (by kernel_rfl) (by kernel_rfl) args w
theorem PH (args:Array Value) (w:World):(callFunc 15 args).run Tryz.prog w=.ok (.enter 15 args) w:=Ak Tryz.func15 (by kernel_rfl) (by kernel_rfl) args w
theorem NH (args:Array Value) (w:World):(callFunc 16 args).run Tryz.prog w=.ok (.enter 16 args) w:=Ak Tryz.func16 (by kernel_rfl) (by kernel_rfl) args w
theorem Oz (args:Array Value) (w:World):(callFunc 17 args).run Tryz.prog w=.ok (.enter 17 args) w:=Ak Tryz.func17 (by kernel_rfl) (by kernel_rfl) args w
theorem MP (args:Array Value) (w:World):(callFunc 18 args).run Tryz.prog w=.ok (.enter 18 args) w:=Ak Tryz.func18 (by kernel_rfl) (by kernel_rfl) args w
theorem Ow (args:Array Value) (w:World):(callFunc 19 args).run Tryz.prog w=.ok (.enter 19 args) w:=Ak Tryz.func19 (by kernel_rfl) (by kernel_rfl) args w
theorem PT (args:Array Value) (w:World):(callFunc 20 args).run Tryz.prog w=.ok (.enter 20 args) w:=Ak Tryz.func20 (by kernel_rfl) (by kernel_rfl) args w
theorem LI (args:Array Value) (w:World):(callFunc 21 args).run Tryz.prog w=.ok (.enter 21 args) w:=Ak Tryz.func21 (by kernel_rfl) (by kernel_rfl) args w
theorem MQ (args:Array Value) (w:World):(callFunc 22 args).run Tryz.prog w=.ok (.enter 22 args) w:=Ak Tryz.func22 (by kernel_rfl) (by kernel_rfl) args w
theorem KR (args:Array Value) (w:World):(callFunc 23 args).run Tryz.prog w=.ok (.enter 23 args) w:=Ak Tryz.func23 (by kernel_rfl) (by kernel_rfl) args w
theorem Py (args:Array Value) (w:World):(callFunc 24 args).run Tryz.prog w=.ok (.enter 24 args) w:=Ak Tryz.func24 (by kernel_rfl) (by kernel_rfl) args w
theorem Lv (args:Array Value) (w:World):(callFunc 25 args).run Tryz.prog w=.ok (.enter 25 args) w:=Ak Tryz.func25 (by kernel_rfl) (by kernel_rfl) args w
theorem Ky (args:Array Value) (w:World):(callFunc 26 args).run Tryz.prog w=.ok (.enter 26 args) w:=Ak Tryz.func26 (by kernel_rfl) (by kernel_rfl) args w
theorem PY (args:Array Value) (w:World):(callFunc 27 args).run Tryz.prog w=.ok (.enter 27 args) w:=Ak Tryz.func27 (by kernel_rfl) (by kernel_rfl) args w
theorem O9 (args:Array Value) (w:World):(callFunc 28 args).run Tryz.prog w=.ok (.enter 28 args) w:=Ak Tryz.func28 (by kernel_rfl) (by kernel_rfl) args w
theorem QP (args:Array Value) (w:World):(callFunc 29 args).run Tryz.prog w=.ok (.enter 29 args) w:=Ak Tryz.func29 (by kernel_rfl) (by kernel_rfl) args w
theorem K8 (args:Array Value) (w:World):(callFunc 30 args).run Tryz.prog w=.ok (.enter 30 args) w:=Ak Tryz.func30 (by kernel_rfl) (by kernel_rfl) args w
theorem ME (args:Array Value) (w:World):(callFunc 31 args).run Tryz.prog w=.ok (.enter 31 args) w:=Ak Tryz.func31 (by kernel_rfl) (by kernel_rfl) args w
theorem M3 (args:Array Value) (w:World):(callFunc 32 args).run Tryz.prog w=.ok (.enter 32 args) w:=Ak Tryz.func32 (by kernel_rfl) (by kernel_rfl) args w
theorem Rb (args:Array Value) (w:World):(callFunc 33 args).run Tryz.prog w=.ok (.enter 33 args) w:=Ak Tryz.func33 (by kernel_rfl) (by kernel_rfl) args w
theorem KS (args:Array Value) (w:World):(callFunc 34 args).run Tryz.prog w=.ok (.enter 34 args) w:=Ak Tryz.func34 (by kernel_rfl) (by kernel_rfl) args w
theorem Qm (args:Array Value) (w:World):(callFunc 35 args).run Tryz.prog w=.ok (.enter 35 args) w:=Ak Tryz.func35 (by kernel_rfl) (by kernel_rfl) args w
theorem Qb (args:Array Value) (w:World):(callFunc 36 args).run Tryz.prog w=.ok (.enter 36 args) w:=Ak Tryz.func36 (by kernel_rfl) (by kernel_rfl) args w
theorem L6 (args:Array Value) (w:World):(callFunc 37 args).run Tryz.prog w=.ok (.enter 37 args) w:=Ak Tryz.func37 (by kernel_rfl) (by kernel_rfl) args w
theorem KZ (args:Array Value) (w:World):(callFunc 38 args).run Tryz.prog w=.ok (.enter 38 args) w:=Ak Tryz.func38 (by kernel_rfl) (by kernel_rfl) args w
theorem Rm (args:Array Value) (w:World):(callFunc 39 args).run Tryz.prog w=.ok (.enter 39 args) w:=Ak Tryz.func39 (by kernel_rfl) (by kernel_rfl) args w
theorem Qr (args:Array Value) (w:World):(callFunc 40 args).run Tryz.prog w=.ok (.enter 40 args) w:=Ak Tryz.func40 (by kernel_rfl) (by kernel_rfl) args w
theorem NY (args:Array Value) (w:World):(callFunc 41 args).run Tryz.prog w=.ok (.enter 41 args) w:=Ak Tryz.func41 (by kernel_rfl) (by kernel_rfl) args w
theorem QH (args:Array Value) (w:World):(callFunc 42 args).run Tryz.prog w=.ok (.enter 42 args) w:=Ak Tryz.func42 (by kernel_rfl) (by kernel_rfl) args w
theorem OV (args:Array Value) (w:World):(callFunc 43 args).run Tryz.prog w=.ok (.enter 43 args) w:=Ak Tryz.func43 (by kernel_rfl) (by kernel_rfl) args w
theorem Nj (args:Array Value) (w:World):(callFunc 44 args).run Tryz.prog w=.ok (.enter 44 args) w:=Ak Tryz.func44 (by kernel_rfl) (by kernel_rfl) args w
theorem Pj (args:Array Value) (w:World):(callFunc 45 args).run Tryz.prog w=.ok (.enter 45 args) w:=Ak Tryz.func45 (by kernel_rfl) (by kernel_rfl) args w
theorem NB (args:Array Value) (w:World):(callFunc 46 args).run Tryz.prog w=.ok (.enter 46 args) w:=Ak Tryz.func46 (by kernel_rfl) (by kernel_rfl) args w
theorem QL (args:Array Value) (w:World):(callFunc 47 args).run Tryz.prog w=.ok (.enter 47 args) w:=Ak Tryz.func47 (by kernel_rfl) (by kernel_rfl) args w
theorem KO (args:Array Value) (w:World):(callFunc 48 args).run Tryz.prog w=.ok (.enter 48 args) w:=Ak Tryz.func48 (by kernel_rfl) (by kernel_rfl) args w
theorem L4 (args:Array Value) (w:World):(callFunc 49 args).run Tryz.prog w=.ok (.enter 49 args) w:=Ak Tryz.func49 (by kernel_rfl) (by kernel_rfl) args w
theorem PK (args:Array Value) (w:World):(callFunc 50 args).run Tryz.prog w=.ok (.enter 50 args) w:=Ak Tryz.func50 (by kernel_rfl) (by kernel_rfl) args w
theorem Q7 (args:Array Value) (w:World):(callFunc 51 args).run Tryz.prog w=.ok (.enter 51 args) w:=Ak Tryz.func51 (by kernel_rfl) (by kernel_rfl) args w
theorem Mo (args:Array Value) (w:World):(callFunc 52 args).run Tryz.prog w=.ok (.enter 52 args) w:=Ak Tryz.func52 (by kernel_rfl) (by kernel_rfl) args w
theorem P3 (args:Array Value) (w:World):(callFunc 53 args).run Tryz.prog w=.ok (.enter 53 args) w:=Ak Tryz.func53 (by kernel_rfl) (by kernel_rfl) args w
theorem Ml (args:Array Value) (w:World):(callFunc 54 args).run Tryz.prog w=.ok (.enter 54 args) w:=Ak Tryz.func54 (by kernel_rfl) (by kernel_rfl) args w
theorem P4 (args:Array Value) (w:World):(callFunc 55 args).run Tryz.prog w=.ok (.enter 55 args) w:=Ak Tryz.func55 (by kernel_rfl) (by kernel_rfl) args w
theorem OY (args:Array Value) (w:World):(callFunc 56 args).run Tryz.prog w=.ok (.enter 56 args) w:=Ak Tryz.func56 (by kernel_rfl) (by kernel_rfl) args w
theorem PW (args:Array Value) (w:World):(callFunc 57 args).run Tryz.prog w=.ok (.enter 57 args) w:=Ak Tryz.func57 (by kernel_rfl) (by kernel_rfl) args w
theorem N8 (args:Array Value) (w:World):(callFunc 58 args).run Tryz.prog w=.ok (.enter 58 args) w:=Ak Tryz.func58 (by kernel_rfl) (by kernel_rfl) args w
theorem OB (args:Array Value) (w:World):(callFunc 59 args).run Tryz.prog w=.ok (.enter 59 args) w:=Ak Tryz.func59 (by kernel_rfl) (by kernel_rfl) args w
theorem MG (args:Array Value) (w:World):(callFunc 60 args).run Tryz.prog w=.ok (.enter 60 args) w:=Ak Tryz.func60 (by kernel_rfl) (by kernel_rfl) args w
theorem Mi (args:Array Value) (w:World):(callFunc 61 args).run Tryz.prog w=.ok (.enter 61 args) w:=Ak Tryz.func61 (by kernel_rfl) (by kernel_rfl) args w
theorem Mz (args:Array Value) (w:World):(callFunc 62 args).run Tryz.prog w=.ok (.enter 62 args) w:=Ak Tryz.func62 (by kernel_rfl) (by kernel_rfl) args w
theorem Li (args:Array Value) (w:World):(callFunc 63 args).run Tryz.prog w=.ok (.enter 63 args) w:=Ak Tryz.func63 (by kernel_rfl) (by kernel_rfl) args w
theorem LC (args:Array Value) (w:World):(callFunc 64 args).run Tryz.prog w=.ok (.enter 64 args) w:=Ak Tryz.func64 (by kernel_rfl) (by kernel_rfl) args w
theorem Qs (args:Array Value) (w:World):(callFunc 65 args).run Tryz.prog w=.ok (.enter 65 args) w:=Ak Tryz.func65 (by kernel_rfl) (by kernel_rfl) args w
theorem MK (args:Array Value) (w:World):(callFunc 66 args).run Tryz.prog w=.ok (.enter 66 args) w:=Ak Tryz.func66 (by kernel_rfl) (by kernel_rfl) args w
theorem Na (args:Array Value) (w:World):(callFunc 67 args).run Tryz.prog w=.ok (.enter 67 args) w:=Ak Tryz.func67 (by kernel_rfl) (by kernel_rfl) args w
theorem KF (args:Array Value) (w:World):(callFunc 68 args).run Tryz.prog w=.ok (.enter 68 args) w:=Ak Tryz.func68 (by kernel_rfl) (by kernel_rfl) args w
theorem N7 (args:Array Value) (w:World):(callFunc 69 args).run Tryz.prog w=.ok (.enter 69 args) w:=Ak Tryz.func69 (by kernel_rfl) (by kernel_rfl) args w
theorem QK (args:Array Value) (w:World):(callFunc 70 args).run Tryz.prog w=.ok (.enter 70 args) w:=Ak Tryz.func70 (by kernel_rfl) (by kernel_rfl) args w
theorem Oi (args:Array Value) (w:World):(callFunc 71 args).run Tryz.prog w=.ok (.enter 71 args) w:=Ak Tryz.func71 (by kernel_rfl) (by kernel_rfl) args w
theorem Rq (args:Array Value) (w:World):(callFunc 72 args).run Tryz.prog w=.ok (.enter 72 args) w:=Ak Tryz.func72 (by kernel_rfl) (by kernel_rfl) args w
theorem Ke (args:Array Value) (w:World):(callFunc 73 args).run Tryz.prog w=.ok (.enter 73 args) w:=Ak Tryz.func73 (by kernel_rfl) (by kernel_rfl) args w
theorem Of (args:Array Value) (w:World):(callFunc 74 args).run Tryz.prog w=.ok (.enter 74 args) w:=Ak Tryz.func74 (by kernel_rfl) (by kernel_rfl) args w
theorem Lm (args:Array Value) (w:World):(callFunc 75 args).run Tryz.prog w=.ok (.enter 75 args) w:=Ak Tryz.func75 (by kernel_rfl) (by kernel_rfl) args w
theorem Oj (args:Array Value) (w:World):(callFunc 76 args).run Tryz.prog w=.ok (.enter 76 args) w:=Ak Tryz.func76 (by kernel_rfl) (by kernel_rfl) args w
theorem KW (args:Array Value) (w:World):(callFunc 77 args).run Tryz.prog w=.ok (.enter 77 args) w:=Ak Tryz.func77 (by kernel_rfl) (by kernel_rfl) args w
theorem MC (args:Array Value) (w:World):(callFunc 78 args).run Tryz.prog w=.ok (.enter 78 args) w:=Ak Tryz.func78 (by kernel_rfl) (by kernel_rfl) args w
theorem KT (args:Array Value) (w:World):(callFunc 79 args).run Tryz.prog w=.ok (.enter 79 args) w:=Ak Tryz.func79 (by kernel_rfl) (by kernel_rfl) args w
theorem PE (args:Array Value) (w:World):(callFunc 80 args).run Tryz.prog w=.ok (.enter 80 args) w:=Ak Tryz.func80 (by kernel_rfl) (by kernel_rfl) args w
theorem Nl (args:Array Value) (w:World):(callFunc 81 args).run Tryz.prog w=.ok (.enter 81 args) w:=Ak Tryz.func81 (by kernel_rfl) (by kernel_rfl) args w
theorem Rp (args:Array Value) (w:World):(callFunc 82 args).run Tryz.prog w=.ok (.enter 82 args) w:=Ak Tryz.func82 (by kernel_rfl) (by kernel_rfl) args w
theorem Oh (args:Array Value) (w:World):(callFunc 83 args).run Tryz.prog w=.ok (.enter 83 args) w:=Ak Tryz.func83 (by kernel_rfl) (by kernel_rfl) args w
theorem MH (args:Array Value) (w:World):(callFunc 84 args).run Tryz.prog w=.ok (.enter 84 args) w:=Ak Tryz.func84 (by kernel_rfl) (by kernel_rfl) args w
theorem Qq (args:Array Value) (w:World):(callFunc 85 args).run Tryz.prog w=.ok (.enter 85 args) w:=Ak Tryz.func85 (by kernel_rfl) (by kernel_rfl) args w
theorem MY (args:Array Value) (w:World):(callFunc 86 args).run Tryz.prog w=.ok (.enter 86 args) w:=Ak Tryz.func86 (by kernel_rfl) (by kernel_rfl) args w
theorem OX (args:Array Value) (w:World):(callFunc 87 args).run Tryz.prog w=.ok (.enter 87 args) w:=Ak Tryz.func87 (by kernel_rfl) (by kernel_rfl) args w
theorem P2 (args:Array Value) (w:World):(callFunc 88 args).run Tryz.prog w=.ok (.enter 88 args) w:=Ak Tryz.func88 (by kernel_rfl) (by kernel_rfl) args w
theorem KU (args:Array Value) (w:World):(callFunc 89 args).run Tryz.prog w=.ok (.enter 89 args) w:=Ak Tryz.func89 (by kernel_rfl) (by kernel_rfl) args w
theorem LP (args:Array Value) (w:World):(callFunc 91 args).run Tryz.prog w=.ok (.enter 91 args) w:=Ak Tryz.func91 (by kernel_rfl) (by kernel_rfl) args w
theorem QW (args:Array Value) (w:World):(callFunc 92 args).run Tryz.prog w=.ok (.enter 92 args) w:=Ak Tryz.func92 (by kernel_rfl) (by kernel_rfl) args w
theorem NL (args:Array Value) (w:World):(callFunc 93 args).run Tryz.prog w=.ok (.enter 93 args) w:=Ak Tryz.func93 (by kernel_rfl) (by kernel_rfl) args w
theorem Nm (args:Array Value) (w:World):(callFunc 94 args).run Tryz.prog w=.ok (.enter 94 args) w:=Ak Tryz.func94 (by kernel_rfl) (by kernel_rfl) args w
theorem KA (args:Array Value) (w:World):(callFunc 95 args).run Tryz.prog w=.ok (.enter 95 args) w:=Ak Tryz.func95 (by kernel_rfl) (by kernel_rfl) args w
theorem LZ (args:Array Value) (w:World):(callFunc 96 args).run Tryz.prog w=.ok (.enter 96 args) w:=Ak Tryz.func96 (by kernel_rfl) (by kernel_rfl) args w
theorem Kw (args:Array Value) (w:World):(callFunc 97 args).run Tryz.prog w=.ok (.enter 97 args) w:=Ak Tryz.func97 (by kernel_rfl) (by kernel_rfl) args w
theorem K7 (args:Array Value) (w:World):(callFunc 98 args).run Tryz.prog w=.ok (.enter 98 args) w:=Ak Tryz.func98 (by kernel_rfl) (by kernel_rfl) args w
theorem Ok (args:Array Value) (w:World):(callFunc 100 args).run Tryz.prog w=.ok (.enter 100 args) w:=Ak Tryz.func100 (by kernel_rfl) (by kernel_rfl) args w
theorem Kh (args:Array Value) (w:World):(callFunc 101 args).run Tryz.prog w=.ok (.enter 101 args) w:=Ak Tryz.func101 (by kernel_rfl) (by kernel_rfl) args w
theorem Qu (args:Array Value) (w:World):(callFunc 102 args).run Tryz.prog w=.ok (.enter 102 args) w:=Ak Tryz.func102 (by kernel_rfl) (by kernel_rfl) args w
theorem La (args:Array Value) (w:World):(callFunc 103 args).run Tryz.prog w=.ok (.enter 103 args) w:=Ak Tryz.func103 (by kernel_rfl) (by kernel_rfl) args w
theorem NM (args:Array Value) (w:World):(callFunc 104 args).run Tryz.prog w=.ok (.enter 104 args) w:=Ak Tryz.func104 (by kernel_rfl) (by kernel_rfl) args w
theorem Pr (args:Array Value) (w:World):(callFunc 105 args).run Tryz.prog w=.ok (.enter 105 args) w:=Ak Tryz.func105 (by kernel_rfl) (by kernel_rfl) args w
theorem Np (args:Array Value) (w:World):(callFunc 107 args).run Tryz.prog w=.ok (.enter 107 args) w:=Ak Tryz.func107 (by kernel_rfl) (by kernel_rfl) args w
theorem Rh (args:Array Value) (w:World):(callFunc 108 args).run Tryz.prog w=.ok (.enter 108 args) w:=Ak Tryz.func108 (by kernel_rfl) (by kernel_rfl) args w
theorem L2 (args:Array Value) (w:World):(callFunc 111 args).run Tryz.prog w=.ok (.enter 111 args) w:=Ak Tryz.func111 (by kernel_rfl) (by kernel_rfl) args w
theorem P9 (args:Array Value) (w:World):(callFunc 114 args).run Tryz.prog w=.ok (.enter 114 args) w:=Ak Tryz.func114 (by kernel_rfl) (by kernel_rfl) args w
theorem Ma (args:Array Value) (w:World):(callFunc 115 args).run Tryz.prog w=.ok (.enter 115 args) w:=Ak Tryz.func115 (by kernel_rfl) (by kernel_rfl) args w
theorem Nn (args:Array Value) (w:World):(callFunc 117 args).run Tryz.prog w=.ok (.enter 117 args) w:=Ak Tryz.func117 (by kernel_rfl) (by kernel_rfl) args w
theorem NI (args:Array Value) (w:World):(callFunc 118 args).run Tryz.prog w=.ok (.enter 118 args) w:=Ak Tryz.func118 (by kernel_rfl) (by kernel_rfl) args w
theorem Pk (args:Array Value) (w:World):(callFunc 120 args).run Tryz.prog w=.ok (.enter 120 args) w:=Ak Tryz.func120 (by kernel_rfl) (by kernel_rfl) args w
theorem MT (args:Array Value) (w:World):(callFunc 121 args).run Tryz.prog w=.ok (.enter 121 args) w:=Ak Tryz.func121 (by kernel_rfl) (by kernel_rfl) args w
theorem M7 (args:Array Value) (w:World):(callFunc 126 args).run Tryz.prog w=.ok (.enter 126 args) w:=Ak Tryz.func126 (by kernel_rfl) (by kernel_rfl) args w
attribute [go_sem ↓] Lr PD KL Oa K4 KB Rf OD KJ NP Mw MR OM PH NH Oz MP Ow PT LI MQ KR Py Lv Ky PY O9 QP K8 ME M3 Rb KS Qm Qb L6 KZ Rm Qr NY QH OV Nj Pj NB QL KO L4 PK Q7 Mo P3 Ml P4 OY PW N8 OB MG Mi Mz Li LC Qs MK Na KF N7 QK Oi Rq Ke Of Lm Oj KW MC KT PE Nl Rp Oh MH Qq MY OX P2 KU LP QW NL Nm KA LZ Kw K7 Ok Kh Qu La NM Pr Np Rh L2 P9 Ma Nn NI Pk MT M7
attribute [go_sem] LT
end Go.Proofs.YtlakpndhhelliaaGreatDoor
namespace Go.Proofs.YtlakpndhhelliaaGreatDoor
open Go.RowKit
def Bt (w:World) (g:Nat) (ks:List Value):Prop:=
 ∃es clock,w.heap[g]?=some (.map es clock)∧es.toList.map (·.key)=ks∧es.toList.map (·.val)=(List.range ks.length).map fun(i:Nat)=>Value.int .i64 (i:Int)
theorem Bt.keep {w w':World} {g:Nat} {f:List Value} (h:Bt w g f) (y:w'.heap[g]?=w.heap[g]?):Bt w' g f:=by
 obtain⟨es,z,C,E⟩:=h
 exact⟨es,z,by rw [y]; exact C,E⟩
theorem Bt.lt {w:World} {g:Nat} {f:List Value} (h:Bt w g f):g<w.heap.size:=by
 obtain⟨es,z,y,C⟩:=h
 exact(Array.getElem?_eq_some_iff.1 y).1
theorem Bt.made (w:World):Bt (w.alloc (.map #[] 0)) w.heap.size []:=⟨#[],0,heap_alloc_new w _,rfl,rfl⟩
structure DV {S:Type} [DecidableEq S] (P:Program) (K:TypeId) (enc:S→Value):Prop where
 check:∀em w s,(Instr.checkKey em 10000 K (enc s)).run P w=.ok () w
 find:∀w s (es:List MapEntry) (l:List S),es.map (·.key)=l.map enc→
  (Instr.findKey K (enc s) es).run P w=.ok (if s∈l then some (l.idxOf s,((es[l.idxOf s]?).map (·.val)).getD .nilFunc) else none) w
section
variable {S:Type} [DecidableEq S] {P:Program} {K:TypeId}
theorem P6 (q:IntKind) (f:S→Int) (C:∀a b,f a=f b→a=b) (s:S) (es:List MapEntry):∀(l:List S) (i:Nat),es.map (·.key)=l.map (fun s=>Value.int q (f s))→
  Instr.findNow (.int q) (.int q (f s)) es i=some (if s∈l then some (i+l.idxOf s,((es[l.idxOf s]?).map (·.val)).getD .nilFunc) else none):=by
 induction es with
 | nil=>
  intro l i h
  have:l=[]:=by cases l <;> simp_all
  subst this
  simp [Instr.findNow]
 | cons e es ih=>
  intro l i h
  cases l with
  | nil=>simp at h
  | cons t l=>
   simp only [List.map_cons,List.cons.injEq] at h
   obtain⟨E,F⟩:=h
   unfold Instr.findNow
   rw [E]
   simp only [Instr.sameNow,if_true]
   by_cases y:s=t
   ·subst y
    simp
   ·have G:(f s==f t)=false:=by simpa using fun e=>y (C _ _ e)
    rw [G]
    dsimp only
    rw [ih l (i+1) F]
    have I:(t::l).idxOf s=l.idxOf s+1:=by
     rw [List.idxOf_cons]
     have:(t==s)=false:=by simpa using fun e=>y e.symm
     rw [this]; rfl
    by_cases z:s∈l
    ·simp only [z,I,List.mem_cons,or_true,if_true,List.getElem?_cons_succ,Option.some.injEq,Prod.mk.injEq,and_true]; omega
    ·simp [z,y]
theorem Ls (q:IntKind) (y:P.underlying K=some (.int q)) (f:S→Int) (z:∀a b,f a=f b→a=b):DV P K (fun s=>Value.int q (f s)) where
 check:=fun C w s=>by
  rw [show(10000:Nat)=9999+1 from rfl]
  unfold Instr.checkKey
  simp [run_underlying y]
 find:=fun w s es l h=>by
  unfold Instr.findKey
  simp only [Sem.run_bind,run_underlying y,Result.andThen_ok]
  rw [P6 q f z s es l 0 h]
  simp
theorem Ht (a b:ByteArray):(a==b)=(a.data==b.data):=rfl
theorem Mf (a:ByteArray):(a==a)=true:=by rw [Ht]; simp
theorem QU {a b:ByteArray} (h:a≠b):(a==b)=false:=by rw [Ht]; simp; intro e; exact h (ByteArray.ext e)
theorem PL (f:S→ByteArray) (C:∀a b,f a=f b→a=b) (s:S) (es:List MapEntry):∀(l:List S) (i:Nat),es.map (·.key)=l.map (fun s=>Value.string (f s))→
  Instr.findNow .string (.string (f s)) es i=some (if s∈l then some (i+l.idxOf s,((es[l.idxOf s]?).map (·.val)).getD .nilFunc) else none):=by
 induction es with
 | nil=>
  intro l i h
  have:l=[]:=by cases l <;> simp_all
  subst this
  simp [Instr.findNow]
 | cons e es ih=>
  intro l i h
  cases l with
  | nil=>simp at h
  | cons t l=>
   simp only [List.map_cons,List.cons.injEq] at h
   obtain⟨E,F⟩:=h
   unfold Instr.findNow
   rw [E]
   simp only [Instr.sameNow]
   by_cases y:s=t
   ·subst y
    have G:(f s==f s)=true:=Mf _
    rw [G]
    simp
   ·have I:(f s==f t)=false:=QU fun e=>y (C _ _ e)
    rw [I]
    dsimp only
    rw [ih l (i+1) F]
    have J:(t::l).idxOf s=l.idxOf s+1:=by
     rw [List.idxOf_cons]
     have:(t==s)=false:=by simpa using fun e=>y e.symm
     rw [this]; rfl
    by_cases z:s∈l
    ·simp only [z,J,List.mem_cons,or_true,if_true,List.getElem?_cons_succ,Option.some.injEq,Prod.mk.injEq,and_true]; omega
    ·simp [z,y]
theorem Ln (y:P.underlying K=some .string) (f:S→ByteArray) (z:∀a b,f a=f b→a=b):DV P K (fun s=>Value.string (f s)) where
 check:=fun C w s=>by
  rw [show(10000:Nat)=9999+1 from rfl]
  unfold Instr.checkKey
  simp [run_underlying y]
 find:=fun w s es l h=>by
  unfold Instr.findKey
  simp only [Sem.run_bind,run_underlying y,Result.andThen_ok]
  rw [PL f z s es l 0 h]
  simp
theorem I2 {es:Array MapEntry} {n i:Nat} (h:es.toList.map (·.val)=(List.range n).map fun(i:Nat)=>Value.int .i64 (i:Int)) (f:i<n):((es.toList[i]?).map (·.val)).getD .nilFunc=.int .i64 (i:Int):=by
 have:(es.toList.map (·.val))[i]?=some (Value.int .i64 (i:Int)):=by rw [h]; simp [f]
 rw [List.getElem?_map] at this
 rw [this]; rfl
theorem Fs {enc:S→Value} (hk:DV P K enc) {T E:TypeId} (y:P.underlying T=some (.map K E)) (z:∀w,(zeroValue E).run P w=.ok (.int .i64 0) w) {w:World} {g:Nat} {l:List S}
  (h:Bt w g (l.map enc)) (s:S):
  (Instr.lookup T (.map (some g)) (enc s) true).run P w=.ok (.tuple #[.int .i64 (if s∈l then (l.idxOf s:Int) else 0),.bool (decide (s∈l))]) w:=by
 obtain⟨es,C,F,G,I⟩:=h
 have J:(getObj g).run P w=.ok (.map es C) w:=by simp [getObj,Sem.run,F]
 have M:=hk.find w s es.toList l G
 unfold Instr.lookup
 simp only [Sem.run_bind,run_underlying y,Result.andThen_ok,J,Sem.run_pure,hk.check,M]
 by_cases f:s∈l
 ·simp only [f,if_true,decide_true]
  rw [I2 I (by rw [List.length_map]; exact List.idxOf_lt_length_of_mem f)]
  rfl
 ·simp only [f,if_false,Result.andThen_ok,Sem.run_bind,z,Sem.run_pure,decide_false,if_true]
theorem Fd {enc:S→Value} (hk:DV P K enc) {T E:TypeId} (F:P.underlying T=some (.map K E)) {w:World} {g:Nat} {l:List S}
  (h:Bt w g (l.map enc)) (s:S) (G:s∉l):
  ∃w',(Instr.mapUpdate T (.map (some g)) (enc s) (.int .i64 (l.length:Int))).run P w=.ok () w'∧Bt w' g ((l++[s]).map enc)∧w.grownBy w' (some g)∧w'.heap.size=w.heap.size:=by
 obtain⟨es,f,y,z,I⟩:=h
 have J:(getObj g).run P w=.ok (.map es f) w:=by simp [getObj,Sem.run,y]
 have C:=hk.find w s es.toList l z
 rw [if_neg G] at C
 have M:g<w.heap.size:=(Array.getElem?_eq_some_iff.1 y).1
 have O:∀o:Obj,(setObj g o).run P w=.ok () { w with heap:=w.heap.setIfInBounds g o }:=fun o=>by
  simp [setObj,Sem.run,y]
 refine⟨{ w with heap:=w.heap.setIfInBounds g (.map (es.push { key:=enc s,val:=.int .i64 (l.length:Int),born:=f }) (f+1)) },?_,
  ⟨es.push { key:=enc s,val:=.int .i64 (l.length:Int),born:=f },f+1,?_,?_,?_⟩,⟨rfl,rfl,rfl,by simp,fun k hk U=>?_⟩,by simp⟩
 ·unfold Instr.mapUpdate
  simp only [Sem.run_bind,run_underlying F,Result.andThen_ok,J,hk.check,C,O]
 ·simp [M]
 ·simp [z]
 ·simp only [Array.toList_push,List.map_append,I,List.map_cons,List.map_nil,List.length_append,List.length_cons,List.length_nil,List.length_map]
  rw [List.range_succ]
  simp
 ·have:k≠g:=fun e=>U (by rw [e])
  simp [Array.getElem?_setIfInBounds_ne (fun e=>this e.symm)]
end
end Go.Proofs.YtlakpndhhelliaaGreatDoor
namespace Go.Proofs.YtlakpndhhelliaaGreatDoor
open Go.RowKit
def Ret (V:Value→World→Prop):Ending→World→Prop
 | .returned v,w=>V v w
 | _,_=>False
theorem Calls.ret {P:Program} {f:FuncId} {args:Array Value} {w:World} {V:Value→World→Prop} {K:Ending→World→Prop} (h:Calls P f args w (Ret V)) (z:∀v w',V v w'→K (.returned v) w'):Calls P f args w K:=
 h.mono fun e w' y=>by
  cases e with
  | returned v=>exact z v w' y
  | panicked c=>exact y.elim
  | outgrown=>exact y.elim
theorem Calls.ret_eq {P:Program} {f:FuncId} {args:Array Value} {w:World} {V:Value→World→Prop} {v:Value} (h:Calls P f args w fun e w'=>e=.returned v∧V v w'):Calls P f args w (Ret V):=
 h.mono fun e w' ⟨y,z⟩=>by subst y; exact z
structure Ae (w w':World) (X:Nat→Prop):Prop where
 os:w'.os=w.os
 tape:w'.tape=w.tape
 output:w'.output=w.output
 size:w.heap.size≤w'.heap.size
 block:∀k,k<w.heap.size→¬X k→w'.heap[k]?=w.heap[k]?
section
variable {w w' w'':World} {X Y:Nat→Prop}
theorem Ae.refl (w:World) (X:Nat→Prop):Ae w w X:=⟨rfl,rfl,rfl,Nat.le_refl _,fun _ _ _=>rfl⟩
theorem Ae.trans (h:Ae w w' X) (k:Ae w' w'' Y) (z:∀b,b<w.heap.size→Y b→X b):Ae w w'' X:=
 ⟨k.os.trans h.os,k.tape.trans h.tape,k.output.trans h.output,Nat.le_trans h.size k.size,
  fun b f y=>(k.block b (Nat.lt_of_lt_of_le f h.size) fun C=>y (z b f C)).trans (h.block b f y)⟩
theorem Ae.mono (h:Ae w w' X) (y:∀b,b<w.heap.size→X b→Y b):Ae w w' Y:=⟨h.os,h.tape,h.output,h.size,fun b f z=>h.block b f fun C=>z (y b f C)⟩
theorem Ae.of_below (h:Below w.heap.size w w') (X:Nat→Prop):Ae w w' X:=⟨h.os,h.tape,h.output,h.size,fun b f _=>h.block b f⟩
theorem Ae.of_grown {row:Option Nat} (h:w.grownBy w' row):Ae w w' (fun b=>row=some b):=⟨h.os,h.tape,h.output,h.size,fun b f y=>h.block b f fun e=>y e.symm⟩
theorem Ae.drew (h:Ae w w' X):Ae w w'.drew X:=⟨h.os,h.tape,h.output,h.size,h.block⟩
theorem Ae.drewN (h:Ae w w' X) (n:Nat):Ae w (w'.drewN n) X:=⟨h.os,h.tape,h.output,h.size,h.block⟩
theorem Ae.alloc (h:Ae w w' X) (o:Obj):Ae w (w'.alloc o) X:=
 ⟨h.os,h.tape,h.output,Nat.le_trans h.size (by simp),fun b f y=>(Below.heap_alloc _ _ _ (Nat.lt_of_lt_of_le f h.size)).trans (h.block b f y)⟩
theorem Ae.setCell (h:Ae w w' X) {p:Addr} (z:p.block<w.heap.size→X p.block) (u:Value):Ae w (w'.setCell p u) X:=
 ⟨h.os,h.tape,h.output,by simpa [World.setCell] using h.size,fun b f y=>(Below.heap_setCell _ _ _ _ (fun e=>y (by subst e; exact z f))).trans (h.block b f y)⟩
theorem Ae.below (h:Ae w w' X) {B:Nat} (z:B≤w.heap.size) (f:∀b,b<B→¬X b):Below B w w':=⟨h.os,h.tape,h.output,h.size,fun b y=>h.block b (by omega) (f b y)⟩
theorem Ae.below' (h:Ae w w' X) (f:∀b,b<w.heap.size→¬X b):Below w.heap.size w w':=h.below (Nat.le_refl _) f
theorem Ae.same (h:Ae w w' X) {o:Obj} {b:Nat} (f:w.heap[b]?=some o) (y:¬X b):w'.heap[b]?=some o:=by
 rw [h.block b (Array.getElem?_eq_some_iff.1 f).1 y]; exact f
theorem Ae.cell (h:Ae w w' X) {p:Addr} (f:p.block<w.heap.size) (y:¬X p.block):w'.cell? p=w.cell? p:=World.cell?_of_block (h.block p.block f y)
theorem Ae.ownsRow (h:Ae w w' X) {base n size:Nat} {e:TypeId} {v:Value} {xs:List Value} (f:w.ownsRow base e size v n xs) (y:∀g,v.ownBlock=some g→¬X g):w'.ownsRow base e size v n xs:=by
 refine⟨f.1,?_⟩
 rcases f.2 with z | ⟨g,C,E,rfl,F,G,rest⟩
 ·exact .inl z
 ·exact .inr ⟨g,C,E,rfl,F,h.same G (y g rfl),rest⟩
end
def Blk (w:World) (g:Nat) (t:TypeId) (cs:Array Value):Prop:=w.heap[g]?=some (.cells cs t (0,0))
section
variable {w w':World} {g:Nat} {t:TypeId} {cs:Array Value} {X:Nat→Prop}
theorem Blk.lt (h:Blk w g t cs):g<w.heap.size:=(Array.getElem?_eq_some_iff.1 h).1
theorem Blk.cell (h:Blk w g t cs) (i:Nat):w.cell? ⟨g,i,none⟩=cs[i]?:=cell_of_row w g i cs t (0,0) h
theorem Blk.frozen (h:Blk w g t cs) (i:Nat):w.frozen? ⟨g,i,none⟩=false:=by
 unfold Blk at h
 simp [World.frozen?,h]
theorem Blk.new (w:World) (t:TypeId) (cs:Array Value):Blk (w.alloc (.cells cs t)) w.heap.size t cs:=heap_alloc_new w _
theorem Blk.set_ (h:Blk w g t cs) (i:Nat) (u:Value):Blk (w.setCell ⟨g,i,none⟩ u) g t (cs.setIfInBounds i u):=by
 unfold Blk at h ⊢
 simp [World.setCell,Array.getElem?_modify,h]
theorem Blk.kept (h:Blk w g t cs) (hk:Ae w w' X) (f:¬X g):Blk w' g t cs:=hk.same h f
theorem Blk.ne_ {y:Nat} {z:TypeId} {C:Array Value} (h:Blk w g t cs) (f:Blk w y z C) (E:t≠z):g≠y:=by
 rintro rfl
 unfold Blk at h f
 rw [h] at f
 injection f with f
 injection f with _ ht
 exact E ht
theorem AK {base size n:Nat} {e:TypeId} {v:Value} {xs:List Value} (h:w.ownsRow base e size v n xs) (f:Blk w g t cs) (y:e≠t):v.ownBlock≠some g:=by
 rcases h.2 with⟨rfl,_⟩ | ⟨z,F,G,rfl,_,C,_⟩
 ·simp [Value.ownBlock]
 ·intro E
  have:z=g:=by simpa [Value.ownBlock] using E
  subst this
  exact Blk.ne_ (t:=e) C f y rfl
theorem RD {base size n base' z C:Nat} {e f:TypeId} {v y:Value} {xs E:List Value} (h:w.ownsRow base e size v n xs) (F:w.ownsRow base' f z y C E) (G:e≠f) {k:Nat} (hk:v.ownBlock=some k):y.ownBlock≠some k:=by
 rcases h.2 with⟨rfl,_⟩ | ⟨I,M,O,rfl,_,J,_⟩
 ·simp [Value.ownBlock] at hk
 ·have:I=k:=by simpa [Value.ownBlock] using hk
  subst this
  exact AK F J fun e=>G e.symm
theorem CZ {base size n:Nat} {e:TypeId} {v:Value} {xs:List Value} {y:List Value} (h:w.ownsRow base e size v n xs) (z:Bt w g y):v.ownBlock≠some g:=by
 rcases h.2 with⟨rfl,_⟩ | ⟨C,G,I,rfl,_,E,_⟩
 ·simp [Value.ownBlock]
 ·intro F
  have:C=g:=by simpa [Value.ownBlock] using F
  subst this
  obtain⟨es,J,f,_⟩:=z
  rw [E] at f; cases f
theorem BL {f:Nat} {z:List Value} (h:Blk w g t cs) (C:Bt w f z):g≠f:=by
 rintro rfl
 obtain⟨es,E,y,_⟩:=C
 unfold Blk at h
 rw [h] at y; cases y
theorem Bt.kept {f:List Value} (h:Bt w g f) (hk:Ae w w' X) (y:¬X g):Bt w' g f:=h.keep (hk.block g h.lt y)
end
def BX (w:World) (v v':Value):Prop:=v'.ownBlock=v.ownBlock∨∃g,v'.ownBlock=some g∧w.heap.size≤g
theorem BX.refl (w:World) (v:Value):BX w v v:=.inl rfl
theorem BX.trans {w w':World} {a b c:Value} (h:BX w a b) (y:w.heap.size≤w'.heap.size) (k:BX w' b c):BX w a c:=by
 rcases k with k | ⟨g,k,f⟩
 ·rcases h with h | ⟨g,h,f⟩
  ·exact .inl (k.trans h)
  ·exact .inr ⟨g,k.trans h,f⟩
 ·exact .inr ⟨g,k,by omega⟩
theorem BX.ne {w:World} {a b:Value} (h:BX w a b) {k:Nat} (hk:k<w.heap.size) (f:a.ownBlock≠some k):b.ownBlock≠some k:=by
 rcases h with h | ⟨g,h,y⟩
 ·rw [h]; exact f
 ·rw [h]; intro e; injection e with e; omega
structure C4 (P:Program) (t e:TypeId) (size:Nat):Prop where
 ht:P.underlying t=some (.slice e)
 info:∃i z bytes,P.info? e=some i∧i.zero=some z∧i.size=size∧i.bytes=bytes∧z.cells.size=size∧bytes≤200
 pos:0<size
theorem EH {P:Program} {t e size bytes:Nat} {z:Value} (ht:P.underlying t=some (.slice e)) (f:(P.info? e).map (fun i=>(i.zero,i.size,i.bytes))=some (some z,size,bytes)) (h:z.cells.size=size) (y:bytes≤200) (C:0<size):C4 P t e size:=by
 obtain⟨i,E,F,G,I⟩:=info_parts f
 exact⟨ht,⟨i,z,bytes,E,F,G,I,h,y⟩,C⟩
theorem AV {w:World} {base e size n:Nat} {v:Value} {xs:List Value} (h:w.ownsRow base e size v n xs):∃A c,v=.slice A n c:=by
 rcases h.2 with⟨rfl,f⟩ | ⟨g,y,z,rfl,_⟩
 ·exact⟨none,0,by rw [f]⟩
 ·exact⟨_,_,rfl⟩
section
variable {P:Program} {ops:Array Oper} {rest:List Oper} {o:Oper} {a:Act} {Q:Exit→Act→World→Prop}
theorem GP {w:World} {t e size:Nat} (R:C4 P t e size) (J:o.guard=none) (s x:Operand)
  (M:o.op=.call { callee:=.builtin .append,args:=#[s,x],argTypes:=#[t,t] })
  (base:Nat) (v:Value) (n:Nat) (xs:List Value) (O:a.eval s=v) (U:w.ownsRow base e size v n xs)
  (F:Addr) (m c:Nat) (f:List Value) (V:a.eval x=.slice (some F) m c) (W:f.length=m*size) (Z:∀j u,f[j]?=some u→w.cell? (F.add j)=some u) (h1:∀u∈f,u.oneCell'=true)
  (hm:0<m) (G:n+m≤4000000) (a3:base≤w.heap.size)
  (h:∀g y w',w'.ownsRow base e size (.slice (some ⟨g,0,none⟩) (n+m) y) (n+m) (xs++f)→Ae w w' (fun k=>v.ownBlock=some k)→BX w v (.slice (some ⟨g,0,none⟩) (n+m) y)→g<w'.heap.size→
   wpList P ops Q rest (a.put o.dst (.slice (some ⟨g,0,none⟩) (n+m) y)) w'):
  wpList P ops Q (o::rest) a w:=by
 obtain⟨i,z,bytes,hi,hz,a6,a7,a8,hb⟩:=R.info
 refine wpList_append_own_at w J s x t M base e i z size bytes R.ht hi hz a6 a7 a8 R.pos v n xs O U F m c f V W Z h1 (by unfold maxLen; omega) ?_ a3 ?_
 ·exact Nat.le_trans (Nat.mul_le_mul G hb) (by decide)
 ·intro v' w' I C ag E
  rcases I.2 with⟨rfl,h0⟩ | ⟨g,y,ah,rfl,ai,hh,_⟩
  ·exact absurd h0 (by omega)
  ·refine h g y w' I ?_ ?_ (Array.getElem?_eq_some_iff.1 hh).1
   ·exact⟨C.os,C.tape,C.output,C.size,fun k hk G=>C.block k hk fun e=>G e.symm⟩
   ·rcases E with E | E
    ·exact .inl E
    ·exact .inr ⟨_,E,Nat.le_refl _⟩
theorem CO {w:World} {t e size:Nat} (R:C4 P t e size) (z:o.guard=none) (s x:Operand)
  (C:o.op=.call { callee:=.builtin .append,args:=#[s,x],argTypes:=#[t,t] })
  (base:Nat) (v:Value) (n:Nat) (xs:List Value) (E:a.eval s=v) (F:w.ownsRow base e size v n xs) (cs:List Value) (c:Nat)
  (G:a.eval x=.slice (some ⟨w.heap.size,0,none⟩) 1 c) (I:cs.length=size) (J:∀u∈cs,u.oneCell'=true)
  (M:n+1≤4000000) (a4:base≤w.heap.size)
  (h:∀g f w',w'.ownsRow base e size (.slice (some ⟨g,0,none⟩) (n+1) f) (n+1) (xs++cs)→Ae w w' (fun k=>v.ownBlock=some k)→BX w v (.slice (some ⟨g,0,none⟩) (n+1) f)→g<w'.heap.size→
   wpList P ops Q rest (a.put o.dst (.slice (some ⟨g,0,none⟩) (n+1) f)) w'):
  wpList P ops Q (o::rest) a (w.alloc (.cells cs.toArray e)):=by
 refine GP R z s x C base v n xs E (F.alloc _) ⟨w.heap.size,0,none⟩ 1 c cs G (by rw [I]; omega) ?_ J (by omega) M (by simp; omega) ?_
 ·intro j u O
  have U:(⟨w.heap.size,0,none⟩:Addr).add j=⟨w.heap.size,j,none⟩:=by unfold Addr.add; split <;> simp_all
  rw [U,cell_of_row _ w.heap.size j cs.toArray e (0,0) (heap_alloc_new w _)]
  simpa using O
 ·intro g f w' V hk y W
  refine h g f w' V (((Ae.refl w (fun k=>v.ownBlock=some k)).alloc (.cells cs.toArray e)).trans hk fun b _ Z=>Z) ?_ W
  rcases y with y | ⟨g',y,a3⟩
  ·exact .inl y
  ·refine .inr ⟨g',y,?_⟩
   simp at a3
   omega
end
end Go.Proofs.YtlakpndhhelliaaGreatDoor
