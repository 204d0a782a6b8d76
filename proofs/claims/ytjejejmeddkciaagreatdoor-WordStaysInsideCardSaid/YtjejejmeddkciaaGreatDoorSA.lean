/-
  Part SA of a proof.
-/
import Derived.Test.YtjejejmeddkciaaGreatDoorPA
import Derived.Test.YtjejejmeddkciaaGreatDoorPE
import Derived.Test.YtjejejmeddkciaaGreatDoorPC
import Derived.Test.YtjejejmeddkciaaGreatDoorPB
set_option maxHeartbeats 16000000
set_option maxRecDepth 100000
set_option linter.unusedVariables false
set_option linter.unusedSimpArgs false
namespace Go.Proofs.YtjejejmeddkciaaGreatDoor
open Go.RowKit
set_option maxHeartbeats 16000000
set_option maxRecDepth 100000
section
variable {S:Type} [DecidableEq S] {P:Program} {K:TypeId}
theorem VI {enc:S->Value} (I:∀w s t,(Op.equal K (enc s) (enc t)).run P w=.ok (decide (s=t)) w) (s:S) (w:World) (es:List MapEntry):∀(l:List S) (i:Nat),es.map (·.key)=l.map enc->
  (Instr.findAsking K (enc s) es i).run P w=.ok (if s∈l then some (i+l.idxOf s,((es[l.idxOf s]?).map (·.val)).getD .nilFunc) else none) w:=by
 induction es with
 | nil=>
  intro l i h;have:l=[]:=by cases l <;> simp_all
  subst this;simp [Instr.findAsking]
 | cons e es ih=>
  intro l i h;cases l with
  | nil=>simp at h
  | cons t l=>
   simp only [List.map_cons,List.cons.injEq] at h;obtain⟨h1,G⟩:=h;unfold Instr.findAsking;rw [h1];simp only [Sem.run_bind,I,Result.andThen_ok];by_cases C:s=t
   ·subst C;simp
   ·simp only [C,decide_false,Bool.false_eq_true,if_false];rw [ih l (i+1) G];have J:(t::l).idxOf s=l.idxOf s+1:=by
     rw [List.idxOf_cons];have:(t==s)=false:=by simpa using fun e=>C e.symm
     rw [this];rfl
    by_cases E:s∈l
    ·simp only [E,J,List.mem_cons,or_true,if_true,List.getElem?_cons_succ];have F:i+1+l.idxOf s=i+(l.idxOf s+1):=by omega
     rw [F]
    ·simp [E,C]
theorem VK {enc:S->Value} {d:TypeDesc} (F:P.underlying K=some d) (M:∀s t,Instr.sameNow d (enc s) (enc t)=none) (G:∀C w s,(Instr.checkKey C 10000 K (enc s)).run P w=.ok () w)
  (E:∀w s t,(Op.equal K (enc s) (enc t)).run P w=.ok (decide (s=t)) w):El P K enc where
 check:=G
 find:=fun w s es l h=>by
  unfold Instr.findKey;simp only [Sem.run_bind,run_underlying F,Result.andThen_ok];cases es with
  | nil=>
   have:l=[]:=by cases l <;> simp_all
   subst this;simp [Instr.findNow]
  | cons e es=>
   cases l with
   | nil=>simp at h
   | cons t l=>
    have I:=h;simp only [List.map_cons,List.cons.injEq] at h;have J:Instr.findNow d (enc s) (e::es) 0=none:=by
     unfold Instr.findNow;rw [h.1,M]
    rw [J];have:=VI E s w (e::es) (t::l) 0 I;simpa using this
end
end Go.Proofs.YtjejejmeddkciaaGreatDoor
namespace Go.Proofs.YtjejejmeddkciaaGreatDoor
open Go.RowKit
def WA.accV (a:WA) (l:List Int):Bool:=a.ok&&l.all (inN a.letters)
def WA.acc (a:WA) (l:List Int):Bool:=a.accV l&&a.lang (l.map Int.toNat)
def WA.accR (a:WA) (l:List Int):Value:=.tuple #[.bool (a.acc l),.int .i64 (De (a.accV l))]
theorem Rc (u:List Nat):(Ak u).map Int.toNat=u:=by
 unfold Ak;rw [List.map_map]
 conv=>rhs;rw [<-List.map_id u]
 exact List.map_congr_left fun x _=>Int.toNat_natCast x
theorem WA.letters_L {a:WA} (h:a.ok=true):a.letters=(a.L:Int):=by
 have:=(WA.ok_iff.1 h).1;unfold WA.L;omega
theorem IR {n:Int} {l:List Int} (h:l.all (inN n)=true):∃u:List Nat,l=Ak u/\okW n.toNat u:=LE fun x C=>List.all_eq_true.1 h x C
theorem Uk {n:Nat} {u:List Nat} (h:okW n u):(Ak u).all (inN (n:Int))=true:=by
 rw [List.all_eq_true];intro x C;obtain⟨y,E,rfl⟩:=List.mem_map.1 C;have:=h y E;rw [D3];omega
theorem WA.acc_word {a:WA} (h:a.ok=true) {u:List Nat} (C:okW a.L u):a.accV (Ak u)=true/\a.acc (Ak u)=a.lang u:=by
 have h1:a.accV (Ak u)=true:=by unfold WA.accV;rw [h,a.letters_L h,Uk C];rfl
 refine⟨h1,?_⟩;unfold WA.acc;rw [h1,Rc];rfl
end Go.Proofs.YtjejejmeddkciaaGreatDoor
namespace Go.Proofs.YtjejejmeddkciaaGreatDoor
open Go.RowKit
def Wy (e:Mv):Nat->Value
 | 0=>.int .i64 e.frm
 | 1=>.int .i64 e.inn
 | 2=>.int .i64 e.out
 | _=>.int .i64 e.to
def Wi (w:World) (B:Nat) (v:Value) (t:TR):Prop:=
 ∃A1 c1 A2 c2 A3 c3,v=.agg #[.int .i64 t.letters,.int .i64 t.states,.slice A1 t.start.length c1,.slice A2 t.accept.length c2,.slice A3 t.moves.length c3]/\
  Sl w B 1 Ai A1 t.start/\Sl w B 1 Ai A2 t.accept/\Sl w B 4 Wy A3 t.moves/\t.start.length<=c1
end Go.Proofs.YtjejejmeddkciaaGreatDoor
