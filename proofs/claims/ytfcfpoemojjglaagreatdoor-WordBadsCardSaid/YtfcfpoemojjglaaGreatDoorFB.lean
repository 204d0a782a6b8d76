/-
  Part FB of a proof.
-/
import Derived.Test.YtfcfpoemojjglaaGreatDoorPA
import Derived.Test.YtfcfpoemojjglaaGreatDoorPB
import Derived.Test.YtfcfpoemojjglaaGreatDoorCA
set_option maxHeartbeats 16000000
set_option maxRecDepth 100000
set_option linter.unusedVariables false
set_option linter.unusedSimpArgs false
namespace Go.Proofs.YtfcfpoemojjglaaGreatDoor
end Go.Proofs.YtfcfpoemojjglaaGreatDoor
namespace Go.Proofs.YtfcfpoemojjglaaGreatDoor
open K (Am AB orE Ad)
theorem AY {a b:Int}:orE a b=0↔a=0/\b=0:=by
 unfold orE;by_cases h:a=0 <;> simp [h]
theorem Gg {b:Bool} {e:Int} (he:e≠0):Ad b e=0↔b=false:=by
 unfold Ad;cases b <;> simp [he]
theorem Ij {l:List Int} {n:Nat} (h:K.Aa l n=0):∀x∈l,inN (n:Int) x=true:=by
 intro x y;have d:=(Gg (by decide)).1 (AY.1 h).1;simp only [Bool.not_eq_false',List.all_eq_true] at d;have j:=d x y;unfold K.inE at j;rw [D3];simp only [Bool.and_eq_true,decide_eq_true_eq] at j;omega
def AU (p:Am) (q:AB):List Int:=if 0<q.start.length then q.start else p.initial
def BS (p:Am) (q:AB):List Int:=if 0<p.leader.length then p.leader else AU p q
structure Gi (p:Am) (q:AB):Prop where
 L:1<=p.states.length/\p.states.length<=6
 starts:∀x∈AU p q,inN (p.states.length:Int) x=true
 lead:∀x∈BS p q,inN (p.states.length:Int) x=true
theorem Qt {ok:ByteArray->Bool} {p:Am} {q:AB} (h:K.propE ok p q=0):Gi p q:=by
 unfold K.propE at h;obtain⟨j,J⟩:=AY.1 h;obtain⟨-,M⟩:=AY.1 J;obtain⟨-,O⟩:=AY.1 M;obtain⟨-,U⟩:=AY.1 O;obtain⟨V,-⟩:=AY.1 U;unfold K.protE at j;obtain⟨-,g1⟩:=AY.1 j;obtain⟨-,g2⟩:=AY.1 g1;obtain⟨C,g3⟩:=AY.1 g2;obtain⟨E,g4⟩:=AY.1 g3;obtain⟨-,g5⟩:=AY.1 g4;obtain⟨-,g6⟩:=AY.1 g5;obtain⟨-,g7⟩:=AY.1 g6;obtain⟨G,g8⟩:=AY.1 g7;obtain⟨-,g9⟩:=AY.1 g8;obtain⟨I,-⟩:=AY.1 g9;have Z:=Ij G;have i2:=Ij I;have i3:=Ij V;have l1:=(Gg (by decide)).1 C;have l2:=(Gg (by decide)).1 E;have y:∀x∈AU p q,inN (p.states.length:Int) x=true:=by
  intro x d;unfold AU at d;split at d
  ·exact i3 x d
  ·exact Z x d
 refine⟨⟨?_,?_⟩,y,fun x d=>?_⟩
 ·rcases W:p.states with _ | ⟨a,l⟩
  ·rw [W] at l1; cases l1
  ·simp
 ·simp only [Bool.or_eq_false_iff,decide_eq_false_iff_not] at l2;omega
 ·unfold BS at d;split at d
  ·exact i2 x d
  ·exact y x d
end Go.Proofs.YtfcfpoemojjglaaGreatDoor
namespace Go.Proofs.YtfcfpoemojjglaaGreatDoor
open Go.RowKit
theorem Hw {w:World} {d:Value} {m:WA} (h:Bj w w.heap.size d m):∃j C l E y G I,d=.agg #[.int .i64 m.letters,.int .i64 m.states,.slice j m.start.length C,.slice l m.accept.length E,.slice y m.edges.length G]/\
  w.alloc (.cells #[.int .i64 m.letters,.int .i64 m.states,.slice j m.start.length C,.slice l m.accept.length E,.slice y m.edges.length G] 35)=I/\Below w.heap.size w I/\Blk I w.heap.size 35 #[.int .i64 m.letters,.int .i64 m.states,.slice j m.start.length C,.slice l m.accept.length E,.slice y m.edges.length G]/\
  Bj I I.heap.size (.agg #[.int .i64 m.letters,.int .i64 m.states,.slice j m.start.length C,.slice l m.accept.length E,.slice y m.edges.length G]) m:=by
 have M:=h;obtain⟨j,C,l,E,y,G,rfl,-⟩:=M;obtain⟨I,V,J,O,W⟩:=Ae w #[.int .i64 m.letters,.int .i64 m.states,.slice j m.start.length C,.slice l m.accept.length E,.slice y m.edges.length G] 35;exact⟨j,C,l,E,y,G,I,rfl,V,J,O,h.keep (fun p U=>J.cell U) J.size⟩
end Go.Proofs.YtfcfpoemojjglaaGreatDoor
