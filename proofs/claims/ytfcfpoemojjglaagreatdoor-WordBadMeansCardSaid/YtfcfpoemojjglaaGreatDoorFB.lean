/-
  Part FB of a proof.
-/
import Derived.Test.YtfcfpoemojjglaaGreatDoorPA
import Derived.Test.YtfcfpoemojjglaaGreatDoorEH
import Derived.Test.YtfcfpoemojjglaaGreatDoorCA
import Derived.Test.YtfcfpoemojjglaaGreatDoorPB
set_option maxHeartbeats 16000000
set_option maxRecDepth 100000
set_option linter.unusedVariables false
set_option linter.unusedSimpArgs false
namespace Go.Proofs.YtfcfpoemojjglaaGreatDoor
open K (Am AB orE Ad)
theorem AY {a b:Int}:orE a b=0↔a=0∧b=0:=by
 unfold orE
 by_cases h:a=0 <;> simp [h]
theorem Gg {b:Bool} {e:Int} (h:e≠0):Ad b e=0↔b=false:=by
 unfold Ad
 cases b <;> simp [h]
theorem Ij {l:List Int} {n:Nat} (h:K.setE l n=0):∀x∈l,inN (n:Int) x=true:=by
 intro x C
 have y:=(Gg (by decide)).1 (AY.1 h).1
 simp only [Bool.not_eq_false',List.all_eq_true] at y
 have z:=y x C
 unfold K.inE at z
 rw [D3]
 simp only [Bool.and_eq_true,decide_eq_true_eq] at z
 omega
def AU (p:Am) (q:AB):List Int:=if 0<q.start.length then q.start else p.initial
def BS (p:Am) (q:AB):List Int:=if 0<p.leader.length then p.leader else AU p q
structure Gi (p:Am) (q:AB):Prop where
 L:1≤p.states.length∧p.states.length≤6
 starts:∀x∈AU p q,inN (p.states.length:Int) x=true
 lead:∀x∈BS p q,inN (p.states.length:Int) x=true
theorem Qt {ok:ByteArray→Bool} {p:Am} {q:AB} (h:K.propE ok p q=0):Gi p q:=by
 unfold K.propE at h
 obtain⟨z,V⟩:=AY.1 h
 obtain⟨-,W⟩:=AY.1 V
 obtain⟨-,Z⟩:=AY.1 W
 obtain⟨-,h5⟩:=AY.1 Z
 obtain⟨h6,-⟩:=AY.1 h5
 unfold K.protE at z
 obtain⟨-,O⟩:=AY.1 z
 obtain⟨-,g2⟩:=AY.1 O
 obtain⟨G,U⟩:=AY.1 g2
 obtain⟨I,g4⟩:=AY.1 U
 obtain⟨-,g5⟩:=AY.1 g4
 obtain⟨-,g6⟩:=AY.1 g5
 obtain⟨-,g7⟩:=AY.1 g6
 obtain⟨J,g8⟩:=AY.1 g7
 obtain⟨-,g9⟩:=AY.1 g8
 obtain⟨M,-⟩:=AY.1 g9
 have i1:=Ij J
 have i2:=Ij M
 have i3:=Ij h6
 have E:=(Gg (by decide)).1 G
 have l2:=(Gg (by decide)).1 I
 have C:∀x∈AU p q,inN (p.states.length:Int) x=true:=by
  intro x y
  unfold AU at y
  split at y
  ·exact i3 x y
  ·exact i1 x y
 refine⟨⟨?_,?_⟩,C,fun x y=>?_⟩
 ·rcases hp:p.states with _ | ⟨a,l⟩
  ·rw [hp] at E; cases E
  ·simp
 ·simp only [Bool.or_eq_false_iff,decide_eq_false_iff_not] at l2
  omega
 ·unfold BS at y
  split at y
  ·exact i2 x y
  ·exact C x y
end Go.Proofs.YtfcfpoemojjglaaGreatDoor
namespace Go.Proofs.YtfcfpoemojjglaaGreatDoor
open Go.RowKit
theorem Hw {w:World} {d:Value} {m:WA} (h:Bj w w.heap.size d m):∃y E z G C I J,d=.agg #[.int .i64 m.letters,.int .i64 m.states,.slice y m.start.length E,.slice z m.accept.length G,.slice C m.edges.length I]∧
  w.alloc (.cells #[.int .i64 m.letters,.int .i64 m.states,.slice y m.start.length E,.slice z m.accept.length G,.slice C m.edges.length I] 35)=J∧Below w.heap.size w J∧Blk J w.heap.size 35 #[.int .i64 m.letters,.int .i64 m.states,.slice y m.start.length E,.slice z m.accept.length G,.slice C m.edges.length I]∧
  Bj J J.heap.size (.agg #[.int .i64 m.letters,.int .i64 m.states,.slice y m.start.length E,.slice z m.accept.length G,.slice C m.edges.length I]) m:=by
 have O:=h
 obtain⟨y,E,z,G,C,I,rfl,-⟩:=O
 obtain⟨J,W,M,U,Z⟩:=Ae w #[.int .i64 m.letters,.int .i64 m.states,.slice y m.start.length E,.slice z m.accept.length G,.slice C m.edges.length I] 35
 exact⟨y,E,z,G,C,I,J,rfl,W,M,U,h.keep (fun p V=>M.cell V) M.size⟩
end Go.Proofs.YtfcfpoemojjglaaGreatDoor
namespace Go.Proofs.YtfcfpoemojjglaaGreatDoor
open Go.RowKit
theorem MQ {w:World} {o:Obj} {p:Addr} {v:Value} (y:p.block<w.heap.size) (h:w.cell? p=some v):(w.alloc o).cell? p=some v:=(World.cell?_alloc_lt w o p y).trans h
theorem Rr (w:World) (e:TypeId) (size:Nat):(w.alloc (.cells #[] e)).ownsRow w.heap.size e size (.slice (some ⟨w.heap.size,0,none⟩) 0 0) 0 []:=
 ⟨by simp,.inr ⟨w.heap.size,0,#[],rfl,Nat.le_refl _,heap_alloc_new w _,Nat.le_refl _,by unfold maxLen; omega,by simp,by simp⟩⟩
theorem Hh {w:World} {B c:Nat} {A:Option Addr} {xs:List Int} (h:Sl w B 1 Ai A xs) (hB:B≤w.heap.size) (hn:xs.length≤900000):
  Calls Tryz.prog 47 #[.slice A xs.length c] w (Ret fun r w'=>Below w.heap.size w w'∧w'.ownsRow w.heap.size 3 1 r xs.length (xs.map fun x=>.int .i64 x)):=by
 have M:=Rr w 3 1
 have J:=(Below.refl w.heap.size w).alloc (Nat.le_refl _) (.cells #[] 3)
 by_cases C:xs.length=0
 ·have z:xs=[]:=List.length_eq_zero_iff.1 C
  subst z
  simp only [List.length_nil] at*
  have G:∀w':World,Sem.run Tryz.prog (pure (#[]:Array Value)) w'=.ok #[] w':=fun _=>rfl
  have I:∀(O:Addr) (w':World),Sem.run Tryz.prog (storeCells O ([]:List Value)) w'=.ok () w':=fun _ _=>rfl
  cases A
  all_goals
   go_enter Tryz.func47,Tryz.ntmps47
   go_wp2_with fail
   go_ret
   exact⟨J,M⟩
 ·obtain⟨b,E,x0,rfl,hb,aa,hc⟩:=h.at (k:=0) (by omega)
  go_enter Tryz.func47,Tryz.ntmps47
  go_wp2_with (at_builtin; refine G9 C9 rfl _ _ rfl w.heap.size (.slice (some ⟨w.heap.size,0,none⟩) 0 0) 0 [] rfl M ⟨b,E,none⟩ xs.length c (xs.map fun x=>.int .i64 x) rfl (by simp) ?_ (by simp [Value.oneCell']) (by omega) (by omega) (by simp) ?_)
  ·intro j u y
   rw [List.getElem?_map] at y
   cases z:xs[j]? with
   | none=>rw [z] at y; cases y
   | some x=>
    rw [z] at y
    have y:=Option.some.inj y
    subst y
    obtain⟨U,o',e,Z,W⟩:=h.2 (by intro e; rw [e] at C; exact C rfl)
    have e:=Option.some.inj e
    injection e with G I _
    subst G I
    have:=W j x z 0 (by omega)
    have V:(⟨b,E,none⟩:Addr).add j=⟨b,E+j*1+0,none⟩:=by unfold Addr.add; split <;> simp_all
    rw [V]
    exact MQ (by show b<_; omega) this
  ·intro g a3 w' a2 hk a8 hg
   go_wp2_with fail
   go_ret
   exact⟨J.trans (hk.below (by simp) (fun U Z e=>by simp [Value.ownBlock] at e; omega)),a2⟩
end Go.Proofs.YtfcfpoemojjglaaGreatDoor
