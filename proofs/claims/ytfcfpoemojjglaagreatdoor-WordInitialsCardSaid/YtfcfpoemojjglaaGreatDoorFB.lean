/-
  Part FB of a proof.
-/
import Derived.Test.YtfcfpoemojjglaaGreatDoorPA
import Derived.Test.YtfcfpoemojjglaaGreatDoorEH
import Derived.Test.YtfcfpoemojjglaaGreatDoorCA
import Derived.Test.YtfcfpoemojjglaaGreatDoorPB
import Derived.Test.YtfcfpoemojjglaaGreatDoorPJ
import Derived.Test.YtfcfpoemojjglaaGreatDoorPK
set_option maxHeartbeats 16000000
set_option maxRecDepth 100000
set_option linter.unusedVariables false
set_option linter.unusedSimpArgs false
namespace Go.Proofs.YtfcfpoemojjglaaGreatDoor
open K (Am AO orE Ad)
theorem Bg {a b:Int}:orE a b=0↔a=0∧b=0:=by
 unfold orE
 by_cases h:a=0 <;> simp [h]
theorem GT {b:Bool} {e:Int} (h:e≠0):Ad b e=0↔b=false:=by
 unfold Ad
 cases b <;> simp [h]
theorem HZ {l:List Int} {n:Nat} (h:K.setE l n=0):∀x∈l,inN (n:Int) x=true:=by
 intro x C
 have y:=(GT (by decide)).1 (Bg.1 h).1
 simp only [Bool.not_eq_false',List.all_eq_true] at y
 have z:=y x C
 unfold K.inE at z
 rw [EF]
 simp only [Bool.and_eq_true,decide_eq_true_eq] at z
 omega
def Ba (p:Am) (q:AO):List Int:=if 0<q.start.length then q.start else p.initial
def B9 (p:Am) (q:AO):List Int:=if 0<p.leader.length then p.leader else Ba p q
structure Gb (p:Am) (q:AO):Prop where
 L:1≤p.states.length∧p.states.length≤6
 starts:∀x∈Ba p q,inN (p.states.length:Int) x=true
 lead:∀x∈B9 p q,inN (p.states.length:Int) x=true
theorem Px {ok:ByteArray→Bool} {p:Am} {q:AO} (h:K.propE ok p q=0):Gb p q:=by
 unfold K.propE at h
 obtain⟨z,V⟩:=Bg.1 h
 obtain⟨-,W⟩:=Bg.1 V
 obtain⟨-,Z⟩:=Bg.1 W
 obtain⟨-,h5⟩:=Bg.1 Z
 obtain⟨h6,-⟩:=Bg.1 h5
 unfold K.protE at z
 obtain⟨-,O⟩:=Bg.1 z
 obtain⟨-,g2⟩:=Bg.1 O
 obtain⟨G,U⟩:=Bg.1 g2
 obtain⟨I,g4⟩:=Bg.1 U
 obtain⟨-,g5⟩:=Bg.1 g4
 obtain⟨-,g6⟩:=Bg.1 g5
 obtain⟨-,g7⟩:=Bg.1 g6
 obtain⟨J,g8⟩:=Bg.1 g7
 obtain⟨-,g9⟩:=Bg.1 g8
 obtain⟨M,-⟩:=Bg.1 g9
 have i1:=HZ J
 have i2:=HZ M
 have i3:=HZ h6
 have E:=(GT (by decide)).1 G
 have l2:=(GT (by decide)).1 I
 have C:∀x∈Ba p q,inN (p.states.length:Int) x=true:=by
  intro x y
  unfold Ba at y
  split at y
  ·exact i3 x y
  ·exact i1 x y
 refine⟨⟨?_,?_⟩,C,fun x y=>?_⟩
 ·rcases hp:p.states with _ | ⟨a,l⟩
  ·rw [hp] at E; cases E
  ·simp
 ·simp only [Bool.or_eq_false_iff,decide_eq_false_iff_not] at l2
  omega
 ·unfold B9 at y
  split at y
  ·exact i2 x y
  ·exact C x y
end Go.Proofs.YtfcfpoemojjglaaGreatDoor
namespace Go.Proofs.YtfcfpoemojjglaaGreatDoor
open Go.RowKit
theorem JB {w:World} {d:Value} {m:WA} (h:Bk w w.heap.size d m):∃y E z G C I J,d=.agg #[.int .i64 m.letters,.int .i64 m.states,.slice y m.start.length E,.slice z m.accept.length G,.slice C m.edges.length I]∧
  w.alloc (.cells #[.int .i64 m.letters,.int .i64 m.states,.slice y m.start.length E,.slice z m.accept.length G,.slice C m.edges.length I] 35)=J∧Below w.heap.size w J∧Blk J w.heap.size 35 #[.int .i64 m.letters,.int .i64 m.states,.slice y m.start.length E,.slice z m.accept.length G,.slice C m.edges.length I]∧
  Bk J J.heap.size (.agg #[.int .i64 m.letters,.int .i64 m.states,.slice y m.start.length E,.slice z m.accept.length G,.slice C m.edges.length I]) m:=by
 have O:=h
 obtain⟨y,E,z,G,C,I,rfl,-⟩:=O
 obtain⟨J,W,M,U,Z⟩:=Ag w #[.int .i64 m.letters,.int .i64 m.states,.slice y m.start.length E,.slice z m.accept.length G,.slice C m.edges.length I] 35
 exact⟨y,E,z,G,C,I,J,rfl,W,M,U,h.keep (fun p V=>M.cell V) M.size⟩
end Go.Proofs.YtfcfpoemojjglaaGreatDoor
namespace Go.Proofs.YtfcfpoemojjglaaGreatDoor
open Go.RowKit
theorem Mf {w:World} {o:Obj} {p:Addr} {v:Value} (y:p.block<w.heap.size) (h:w.cell? p=some v):(w.alloc o).cell? p=some v:=(World.cell?_alloc_lt w o p y).trans h
theorem Qu (w:World) (e:TypeId) (size:Nat):(w.alloc (.cells #[] e)).ownsRow w.heap.size e size (.slice (some ⟨w.heap.size,0,none⟩) 0 0) 0 []:=
 ⟨by simp,.inr ⟨w.heap.size,0,#[],rfl,Nat.le_refl _,heap_alloc_new w _,Nat.le_refl _,by unfold maxLen; omega,by simp,by simp⟩⟩
theorem I0 {w:World} {B c:Nat} {A:Option Addr} {xs:List Int} (h:Sl w B 1 Ai A xs) (hB:B≤w.heap.size) (hn:xs.length≤900000):
  Calls Tryz.prog 47 #[.slice A xs.length c] w (Ret fun r w'=>Below w.heap.size w w'∧w'.ownsRow w.heap.size 3 1 r xs.length (xs.map fun x=>.int .i64 x)):=by
 have M:=Qu w 3 1
 have J:=(Below.refl w.heap.size w).alloc (Nat.le_refl _) (.cells #[] 3)
 by_cases C:xs.length=0
 ·have z:xs=[]:=List.length_eq_zero_iff.1 C
  subst z
  simp only [List.length_nil] at*
  have G:∀w':World,Sem.run Tryz.prog (pure (#[]:Array Value)) w'=.ok #[] w':=fun _=>rfl
  have I:∀(O:Addr) (w':World),Sem.run Tryz.prog (storeCells O ([]:List Value)) w'=.ok () w':=fun _ _=>rfl
  cases A
  all_goals
   go_enter Tryz.func47,Tryz.ntmps47
   go_wp2_with fail
   go_ret
   exact⟨J,M⟩
 ·obtain⟨b,E,x0,rfl,hb,aa,hc⟩:=h.at (k:=0) (by omega)
  go_enter Tryz.func47,Tryz.ntmps47
  go_wp2_with (at_builtin; refine GU C9 rfl _ _ rfl w.heap.size (.slice (some ⟨w.heap.size,0,none⟩) 0 0) 0 [] rfl M ⟨b,E,none⟩ xs.length c (xs.map fun x=>.int .i64 x) rfl (by simp) ?_ (by simp [Value.oneCell']) (by omega) (by omega) (by simp) ?_)
  ·intro j u y
   rw [List.getElem?_map] at y
   cases z:xs[j]? with
   | none=>rw [z] at y; cases y
   | some x=>
    rw [z] at y
    have y:=Option.some.inj y
    subst y
    obtain⟨U,o',e,Z,W⟩:=h.2 (by intro e; rw [e] at C; exact C rfl)
    have e:=Option.some.inj e
    injection e with G I _
    subst G I
    have:=W j x z 0 (by omega)
    have V:(⟨b,E,none⟩:Addr).add j=⟨b,E+j*1+0,none⟩:=by unfold Addr.add; split <;> simp_all
    rw [V]
    exact Mf (by show b<_; omega) this
  ·intro g a3 w' a2 hk a8 hg
   go_wp2_with fail
   go_ret
   exact⟨J.trans (hk.below (by simp) (fun U Z e=>by simp [Value.ownBlock] at e; omega)),a2⟩
end Go.Proofs.YtfcfpoemojjglaaGreatDoor
namespace Go.Proofs.YtfcfpoemojjglaaGreatDoor
open Go.RowKit
set_option maxHeartbeats 16000000
set_option maxRecDepth 100000
structure IwM (w0 wr:World) (g2 g4 g5 gs:Nat) (c2:Array Value) (L n:Nat) (vA vE:Value) (as':List Int) (es:List Edg):Prop where
 below:Below w0.heap.size w0 wr
 b2:Blk wr g2 27 c2
 b4:Blk wr g4 35 BU
 b5:Blk wr g5 35 #[.int .i64 (L:Int),.int .i64 (n:Int),.slice (some ⟨gs,0,none⟩) 1 1,vA,vE]
 start:Blk wr gs 3 #[.int .i64 0]
 acc:wr.ownsRow w0.heap.size 3 1 vA as'.length (as'.map (Value.int .i64))
 eds:wr.ownsRow w0.heap.size 83 3 vE es.length (es.flatMap eC)
 sep:vA.ownBlock≠some gs
 ne:g4≠g5
 ge:w0.heap.size≤g2∧w0.heap.size≤g4∧w0.heap.size≤g5∧w0.heap.size≤gs
section
variable {w0 wr w':World} {g2 g4 g5 gs L n:Nat} {c2:Array Value} {vA vE:Value} {as':List Int} {es:List Edg}
theorem IwM.keep (h:IwM w0 wr g2 g4 g5 gs c2 L n vA vE as' es) (y:Below wr.heap.size wr w'):IwM w0 w' g2 g4 g5 gs c2 L n vA vE as' es:=
 ⟨h.below.trans (y.mono h.below.size),h.b2.below y,h.b4.below y,h.b5.below y,h.start.below y,Bu h.acc y,Bu h.eds y,h.sep,h.ne,h.ge⟩
theorem IwM.addA {q:Int} {vA':Value} {w1:World} (h:IwM w0 wr g2 g4 g5 gs c2 L n vA vE as' es) (G:Ac wr w1 (fun k=>vA.ownBlock=some k)) (W:w1.ownsRow w0.heap.size 3 1 vA' (as'.length+1) (as'.map (Value.int .i64)++[.int .i64 q])) (V:BJ wr vA vA'):
  IwM w0 (w1.setCell ⟨g5,3,none⟩ vA') g2 g4 g5 gs c2 L n vA' vE (as'++[q]) es:=by
 have M:=h.b5.kept G (Aw h.acc h.b5 (by decide))
 have I:=(Ac.refl w1 (fun k=>k=g5)).setCell (p:=⟨g5,3,none⟩) (fun _=>rfl) vA'
 have z:Ac wr (w1.setCell ⟨g5,3,none⟩ vA') (fun k=>vA.ownBlock=some k∨k=g5):=(G.mono fun _ _ e=>.inl e).trans I fun _ _ e=>.inr e
 have J:∀{e:TypeId},e≠3→e≠35→∀g cs,(vA.ownBlock=some g∨g=g5)→¬Blk wr g e cs:=by
  rintro e O U g cs (E | E) C
  ·exact Aw h.acc C (fun y=>O y.symm) E
  ·exact C.ne_ h.b5 U E
 refine⟨h.below.trans (z.below h.below.size ?_),h.b2.kept z fun x=>J (by decide) (by decide) _ _ x h.b2,h.b4.kept z ?_,M.set_ 3 vA',h.start.kept z ?_,?_,AH z h.eds (J (by decide) (by decide)),?_,h.ne,h.ge⟩
 ·rintro b hb (e | e)
  ·have:=AY h.acc e; omega
  ·have:=h.ge; omega
 ·rintro(e | e)
  ·exact Aw h.acc h.b4 (by decide) e
  ·exact h.ne e
 ·rintro(e | e)
  ·exact h.sep e
  ·exact h.start.ne_ h.b5 (by decide) e
 ·rw [List.length_append,List.map_append]
  exact AH I W (fun g cs e C=>by subst e; exact C.ne_ M (by decide) rfl)
 ·intro e
  rcases V with y | ⟨Z,y,a3⟩
  ·exact h.sep (by rw [←y]; exact e)
  ·rw [e] at y
   have:=Option.some.inj y
   have:=h.start.lt
   omega
theorem IwM.addE {d:Edg} {vE':Value} {w1:World} (h:IwM w0 wr g2 g4 g5 gs c2 L n vA vE as' es) (G:Ac wr w1 (fun k=>vE.ownBlock=some k)) (V:w1.ownsRow w0.heap.size 83 3 vE' (es.length+1) (es.flatMap eC++eC d)):
  IwM w0 (w1.setCell ⟨g5,4,none⟩ vE') g2 g4 g5 gs c2 L n vA vE' as' (es++[d]):=by
 have J:=h.b5.kept G (Aw h.eds h.b5 (by decide))
 have I:=(Ac.refl w1 (fun k=>k=g5)).setCell (p:=⟨g5,4,none⟩) (fun _=>rfl) vE'
 have y:Ac wr (w1.setCell ⟨g5,4,none⟩ vE') (fun k=>vE.ownBlock=some k∨k=g5):=(G.mono fun _ _ e=>.inl e).trans I fun _ _ e=>.inr e
 have E:∀{e:TypeId},e≠83→e≠35→∀g cs,(vE.ownBlock=some g∨g=g5)→¬Blk wr g e cs:=by
  rintro e M O g cs (C | C) z
  ·exact Aw h.eds z (fun U=>M U.symm) C
  ·exact z.ne_ h.b5 O C
 refine⟨h.below.trans (y.below h.below.size ?_),h.b2.kept y fun x=>E (by decide) (by decide) _ _ x h.b2,h.b4.kept y ?_,J.set_ 4 vE',h.start.kept y fun x=>E (by decide) (by decide) _ _ x h.start,AH y h.acc (E (by decide) (by decide)),?_,h.sep,h.ne,h.ge⟩
 ·rintro b W (e | e)
  ·have:=AY h.eds e; omega
  ·have:=h.ge; omega
 ·rintro(e | e)
  ·exact Aw h.eds h.b4 (by decide) e
  ·exact h.ne e
 ·rw [List.length_append,List.flatMap_append]
  refine AH I ?_ (fun g cs e z=>by subst e; exact z.ne_ J (by decide) rfl)
  simpa using V
theorem IwM.finO {wF:World} (h:IwM w0 wr g2 g4 g5 gs c2 L n vA vE as' es) (hk:Ac wr wF (fun k=>k=g4)):EA wF w0.heap.size (.agg #[.int .i64 (L:Int),.int .i64 (n:Int),.slice (some ⟨gs,0,none⟩) 1 1,vA,vE]) es:=
 ⟨_,_,_,_,_,rfl,hk.ownsRow h.eds fun g y e=>Aw h.eds h.b4 (by decide) (by rw [y,e])⟩
theorem IwM.fin {wF:World} (h:IwM w0 wr g2 g4 g5 gs c2 L n vA vE as' es) (hk:Ac wr wF (fun k=>k=g4∨k<w0.heap.size)) (ha:as'.length≤4000000) (he:es.length≤4000000):
  Bk wF wF.heap.size (.agg #[.int .i64 (L:Int),.int .i64 (n:Int),.slice (some ⟨gs,0,none⟩) 1 1,vA,vE]) ⟨(L:Int),(n:Int),[0],as',es⟩:=by
 have a5:=h.ge
 have V:=hk.ownsRow h.acc fun g y e=>by
  rcases e with e | e
  ·exact Aw h.acc h.b4 (by decide) (by rw [y,e])
  ·have:=AY h.acc y; omega
 have W:=hk.ownsRow h.eds fun g y e=>by
  rcases e with e | e
  ·exact Aw h.eds h.b4 (by decide) (by rw [y,e])
  ·have:=AY h.eds y; omega
 have hS:=h.start.kept hk fun e=>by
  rcases e with e | e
  ·exact h.start.ne_ h.b4 (by decide) e
  ·omega
 obtain⟨C,c2,I,O⟩:=Cz (B:=wF.heap.size) V rfl (Nat.le_refl _) (by omega)
 obtain⟨E,G,J,U⟩:=HF (B:=wF.heap.size) W rfl (Nat.le_refl _) (by omega)
 obtain⟨Z,c1,z,M⟩:=Cz (B:=wF.heap.size) (l:=[0]) (base:=0) (DC (n:=1) hS (Nat.zero_le _) rfl (by omega)) rfl (Nat.le_refl _) (by omega)
 injection z with z _ e4
 subst z
 exact⟨_,1,C,c2,E,G,by rw [I,J]; rfl,M,O,U,Nat.le_refl _⟩
end
structure IwS (w0 wr:World) (g2 g4 g5 gs:Nat) (c2:Array Value) (L:Nat) (vA vE vT:Value) (ts:List Int) (es:List Edg):Prop where
 mem:IwM w0 wr g2 g4 g5 gs c2 L 2 vA vE [1] es
 str:wr.ownsRow w0.heap.size 3 1 vT ts.length (ts.map (Value.int .i64))
theorem IwS.keep {w0 wr w':World} {g2 g4 g5 gs L:Nat} {c2:Array Value} {vA vE C:Value} {z:List Int} {es:List Edg} (h:IwS w0 wr g2 g4 g5 gs c2 L vA vE C z es) (y:Below wr.heap.size wr w'):IwS w0 w' g2 g4 g5 gs c2 L vA vE C z es:=
 ⟨h.mem.keep y,Bu h.str y⟩
theorem IwS.addE {w0 wr w1:World} {g2 g4 g5 gs L:Nat} {c2:Array Value} {vA vE E vE':Value} {C:List Int} {es:List Edg} {d:Edg} (h:IwS w0 wr g2 g4 g5 gs c2 L vA vE E C es) (z:Ac wr w1 (fun k=>vE.ownBlock=some k)) (J:w1.ownsRow w0.heap.size 83 3 vE' (es.length+1) (es.flatMap eC++eC d)):
  IwS w0 (w1.setCell ⟨g5,4,none⟩ vE') g2 g4 g5 gs c2 L vA vE' E C (es++[d]):=by
 refine⟨h.mem.addE z J,?_⟩
 have I:=(Ac.refl w1 (fun k=>k=g5)).setCell (p:=⟨g5,4,none⟩) (fun _=>rfl) vE'
 have G:Ac wr (w1.setCell ⟨g5,4,none⟩ vE') (fun k=>vE.ownBlock=some k∨k=g5):=(z.mono fun _ _ e=>.inl e).trans I fun _ _ e=>.inr e
 refine AH G h.str fun g cs e y=>?_
 rcases e with e | e
 ·exact Aw h.mem.eds y (by decide) e
 ·exact y.ne_ h.mem.b5 (by decide) e
end Go.Proofs.YtfcfpoemojjglaaGreatDoor
namespace Go.Proofs.YtfcfpoemojjglaaGreatDoor
open Go.RowKit
set_option maxHeartbeats 16000000
set_option maxRecDepth 100000
theorem Kk {w aV:World} {g2 g4 g5 gs L cL:Nat} {z:Array Value} {vA E:Value} {AL:Option Addr} {lead C:List Int} (hM:IwS w aV g2 g4 g5 gs z L vA sn0 E C []) (hR:∀i x,lead[i]?=some x→∃b o,AL=some ⟨b,o,none⟩∧∀wr vE es,IwS w wr g2 g4 g5 gs z L vA vE E C es→wr.cell? ⟨b,o+i,none⟩=some (.int .i64 x)) (hn:lead.length≤60)
  {u0 u1 u2 u3 u4 u6 u9 af ag ah ai aj ak al am an ao aq ar au av aw ax b9 ba bb bd be bf bg bh bi bj bk bm bn bo bp bq aA aB aC aD aE aF aG aH aJ aK aL aM aN aO aP aQ aR aS:Value}
  {Q:Exit→Act→World→Prop} (hN:Reg.NoQ Q)
  (hQ:∀(bs bt bu bv bw bx bz bA bB bC bD bE bF bG bH bI:Value) (w':World) (vE':Value),IwS w w' g2 g4 g5 gs z L vA vE' E C (lead.map fun x=>⟨0,x,1⟩)→Q (.exit 0) ⟨List.toArray (u0::u1::u2::u3::u4::(.pointer (some ⟨g5,0,none⟩))::u6::(.slice AL lead.length cL)::(.int .i64 lead.length)::u9::af::ag::ah::ai::aj::ak::al::am::an::ao::aq::ar::au::av::aw::ax::bs::bt::
   bu::bv::bw::bx::bz::bA::bB::bC::bD::bE::bF::bG::bH::bI::aA::aB::aC::aD::aE::aF::aG::aH::aJ::aK::aL::aM::aN::aO::aP::aQ::aR::aS::[]),[]⟩ w'):
  (Code.loop (CS Tryz.f36 0)).wp Tryz.prog Q ⟨List.toArray (u0::u1::u2::u3::u4::(.pointer (some ⟨g5,0,none⟩))::u6::(.slice AL lead.length cL)::(.int .i64 0)::u9::af::ag::ah::ai::aj::ak::al::am::an::ao::aq::ar::au::av::aw::ax::b9::ba::bb::bd::
   be::bf::bg::bh::bi::bj::bk::bm::bn::bo::bp::bq::aA::aB::aC::aD::aE::aF::aG::aH::aJ::aK::aL::aM::aN::aO::aP::aQ::aR::aS::[]),[]⟩ aV:=by
 conv=>arg 2; arg 1; whnf
 have aW:=hide hM
 have aZ:=hide hR
 obtain⟨n,V⟩:∃n,n=lead.length:=⟨_,rfl⟩
 have U:=hide V
 rw [←V] at hn hQ ⊢
 have aY:=hide hQ
 clear hM hR V hQ
 go_loopw [8] (fun Z wr=>∃(i:Nat) (vE:Value),Z=.int .i64 (i:Int)∧i≤n∧Hid (IwS w wr g2 g4 g5 gs z L vA vE E C ((lead.take i).map fun x=>⟨0,x,1⟩))) (fun Z _=>n - (intOf Z).toNat)
 case atStart=>exact⟨0,sn0,rfl,Nat.zero_le _,by simpa using aW⟩
 case round=>
  obtain⟨i,vE,rfl,hi,hI⟩:=hrel
  by_cases b3:i<n
  ·obtain⟨x,W⟩:=Ap (l:=lead) (i:=i) (by rw [←U.out]; exact b3)
   obtain⟨bl,ol,rfl,a8⟩:=aZ.out i x W
   have bL:=a8 _ _ _ hI.out
   obtain⟨AE,cE,rfl⟩:=AG hI.out.mem.eds
   obtain⟨m,I⟩:∃m,((lead.take i).map fun x=>(⟨0,x,1⟩:Edg)).length=m:=⟨_,rfl⟩
   have bQ:m+1≤200:=by rw [←I]; have:=U.out; simp; omega
   have b1:=hI.out.mem.b5.cell
   have a9:=hI.out.mem.eds
   rw [I] at b1 a9
   have bR:=hI.out.mem.below.size
   have y:=hide (hI.out.keep (As wr))
   have J:=hide I
   have b8:=hide W
   clear I W a8
   rw [J.out] at hI
   go_wp2_with fail
   refine Reg.cC [0,1,0,0,12,28,60,124,255,511,1023] [0,1,2,3,4,5,6,7,8,9,10] ?_ (by kernel_rfl) (by repeat (first | exact hN | refine Reg.NoQ.then ?_ | refine Reg.NoQ.inBlock ?_))
   refine Reg.rest_walk' [0,1,2,3,4,5] [6,7,8,9,10] rfl (by kernel_rfl) ?_
   intro Qf h
   go_wp2_with fail
   first | refine h _ _ ?_ | skip
   try clear h
   refine Reg.rest_act' 6 [7,8,9,10] [1] rfl (by kernel_rfl) ?_
   intro Qf h
   simp only [gT,gS,gZ]
   go_wp2_with fail
   first | refine h _ _ ⟨Reg.same_below (Below.refl _ _) _ rfl,?_⟩ | refine⟨Reg.same_below (Below.refl _ _) _ rfl,?_⟩
   try clear h
   have M:=y.out.mem.eds
   rw [J.out] at M
   have b7:=y.out.mem.below.size
   refine Reg.rest_walk' [7] [8,9,10] rfl (by kernel_rfl) ?_
   intro Qf h
   go_wp2_with fail
   first | refine h _ _ ?_ | skip
   try clear h
   refine Reg.rest_act' 8 [9,10] [] rfl (by kernel_rfl) ?_
   intro Qf h
   simp only [gT,gS,gZ]
   refine BO (w:=wr.drew) F3 rfl _ _ rfl w.heap.size (.slice AE m cE) m _ rfl M [.int .i64 0,.int .i64 x,.int .i64 1] 1 rfl rfl (by simp [Value.oneCell']) (by omega) b7 ?_
   intro g' a4 wa ab aa b4 bN
   have O:Ac wr.drew wa (fun b=>(Value.slice AE ((lead.take i).map fun x=>(⟨0,x,1⟩:Edg)).length cE).ownBlock=some b):=by rw [J.out]; exact aa
   have b0:=hide (y.out.addE (d:=⟨0,x,1⟩) (vE':=.slice (some ⟨g',0,none⟩) (m+1) a4) O (by rw [J.out]; exact ab))
   have G:=y.out.mem.b5.kept O (Aw y.out.mem.eds y.out.mem.b5 (by decide))
   have bK:=G.cell
   have bM:=G.frozen 4
   have bP:=G.lt
   refine h _ _ ⟨Reg.nm,?_⟩
   clear h ab aa O b4 G M a9
   refine Reg.rest_walk' [9,10] [] rfl (by kernel_rfl) ?_
   intro Qf h
   go_wp2_with fail
   first | refine h _ _ ?_ | skip
   try clear h
   refine Reg.rest_end ?_
   go_wp2_with fail
   refine⟨⟨i+1,.slice (some ⟨g',0,none⟩) (m+1) a4,by go_num,by omega,?_⟩,by simp [intOf]; omega⟩
   rw [B6 b8.out,List.map_append]
   exact b0
  ·obtain rfl:i=n:=by omega
   have b2:Hid (IwS w wr g2 g4 g5 gs z L vA vE E C (lead.map fun x=>⟨0,x,1⟩)):=by
    have:=hI.out
    rw [U.out,List.take_length] at this
    exact this
   clear hI
   go_wp2_with fail
   exact aY.out _ _ _ _ _ _ _ _ _ _ _ _ _ _ _ _ _ vE b2.out
theorem Kl {w aU:World} {g2 g4 g5 gs L cL:Nat} {J:Array Value} {vA:Value} {AL:Option Addr} {aT:Value} {h:List Int} {e0:List Edg} (hM:IwS w aU g2 g4 g5 gs J L vA aT (.slice AL h.length cL) h e0) (hn:h.length≤60) (b0:e0.length≤60)
  {u0 u1 u2 u3 u4 u7 u8 ae af ag ah ai aj ak al am an ap aq ar au av aw ax ay az aA aC aD aE aF aG aH aJ aK aL aM aO aP b9 ba bb bd be bf bg bh bi bj bk bm bn bo bp bq aQ aR:Value}
  {Q:Exit→Act→World→Prop} (hN:Reg.NoQ Q)
  (hQ:∀(bs bt bu bv bw bx bz bA bB bC bD bE bF bG bH bI:Value) (w':World) (vE':Value),IwS w w' g2 g4 g5 gs J L vA vE' (.slice AL h.length cL) h (e0++h.map fun x=>⟨1,x,1⟩)→Q (.exit 2) ⟨List.toArray (u0::u1::u2::u3::u4::(.pointer (some ⟨g5,0,none⟩))::(.slice AL h.length cL)::u7::u8::(.int .i64 h.length)::ae::af::ag::ah::ai::aj::ak::al::am::an::ap::aq::ar::au::av::aw::ax::ay::az::
   aA::aC::aD::aE::aF::aG::aH::aJ::aK::aL::aM::aO::aP::bs::bt::bu::bv::bw::bx::bz::bA::bB::bC::bD::bE::bF::bG::bH::bI::aQ::aR::[]),[]⟩ w'):
  (Code.loop (CS Tryz.f36 1)).wp Tryz.prog Q ⟨List.toArray (u0::u1::u2::u3::u4::(.pointer (some ⟨g5,0,none⟩))::(.slice AL h.length cL)::u7::u8::(.int .i64 0)::ae::af::ag::ah::ai::aj::ak::al::am::an::ap::aq::ar::au::av::aw::ax::ay::az::aA::
   aC::aD::aE::aF::aG::aH::aJ::aK::aL::aM::aO::aP::b9::ba::bb::bd::be::bf::bg::bh::bi::bj::bk::bm::bn::bo::bp::bq::aQ::aR::[]),[]⟩ aU:=by
 conv=>arg 2; arg 1; whnf
 have aV:=hide hM
 obtain⟨n,V⟩:∃n,n=h.length:=⟨_,rfl⟩
 have I:=hide V
 rw [←V] at hn hQ ⊢
 obtain⟨k0,O⟩:∃k0,k0=e0.length:=⟨_,rfl⟩
 have b2:=hide O
 rw [←O] at b0
 clear O
 have aX:=hide hQ
 clear hM V hQ
 go_loopw [9] (fun Z wr=>∃(i:Nat) (vE:Value),Z=.int .i64 (i:Int)∧i≤n∧Hid (IwS w wr g2 g4 g5 gs J L vA vE (.slice AL h.length cL) h (e0++(h.take i).map fun x=>⟨1,x,1⟩))) (fun Z _=>n - (intOf Z).toNat)
 case atStart=>exact⟨0,aT,rfl,Nat.zero_le _,by simpa using aV⟩
 case round=>
  obtain⟨i,vE,rfl,hi,hI⟩:=hrel
  by_cases b3:i<n
  ·obtain⟨x,W⟩:=Ap (l:=h) (i:=i) (by rw [←I.out]; exact b3)
   obtain⟨bl,cS,e,bM⟩:=C7 hI.out.str (AX (f:=Value.int .i64) W)
   cases e
   obtain⟨AE,cE,rfl⟩:=AG hI.out.mem.eds
   obtain⟨m,E⟩:∃m,(e0++(h.take i).map fun x=>(⟨1,x,1⟩:Edg)).length=m:=⟨_,rfl⟩
   have bR:m+1≤200:=by rw [←E]; have:=I.out; have:=b2.out; simp; omega
   have aZ:=hI.out.mem.b5.cell
   have a7:=hI.out.mem.eds
   rw [E] at aZ a7
   have bS:=hI.out.mem.below.size
   have z:=hide (hI.out.keep (As wr))
   have G:=hide E
   have b8:=hide W
   clear E W
   rw [G.out] at hI
   go_wp2_with fail
   refine Reg.cC [0,1,0,0,12,28,60,124,255,511,1023] [0,1,2,3,4,5,6,7,8,9,10] ?_ (by kernel_rfl) (by repeat (first | exact hN | refine Reg.NoQ.then ?_ | refine Reg.NoQ.inBlock ?_))
   refine Reg.rest_walk' [0,1,2,3,4,5] [6,7,8,9,10] rfl (by kernel_rfl) ?_
   intro Qf y
   go_wp2_with fail
   first | refine y _ _ ?_ | skip
   try clear y
   refine Reg.rest_act' 6 [7,8,9,10] [1] rfl (by kernel_rfl) ?_
   intro Qf y
   simp only [gT,gS,gZ]
   go_wp2_with fail
   first | refine y _ _ ⟨Reg.same_below (Below.refl _ _) _ rfl,?_⟩ | refine⟨Reg.same_below (Below.refl _ _) _ rfl,?_⟩
   try clear y
   have M:=z.out.mem.eds
   rw [G.out] at M
   have b7:=z.out.mem.below.size
   refine Reg.rest_walk' [7] [8,9,10] rfl (by kernel_rfl) ?_
   intro Qf y
   go_wp2_with fail
   first | refine y _ _ ?_ | skip
   try clear y
   refine Reg.rest_act' 8 [9,10] [] rfl (by kernel_rfl) ?_
   intro Qf y
   simp only [gT,gS,gZ]
   refine BO (w:=wr.drew) F3 rfl _ _ rfl w.heap.size (.slice AE m cE) m _ rfl M [.int .i64 1,.int .i64 x,.int .i64 1] 1 rfl rfl (by simp [Value.oneCell']) (by omega) b7 ?_
   intro g' a4 wa a9 a8 b4 bO
   have U:Ac wr.drew wa (fun b=>(Value.slice AE (e0++(h.take i).map fun x=>(⟨1,x,1⟩:Edg)).length cE).ownBlock=some b):=by rw [G.out]; exact a8
   have aY:=hide (z.out.addE (d:=⟨1,x,1⟩) (vE':=.slice (some ⟨g',0,none⟩) (m+1) a4) U (by rw [G.out]; exact a9))
   have C:=z.out.mem.b5.kept U (Aw z.out.mem.eds z.out.mem.b5 (by decide))
   have bL:=C.cell
   have bN:=C.frozen 4
   have bQ:=C.lt
   refine y _ _ ⟨Reg.nm,?_⟩
   clear y a9 a8 U b4 C M a7
   refine Reg.rest_walk' [9,10] [] rfl (by kernel_rfl) ?_
   intro Qf y
   go_wp2_with fail
   first | refine y _ _ ?_ | skip
   try clear y
   refine Reg.rest_end ?_
   go_wp2_with fail
   refine⟨⟨i+1,.slice (some ⟨g',0,none⟩) (m+1) a4,by go_num,by omega,?_⟩,by simp [intOf]; omega⟩
   rw [B6 b8.out,List.map_append,←List.append_assoc]
   exact aY
  ·obtain rfl:i=n:=by omega
   have b1:Hid (IwS w wr g2 g4 g5 gs J L vA vE (.slice AL h.length cL) h (e0++h.map fun x=>⟨1,x,1⟩)):=by
    have:=hI.out
    rw [I.out,List.take_length] at this
    exact this
   clear hI
   go_wp2_with fail
   exact aX.out _ _ _ _ _ _ _ _ _ _ _ _ _ _ _ _ _ vE (by rw [I.out]; exact b1.out)
end Go.Proofs.YtfcfpoemojjglaaGreatDoor
