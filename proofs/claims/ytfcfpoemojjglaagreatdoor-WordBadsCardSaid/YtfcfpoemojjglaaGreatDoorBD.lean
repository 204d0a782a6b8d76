/-
  Part BD of a proof.
-/
import Derived.Test.YtfcfpoemojjglaaGreatDoorPA
import Derived.Test.YtfcfpoemojjglaaGreatDoorPJ
import Derived.Test.YtfcfpoemojjglaaGreatDoorHA
import Derived.Test.YtfcfpoemojjglaaGreatDoorEA
import Derived.Test.YtfcfpoemojjglaaGreatDoorBB
import Derived.Test.YtfcfpoemojjglaaGreatDoorPB
import Derived.Test.YtfcfpoemojjglaaGreatDoorCE
set_option maxHeartbeats 16000000
set_option maxRecDepth 100000
set_option linter.unusedVariables false
set_option linter.unusedSimpArgs false
namespace Go.Proofs.YtfcfpoemojjglaaGreatDoor
open Go.RowKit
set_option maxHeartbeats 16000000
set_option maxRecDepth 100000
structure EbM (w0 wr:World) (g4 g5:Nat) (c4:Array Value) (v0 v1 vS vA vE:Value) (es:List Edg) (ls:List (Nat×TypeId×Array Value)):Prop where
 below:Below w0.heap.size w0 wr
 b4:Blk wr g4 35 c4
 b5:Blk wr g5 35 #[v0,v1,vS,vA,vE]
 oth:∀x∈ls,Blk wr x.1 x.2.1 x.2.2/\x.2.1≠35/\x.2.1≠83
 eds:wr.ownsRow w0.heap.size 83 3 vE es.length (es.flatMap eC)
 ne:g4≠g5
 ge:w0.heap.size<=g4/\w0.heap.size<=g5
section
variable {w0 wr w':World} {g4 g5:Nat} {c4:Array Value} {v0 v1 vS vA vE:Value} {es:List Edg} {ls:List (Nat×TypeId×Array Value)}
theorem EbM.keep (h:EbM w0 wr g4 g5 c4 v0 v1 vS vA vE es ls) (d:Below wr.heap.size wr w'):EbM w0 w' g4 g5 c4 v0 v1 vS vA vE es ls:=
 ⟨h.below.trans (d.mono h.below.size),h.b4.below d,h.b5.below d,fun x j=>⟨(h.oth x j).1.below d,(h.oth x j).2⟩,Bt h.eds d,h.ne,h.ge⟩
theorem EbM.addE {d:List Edg} {vE':Value} {w1:World} (h:EbM w0 wr g4 g5 c4 v0 v1 vS vA vE es ls) (E:Ac wr w1 (fun k=>vE.ownBlock=some k)) (U:w1.ownsRow w0.heap.size 83 3 vE' (es.length+d.length) (es.flatMap eC++d.flatMap eC)):
  EbM w0 (w1.setCell ⟨g5,4,none⟩ vE') g4 g5 c4 v0 v1 vS vA vE' (es++d) ls:=by
 have I:=h.b5.kept E (Aw h.eds h.b5 (by decide));have G:=(Ac.refl w1 (fun k=>k=g5)).setCell (p:=⟨g5,4,none⟩) (fun _=>rfl) vE';have C:Ac wr (w1.setCell ⟨g5,4,none⟩ vE') (fun k=>vE.ownBlock=some k\/k=g5):=(E.mono fun _ _ e=>.inl e).trans G fun _ _ e=>.inr e;have V:∀{e:TypeId},e≠83->e≠35->∀g cs,(vE.ownBlock=some g\/g=g5)->¬Blk wr g e cs:=by
  rintro e J M g cs (y | y) l
  ·exact Aw h.eds l (fun O=>J O.symm) y
  ·exact l.ne_ h.b5 M y
 refine⟨h.below.trans (C.below h.below.size ?_),h.b4.kept C ?_,I.set_ 4 vE',fun x j=>⟨(h.oth x j).1.kept C fun e=>V (h.oth x j).2.2 (h.oth x j).2.1 _ _ e (h.oth x j).1,(h.oth x j).2⟩,?_,h.ne,h.ge⟩
 ·rintro b W (e | e)
  ·have:=Bb h.eds e; omega
  ·have:=h.ge; omega
 ·rintro(e | e)
  ·exact Aw h.eds h.b4 (by decide) e
  ·exact h.ne e
 ·rw [List.length_append,List.flatMap_append];exact AK G U (fun g cs e l=>by subst e; exact l.ne_ I (by decide) rfl)
theorem EbM.fin {wF:World} {L n:Nat} {d as':List Int} (h:EbM w0 wr g4 g5 c4 (.int .i64 (L:Int)) (.int .i64 (n:Int)) vS vA vE es ls) (O:Ac wr wF (fun k=>k=g4\/k<w0.heap.size))
  (U:wr.ownsRow w0.heap.size 3 1 vS d.length (d.map (Value.int .i64))) (J:wr.ownsRow w0.heap.size 3 1 vA as'.length (as'.map (Value.int .i64))) (M:∀A n c,vS=.slice A n c->d.length<=c) (V:d.length<=4000000) (W:as'.length<=4000000) (he:es.length<=4000000):
  Bj wF wF.heap.size (.agg #[.int .i64 (L:Int),.int .i64 (n:Int),vS,vA,vE]) ⟨(L:Int),(n:Int),d,as',es⟩:=by
 have Z:=h.ge;have key:∀{e:TypeId} {m:Nat} {v:Value} {k:Nat} {l:List Value},e≠35->wr.ownsRow w0.heap.size e m v k l->wF.ownsRow w0.heap.size e m v k l:=fun I j=>O.ownsRow j fun g C e=>by
  rcases e with e | e
  ·exact Aw j h.b4 I (by rw [C,e])
  ·have:=Bb j C; omega
 obtain⟨A1,c1,y,r1⟩:=B8 (B:=wF.heap.size) (key (by decide) U) rfl (Nat.le_refl _) (by omega);obtain⟨A2,c2,E,r2⟩:=B8 (B:=wF.heap.size) (key (by decide) J) rfl (Nat.le_refl _) (by omega);obtain⟨A3,c3,G,r3⟩:=HU (B:=wF.heap.size) (key (by decide) h.eds) rfl (Nat.le_refl _) (by omega);exact⟨A1,c1,A2,c2,A3,c3,by rw [y,E,G],r1,r2,r3,M _ _ _ y⟩
end
end Go.Proofs.YtfcfpoemojjglaaGreatDoor
namespace Go.Proofs.YtfcfpoemojjglaaGreatDoor
open Go.RowKit
set_option maxHeartbeats 16000000
set_option maxRecDepth 100000
def Z0 (l:List Int) (k i m:Nat):List Edg:=(List.range m).map fun x:Nat=>⟨(i:Int),(x:Int),((if (x:Int)∈l/\i<k then i+1 else i:Nat):Int)⟩
theorem aCi (l:List Int) (k i m:Nat):Z0 l k i (m+1)=Z0 l k i m++[⟨(i:Int),(m:Int),((if (m:Int)∈l/\i<k then i+1 else i:Nat):Int)⟩]:=by
 unfold Z0;rw [List.range_succ,List.map_append];rfl
theorem aBs (l:List Int) (k i m:Nat):(Z0 l k i m).length=m:=by simp [Z0]
theorem aBP {w ar:World} {g3 g4 g5 L k i c:Nat} {A:Option Addr} {l:List Int} {c4:Array Value} {v0 v1 vS vA aq:Value} {ls:List (Nat×TypeId×Array Value)} {j:List Edg}
  (V:EbM w ar g4 g5 c4 v0 v1 vS vA aq j ls) (h3:(g3,119,#[.slice A l.length c,.int .i64 (k:Int)])∈ls) (hl:Sl w w.heap.size 1 Ai A l) (hL:L<=8) (bK:j.length<=1000) (hk:k<=60)
  {u1 u2 u4 u8 u9 a7 a8 a9 aa ab ad ae af ag ah aj ak al am aG aH aJ aK aL aM aN aO aP aQ aR aS aT aU aV aW aX aY aZ b0 b4 b6 b7 b8 b9 ba bd ao:Value}
  {Q:Exit->Act->World->Prop}
  (hQ:∀(x8 be bf bg bh bi bj bk bl bm bn bo bp bq br bs bt bu bv bw bx bz bA bB bC bD bE bF:Value) (w':World) (vE':Value),EbM w w' g4 g5 c4 v0 v1 vS vA vE' (j++Z0 l k i L) ls->
   Q (.exit 2) ⟨List.toArray ((.int .i64 (L:Int))::u1::u2::(.pointer (some ⟨g3,0,none⟩))::u4::(.pointer (some ⟨g5,0,none⟩))::(.int .i64 (i:Int))::(.int .i64 (L:Int))::x8::u9::a7::a8::a9::aa::ab::ad::ae::af::ag::ah::aj::ak::
   al::am::be::bf::bg::bh::bi::bj::bk::bl::bm::bn::bo::bp::bq::br::bs::bt::bu::bv::bw::bx::bz::bA::bB::bC::bD::bE::bF::ao::[]),[]⟩ w'):
  (Code.loop (CG Tryz.f84 1)).wp Tryz.prog Q ⟨List.toArray ((.int .i64 (L:Int))::u1::u2::(.pointer (some ⟨g3,0,none⟩))::u4::(.pointer (some ⟨g5,0,none⟩))::(.int .i64 (i:Int))::(.int .i64 0)::u8::u9::a7::a8::a9::aa::ab::ad::ae::af::ag::ah::aj::ak::al::
   am::aG::aH::aJ::aK::aL::aM::aN::aO::aP::aQ::aR::aS::aT::aU::aV::aW::aX::aY::aZ::b0::b4::b6::b7::b8::b9::ba::bd::ao::[]),[]⟩ ar:=by
 conv=>arg 2; arg 1; whnf
 have aw:=hide V;have aD:=hide hl;have ax:=hide hQ;clear V hl hQ;go_loopw [7] (fun I wr=>∃(x:Nat) (vE:Value),I=.int .i64 (x:Int)/\x<=L/\Hid (EbM w wr g4 g5 c4 v0 v1 vS vA vE (j++Z0 l k i x) ls)) (fun I _=>L - (intOf I).toNat)
 case atStart=>exact⟨0,aq,rfl,Nat.zero_le _,by simpa [Z0] using aw⟩
 case round=>
  obtain⟨x,vE,rfl,hx,h⟩:=hrel;by_cases bP:x<L
  ·obtain⟨J,M,rfl⟩:=AH h.out.eds;obtain⟨m,C⟩:∃m,(j++Z0 l k i x).length=m:=⟨_,rfl⟩;have a3:m+1<=4000000:=by rw [<-C,List.length_append,aBs]; omega
   have ay:=h.out.b5.cell;have bI:=(h.out.oth _ h3).1.cell;have E:=h.out.eds;rw [C] at ay E;have a6:=h.out.below.size;have aA:=aA0 (w:=wr) (c:=c) (x:Int) (aD.out.below h.out.below);have a4:=hide C;clear C;rw [a4.out] at h;go_wp2_with fail;refine Calls.mono aA ?_;rintro e w' ⟨rfl,rfl⟩;by_cases W:(x:Int)∈l;all_goals by_cases aB:i<k
   all_goals
    try simp only [W,decide_true,decide_false]
    go_wp2_with (
     at_builtin;first
     | refine BP (w:=wr) Ga rfl _ _ rfl w.heap.size (.slice J m M) m _ rfl E [.int .i64 (i:Int),.int .i64 (x:Int),.int .i64 ((i:Int)+1)] 1 rfl rfl (by simp [Value.oneCell']) a3 a6 ?_
     | refine BP (w:=wr) Ga rfl _ _ rfl w.heap.size (.slice J m M) m _ rfl E [.int .i64 (i:Int),.int .i64 (x:Int),.int .i64 (i:Int)] 1 rfl rfl (by simp [Value.oneCell']) a3 a6 ?_
     intro U O w7 a5 Z aE bM;have G:=Z;have y:=h.out.b5.kept G (Aw h.out.eds h.out.b5 (by decide));have bJ:=y.cell;have bL:=y.frozen 4;have bO:=y.lt;have aC:=hide G;have aF:=hide a5;clear a5 Z G aE y)
    have av:=h.out.addE (d:=[⟨(i:Int),(x:Int),((if (x:Int)∈l/\i<k then i+1 else i:Nat):Int)⟩]) (vE':=.slice (some ⟨U,0,none⟩) (m+1) O) aC.out (by rw [a4.out]; have:=aF.out; simpa [W,aB,eC] using this);refine⟨⟨x+1,.slice (some ⟨U,0,none⟩) (m+1) O,by go_num,by omega,?_⟩,by simp [intOf]; omega⟩;rw [aCi,<-List.append_assoc];exact av
  ·obtain rfl:x=L:=by omega
   have az:=hide h.out;clear h;go_wp2_with fail;exact ax.out _ _ _ _ _ _ _ _ _ _ _ _ _ _ _ _ _ _ _ _ _ _ _ _ _ _ _ _ _ vE az.out
end Go.Proofs.YtfcfpoemojjglaaGreatDoor
namespace Go.Proofs.YtfcfpoemojjglaaGreatDoor
open Go.RowKit
set_option maxHeartbeats 16000000
set_option maxRecDepth 100000
def aDa (l:List Int) (k L m:Nat):List Edg:=(List.range m).flatMap fun i=>Z0 l k i L
theorem aBm (l:List Int) (k L m:Nat):aDa l k L (m+1)=aDa l k L m++Z0 l k m L:=by
 unfold aDa;rw [List.range_succ,List.flatMap_append];simp
theorem aA6 (l:List Int) (k L:Nat):∀m,(aDa l k L m).length=m*L
 | 0=>by simp [aDa]
 | m+1=>by rw [aBm,List.length_append,aA6 l k L m,aBs,Nat.add_mul,Nat.one_mul]
theorem aBO {w a7:World} {g3 g4 g5 L k c:Nat} {A:Option Addr} {l:List Int} {c4:Array Value} {v0 v1 vS vA a6:Value} {ls:List (Nat×TypeId×Array Value)}
  (E:EbM w a7 g4 g5 c4 v0 v1 vS vA a6 [] ls) (j:(g3,119,#[.slice A l.length c,.int .i64 (k:Int)])∈ls) (G:Sl w w.heap.size 1 Ai A l) (C:L<=8) (hk:k<=60)
  {u1 u2 u4 u7 u8 u9 I J M O U V W Z ag ah ai aj ak al am an ao ap aq ar au av aw ax ay az aA aB aC aD aE aF aG aH aJ aK aL aM aN aO aP a4:Value}
  {Q:Exit->Act->World->Prop}
  (hQ:∀(x7 x8 aR aS aT aU aV aW aX aY aZ b0 b4 b5 b6 b7 b8 b9 ba bd be bf bg bh bi bj bk bl bm bn bo bp bq br bs:Value) (w':World) (vE':Value),EbM w w' g4 g5 c4 v0 v1 vS vA vE' (aDa l k L (k+1)) ls->
   Q (.exit 0) ⟨List.toArray ((.int .i64 (L:Int))::u1::u2::(.pointer (some ⟨g3,0,none⟩))::u4::(.pointer (some ⟨g5,0,none⟩))::(.int .i64 ((k+1:Nat):Int))::x7::x8::u9::I::J::M::O::U::V::W::Z::aR::aS::aT::aU::aV::
   aW::aX::aY::aZ::b0::b4::b5::b6::b7::b8::b9::ba::bd::be::bf::bg::bh::bi::bj::bk::bl::bm::bn::bo::bp::bq::br::bs::a4::[]),[]⟩ w'):
  (Code.loop (CG Tryz.f84 0)).wp Tryz.prog Q ⟨List.toArray ((.int .i64 (L:Int))::u1::u2::(.pointer (some ⟨g3,0,none⟩))::u4::(.pointer (some ⟨g5,0,none⟩))::(.int .i64 0)::u7::u8::u9::I::J::M::O::U::V::W::Z::ag::ah::ai::aj::ak::al::am::an::
   ao::ap::aq::ar::au::av::aw::ax::ay::az::aA::aB::aC::aD::aE::aF::aG::aH::aJ::aK::aL::aM::aN::aO::aP::a4::[]),[]⟩ a7:=by
 conv=>arg 2; arg 1; whnf
 have a9:=hide E;have af:=hide G;have aa:=hide hQ;clear E G hQ;go_loopw [6] (fun h wr=>∃(i:Nat) (vE:Value),h=.int .i64 (i:Int)/\i<=k+1/\Hid (EbM w wr g4 g5 c4 v0 v1 vS vA vE (aDa l k L i) ls)) (fun h _=>k+1 - (intOf h).toNat)
 case atStart=>exact⟨0,a6,rfl,Nat.zero_le _,by simpa [aDa] using a9⟩
 case round=>
  obtain⟨i,vE,rfl,hi,d⟩:=hrel;have bv:=(d.out.oth _ j).1.cell;by_cases bx:i<=k
  ·have ab:(aDa l k L i).length<=1000:=by
    rw [aA6];exact Nat.le_trans (Nat.mul_le_mul (show i<=60 by omega) C) (by decide)
   go_wp2_with fail;refine aBP d.out j af.out C ab hk ?_;iterate 28 (intro _)
   intro w' vE' y;have a8:=hide y;clear y d;go_wp2_with fail;refine⟨⟨i+1,vE',by go_num,by omega,?_⟩,by simp [intOf]; omega⟩;rw [aBm];exact a8
  ·obtain rfl:i=k+1:=by omega
   have ad:=hide d.out;clear d;go_wp2_with fail;exact aa.out _ _ _ _ _ _ _ _ _ _ _ _ _ _ _ _ _ _ _ _ _ _ _ _ _ _ _ _ _ _ _ _ _ _ _ _ vE ad.out
end Go.Proofs.YtfcfpoemojjglaaGreatDoor
namespace Go.Proofs.YtfcfpoemojjglaaGreatDoor
open Go.RowKit
set_option maxHeartbeats 16000000
theorem aBN (L:Nat) (l:List Int) (k:Nat):(⟨(L:Int),((k+1:Nat):Int),[0],[(k:Int)],aDa l k L (k+1)⟩:WA)=AG L (Wf L l k) (We k):=by
 have h:(We k).length=k+1:=by simp [We]
 have y:aDa l k L (k+1)=(List.range (k+1)).flatMap fun q:Nat=>(List.range L).map fun x:Nat=>(⟨(q:Int),(x:Int),((dnx (Wf L l k) q x:Nat):Int)⟩:Edg):=by
  unfold aDa Z0;simp only [List.flatMap_def];congr 1;refine List.map_congr_left fun q C=>List.map_congr_left fun x d=>?_;rw [aBl (by have:=List.mem_range.1 C; omega) (List.mem_range.1 d)]
 have E:AJ (We k)=[(k:Int)]:=by
  unfold AJ;rw [h,List.range_succ,List.filter_append];have j:(List.range k).filter (fun i=>(We k).getD i false)=[]:=List.filter_eq_nil_iff.2 fun x d=>by
   have:=List.mem_range.1 d;simp [We,List.getD,show x<k+1 by omega,show x≠k by omega]
  rw [j];simp [We,List.getD]
 unfold AG;rw [h,y,E]
end Go.Proofs.YtfcfpoemojjglaaGreatDoor
namespace Go.Proofs.YtfcfpoemojjglaaGreatDoor
open Go.RowKit
open K (Am AB D9)
set_option maxHeartbeats 16000000
theorem aBx {L:Nat} {a b:Int} {ring:Bool} (G:inN L a=true) (J:inN L b=true):¬(Wd L a b ring).nf.Large 16:=by
 rintro⟨i,l,j,O⟩;have E:(Wd L a b ring).nf.L=L:=by show(Wd L a b ring).L=L; simp [WA.L,Wd]
 have C:(Wd L a b ring).nf.st=adM ring ad0:=by cases ring <;> rfl
 rw [E,C] at j
 have:=Wb (I:=fun s:List Bool=>∃d:AdS,s=adM ring d) (fin:=[false,true].flatMap fun x=>[false,true].flatMap fun y=>[false,true].flatMap fun z=>[false,true].map fun u=>adM ring ⟨x,y,z,u⟩) ⟨ad0,rfl⟩
  (fun s x h M=>by
   obtain⟨d,rfl⟩:=h;exact⟨_,aA8 G J M d⟩)
  (fun s h=>by
   obtain⟨⟨x,y,z,u⟩,rfl⟩:=h;cases x <;> cases y <;> cases z <;> cases u <;> simp) j
 simp at this;omega
theorem aB3 {L:Nat} {t u:List (List Nat)} {ac bc:List Bool} {all:List (Nat×Nat)} {Λ Γ:List Nat->Bool} (h:BH L t ac Λ) (y:BH L u bc Γ) (C:Bf L (dPr t u) (0,0) all) {z:List Nat} (d:okW L z):
  EI (AM L (dPr t u) all all.length) (all.map (Us (AL 1) ac bc)) z=(Λ z&&Γ z):=by
 rw [aCb C d];have j:EI t ac z=Λ z:=h.can.lang z d;have l:EI u bc z=Γ z:=y.can.lang z d;rw [j,l];rfl
theorem aBg (L:Nat):∀k,AZ (dnx [List.replicate L 0]) 0 [0] k=[0]
 | 0=>rfl
 | k+1=>by
  have h:dnx [List.replicate L 0] 0 k=0:=by
   unfold dnx;simp only [List.getD_eq_getElem?_getD,List.getElem?_cons_zero,Option.getD_some,List.getElem?_replicate];split <;> rfl
  rw [Cr,aBg L k,h];rfl
theorem aBf (L:Nat):DOK L [List.replicate L 0] [true]:=⟨rfl,by simp,fun r d=>by
 rw [List.mem_singleton.1 d];exact⟨by simp,fun y h=>by rw [(List.mem_replicate.1 h).2]; simp⟩⟩
theorem aBD (L:Nat):BH L [List.replicate L 0] [true] fun _=>true:=by
 have d:∀w,okW L w->Ay (dnx [List.replicate L 0]) 0 w=0:=fun w h=>by
  have:=(aBf L).run h;simp at this;omega
 refine⟨aBf L,fun w h=>by rw [d w h]; rfl,fun u v j l _=>by rw [d u j,d v l],?_⟩;have:=Exp.row (L:=L) (δ:=dnx [List.replicate L 0]) (s0:=0) Exp.start (s:=0) rfl;rw [aBg] at this;exact this
def Z4 (q:AB) (i:Nat) (z:List Nat):Bool:=((Uw q).take i).all fun c=>decide (c.2<=UB c.1 z)
theorem aBF {q:AB} {i:Nat} {c:D9} (h:q.bad[i]?=some c) (z:List Nat):Z4 q (i+1) z=(Z4 q i z&&decide (c.least.toNat<=UB c.states z)):=by
 unfold Z4;have d:=U6 h;rw [List.take_add_one,d,List.all_append];simp
theorem aBi (q:AB) (z:List Nat):Z4 q q.bad.length z=(Uw q).all fun c=>decide (c.2<=UB c.1 z):=by
 unfold Z4;rw [<-UV,List.take_length]
end Go.Proofs.YtfcfpoemojjglaaGreatDoor
namespace Go.Proofs.YtfcfpoemojjglaaGreatDoor
open Go.RowKit
set_option maxHeartbeats 16000000
set_option maxRecDepth 100000
section
variable {P:Program} {ops:Array Oper} {rest:List Oper} {o:Oper} {a:Act} {Q:Exit->Act->World->Prop}
theorem aAY {w:World} {t e size:Nat} (R:Dd P t e size) (G:o.guard=none) (s x:Operand)
  (U:o.op=.call { callee:=.builtin .append,args:=#[s,x],argTypes:=#[t,t] })
  (base:Nat) (v:Value) (n:Nat) (xs:List Value) (Z:a.eval s=v) (V:w.ownsRow base e size v n xs) (cs:List Value) (m c:Nat)
  (hx:a.eval x=.slice (some ⟨w.heap.size,0,none⟩) m c) (M:cs.length=m*size) (l:∀u∈cs,u.oneCell'=true) (O:0<m)
  (hn:n+m<=1000000) (a3:base<=w.heap.size)
  (h:∀g d w',w'.ownsRow base e size (.slice (some ⟨g,0,none⟩) (n+m) d) (n+m) (xs++cs)->Ac w w' (fun k=>v.ownBlock=some k)->g<w'.heap.size->
   wpList P ops Q rest (a.put o.dst (.slice (some ⟨g,0,none⟩) (n+m) d)) w'):
  wpList P ops Q (o::rest) a (w.alloc (.cells cs.toArray e)):=by
 refine G9 R G s x U base v n xs Z (V.alloc _) ⟨w.heap.size,0,none⟩ m c cs hx M ?_ l O (by omega) (by simp; omega) ?_
 ·intro j u I;have y:(⟨w.heap.size,0,none⟩:Addr).add j=⟨w.heap.size,j,none⟩:=by unfold Addr.add; split <;> simp_all
  rw [y,cell_of_row _ w.heap.size j cs.toArray e (0,0) (heap_alloc_new w _)];simpa using I
 ·intro g d w' W J _ E;exact h g d w' W (((Ac.refl w (fun k=>v.ownBlock=some k)).alloc (.cells cs.toArray e)).trans J fun b _ C=>C) E
end
def TA (m:Nat):List Edg:=(List.range m).flatMap fun z:Nat=>[⟨0,(z:Int),0⟩,⟨2,(z:Int),2⟩]
theorem aBu (m:Nat):TA (m+1)=TA m++[⟨0,(m:Int),0⟩,⟨2,(m:Int),2⟩]:=by
 unfold TA;rw [List.range_succ,List.flatMap_append];simp
theorem aA1:∀m,(TA m).length=m*2
 | 0=>rfl
 | m+1=>by rw [aBu,List.length_append,aA1 m]; simp; omega
def aDb (m:Nat):List Edg:=(List.range m).map fun z:Nat=>⟨4,(z:Int),4⟩
theorem aBZ (m:Nat):aDb (m+1)=aDb m++[⟨4,(m:Int),4⟩]:=by
 unfold aDb;rw [List.range_succ,List.map_append];rfl
theorem aBo (m:Nat):(aDb m).length=m:=by simp [aDb]
theorem aBd {w b4:World} {g4 g5 L:Nat} {c4:Array Value} {v0 v1 vS vA b0:Value} {ls:List (Nat×TypeId×Array Value)}
  (I:EbM w b4 g4 g5 c4 v0 v1 vS vA b0 [] ls) (hL:L<=8)
  {u1 u2 u3 u4 u5 u6 u7 u8 V W Z a2 a3 bj bk bl bm bn bo bp bq br bs bt bu bv bw a6 a7 a8 a9 aa ab ad ae af ag ai aj ak al am an ao ap aq ar av aw ax ay az aA aB aC aD aE aG aH aJ aK u64 aL aM aN aO aP aR aS aT aU aV aW aX aY aZ:Value}
  {Q:Exit->Act->World->Prop}
  (hQ:∀(bx bz bA bB bC bD bE bF bG bH bI bJ bK bL:Value) (w':World) (vE':Value),EbM w w' g4 g5 c4 v0 v1 vS vA vE' (TA L) ls->
   Q (.exit 0) ⟨List.toArray ((.int .i64 (L:Int))::u1::u2::u3::u4::u5::u6::u7::u8::(.pointer (some ⟨g5,0,none⟩))::(.int .i64 (L:Int))::V::W::Z::a2::a3::bx::bz::bA::bB::bC::bD::bE::bF::bG::bH::bI::bJ::bK::
   bL::a6::a7::a8::a9::aa::ab::ad::ae::af::ag::ai::aj::ak::al::am::an::ao::ap::aq::ar::av::aw::ax::ay::az::aA::aB::aC::aD::aE::aG::aH::aJ::aK::u64::aL::
   aM::aN::aO::aP::aR::aS::aT::aU::aV::aW::aX::aY::aZ::[]),[]⟩ w'):
  (Code.loop (CG Tryz.f85 0)).wp Tryz.prog Q ⟨List.toArray ((.int .i64 (L:Int))::u1::u2::u3::u4::u5::u6::u7::u8::(.pointer (some ⟨g5,0,none⟩))::(.int .i64 0)::V::W::Z::a2::a3::bj::bk::bl::bm::bn::bo::bp::bq::br::bs::bt::bu::bv::bw::
   a6::a7::a8::a9::aa::ab::ad::ae::af::ag::ai::aj::ak::al::am::an::ao::ap::aq::ar::av::aw::ax::ay::az::aA::aB::aC::aD::aE::aG::aH::aJ::aK::u64::aL::aM::
   aN::aO::aP::aR::aS::aT::aU::aV::aW::aX::aY::aZ::[]),[]⟩ b4:=by
 conv=>arg 2; arg 1; whnf
 have b9:=hide I;have ba:=hide hQ;clear I hQ;go_loopw [10] (fun C wr=>∃(x:Nat) (vE:Value),C=.int .i64 (x:Int)/\x<=L/\Hid (EbM w wr g4 g5 c4 v0 v1 vS vA vE (TA x) ls)) (fun C _=>L - (intOf C).toNat)
 case atStart=>exact⟨0,b0,rfl,Nat.zero_le _,by simpa [TA] using b9⟩
 case round=>
  obtain⟨x,vE,rfl,hx,h⟩:=hrel;by_cases bR:x<L
  ·obtain⟨AE,cE,rfl⟩:=AH h.out.eds;obtain⟨m,l⟩:∃m,(TA x).length=m:=⟨_,rfl⟩;have bg:m+2<=1000000:=by rw [<-l,aA1]; omega
   have bd:=h.out.b5.cell;have J:=h.out.eds;rw [l] at bd J;have bi:=h.out.below.size;have O:=hide l;clear l;rw [O.out] at h
   go_wp2_with (
    at_builtin;refine aAY (w:=wr) Ga rfl _ _ rfl w.heap.size (.slice AE m cE) m _ rfl J [.int .i64 0,.int .i64 (x:Int),.int .i64 0,.int .i64 2,.int .i64 (x:Int),.int .i64 2] 2 2 rfl rfl (by simp [Value.oneCell']) (by decide) bg bi ?_;intro G E w7 U M bP;have y:=M;have j:=h.out.b5.kept y (Aw h.out.eds h.out.b5 (by decide));have bN:=j.cell;have bO:=j.frozen 4;have bQ:=j.lt;have bf:=hide y;have bh:=hide U;clear U M y j)
   have b8:=h.out.addE (d:=[⟨0,(x:Int),0⟩,⟨2,(x:Int),2⟩]) (vE':=.slice (some ⟨G,0,none⟩) (m+2) E) bf.out (by rw [O.out]; have:=bh.out; simpa [eC] using this);refine⟨⟨x+1,.slice (some ⟨G,0,none⟩) (m+2) E,by go_num,by omega,?_⟩,by simp [intOf]; omega⟩;rw [aBu];exact hide b8
  ·obtain rfl:x=L:=by omega
   have be:=hide h.out;clear h;go_wp2_with fail;exact ba.out _ _ _ _ _ _ _ _ _ _ _ _ _ _ _ vE be.out
theorem aBz {w b8:World} {g4 g5 L:Nat} {c4:Array Value} {v0 v1 vS vA b7:Value} {ls:List (Nat×TypeId×Array Value)} {j:List Edg}
  (J:EbM w b8 g4 g5 c4 v0 v1 vS vA b7 j ls) (hL:L<=8) (bN:j.length<=1000)
  {u1 u2 u3 u4 u5 u6 u7 u8 W Z a2 a3 a4 a5 a6 a7 a8 aa ab ad ae af ag ah ai aj ak am an ao ap aq ar au av aw ax az aA aB aC aD aE aF bm bn bo bp bq br bs bt bu bv bw bx aH aK aL aM aN u64 aO aP aQ aR aS aU aV aW aX aY aZ b0 b4 b6:Value}
  {Q:Exit->Act->World->Prop}
  (hQ:∀(bz bA bB bC bD bE bF bG bH bI bJ bK:Value) (w':World) (vE':Value),EbM w w' g4 g5 c4 v0 v1 vS vA vE' (j++aDb L) ls->
   Q (.exit 2) ⟨List.toArray ((.int .i64 (L:Int))::u1::u2::u3::u4::u5::u6::u7::u8::(.pointer (some ⟨g5,0,none⟩))::W::(.int .i64 (L:Int))::Z::a2::a3::a4::a5::a6::a7::a8::aa::ab::ad::ae::af::ag::ah::ai::aj::
   ak::am::an::ao::ap::aq::ar::au::av::aw::ax::az::aA::aB::aC::aD::aE::aF::bz::bA::bB::bC::bD::bE::bF::bG::bH::bI::bJ::bK::aH::aK::aL::aM::aN::u64::aO::
   aP::aQ::aR::aS::aU::aV::aW::aX::aY::aZ::b0::b4::b6::[]),[]⟩ w'):
  (Code.loop (CG Tryz.f85 1)).wp Tryz.prog Q ⟨List.toArray ((.int .i64 (L:Int))::u1::u2::u3::u4::u5::u6::u7::u8::(.pointer (some ⟨g5,0,none⟩))::W::(.int .i64 0)::Z::a2::a3::a4::a5::a6::a7::a8::aa::ab::ad::ae::af::ag::ah::ai::aj::ak::
   am::an::ao::ap::aq::ar::au::av::aw::ax::az::aA::aB::aC::aD::aE::aF::bm::bn::bo::bp::bq::br::bs::bt::bu::bv::bw::bx::aH::aK::aL::aM::aN::u64::aO::aP::
   aQ::aR::aS::aU::aV::aW::aX::aY::aZ::b0::b4::b6::[]),[]⟩ b8:=by
 conv=>arg 2; arg 1; whnf
 have be:=hide J;have bf:=hide hQ;clear J hQ;go_loopw [11] (fun E wr=>∃(x:Nat) (vE:Value),E=.int .i64 (x:Int)/\x<=L/\Hid (EbM w wr g4 g5 c4 v0 v1 vS vA vE (j++aDb x) ls)) (fun E _=>L - (intOf E).toNat)
 case atStart=>exact⟨0,b7,rfl,Nat.zero_le _,by simpa [aDb] using be⟩
 case round=>
  obtain⟨x,vE,rfl,hx,h⟩:=hrel;by_cases bR:x<L
  ·obtain⟨AE,cE,rfl⟩:=AH h.out.eds;obtain⟨m,y⟩:∃m,(j++aDb x).length=m:=⟨_,rfl⟩;have bj:m+1<=1000000:=by rw [<-y,List.length_append,aBo]; omega
   have bg:=h.out.b5.cell;have M:=h.out.eds;rw [y] at bg M;have bl:=h.out.below.size;have U:=hide y;clear y;rw [U.out] at h
   go_wp2_with (
    at_builtin;refine aAY (w:=wr) Ga rfl _ _ rfl w.heap.size (.slice AE m cE) m _ rfl M [.int .i64 4,.int .i64 (x:Int),.int .i64 4] 1 1 rfl rfl (by simp [Value.oneCell']) (by decide) bj bl ?_;intro I G w7 V O bP;have C:=O;have l:=h.out.b5.kept C (Aw h.out.eds h.out.b5 (by decide));have bM:=l.cell;have bO:=l.frozen 4;have bQ:=l.lt;have bi:=hide C;have bk:=hide V;clear V O C l)
   have bd:=h.out.addE (d:=[⟨4,(x:Int),4⟩]) (vE':=.slice (some ⟨I,0,none⟩) (m+1) G) bi.out (by rw [U.out]; have:=bk.out; simpa [eC] using this);refine⟨⟨x+1,.slice (some ⟨I,0,none⟩) (m+1) G,by go_num,by omega,?_⟩,by simp [intOf]; omega⟩;rw [aBZ,<-List.append_assoc];exact hide bd
  ·obtain rfl:x=L:=by omega
   have bh:=hide h.out;clear h;go_wp2_with fail;exact bf.out _ _ _ _ _ _ _ _ _ _ _ _ _ vE bh.out
end Go.Proofs.YtfcfpoemojjglaaGreatDoor
namespace Go.Proofs.YtfcfpoemojjglaaGreatDoor
open Go.RowKit
attribute [-go_sem] loadCellsFrom storeCells
theorem Wn {w:World} {g:Nat} {t:TypeId} {j:Array Value} (h:Blk w g t j) (d:Array Value) (E:d.size=j.size) (l:d.all (·.oneCell')=true):
  ∃wF,(storeCells ⟨g,0,none⟩ d.toList 0).run Tryz.prog w=.ok () wF/\Blk wF g t d/\Ac w wF (fun k=>k=g):=by
 have y:=run_storeCells_from (P:=Tryz.prog) g t d.toList 0 j w h (by simp [E]) (fun v G=>by
  rw [<-Array.all_toList] at l;exact List.all_eq_true.1 l v G)
 rw [List.take_zero,List.nil_append,Array.toArray_toList] at y;exact⟨_,y,setRow_heap w g j d t (0,0) h,⟨rfl,rfl,rfl,by simp [World.setRow],fun b _ C=>setRow_other w g b d C⟩⟩
theorem W3 {w:World} {g o:Nat} {v old:Value} (j:w.cell? ⟨g,o,none⟩=some old) (l:w.frozen? ⟨g,o,none⟩=false) (d:v.oneCell'=true):(storeCells ⟨g,o,none⟩ [v] 0).run Tryz.prog w=.ok () (w.setCell ⟨g,o,none⟩ v):=by
 have h:(⟨g,o,none⟩:Addr).add 0=⟨g,o,none⟩:=rfl;simp only [storeCells,Sem.run_bind,h,run_store _ w _ v _ d,j];simp [l]
end Go.Proofs.YtfcfpoemojjglaaGreatDoor
namespace Go.Proofs.YtfcfpoemojjglaaGreatDoor
open Go.RowKit
open K (Ah Dv EQ Kc)
attribute [-go_sem] loadCellsFrom storeCells
set_option maxHeartbeats 16000000
set_option maxRecDepth 100000
theorem aBM {w:World} {L k c:Nat} {A:Option Addr} {l:List Int} (O:Sl w w.heap.size 1 Ai A l) (hL:L<=8) (hk:k<=60):
  Calls Tryz.prog 84 #[.int .i64 (L:Int),.agg #[.slice A l.length c,.int .i64 (k:Int)]] w (Ret fun r w'=>Below w.heap.size w w'/\Bj w' w'.heap.size r (AG L (Wf L l k) (We k))):=by
 obtain⟨w1,aL,a3,M,-⟩:=Ae w #[.slice A l.length c,.int .i64 (k:Int)] 119;obtain⟨w2,aM,C,Z,-⟩:=Ae w1 #[.int .i64 0,.int .i64 0,.slice none 0 0,.slice none 0 0,.slice none 0 0] 35;obtain⟨d,aN,j,ah,-⟩:=Ae w2 #[.int .i64 0] 3;obtain⟨G,aO,y,ai,-⟩:=Ae d #[.int .i64 (k:Int)] 3;obtain⟨w5,ap,E,aj,-⟩:=Ae G #[.int .i64 (L:Int),.int .i64 ((k:Int)+1),.slice (some ⟨w2.heap.size,0,none⟩) 1 1,.slice (some ⟨d.heap.size,0,none⟩) 1 1,.slice none 0 0] 35;have aJ:∀c:Array Value,c.size=5->(storeCells ⟨G.heap.size,0,none⟩ [.int .i64 (L:Int),.int .i64 ((k:Int)+1),.slice (some ⟨w2.heap.size,0,none⟩) 1 1,.slice (some ⟨d.heap.size,0,none⟩) 1 1,.slice none 0 0] 0).run Tryz.prog (G.alloc (.cells c 35))=.ok () w5:=fun c hc=>by
  rw [<-ap];exact Dv G 35 5 (by kernel_rfl) (rc:=#[.int .i64 (L:Int),.int .i64 ((k:Int)+1),.slice (some ⟨w2.heap.size,0,none⟩) 1 1,.slice (some ⟨d.heap.size,0,none⟩) 1 1,.slice none 0 0]) rfl (by simp [Value.oneCell']) c hc
 have s1:=a3.size;have s2:=C.size;have s3:=j.size;have s4:=y.size;have I:=a3.trans (C.mono s1);have J:=I.trans (j.mono I.size);have V:=J.trans (y.mono J.size);have af:=V.trans (E.mono V.size);have aF:w2.cell? ⟨w.heap.size,1,none⟩=some (.int .i64 (k:Int)):=(M.below C).cell 1;have aG:d.cell? ⟨w.heap.size,1,none⟩=some (.int .i64 (k:Int)):=((M.below C).below j).cell 1;have a8:=(((M.below C).below j).below y).below E;have a9:=((Z.below j).below y).below E;have aa:=(ah.below y).below E;have ab:=ai.below E;have aB:=hide (show(k:Int)+1=((k+1:Nat):Int) by omega)
 have hM:Hid (EbM w w5 w1.heap.size G.heap.size #[.int .i64 0,.int .i64 0,.slice none 0 0,.slice none 0 0,.slice none 0 0] (.int .i64 (L:Int)) (.int .i64 ((k:Int)+1)) (.slice (some ⟨w2.heap.size,0,none⟩) 1 1) (.slice (some ⟨d.heap.size,0,none⟩) 1 1) (.slice none 0 0) []
   [(w.heap.size,119,#[.slice A l.length c,.int .i64 (k:Int)]),(w2.heap.size,3,#[.int .i64 0]),(d.heap.size,3,#[.int .i64 (k:Int)])]):=hide
  ⟨af,a9,aj,fun x hx=>by
   simp only [List.mem_cons,List.not_mem_nil,or_false] at hx;rcases hx with rfl | rfl | rfl
   ·exact⟨a8,show(119:Nat)≠35 by decide,show(119:Nat)≠83 by decide⟩
   ·exact⟨aa,show(3:Nat)≠35 by decide,show(3:Nat)≠83 by decide⟩
   ·exact⟨ab,show(3:Nat)≠35 by decide,show(3:Nat)≠83 by decide⟩,World.ownsRow_nil _ _ _ _,by have:=Z.lt; have:=j.size; have:=y.size; omega,⟨s1,by omega⟩⟩
 have aD:=hide O;have av:w.heap.size<=w2.heap.size:=I.size;have aw:w.heap.size<=d.heap.size:=J.size;clear a3 C j y E M Z ah ai aj I J V af a8 a9 aa ab O ap;go_enter Tryz.func84,Tryz.ntmps84;go_wp2_with fail;refine aBO hM.out List.mem_cons_self aD.out hL hk ?_;iterate 35 (intro _)
 intro w6 vE h;obtain⟨U,W,rfl⟩:=AH h.eds;have an:=aA6 l k L (k+1);have az:(aDa l k L (k+1)).length<=1000:=by
  rw [an];exact Nat.le_trans (Nat.mul_le_mul (show k+1<=61 by omega) hL) (by decide)
 have BS:=(h.oth (w2.heap.size,3,#[.int .i64 0]) (List.mem_cons_of_mem _ List.mem_cons_self)).1;have BA:=(h.oth (d.heap.size,3,#[.int .i64 (k:Int)]) (List.mem_cons_of_mem _ (List.mem_cons_of_mem _ List.mem_cons_self))).1;have hS:w6.ownsRow w.heap.size 3 1 (.slice (some ⟨w2.heap.size,0,none⟩) 1 1) ([0]:List Int).length (([0]:List Int).map (Value.int .i64)):=DD (base:=w.heap.size) (n:=1) BS av rfl (by omega);have hA:w6.ownsRow w.heap.size 3 1 (.slice (some ⟨d.heap.size,0,none⟩) 1 1) ([(k:Int)]:List Int).length (([(k:Int)]:List Int).map (Value.int .i64)):=DD (base:=w.heap.size) (n:=1) BA aw rfl (by omega);obtain⟨w7,ao,ak,a6⟩:=Wn h.b4 #[.int .i64 (L:Int),.int .i64 ((k:Int)+1),.slice (some ⟨w2.heap.size,0,none⟩) 1 1,.slice (some ⟨d.heap.size,0,none⟩) 1 1,.slice U (aDa l k L (k+1)).length W] rfl (by simp [Value.oneCell']);have aK:(storeCells ⟨w1.heap.size,0,none⟩ [.int .i64 (L:Int),.int .i64 ((k:Int)+1),.slice (some ⟨w2.heap.size,0,none⟩) 1 1,.slice (some ⟨d.heap.size,0,none⟩) 1 1,.slice U (aDa l k L (k+1)).length W] 0).run Tryz.prog w6=.ok () w7:=ao;have aH:=Ah h.b5 (n:=5) rfl;have aC:=hide (Ah ak (n:=5) rfl);have a2:=h;have a5:=aB.out;rw [a5] at a2;have a4:=a2.fin (a6.mono fun b _ e=>.inl e) hS hA (fun A n c e=>by cases e; simp) (by simp) (by simp) (by omega);rw [aBN,<-a5] at a4;have hF:=hide (And.intro (h.below.trans (a6.below h.below.size fun b hb (e:b=w1.heap.size)=>by have:=h.ge.1; omega)) a4);clear a5 h a2 hM BS BA hS hA ao ak a6 a4 an az;generalize (aDa l k L (k+1)).length=ne at*;go_wp2_with fail;have O:=aC.out;exact bodyPost_ret (v:=.agg #[.int .i64 (L:Int),.int .i64 ((k:Int)+1),.slice (some ⟨w2.heap.size,0,none⟩) 1 1,.slice (some ⟨d.heap.size,0,none⟩) 1 1,.slice U ne W]) (by simp [results,Tryz.results84,go_sem,O]) rfl hF.out
end Go.Proofs.YtfcfpoemojjglaaGreatDoor
