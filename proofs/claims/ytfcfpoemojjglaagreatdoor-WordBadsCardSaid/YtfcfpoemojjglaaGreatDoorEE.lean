/-
  Part EE of a proof.
-/
import Derived.Test.YtfcfpoemojjglaaGreatDoorPA
import Derived.Test.YtfcfpoemojjglaaGreatDoorEG
import Derived.Test.YtfcfpoemojjglaaGreatDoorPJ
set_option maxHeartbeats 16000000
set_option maxRecDepth 100000
set_option linter.unusedVariables false
set_option linter.unusedSimpArgs false
namespace Go.Proofs.YtfcfpoemojjglaaGreatDoor
open Go.RowKit
set_option maxHeartbeats 16000000
set_option maxRecDepth 100000
theorem Qm:(Tryz.prog.info? 76).map (fun i=>(i.zero,i.size,i.bytes))=some (some (.slice none 0 0),1,24):=by kernel_rfl
theorem Sm:Dd Tryz.prog 231 76 1:=EX Tryz.underlying231 Qm rfl (by omega) (by omega)
def Eb (wr:World) (base:Nat) (vA u:Value) (m:List Bool):Prop:=∃g,u=.slice (some ⟨g,0,none⟩) m.length m.length/\base<=g/\Blk wr g 4 (m.map Value.bool).toArray/\vA.ownBlock≠some g
structure SbM (w0 wr:World) (g2 g4 g6:Nat) (cs:Array Value) (vN vA vS:Value) (all:List (List Bool)) (t:List (List Nat)) (as':List Bool) (us ws:List Value) (N:Nat->Prop):Prop where
 below:Below w0.heap.size w0 wr
 b2:Blk wr g2 35 cs
 b4:Blk wr g4 139 #[sn0,sn0]
 b6:Blk wr g6 139 #[vN,vA]
 sets:wr.ownsRow w0.heap.size 76 1 vS all.length us
 setR:F2 (fun u m=>Eb wr w0.heap.size vA u m) us all
 acc:wr.ownsRow w0.heap.size 4 1 vA as'.length (as'.map Value.bool)
 nxt:wr.ownsRow w0.heap.size 24 1 vN t.length ws
 nxtR:Cl wr w0.heap.size N ws (t.map Ak)
 ne:g4≠g6
 ge:w0.heap.size<=g2/\w0.heap.size<=g4/\w0.heap.size<=g6
theorem Eb.kept {wr w':World} {base:Nat} {vA vA' u:Value} {m:List Bool} {X:Nat->Prop} (h:Eb wr base vA u m) (G:Ac wr w' X) (E:∀g cs,X g->Blk wr g 4 cs->vA.ownBlock≠some g->False) (C:∀g,g<wr.heap.size->vA.ownBlock≠some g->vA'.ownBlock≠some g):Eb w' base vA' u m:=by
 obtain⟨g,l,y,d,j⟩:=h;exact⟨g,l,y,d.kept G (fun x=>E g _ x d j),C g d.lt j⟩
section
variable {w0 wr w':World} {g2 g4 g6:Nat} {cs:Array Value} {vN vA vS:Value} {all:List (List Bool)} {t:List (List Nat)} {as':List Bool} {us ws:List Value} {N:Nat->Prop}
theorem SbM.keep (h:SbM w0 wr g2 g4 g6 cs vN vA vS all t as' us ws N) (d:Below wr.heap.size wr w'):SbM w0 w' g2 g4 g6 cs vN vA vS all t as' us ws N:=
 ⟨h.below.trans (d.mono h.below.size),h.b2.below d,h.b4.below d,h.b6.below d,Bt h.sets d,h.setR.imp fun _ _ j=>j.kept (Ac.of_below d (fun _=>False)) (fun _ _ x=>x.elim) (fun _ _ x=>x),Bt h.acc d,Bt h.nxt d,
  h.nxtR.keep (Ac.of_below d (fun _=>False)) (fun _ _ _ e=>e.elim) (fun _ _ x=>x) (Nat.le_refl _),h.ne,h.ge⟩
theorem SbM.weak {N':Nat->Prop} (h:SbM w0 wr g2 g4 g6 cs vN vA vS all t as' us ws N) (d:∀g,g<wr.heap.size->N g->N' g):SbM w0 wr g2 g4 g6 cs vN vA vS all t as' us ws N':=
 ⟨h.below,h.b2,h.b4,h.b6,h.sets,h.setR,h.acc,h.nxt,h.nxtR.keep (Ac.refl wr (fun _=>False)) (fun _ _ _ e=>e.elim) d (Nat.le_refl _),h.ne,h.ge⟩
theorem SbM.at (h:SbM w0 wr g2 g4 g6 cs vN vA vS all t as' us ws N) {k:Nat} {m:List Bool} (y:all[k]?=some m):∃gS c gm,vS=.slice (some ⟨gS,0,none⟩) all.length c/\wr.cell? ⟨gS,k,none⟩=some (.slice (some ⟨gm,0,none⟩) m.length m.length)/\BX wr wr.heap.size (.slice (some ⟨gm,0,none⟩) m.length m.length) m:=by
 obtain⟨u,C,g,e,E,d,G⟩:=F2.at h.setR y;obtain⟨gS,c,j,l⟩:=C7 h.sets C;exact⟨gS,c,g,j,by rw [l,e],g,d.lt,rfl,d⟩
theorem SbM.row {v:Value} {n:Nat} {xs:List Value} (h:SbM w0 wr g2 g4 g6 cs vN vA vS all t as' us ws N) (y:wr.ownsRow w0.heap.size 3 1 v n xs) (G:∀g,N g->v.ownBlock≠some g) (d:Ac wr w' (fun k=>v.ownBlock=some k)):SbM w0 w' g2 g4 g6 cs vN vA vS all t as' us ws N:=by
 have j:∀{e:TypeId},e≠3->∀g cs,v.ownBlock=some g->¬Blk wr g e cs:=fun E g cs C l=>Aw y l (fun I=>E I.symm) C
 exact⟨h.below.trans (d.below h.below.size fun b O e=>by have:=Bb y e; omega),h.b2.kept d fun x=>j (by decide) _ _ x h.b2,h.b4.kept d fun x=>j (by decide) _ _ x h.b4,h.b6.kept d fun x=>j (by decide) _ _ x h.b6,
  AK d h.sets (j (by decide)),h.setR.imp fun _ _ M=>M.kept d (fun g cs x l _=>j (by decide) g cs x l) (fun _ _ x=>x),AK d h.acc (j (by decide)),AK d h.nxt (j (by decide)),h.nxtR.keep d (fun g cs J x _=>G g J x) (fun _ _ x=>x) (Nat.le_refl _),h.ne,h.ge⟩
theorem SbM.addS {m:List Bool} {u vS':Value} (h:SbM w0 wr g2 g4 g6 cs vN vA vS all t as' us ws N) (M:Eb wr w0.heap.size vA u m) (d:Ac wr w' (fun k=>vS.ownBlock=some k)) (J:w'.ownsRow w0.heap.size 76 1 vS' (all.length+1) (us++[u])):
  SbM w0 w' g2 g4 g6 cs vN vA vS' (all++[m]) t as' (us++[u]) ws N:=by
 have j:∀{e:TypeId},e≠76->∀g cs,vS.ownBlock=some g->¬Blk wr g e cs:=fun G g cs E l=>Aw h.sets l (fun I=>G I.symm) E;have C:∀{u m},Eb wr w0.heap.size vA u m->Eb w' w0.heap.size vA u m:=fun y=>y.kept d (fun g cs x l _=>j (by decide) g cs x l) (fun _ _ x=>x)
 refine⟨h.below.trans (d.below h.below.size fun b O e=>by have:=Bb h.sets e; omega),h.b2.kept d fun x=>j (by decide) _ _ x h.b2,h.b4.kept d fun x=>j (by decide) _ _ x h.b4,h.b6.kept d fun x=>j (by decide) _ _ x h.b6,
  by rw [List.length_append]; exact J,F2.snoc (h.setR.imp fun _ _ y=>C y) (C M),AK d h.acc (j (by decide)),AK d h.nxt (j (by decide)),h.nxtR.keep d (fun g cs _ x=>j (by decide) g cs x) (fun _ _ x=>x) (Nat.le_refl _),h.ne,h.ge⟩
theorem SbM.addR {row:List Nat} {v vN':Value} {w1:World} (h:SbM w0 wr g2 g4 g6 cs vN vA vS all t as' us ws N) (V:wr.ownsRow w0.heap.size 3 1 v row.length ((Ak row).map (Value.int .i64)))
  (C:Ac wr w1 (fun k=>vN.ownBlock=some k)) (U:w1.ownsRow w0.heap.size 24 1 vN' (t.length+1) (ws++[v])):
  SbM w0 (w1.setCell ⟨g6,0,none⟩ vN') g2 g4 g6 cs vN' vA vS all (t++[row]) as' us (ws++[v]) (fun _=>True):=by
 have G:=h.b6.kept C (Aw h.nxt h.b6 (by decide));have E:=(Ac.refl w1 (fun k=>k=g6)).setCell (p:=⟨g6,0,none⟩) (fun _=>rfl) vN';have d:Ac wr (w1.setCell ⟨g6,0,none⟩ vN') (fun k=>vN.ownBlock=some k\/k=g6):=(C.mono fun _ _ e=>.inl e).trans E fun _ _ e=>.inr e;have l:∀{e:TypeId},e≠24->e≠139->∀g cs,(vN.ownBlock=some g\/g=g6)->¬Blk wr g e cs:=by
  rintro e J M g cs (y | y) j
  ·exact Aw h.nxt j (fun O=>J O.symm) y
  ·exact j.ne_ h.b6 M y
 refine⟨h.below.trans (d.below h.below.size ?_),h.b2.kept d fun x=>l (by decide) (by decide) _ _ x h.b2,h.b4.kept d ?_,G.set_ 0 vN',AK d h.sets (l (by decide) (by decide)),h.setR.imp fun _ _ W=>W.kept d (fun g cs x j _=>l (by decide) (by decide) g cs x j) (fun _ _ x=>x),AK d h.acc (l (by decide) (by decide)),?_,?_,h.ne,h.ge⟩
 ·rintro b Z (e | e)
  ·have:=Bb h.nxt e; omega
  ·have:=h.ge; omega
 ·rintro(e | e)
  ·exact Aw h.nxt h.b4 (by decide) e
  ·exact h.ne e
 ·rw [List.length_append];exact AK E U (fun g cs e j=>by subst e; exact j.ne_ G (by decide) rfl)
 ·rw [List.map_append];refine Cl.snoc (h.nxtR.keep d (fun g cs _ e=>l (by decide) (by decide) g cs e) (fun _ _ _=>trivial) (Nat.le_refl _)) ?_ (fun _ _=>trivial);have:=AK d V (l (by decide) (by decide));have I:(Ak row).length=row.length:=by simp [Ak]
  rw [I];exact this
theorem SbM.addA {b:Bool} {vA':Value} {w1:World} (h:SbM w0 wr g2 g4 g6 cs vN vA vS all t as' us ws N) (G:Ac wr w1 (fun k=>vA.ownBlock=some k)) (V:w1.ownsRow w0.heap.size 4 1 vA' (as'.length+1) (as'.map Value.bool++[.bool b])) (U:BJ wr vA vA'):
  SbM w0 (w1.setCell ⟨g6,1,none⟩ vA') g2 g4 g6 cs vN vA' vS all t (as'++[b]) us ws N:=by
 have J:=h.b6.kept G (Aw h.acc h.b6 (by decide));have I:=(Ac.refl w1 (fun k=>k=g6)).setCell (p:=⟨g6,1,none⟩) (fun _=>rfl) vA';have d:Ac wr (w1.setCell ⟨g6,1,none⟩ vA') (fun k=>vA.ownBlock=some k\/k=g6):=(G.mono fun _ _ e=>.inl e).trans I fun _ _ e=>.inr e;have y:∀{e:TypeId},e≠4->e≠139->∀g cs,(vA.ownBlock=some g\/g=g6)->¬Blk wr g e cs:=by
  rintro e M O g cs (C | C) j
  ·exact Aw h.acc j (fun l=>M l.symm) C
  ·exact j.ne_ h.b6 O C
 refine⟨h.below.trans (d.below h.below.size ?_),h.b2.kept d fun x=>y (by decide) (by decide) _ _ x h.b2,h.b4.kept d ?_,J.set_ 1 vA',AK d h.sets (y (by decide) (by decide)),h.setR.imp fun _ _ W=>W.kept d ?_ ?_,?_,AK d h.nxt (y (by decide) (by decide)),h.nxtR.keep d (fun g cs _ e=>y (by decide) (by decide) g cs e) (fun _ _ x=>x) (Nat.le_refl _),h.ne,h.ge⟩
 ·rintro b hb (e | e)
  ·have:=Bb h.acc e; omega
  ·have:=h.ge; omega
 ·rintro(e | e)
  ·exact Aw h.acc h.b4 (by decide) e
  ·exact h.ne e
 ·rintro g cs (e | e) j E
  ·exact E e
  ·exact j.ne_ h.b6 (by decide) e
 ·intro g hg E e;rcases U with l | ⟨Z,l,a4⟩
  ·exact E (by rw [<-l]; exact e)
  ·rw [e] at l;have:=Option.some.inj l;omega
 ·rw [List.length_append,List.map_append];exact AK I V (fun g cs e j=>by subst e; exact j.ne_ J (by decide) rfl)
theorem SbM.fin {wF:World} (h:SbM w0 wr g2 g4 g6 cs vN vA vS all t as' us ws N) (E:Ac wr wF (fun k=>k=g4\/k<w0.heap.size)):Do wF w0.heap.size (.agg #[vN,vA]) t as':=by
 have G:=h.ge;have l:∀{e:TypeId} {v:Value} {n:Nat} {xs:List Value},e≠139->wr.ownsRow w0.heap.size e 1 v n xs->wF.ownsRow w0.heap.size e 1 v n xs:=fun he j=>E.ownsRow j fun g y e=>by
  rcases e with e | e
  ·exact Aw j h.b4 he (by rw [y,e])
  ·have:=Bb j y; omega
 exact⟨vN,vA,ws,rfl,l (by decide) h.acc,l (by decide) h.nxt,h.nxtR.imp fun v d C=>⟨l (by decide) C.1,fun _ _=>trivial⟩⟩
end
theorem SQ {w0 w:World} {g2 g4 g6 S U:Nat} {cs:Array Value} {vN vA vT:Value} {O:Option Addr} {all:List (List Bool)} {t:List (List Nat)} {as':List Bool} {us ws:List Value} {N:Nat->Prop} {m:List Bool}
  (hM:SbM w0 w g2 g4 g6 cs vN vA (.slice O all.length U) all t as' us ws N) (hT:BX w w.heap.size vT m) (hS:S<=200000) (hl:∀x∈all,x.length=S) (G:m.length=S) (bL:all.length<=200000)
  {u0 u1 u2 u3 u4 u5 u6 u8 u9 ag ai aj ak al am an ao aq ar au av aw ax ay az aA aB aD aE aF aG aH aJ aK aL aM aN aP aQ aR aS aT aU aV bR bS bT bU bV bW bX bY bZ c0 c5 c6 c7 c8 c9 aY aZ u64 b0 b4 b5 b6 b7 b8 b9 ba bd be bf bg bh bi bj bk bl bm bn bo bp bq br bs bt bv bw bx bz bA bB bC bD bE bF ah:Value}
  {Q:Exit->Act->World->Prop}
  (hQ:∀(ca cb cc cd ce cf cg ch ci cj ck cm cn co cp:Value) (w':World) (k:Nat),Below w.heap.size w w'->k<=all.length->(∀p,p<k->all[p]?≠some m)->(∀x,all[k]?=some x->x=m)->
   Q (.exit 4) ⟨List.toArray (u0::u1::u2::u3::u4::u5::u6::(.slice O all.length U)::u8::u9::ag::vT::(.int .i64 k)::ai::aj::ak::al::am::an::ao::aq::ar::au::av::aw::ax::ay::az::aA::aB::aD::aE::aF::aG::
   aH::aJ::aK::aL::aM::aN::aP::aQ::aR::aS::aT::aU::aV::ca::cb::cc::cd::ce::cf::cg::ch::ci::cj::ck::cm::cn::co::cp::aY::aZ::u64::b0::b4::b5::b6::b7::b8::
   b9::ba::bd::be::bf::bg::bh::bi::bj::bk::bl::bm::bn::bo::bp::bq::br::bs::bt::bv::bw::bx::bz::bA::bB::bC::bD::bE::bF::ah::[]),[]⟩ w'):
  (Code.loop (CG Tryz.f125 2)).wp Tryz.prog Q ⟨List.toArray (u0::u1::u2::u3::u4::u5::u6::(.slice O all.length U)::u8::u9::ag::vT::(.int .i64 0)::ai::aj::ak::al::am::an::ao::aq::ar::au::av::aw::ax::ay::az::aA::aB::aD::aE::aF::aG::
   aH::aJ::aK::aL::aM::aN::aP::aQ::aR::aS::aT::aU::aV::bR::bS::bT::bU::bV::bW::bX::bY::bZ::c0::c5::c6::c7::c8::c9::aY::aZ::u64::b0::b4::b5::b6::b7::b8::
   b9::ba::bd::be::bf::bg::bh::bi::bj::bk::bl::bm::bn::bo::bp::bq::br::bs::bt::bv::bw::bx::bz::bA::bB::bC::bD::bE::bF::ah::[]),[]⟩ w:=by
 conv=>arg 2; arg 1; whnf
 have bK:=hide hM;have aa:=hide hT;obtain⟨gT,bM,rfl,bJ⟩:=hT;have bO:=hide hl;have bQ:=hide G;obtain⟨n,I⟩:∃n,n=all.length:=⟨_,rfl⟩;have ad:=hide I;rw [G] at aa ⊢;simp only [G] at hQ;rw [<-I] at bL ⊢;simp only [<-I] at hQ;clear hM hl G I bJ bM;go_loopw [12] (fun kk wr=>∃(k:Nat),kk=.int .i64 (k:Int)/\k<=n/\Below w.heap.size w wr/\Hid (∀p,p<k->all[p]?≠some m)) (fun kk _=>n - (intOf kk).toNat)
 case atStart=>exact⟨0,rfl,Nat.zero_le _,Below.refl _ _,fun p h=>absurd h (by omega)⟩
 case round=>
  obtain⟨k,rfl,hk,d,hE⟩:=hrel;by_cases bP:k<n
  ·obtain⟨x,J⟩:=An (l:=all) (i:=k) (by rw [<-ad.out]; exact bP);obtain⟨gS,c,gm,V,W,Z⟩:=(bK.out.keep d).at J;injection V with V bH bI
   subst V bI;have a5:=bO.out x (List.mem_of_getElem? J);rw [a5] at W Z;have E:=SP Z (aa.out.keep d d.size) a5 bQ.out (by omega);have j:=hide d;have ae:=hide J;clear d J Z bH a5;by_cases e:x=m
   ·rw [decide_eq_true e] at E;have a4:=hide e;clear e;go_wp2_with (go_at_call 176; refine Calls.ret E ?_; rintro r w4 ⟨rfl,C⟩; have a3:=hide (j.out.trans (C.mono j.out.size)); clear C);refine hQ _ _ _ _ _ _ _ _ _ _ _ _ _ _ _ w4 k a3.out hk hE.out (fun y M=>?_);rw [ae.out] at M;exact(Option.some.inj M).symm.trans a4.out
   ·rw [decide_eq_false e] at E;have a4:=hide e;clear e;go_wp2_with (go_at_call 176; refine Calls.ret E ?_; rintro r w4 ⟨rfl,C⟩; have a3:=hide (j.out.trans (C.mono j.out.size)); clear C);refine⟨⟨k+1,by go_num,by omega,a3.out,fun p hp=>?_⟩,by simp [intOf]; omega⟩;by_cases W:p=k
    ·subst W;rw [ae.out];exact fun h=>a4.out (Option.some.inj h)
    ·exact hE.out p (by omega)
  ·obtain rfl:k=n:=by omega
   have j:=hide d;clear d;go_wp2_with fail;refine hQ _ _ _ _ _ _ _ _ _ _ _ _ _ _ _ wr k j.out (Nat.le_refl _) hE.out (fun y M=>?_);have:=AP M;have:=ad.out;omega
end Go.Proofs.YtfcfpoemojjglaaGreatDoor
namespace Go.Proofs.YtfcfpoemojjglaaGreatDoor
open Go.RowKit
set_option maxHeartbeats 16000000
set_option maxRecDepth 100000
theorem KN {S:Type} [DecidableEq S] (δ:S->Nat->S) (s:S) (l:List S):∀k,(AZ δ s l k).length<=l.length+k
 | 0=>Nat.le_refl _
 | k+1=>by
  have d:=KN δ s l k;rw [Cr];unfold Bs;split
  ·omega
  ·rw [List.length_append,List.length_singleton]; omega
def Dl {S:Type} [DecidableEq S] (δ:S->Nat->S) (all:List S) (m:S) (x:Nat):List Nat:=(List.range x).map fun y=>Ax all (δ m y)
theorem Ss {S:Type} [DecidableEq S] (δ:S->Nat->S) (all:List S) (m:S) (x:Nat):(Dl δ all m x).length=x:=by simp [Dl]
theorem St {S:Type} [DecidableEq S] (δ:S->Nat->S) (all:List S) (m:S) (x:Nat):Dl δ (AZ δ m all (x+1)) m (x+1)=Dl δ (AZ δ m all x) m x++[Ax (AZ δ m all (x+1)) (δ m x)]:=by
 unfold Dl;rw [List.range_succ,List.map_append];congr 1;exact List.map_congr_left fun y d=>Kp (List.mem_range.1 d)
theorem ST {w0 w:World} {g2 g4 g6 i cS l1 c1 l2 c2 l3 c3:Nat} {st:Int} {A1 A2 A3 AS:Option Addr} {a:WA} {vN vA:Value} {all:List (List Bool)} {t:List (List Nat)} {as':List Bool} {us ws:List Value} {d:List Bool}
    (hM:SbM w0 w g2 g4 g6 #[.int .i64 (a.L:Int),.int .i64 st,.slice A1 l1 c1,.slice A2 l2 c2,.slice A3 l3 c3] vN vA (.slice AS all.length cS) all t as' us ws (fun _=>True)) (aX:Bj w0 w0.heap.size (.agg #[.int .i64 (a.L:Int),.int .i64 st,.slice A1 l1 c1,.slice A2 l2 c2,.slice A3 l3 c3]) a) (b5:a.In) (hS:0<=a.states/\a.states<=200000) (hL:a.L<=8)
    (hq:all[i]?=some d) (hl:∀x∈all,x.length=a.n) (eq:all.length<=100000)
    {u0 u1 u3 u4 u5 u6 cV cW bm bn bo bp bq br bs bt bu bv bw bx bz bA bB bC bD bF bG bH bI cX cY cZ d0 d1 d2 d3 d4 d5 d6 d7 d8 d9 da db dc de df dg dh di dj dk dl dm dn dp dq dr dt u64 du dv dw dx dy dz dA dB dC bM bN bO bP bQ bR bS bT bU bV bW bX bY bZ c0 c5 c6 c7 c8 c9 ca cb cc cd ce cf bl:Value}
    {Q:Exit->Act->World->Prop} (hN:Reg.NoQ Q)
    (hQ:∀(dF dG dH dI dJ dK dL dM dN dO dP dQ dR dS dT dU dV dW dX dY dZ e0 e4 e5 e6 e7 e8 e9 ea eb ec ed ee ef eg eh ei ej ek el em en eo:Value) (w':World) (vS' vR:Value) (all':List (List Bool)) (U:List Value),SbM w0 w' g2 g4 g6 #[.int .i64 (a.L:Int),.int .i64 st,.slice A1 l1 c1,.slice A2 l2 c2,.slice A3 l3 c3] vN vA vS' all' t as' U ws (fun g=>vR.ownBlock≠some g)->w'.ownsRow w0.heap.size 3 1 vR a.L ((Ak (Dl a.nf.after all' d a.L)).map (Value.int .i64))->all'=AZ a.nf.after d all a.L->(∀x∈all',x.length=a.n)->
      Q (.exit 2) ⟨List.toArray (u0::u1::(.pointer (some ⟨g2,0,none⟩))::u3::u4::u5::u6::vS'::(.int .i64 i)::vR::dF::dG::dH::bm::bn::bo::bp::bq::br::bs::bt::bu::bv::bw::bx::bz::bA::bB::bC::bD::bF::bG::bH::
      bI::dI::dJ::dK::dL::dM::dN::dO::dP::dQ::dR::dS::dT::dU::dV::dW::dX::dY::dZ::e0::e4::e5::e6::e7::e8::e9::ea::eb::ec::ed::ee::ef::eg::eh::ei::ej::ek::
      el::em::en::eo::bM::bN::bO::bP::bQ::bR::bS::bT::bU::bV::bW::bX::bY::bZ::c0::c5::c6::c7::c8::c9::ca::cb::cc::cd::ce::cf::bl::[]),[]⟩ w'):
    (Code.loop (CG Tryz.f125 1)).wp Tryz.prog Q ⟨List.toArray (u0::u1::(.pointer (some ⟨g2,0,none⟩))::u3::u4::u5::u6::(.slice AS all.length cS)::(.int .i64 i)::(.slice none 0 0)::(.int .i64 0)::cV::cW::bm::bn::bo::bp::bq::br::bs::bt::bu::bv::bw::bx::bz::
      bA::bB::bC::bD::bF::bG::bH::bI::cX::cY::cZ::d0::d1::d2::d3::d4::d5::d6::d7::d8::d9::da::db::dc::de::df::dg::dh::di::dj::dk::dl::dm::dn::dp::dq::dr::
      dt::u64::du::dv::dw::dx::dy::dz::dA::dB::dC::bM::bN::bO::bP::bQ::bR::bS::bT::bU::bV::bW::bX::bY::bZ::c0::c5::c6::c7::c8::c9::ca::cb::cc::cd::ce::cf::
      bl::[]),[]⟩ w:=by
  conv=>arg 2; arg 1; whnf
  have aT:=hide (hM.weak (N':=fun g=>(Value.slice none 0 0).ownBlock≠some g) (fun g _ _=>by simp [Value.ownBlock]));have aY:=hide aX;have cA:=hide b5;have cK:=hide hq;have cE:=hide hl;have ct:=hide hS;have ba:a.n<=200000:=by unfold WA.n; omega
  obtain⟨L,Z⟩:∃L,L=a.L:=⟨_,rfl⟩;have au:=hide Z;rw [<-Z] at hL;have aU:=aT;have aZ:=aY;rw [<-Z] at aU aZ;simp only [<-Z] at hQ;clear hM aX b5 hq hl hS aT aY Z;go_loopw [7,9,10] (fun vv rr xx wr=>∃(x:Nat) (all':List (List Bool)) (U:List Value),xx=.int .i64 (x:Int)/\x<=L/\Hid (SbM w0 wr g2 g4 g6 #[.int .i64 (L:Int),.int .i64 st,.slice A1 l1 c1,.slice A2 l2 c2,.slice A3 l3 c3] vN vA vv all' t as' U ws (fun g=>rr.ownBlock≠some g))/\Hid (wr.ownsRow w0.heap.size 3 1 rr x ((Ak (Dl a.nf.after all' d x)).map (Value.int .i64)))/\Hid (all'=AZ a.nf.after d all x)/\Hid (∀z∈all',z.length=a.n)) (fun _ _ xx _=>L - (intOf xx).toNat)
  case atStart=>exact⟨0,all,us,rfl,Nat.zero_le _,aU,hide Cb,hide rfl,cE⟩
  case round=>
    obtain⟨x,all',U,rfl,hx,E,hR,J,hz⟩:=hrel;obtain⟨ep,ch,rfl⟩:=AH E.out.sets;obtain⟨AR,cR,rfl⟩:=AH hR.out;have cu:=E.out.b2.cell;by_cases cT:x<L
    · have ah:all'[i]?=some d:=by rw [J.out]; exact Ds (DK _ _ _) cK.out
      have cz:=AP ah;have cF:all'.length<=100008:=by
        rw [J.out];have:=KN a.nf.after d all x;omega
      have aR:=hide (E.out.keep (Ap wr));obtain⟨gS,c,gm,e1,e2,e3⟩:=E.out.at ah;injection e1 with e1 cj ck
      subst e1 ck;have ag:=hz.out d (List.mem_of_getElem? ah);have b8:BX wr.drew wr.drew.heap.size (.slice (some ⟨gm,0,none⟩) d.length d.length) d:=e3.keep (Ap wr) (Nat.le_refl _);have ap:=E.out.below.trans ((Ap wr).mono E.out.below.size);have af:=L8 (x:=x) (aZ.out.keep (w':=wr.drew) (fun p hp=>ap.cell hp) ap.size) cA.out ct.out b8 ag (by rw [<-au.out]; exact cT);obtain⟨O,aA⟩:∃O,O=all'.length:=⟨_,rfl⟩;rw [ag] at af e2;rw [<-aA] at cF cz ⊢;have C:=hide aA;obtain⟨I,aF⟩:∃I,I=a.n:=⟨_,rfl⟩;have aG:=hide aF;rw [<-aF] at af e2 ba;have eu:=hide ag;clear ah e3 b8 ap aA cj aF ag;go_wp2_with fail;refine Reg.cP [0,0,0,6,14,0,63,127] ?_ (by kernel_rfl) (by repeat (first | exact hN | refine Reg.NoQ.then ?_ | refine Reg.NoQ.inBlock ?_));go_wp2_with fail;refine Calls.ret af ?_;rintro vT w3 ⟨aw,a2,b4⟩;obtain⟨gT,cx,rfl,ab⟩:=a2;have ax:(a.nf.after d x).length=I:=by rw [NF.after_len,a.nf_n,aG.out]
      have cy:=b4 gT rfl;have aq:=hide (aR.out.keep aw);have aV:=hide (Bt hR.out ((Ap wr).trans aw));have cO:wr.heap.size<=gT:=cy;have aD:Hid (Eb w3 w0.heap.size vA (.slice (some ⟨gT,0,none⟩) (a.nf.after d x).length (a.nf.after d x).length) (a.nf.after d x)):=⟨gT,rfl,Nat.le_trans E.out.below.size cO,ab,fun e=>by have:=Cj E.out.acc e; omega⟩;have a2:=hide (show BX w3 w3.heap.size (.slice (some ⟨gT,0,none⟩) (a.nf.after d x).length (a.nf.after d x).length) (a.nf.after d x) from⟨gT,ab.lt,rfl,ab⟩);rw [ax] at a2 aD ⊢;have b0:=hide ax;clear af aw b4 cx ab aR cu e2 ax;go_wp2_with fail;rw [C.out];refine SQ (S:=I) (m:=a.nf.after d x) aq.out a2.out ba (fun z M=>by rw [aG.out]; exact hz.out z M) b0.out (by rw [<-C.out]; omega) ?_;iterate 15 (intro _)
      intro w4 k ae b6 bd bj;have W:=hide (aq.out.keep ae);have aW:=hide (Bt aV.out ae);have cM:Hid (Eb w4 w0.heap.size vA (.slice (some ⟨gT,0,none⟩) I I) (a.nf.after d x)):=aD.out.kept (Ac.of_below ae (fun _=>False)) (fun _ _ x=>x.elim) (fun _ _ x=>x);have be:=hide bd;have cU:=hide bj;have et:k<=O:=by rw [C.out]; exact b6
      have bi:=hide (St a.nf.after all d x);clear bd bj b6 ae aq aV aD a2;by_cases cD:k<O
      · obtain⟨s,hs⟩:=An (l:=all') (i:=k) (by rw [<-C.out]; exact cD)
        have cL:=cU.out s hs;subst cL;have b9:=List.mem_of_getElem? hs;have a6:Ax all' (a.nf.after d x)=k:=HV hs fun j hj=>be.out j hj;have ev:((k:Int)==(O:Int))=false:=by simp; omega
        have a7:Hid (all'=AZ a.nf.after d all (x+1)):=by
          show _=_
          rw [Cr,<-J.out];unfold Bs;rw [if_pos b9]
        have aC:Hid (Dl a.nf.after all' d (x+1)=Dl a.nf.after all' d x++[k]):=by
          show _=_
          have V:=bi.out;rw [<-a7.out,<-J.out,a6] at V;exact V
        have ai:=aW.out;have aH:=W.out.below.size;have aJ:x+1<=4000000:=by omega
        rw [<-C.out];clear hs a6 b9
        go_wp2_with (
          at_builtin;refine BP (w:=w4) C9 rfl _ _ rfl w0.heap.size (.slice AR x cR) x _ rfl ai [.int .i64 (k:Int)] 1 rfl rfl (by simp [Value.oneCell']) aJ aH ?_;intro g' al w7 a5 a3 a4 cw;have ar:=hide (((W.out.weak (N':=fun g=>(Value.slice AR x cR).ownBlock≠some g/\g<w4.heap.size) (fun g y h=>⟨h,y⟩)).row ai (fun g y=>y.1) a3).weak (N':=fun g=>(Value.slice (some ⟨g',0,none⟩) (x+1) al).ownBlock≠some g) (fun g _ y e=>by
            rcases a4 with G | ⟨cm,G,cG⟩
            · exact y.1 (by rw [<-G]; exact e)
            · rw [e] at G
              have:=Option.some.inj G;have:=y.2;omega))
          have av:=hide a5;clear a5 a3 a4)
        refine⟨⟨x+1,all',U,by go_num,by omega,?_,?_,a7,hz⟩,by simp [intOf]; omega⟩
        · have:=ar.out
          rw [<-C.out] at this;exact this
        · rw [aC.out,EM,List.map_append]
          exact av.out
      · obtain rfl:k=O:=by omega
        have aB:a.nf.after d x∉all':=Rk fun j hj=>be.out j (by rw [C.out]; exact hj);have er:((k:Int)==(k:Int))=true:=by simp
        have a7:Hid (all'++[a.nf.after d x]=AZ a.nf.after d all (x+1)):=by
          show _=_
          rw [Cr,<-J.out];unfold Bs;rw [if_neg aB]
        have a6:Ax (all'++[a.nf.after d x]) (a.nf.after d x)=k:=by
          rw [ES aB,C.out]
        have aC:Hid (Dl a.nf.after (all'++[a.nf.after d x]) d (x+1)=Dl a.nf.after all' d x++[k]):=by
          show _=_
          have V:=bi.out;rw [<-a7.out,<-J.out,a6] at V;exact V
        have aE:=W.out.sets;rw [<-C.out] at aE;have ai:=aW.out;have aH:=W.out.below.size;have aJ:x+1<=4000000:=by omega
        have cB:k+1<=4000000:=by omega
        rw [<-C.out];clear aB a6
        go_wp2_with (
          at_builtin;first
          | (refine BP (w:=w4) Sm rfl _ _ rfl w0.heap.size (.slice (some ⟨gS,0,none⟩) k ch) k _ rfl aE [.slice (some ⟨gT,0,none⟩) I I] 1 rfl rfl (by simp [Value.oneCell']) cB aH ?_
             intro g5 ci w5 bf az cH cv;have aQ:=hide (W.out.addS (vS':=.slice (some ⟨g5,0,none⟩) (k+1) ci) cM.out (by rw [<-C.out]; exact az) (by rw [<-C.out]; exact bf));have bh:=AK az ai (fun g cs e hB=>Aw aE hB (by decide) e);have cQ:=aQ.out.below.size;clear bf az cH cv)
          | (refine BP (w:=w5) C9 rfl _ _ rfl w0.heap.size (.slice AR x cR) x _ rfl bh [.int .i64 (k:Int)] 1 rfl rfl (by simp [Value.oneCell']) aJ cQ ?_
             intro g' al w7 a5 a3 a4 cw;have ar:=hide (((aQ.out.weak (N':=fun g=>(Value.slice AR x cR).ownBlock≠some g/\g<w5.heap.size) (fun g y h=>⟨h,y⟩)).row bh (fun g y=>y.1) a3).weak (N':=fun g=>(Value.slice (some ⟨g',0,none⟩) (x+1) al).ownBlock≠some g) (fun g _ y e=>by
               rcases a4 with G | ⟨cm,G,cG⟩
               · exact y.1 (by rw [<-G]; exact e)
               · rw [e] at G
                 have:=Option.some.inj G;have:=y.2;omega))
             have av:=hide a5;clear a5 a3 a4))
        refine⟨⟨x+1,all'++[a.nf.after d x],_,by go_num,by omega,ar,?_,a7,hide fun z M=>?_⟩,by simp [intOf]; omega⟩
        · show World.ownsRow _ _ _ _ _ _ _
          rw [aC.out,EM,List.map_append];exact av.out
        · rcases List.mem_append.1 M with M | M
          · exact hz.out z M
          · rw [List.mem_singleton.1 M,b0.out,aG.out]
    · obtain rfl:x=L:=by omega
      have cr:=hR.out;rw [au.out] at cr;have co:=E.out;go_wp2_with fail;refine hQ _ _ _ _ _ _ _ _ _ _ _ _ _ _ _ _ _ _ _ _ _ _ _ _ _ _ _ _ _ _ _ _ _ _ _ _ _ _ _ _ _ _ _ wr _ _ all' U co hR.out (by rw [J.out,au.out]) hz.out
end Go.Proofs.YtfcfpoemojjglaaGreatDoor
