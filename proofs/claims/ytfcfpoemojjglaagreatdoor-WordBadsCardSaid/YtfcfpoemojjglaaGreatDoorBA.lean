/-
  Part BA of a proof.
-/
import Derived.Test.YtfcfpoemojjglaaGreatDoorPA
import Derived.Test.YtfcfpoemojjglaaGreatDoorEA
import Derived.Test.YtfcfpoemojjglaaGreatDoorEE
import Derived.Test.YtfcfpoemojjglaaGreatDoorEC
import Derived.Test.YtfcfpoemojjglaaGreatDoorPB
import Derived.Test.YtfcfpoemojjglaaGreatDoorPJ
set_option maxHeartbeats 16000000
set_option maxRecDepth 100000
set_option linter.unusedVariables false
set_option linter.unusedSimpArgs false
namespace Go.Proofs.YtfcfpoemojjglaaGreatDoor
open Go.RowKit
set_option maxHeartbeats 16000000
set_option maxRecDepth 100000
def aAZ (all:List (Nat×Nat)):List Nat:=all.map (·.1)
def aA3 (all:List (Nat×Nat)):List Nat:=all.map (·.2)
structure JnM (w0 wr:World) (g9:Nat) (vN vA vF vG:Value) (all:List (Nat×Nat)) (t:List (List Nat)) (as':List Bool) (ws:List Value) (N:Nat->Prop):Prop where
 below:Below w0.heap.size w0 wr
 b9:Blk wr g9 139 #[vN,vA]
 f:wr.ownsRow w0.heap.size 3 1 vF all.length ((Ak (aAZ all)).map (Value.int .i64))
 g:wr.ownsRow w0.heap.size 3 1 vG all.length ((Ak (aA3 all)).map (Value.int .i64))
 acc:wr.ownsRow w0.heap.size 4 1 vA as'.length (as'.map Value.bool)
 nxt:wr.ownsRow w0.heap.size 24 1 vN t.length ws
 nxtR:Cl wr w0.heap.size N ws (t.map Ak)
 sep:∀k,vF.ownBlock=some k->vG.ownBlock≠some k
 nF:∀k,N k->vF.ownBlock≠some k
 nG:∀k,N k->vG.ownBlock≠some k
 ge:w0.heap.size<=g9
section
variable {w0 wr w' w1:World} {g9:Nat} {vN vA vF vG:Value} {all:List (Nat×Nat)} {t:List (List Nat)} {as':List Bool} {ws:List Value} {N:Nat->Prop}
theorem JnM.keep (h:JnM w0 wr g9 vN vA vF vG all t as' ws N) (d:Below wr.heap.size wr w'):JnM w0 w' g9 vN vA vF vG all t as' ws N:=
 ⟨h.below.trans (d.mono h.below.size),h.b9.below d,Bt h.f d,Bt h.g d,Bt h.acc d,Bt h.nxt d,
  h.nxtR.keep (Ac.of_below d (fun _=>False)) (fun _ _ _ e=>e.elim) (fun _ _ x=>x) (Nat.le_refl _),h.sep,h.nF,h.nG,h.ge⟩
theorem JnM.row {v:Value} {n:Nat} {xs:List Value} (h:JnM w0 wr g9 vN vA vF vG all t as' ws N) (y:wr.ownsRow w0.heap.size 3 1 v n xs) (M:∀g,N g->v.ownBlock≠some g) (I:∀k,vF.ownBlock=some k->v.ownBlock≠some k) (J:∀k,vG.ownBlock=some k->v.ownBlock≠some k) (d:Ac wr w' (fun k=>v.ownBlock=some k)):JnM w0 w' g9 vN vA vF vG all t as' ws N:=by
 have l:∀{e:TypeId},e≠3->∀g cs,v.ownBlock=some g->¬Blk wr g e cs:=fun E g cs C G=>Aw y G (fun O=>E O.symm) C
 exact⟨h.below.trans (d.below h.below.size fun b V e=>by have:=Bb y e; omega),h.b9.kept d fun x=>l (by decide) _ _ x h.b9,d.ownsRow h.f fun k j e=>I k j e,d.ownsRow h.g fun k j e=>J k j e,
  AK d h.acc (l (by decide)),AK d h.nxt (l (by decide)),h.nxtR.keep d (fun g cs U x _=>M g U x) (fun _ _ x=>x) (Nat.le_refl _),h.sep,h.nF,h.nG,h.ge⟩
theorem JnM.add {p:Nat×Nat} {w2:World} {vF' vG':Value} (h:JnM w0 wr g9 vN vA vF vG all t as' ws N) (V:∀k,N k->k<wr.heap.size) (W:Ac wr w1 (fun k=>vF.ownBlock=some k)) (a4:w1.ownsRow w0.heap.size 3 1 vF' (all.length+1) ((Ak (aAZ all)).map (Value.int .i64)++[.int .i64 (p.1:Int)])) (a2:BJ wr vF vF')
  (Z:Ac w1 w2 (fun k=>vG.ownBlock=some k)) (a5:w2.ownsRow w0.heap.size 3 1 vG' (all.length+1) ((Ak (aA3 all)).map (Value.int .i64)++[.int .i64 (p.2:Int)])) (a3:BJ w1 vG vG'):JnM w0 w2 g9 vN vA vF' vG' (all++[p]) t as' ws N:=by
 have y:Ac wr w2 (fun k=>vF.ownBlock=some k\/vG.ownBlock=some k):=(W.mono fun _ _ e=>.inl e).trans Z fun _ _ e=>.inr e;have J:∀{e:TypeId},e≠3->∀g cs,(vF.ownBlock=some g\/vG.ownBlock=some g)->¬Blk wr g e cs:=by
  rintro e M g cs (E | E) hB
  ·exact Aw h.f hB (fun d=>M d.symm) E
  ·exact Aw h.g hB (fun d=>M d.symm) E
 have a8:=W.size;have a6:∀k,vG.ownBlock=some k->k<wr.heap.size:=fun k j=>Cj h.g j;have U:∀k,vF'.ownBlock=some k->vG.ownBlock≠some k:=fun k j C=>by
  rcases a2 with d | ⟨G,d,I⟩
  ·exact h.sep k (by rw [<-d]; exact j) C
  ·rw [j] at d;have:=Option.some.inj d;have:=a6 k C;omega
 have O:w2.ownsRow w0.heap.size 3 1 vF' (all.length+1) ((Ak (aAZ all)).map (Value.int .i64)++[.int .i64 (p.1:Int)]):=Z.ownsRow a4 fun k j e=>U k j e;refine⟨h.below.trans (y.below h.below.size ?_),h.b9.kept y fun x=>J (by decide) _ _ x h.b9,?_,?_,AK y h.acc (J (by decide)),AK y h.nxt (J (by decide)),h.nxtR.keep y ?_ (fun _ _ x=>x) (Nat.le_refl _),?_,?_,?_,h.ge⟩
 ·rintro b hb (e | e)
  ·have:=Bb h.f e; omega
  ·have:=Bb h.g e; omega
 ·rw [List.length_append];unfold aAZ at O ⊢;rw [List.map_append,Ak,List.map_append,List.map_append];exact O
 ·rw [List.length_append];unfold aA3 at a5 ⊢;rw [List.map_append,Ak,List.map_append,List.map_append];exact a5
 ·rintro g cs l (e | e) _
  ·exact h.nF g l e
  ·exact h.nG g l e
 ·intro k j C;rcases a3 with d | ⟨G,d,I⟩
  ·exact U k j (by rw [<-d]; exact C)
  ·rw [C] at d;have:=Option.some.inj d;have:=Cj a4 j;omega
 ·intro k l j;rcases a2 with d | ⟨G,d,I⟩
  ·exact h.nF k l (by rw [<-d]; exact j)
  ·rw [j] at d;have:=Option.some.inj d;have:=V k l;omega
 ·intro k l j;rcases a3 with d | ⟨G,d,I⟩
  ·exact h.nG k l (by rw [<-d]; exact j)
  ·rw [j] at d;have:=Option.some.inj d;have:=V k l;omega
theorem JnM.addR {row:List Nat} {v vN':Value} {N':Nat->Prop} (h:JnM w0 wr g9 vN vA vF vG all t as' ws N) (hr:wr.ownsRow w0.heap.size 3 1 v row.length ((Ak row).map (Value.int .i64)))
  (C:Ac wr w1 (fun k=>vN.ownBlock=some k)) (Z:w1.ownsRow w0.heap.size 24 1 vN' (t.length+1) (ws++[v])) (V:∀g,N g->N' g) (hv:∀g,v.ownBlock=some g->N' g) (O:∀k,N' k->vF.ownBlock≠some k) (U:∀k,N' k->vG.ownBlock≠some k):
  JnM w0 (w1.setCell ⟨g9,0,none⟩ vN') g9 vN' vA vF vG all (t++[row]) as' (ws++[v]) N':=by
 have G:=h.b9.kept C (Aw h.nxt h.b9 (by decide));have E:=(Ac.refl w1 (fun k=>k=g9)).setCell (p:=⟨g9,0,none⟩) (fun _=>rfl) vN';have d:Ac wr (w1.setCell ⟨g9,0,none⟩ vN') (fun k=>vN.ownBlock=some k\/k=g9):=(C.mono fun _ _ e=>.inl e).trans E fun _ _ e=>.inr e;have j:∀{e:TypeId},e≠24->e≠139->∀g cs,(vN.ownBlock=some g\/g=g9)->¬Blk wr g e cs:=by
  rintro e J M g cs (y | y) l
  ·exact Aw h.nxt l (fun W=>J W.symm) y
  ·exact l.ne_ h.b9 M y
 refine⟨h.below.trans (d.below h.below.size ?_),G.set_ 0 vN',AK d h.f (j (by decide) (by decide)),AK d h.g (j (by decide) (by decide)),AK d h.acc (j (by decide) (by decide)),?_,?_,h.sep,O,U,h.ge⟩
 ·rintro b hb (e | e)
  ·have:=Bb h.nxt e; omega
  ·have:=h.ge; omega
 ·rw [List.length_append];exact AK E Z (fun g cs e l=>by subst e; exact l.ne_ G (by decide) rfl)
 ·rw [List.map_append];refine Cl.snoc (h.nxtR.keep d (fun g cs _ e=>j (by decide) (by decide) g cs e) (fun g _ x=>V g x) (Nat.le_refl _)) ?_ hv;have:=AK d hr (j (by decide) (by decide));have I:(Ak row).length=row.length:=by simp [Ak]
  rw [I];exact this
theorem JnM.addA {b:Bool} {vA':Value} (h:JnM w0 wr g9 vN vA vF vG all t as' ws N) (C:Ac wr w1 (fun k=>vA.ownBlock=some k)) (O:w1.ownsRow w0.heap.size 4 1 vA' (as'.length+1) (as'.map Value.bool++[.bool b])):
  JnM w0 (w1.setCell ⟨g9,1,none⟩ vA') g9 vN vA' vF vG all t (as'++[b]) ws N:=by
 have G:=h.b9.kept C (Aw h.acc h.b9 (by decide));have E:=(Ac.refl w1 (fun k=>k=g9)).setCell (p:=⟨g9,1,none⟩) (fun _=>rfl) vA';have d:Ac wr (w1.setCell ⟨g9,1,none⟩ vA') (fun k=>vA.ownBlock=some k\/k=g9):=(C.mono fun _ _ e=>.inl e).trans E fun _ _ e=>.inr e;have l:∀{e:TypeId},e≠4->e≠139->∀g cs,(vA.ownBlock=some g\/g=g9)->¬Blk wr g e cs:=by
  rintro e I J g cs (y | y) j
  ·exact Aw h.acc j (fun M=>I M.symm) y
  ·exact j.ne_ h.b9 J y
 refine⟨h.below.trans (d.below h.below.size ?_),G.set_ 1 vA',AK d h.f (l (by decide) (by decide)),AK d h.g (l (by decide) (by decide)),?_,AK d h.nxt (l (by decide) (by decide)),h.nxtR.keep d (fun g cs _ e=>l (by decide) (by decide) g cs e) (fun _ _ x=>x) (Nat.le_refl _),h.sep,h.nF,h.nG,h.ge⟩
 ·rintro b U (e | e)
  ·have:=Bb h.acc e; omega
  ·have:=h.ge; omega
 ·rw [List.length_append,List.map_append];exact AK E O (fun g cs e j=>by subst e; exact j.ne_ G (by decide) rfl)
theorem JnM.at (h:JnM w0 wr g9 vN vA vF vG all t as' ws N) {k:Nat} {p:Nat×Nat} (C:all[k]?=some p):∃d l j y,vF=.slice (some ⟨d,0,none⟩) all.length l/\vG=.slice (some ⟨j,0,none⟩) all.length y/\wr.cell? ⟨d,k,none⟩=some (.int .i64 (p.1:Int))/\wr.cell? ⟨j,k,none⟩=some (.int .i64 (p.2:Int)):=by
 obtain⟨d,l,E,G⟩:=C7 h.f (AX (f:=Value.int .i64) (AX (f:=fun x:Nat=>(x:Int)) (AX (f:=Prod.fst) C)));obtain⟨j,y,I,J⟩:=C7 h.g (AX (f:=Value.int .i64) (AX (f:=fun x:Nat=>(x:Int)) (AX (f:=Prod.snd) C)));exact⟨d,l,j,y,E,I,G,J⟩
end
end Go.Proofs.YtfcfpoemojjglaaGreatDoor
namespace Go.Proofs.YtfcfpoemojjglaaGreatDoor
open Go.RowKit
set_option maxHeartbeats 16000000
set_option maxRecDepth 100000
theorem aB2 {w0 w:World} {g9 n I J u v:Nat} {vN vA:Value} {E G:Option Addr} {all:List (Nat×Nat)} {t:List (List Nat)} {as':List Bool} {ws:List Value} {N:Nat->Prop}
  (hM:JnM w0 w g9 vN vA (.slice E n I) (.slice G n J) all t as' ws N) (hn:n=all.length) (d4:n<=1000000)
  {u0 u1 u2 u3 u4 u5 u6 u7 u8 u9 aw aH aJ aK aL aN aO aP aQ aR aS aT aU aV aW aY aZ b0 b4 b5 b6 b7 b8 b9 ba be bf bg bh bi bj bk bl bm bn bp bq br bs bt bu bv bw bx bz bB bC cb cc u64 cd ce cf cg ch ci cj ck cm cn co cp cq cr ct cu cv cw cx bE bF bG bH bI bJ bL bM bN bO bP bQ bR bS bT bU a9 aa ab ad ae af ag ah ai aj ak al am an ao ap aq ar au av ax ay az aA aB aC aD aE aF aG:Value}
  {Q:Exit->Act->World->Prop}
  (hQ:∀(cy cz cA cB cD cE cH cJ cK cL cM cO cQ cR cS cT cU cV cW cX cY cZ:Value) (k:Nat),k<=n->(∀p,p<k->all[p]?≠some (u,v))->(∀y,all[k]?=some y->y=(u,v))->
   Q (.exit 4) ⟨List.toArray (u0::u1::u2::u3::u4::u5::u6::u7::u8::u9::(.slice E n I)::(.slice G n J)::aw::aH::aJ::(.int .i64 (u:Int))::(.int .i64 (v:Int))::(.int .i64 k)::aK::aL::aN::aO::aP::aQ::aR::aS::aT::aU::
   aV::aW::aY::aZ::b0::b4::b5::b6::b7::b8::b9::ba::be::bf::bg::bh::bi::bj::bk::bl::bm::bn::bp::bq::br::bs::bt::bu::bv::bw::bx::bz::bB::bC::cy::cz::cA::
   cB::cD::cE::cH::cJ::cK::cL::cM::cO::cQ::cR::cS::cT::cU::cV::cW::cX::cY::cZ::bE::bF::bG::bH::bI::bJ::bL::bM::bN::bO::bP::bQ::bR::bS::bT::bU::a9::aa::
   ab::ad::ae::af::ag::ah::ai::aj::ak::al::am::an::ao::ap::aq::ar::au::av::ax::ay::az::aA::aB::aC::aD::aE::aF::aG::[]),[]⟩ w):
  (Code.loop (CG Tryz.f83 2)).wp Tryz.prog Q ⟨List.toArray (u0::u1::u2::u3::u4::u5::u6::u7::u8::u9::(.slice E n I)::(.slice G n J)::aw::aH::aJ::(.int .i64 (u:Int))::(.int .i64 (v:Int))::(.int .i64 0)::aK::aL::aN::aO::aP::aQ::aR::aS::aT::aU::
   aV::aW::aY::aZ::b0::b4::b5::b6::b7::b8::b9::ba::be::bf::bg::bh::bi::bj::bk::bl::bm::bn::bp::bq::br::bs::bt::bu::bv::bw::bx::bz::bB::bC::cb::cc::u64::
   cd::ce::cf::cg::ch::ci::cj::ck::cm::cn::co::cp::cq::cr::ct::cu::cv::cw::cx::bE::bF::bG::bH::bI::bJ::bL::bM::bN::bO::bP::bQ::bR::bS::bT::bU::a9::aa::
   ab::ad::ae::af::ag::ah::ai::aj::ak::al::am::an::ao::ap::aq::ar::au::av::ax::ay::az::aA::aB::aC::aD::aE::aF::aG::[]),[]⟩ w:=by
 conv=>arg 2; arg 1; whnf
 have c6:=hide hM;have a6:=hide hn;clear hM hn;go_loopw [17] (fun kk wr=>∃(k:Nat),kk=.int .i64 (k:Int)/\k<=n/\wr=w/\Hid (∀p,p<k->all[p]?≠some (u,v))) (fun kk _=>n - (intOf kk).toNat)
 case atStart=>exact⟨0,rfl,Nat.zero_le _,rfl,fun p h=>absurd h (by omega)⟩
 case round=>
  obtain⟨k,rfl,hk,rfl,U⟩:=hrel;by_cases c9:k<n
  ·obtain⟨⟨a,b⟩,Z⟩:=An (l:=all) (i:=k) (by rw [<-a6.out]; exact c9);obtain⟨gF,d0,gG,d1,M,O,e3,e4⟩:=c6.out.at Z;injection M with M bV bW
   injection O with O bX bY
   subst M O bW bY;dsimp only at e3 e4;have a7:=hide Z;clear Z bV bX;have d:(a,b)≠(u,v)->Hid (∀p,p<k+1->all[p]?≠some (u,v)):=fun ca p hp=>by
    by_cases e:p=k
    ·subst e;rw [a7.out];exact fun h=>ca (Option.some.inj h)
    ·exact U.out p (by omega)
   by_cases j:a=u
   ·by_cases V:b=v
    ·have c7:=hide (show ∀y,all[k]?=some y->y=(u,v) from fun y C=>by
      rw [a7.out] at C;rw [<-Option.some.inj C,j,V])
     subst j V;have h1:((a:Int)==(a:Int))=true:=by simp
     have h2:((b:Int)==(b:Int))=true:=by simp
     clear d;go_wp2_with fail;refine hQ _ _ _ _ _ _ _ _ _ _ _ _ _ _ _ _ _ _ _ _ _ _ k hk U.out c7.out
    ·have W:=d (fun e=>V (congrArg Prod.snd e));have h2:((b:Int)==(v:Int))=false:=by simp; omega
     subst j;have h1:((a:Int)==(a:Int))=true:=by simp
     clear d;go_wp2_with fail;exact⟨⟨k+1,by go_num,by omega,(by first | rfl | trivial),W⟩,by simp [intOf]; omega⟩
   ·have W:=d (fun e=>j (congrArg Prod.fst e));have h1:((a:Int)==(u:Int))=false:=by simp; omega
    clear d;go_wp2_with fail;exact⟨⟨k+1,by go_num,by omega,(by first | rfl | trivial),W⟩,by simp [intOf]; omega⟩
  ·obtain rfl:k=n:=by omega
   go_wp2_with fail;refine hQ _ _ _ _ _ _ _ _ _ _ _ _ _ _ _ _ _ _ _ _ _ _ k (Nat.le_refl _) U.out (fun y C=>?_);have:=AP C;have:=a6.out;omega
end Go.Proofs.YtfcfpoemojjglaaGreatDoor
namespace Go.Proofs.YtfcfpoemojjglaaGreatDoor
open Go.RowKit
set_option maxHeartbeats 16000000
set_option maxRecDepth 100000
structure JnX (w0 wr:World) (g9:Nat) (vN vA vF vG:Value) (all:List (Nat×Nat)) (t:List (List Nat)) (as':List Bool) (ws:List Value) (N:Nat->Prop) (rr:Value):Prop where
 mem:JnM w0 wr g9 vN vA vF vG all t as' ws N
 nl:∀k,N k->k<wr.heap.size
 nr:∀k,N k->rr.ownBlock≠some k
 fr:∀k,vF.ownBlock=some k->rr.ownBlock≠some k
 gr:∀k,vG.ownBlock=some k->rr.ownBlock≠some k
section
variable {w0 wr w' w1 w2:World} {g9 n:Nat} {vN vA vF vG vF' vG' rr rr':Value} {all:List (Nat×Nat)} {t:List (List Nat)} {as':List Bool} {ws xs:List Value} {N:Nat->Prop} {p:Nat×Nat}
theorem JnX.keep (h:JnX w0 wr g9 vN vA vF vG all t as' ws N rr) (d:Below wr.heap.size wr w'):JnX w0 w' g9 vN vA vF vG all t as' ws N rr:=
 ⟨h.mem.keep d,fun k j=>Nat.lt_of_lt_of_le (h.nl k j) d.size,h.nr,h.fr,h.gr⟩
theorem JnX.add (h:JnX w0 wr g9 vN vA vF vG all t as' ws N rr) (C:wr.ownsRow w0.heap.size 3 1 rr n xs) (l:Ac wr w1 (fun k=>vF.ownBlock=some k)) (M:w1.ownsRow w0.heap.size 3 1 vF' (all.length+1) ((Ak (aAZ all)).map (Value.int .i64)++[.int .i64 (p.1:Int)])) (E:BJ wr vF vF')
  (y:Ac w1 w2 (fun k=>vG.ownBlock=some k)) (O:w2.ownsRow w0.heap.size 3 1 vG' (all.length+1) ((Ak (aA3 all)).map (Value.int .i64)++[.int .i64 (p.2:Int)])) (G:BJ w1 vG vG'):JnX w0 w2 g9 vN vA vF' vG' (all++[p]) t as' ws N rr/\w2.ownsRow w0.heap.size 3 1 rr n xs:=by
 have U:=l.size;have V:=y.size;refine⟨⟨h.mem.add h.nl l M E y O G,fun k d=>?_,h.nr,fun k d e=>?_,fun k d e=>?_⟩,y.ownsRow (l.ownsRow C fun k d e=>h.fr k e d) fun k d e=>h.gr k e d⟩
 ·have:=h.nl k d;omega
 ·rcases E with j | ⟨I,j,J⟩
  ·exact h.fr k (by rw [<-j]; exact d) e
  ·rw [d] at j;have:=Option.some.inj j;have:=Cj C e;omega
 ·rcases G with j | ⟨I,j,J⟩
  ·exact h.gr k (by rw [<-j]; exact d) e
  ·rw [d] at j;have:=Option.some.inj j;have:=Cj C e;omega
theorem JnX.app (h:JnX w0 wr g9 vN vA vF vG all t as' ws N rr) (G:wr.ownsRow w0.heap.size 3 1 rr n xs) (C:Ac wr w' (fun k=>rr.ownBlock=some k)) (l:BJ wr rr rr'):JnX w0 w' g9 vN vA vF vG all t as' ws N rr':=by
 have I:=C.size;refine⟨h.mem.row G h.nr h.fr h.gr C,fun k j=>?_,fun k j e=>?_,fun k j e=>?_,fun k j e=>?_⟩
 ·have:=h.nl k j;omega
 ·rcases l with d | ⟨y,d,E⟩
  ·exact h.nr k j (by rw [<-d]; exact e)
  ·rw [e] at d;have:=Option.some.inj d;have:=h.nl k j;omega
 ·rcases l with d | ⟨y,d,E⟩
  ·exact h.fr k j (by rw [<-d]; exact e)
  ·rw [e] at d;have:=Option.some.inj d;have:=Cj h.mem.f j;omega
 ·rcases l with d | ⟨y,d,E⟩
  ·exact h.gr k j (by rw [<-d]; exact e)
  ·rw [e] at d;have:=Option.some.inj d;have:=Cj h.mem.g j;omega
end
theorem aB6 {w0 w:World} {g3 g7 g8 g9 i n1 n2 cF cG L:Nat} {s1 s2 s3 s4 vN vA v7 a7 v8 a8:Value} {AF AG:Option Addr} {t u:List (List Nat)} {ac bc:List Bool} {all:List (Nat×Nat)} {tt:List (List Nat)} {as':List Bool} {ws:List Value} {N:Nat->Prop} {p:Nat×Nat}
    (hM:JnX w0 w g9 vN vA (.slice AF all.length cF) (.slice AG all.length cG) all tt as' ws N (.slice none 0 0)) (hT:Dp w0 L n1 v7 a7 t ac) (aG:Dp w0 L n2 v8 a8 u bc) (h3:Blk w0 g3 35 #[.int .i64 (L:Int),s1,s2,s3,s4]) (h7:Blk w0 g7 139 #[v7,a7]) (h8:Blk w0 g8 139 #[v8,a8])
    (hL:L<=8) (hq:all[i]?=some p) (cU:p.1<n1) (cV:p.2<n2) (fN:all.length<=900000)
    {u0 u1 u2 u4 u5 u6 u9 dc de df bK bL bN bO bP bQ bR bS bT bU bV bW bX bY bZ c0 dg dh di dj dk dl dm dn dp dq dr dt du dv dw dx dy dz dA dB dC dD dE dF dG dH dI dJ dK dL u64 dM dN dO dP dQ dR dS dT dU dV dW dX dY dZ e0 e5 e6 e7 e8 e9 ea eb ec ed ee ef eg eh ei ej ek el em en eo bf bg bh bi bj bk bl bm bn bo bp bq br bs bt bu bv bw bx bz bA bB bC bD bE bF bG bH bI bJ:Value}
    {Q:Exit->Act->World->Prop} (hN:Reg.NoQ Q)
    (hQ:∀(eu ev ew ex ey ez eA eB eD eE eF eG eH eI eJ eK eL eM eN eO eP eQ eR eS eT eU eV eW eX eY eZ f0 f1 f2 f3 f4 f5 f6 f7 f8 f9 fa fb fc fd fe fg fh fi fj fk fl fm fn fo fp fq fr fs ft fu fv fw fx fy fz fA fB fC fD:Value) (w':World) (vF' vG' vR:Value) (all':List (Nat×Nat)),JnX w0 w' g9 vN vA vF' vG' all' tt as' ws N vR->w'.ownsRow w0.heap.size 3 1 vR L ((Ak (Dl (dPr t u) all' p L)).map (Value.int .i64))->all'=AZ (dPr t u) p all L->
      Q (.exit 2) ⟨List.toArray (u0::u1::u2::(.pointer (some ⟨g3,0,none⟩))::u4::u5::u6::(.pointer (some ⟨g7,0,none⟩))::(.pointer (some ⟨g8,0,none⟩))::u9::vF'::vG'::(.int .i64 i)::vR::eu::ev::ew::ex::bK::bL::bN::bO::bP::bQ::bR::
      bS::bT::bU::bV::bW::bX::bY::bZ::c0::ey::ez::eA::eB::eD::eE::eF::eG::eH::eI::eJ::eK::eL::eM::eN::eO::eP::eQ::eR::eS::eT::eU::eV::eW::eX::eY::eZ::f0::
      f1::f2::f3::f4::f5::f6::f7::f8::f9::fa::fb::fc::fd::fe::fg::fh::fi::fj::fk::fl::fm::fn::fo::fp::fq::fr::fs::ft::fu::fv::fw::fx::fy::fz::fA::fB::fC::
      fD::bf::bg::bh::bi::bj::bk::bl::bm::bn::bo::bp::bq::br::bs::bt::bu::bv::bw::bx::bz::bA::bB::bC::bD::bE::bF::bG::bH::bI::bJ::[]),[]⟩ w'):
    (Code.loop (CG Tryz.f83 1)).wp Tryz.prog Q ⟨List.toArray (u0::u1::u2::(.pointer (some ⟨g3,0,none⟩))::u4::u5::u6::(.pointer (some ⟨g7,0,none⟩))::(.pointer (some ⟨g8,0,none⟩))::u9::(.slice AF all.length cF)::(.slice AG all.length cG)::(.int .i64 i)::(.slice none 0 0)::(.int .i64 0)::
      dc::de::df::bK::bL::bN::bO::bP::bQ::bR::bS::bT::bU::bV::bW::bX::bY::bZ::c0::dg::dh::di::dj::dk::dl::dm::dn::dp::dq::dr::dt::du::dv::dw::dx::dy::dz::
      dA::dB::dC::dD::dE::dF::dG::dH::dI::dJ::dK::dL::u64::dM::dN::dO::dP::dQ::dR::dS::dT::dU::dV::dW::dX::dY::dZ::e0::e5::e6::e7::e8::e9::ea::eb::ec::ed::
      ee::ef::eg::eh::ei::ej::ek::el::em::en::eo::bf::bg::bh::bi::bj::bk::bl::bm::bn::bo::bp::bq::br::bs::bt::bu::bv::bw::bx::bz::bA::bB::bC::
      bD::bE::bF::bG::bH::bI::bJ::[]),[]⟩ w:=by
  conv=>arg 2; arg 1; whnf
  obtain⟨tb,to,tc,rfl,d0,aY⟩:=hT.at
  obtain⟨ub,uo,uc,rfl,d2,b0⟩:=aG.at
  obtain⟨At,ct,aH,aZ⟩:=aY p.1 cU;obtain⟨Au,cu,aJ,b4⟩:=b0 p.2 cV;have cx:=hide hM;have cp:=hide h3;have cq:=hide h7;have cr:=hide h8;have cW:=hide hq;have cB:=hide aH;have cD:=hide aJ;have d1:=hide aZ;have d3:=hide b4;clear hM h3 h7 h8 hq aH aJ aZ b4 aY b0 hT aG;go_loopw [10,11,13,14] (fun ff gg rr xx wr=>∃(x:Nat) (all':List (Nat×Nat)),xx=.int .i64 (x:Int)/\x<=L/\Hid (JnX w0 wr g9 vN vA ff gg all' tt as' ws N rr)/\Hid (wr.ownsRow w0.heap.size 3 1 rr x ((Ak (Dl (dPr t u) all' p x)).map (Value.int .i64)))/\Hid (all'=AZ (dPr t u) p all x)) (fun _ _ _ xx _=>L - (intOf xx).toNat)
  case atStart=>exact⟨0,all,rfl,Nat.zero_le _,cx,hide Cb,hide rfl⟩
  case round=>
    obtain⟨x,all',rfl,hx,d,E,C⟩:=hrel;obtain⟨fE,cc,rfl⟩:=AH d.out.mem.f;obtain⟨fF,cd,rfl⟩:=AH d.out.mem.g;obtain⟨AR,cR,rfl⟩:=AH E.out;have y:=d.out.mem.below;have fO:=(cp.out.below y).cell;have fP:=(cq.out.below y).cell;have fQ:=(cr.out.below y).cell;by_cases b6:x<L
    · have aj:all'[i]?=some p:=by rw [C.out]; exact Ds (DK _ _ _) cW.out
      have cL:=AP aj;have cQ:all'.length<=900008:=by
        rw [C.out];have:=KN (dPr t u) p all x;omega
      obtain⟨gF,c1,gG,c2,e1,e2,e3,e4⟩:=d.out.mem.at aj;injection e1 with e1 cg ch
      injection e2 with e2 ci cj
      subst e1 e2 ch cj;obtain⟨b2,o2,rfl,cz,hy,fX⟩:=d1.out x b6;obtain⟨b3,o3,rfl,cA,hz,fY⟩:=d3.out x b6;have d4:=(y.cell (p:=⟨b2,o2+x,none⟩) cz).trans hy;have d6:=(y.cell (p:=⟨b3,o3+x,none⟩) cA).trans hz;have fR:=(y.cell (p:=⟨tb,to+p.1,none⟩) d0).trans cB.out;have fS:=(y.cell (p:=⟨ub,uo+p.2,none⟩) d2).trans cD.out;obtain⟨a,ae⟩:∃a,a=dnx t p.1 x:=⟨_,rfl⟩;obtain⟨b,af⟩:∃b,b=dnx u p.2 x:=⟨_,rfl⟩;rw [<-ae] at d4;rw [<-af] at d6;have I:Hid (dPr t u p x=(a,b)):=by show(_,_)=_; rw [ae,af]
      obtain⟨W,ah⟩:∃W,W=all'.length:=⟨_,rfl⟩;rw [<-ah] at cQ cL ⊢;have h:=hide ah;clear aj y hy hz ae af ah cg ci;go_wp2_with fail;refine Reg.cP [0,1,0,0,12,28,63,127,0,511,1023,0,2048,0,0,24576,57344,129024,260096,0,1046528,2095104,2047,8388607] ?_ (by kernel_rfl) (by repeat (first | exact hN | refine Reg.NoQ.then ?_ | refine Reg.NoQ.inBlock ?_));go_wp2_with fail;have aC:=hide (d.out.keep (Ap wr));have aE:=hide (Bt E.out (Ap wr));clear d E;have d:=aC;have E:=aE;clear aC aE;refine aB2 (u:=a) (v:=b) (by rw [h.out]; exact d.out.mem) h.out (by omega) ?_;iterate 22 (intro _)
      intro k fU aR b8;have aS:=hide aR;have d5:=hide b8;have aW:=hide (St (dPr t u) all p x);have al:=E.out;have aX:=d.out.mem.below.size;have b5:x+1<=4000000:=by omega
      clear aR b8;by_cases cO:k<W
      · obtain⟨s,hs⟩:=An (l:=all') (i:=k) (by rw [<-h.out]; exact cO)
        have cX:=d5.out s hs;subst cX;have aO:dPr t u p x∈all':=by rw [I.out]; exact List.mem_of_getElem? hs
        have U:Ax all' (dPr t u p x)=k:=by rw [I.out]; exact HV hs fun j hj=>aS.out j hj
        have fV:((k:Int)==(W:Int))=false:=by simp; omega
        have V:Hid (all'=AZ (dPr t u) p all (x+1)):=by
          show _=_
          rw [Cr,<-C.out];unfold Bs;rw [if_pos aO]
        have ak:Hid (Dl (dPr t u) all' p (x+1)=Dl (dPr t u) all' p x++[k]):=by
          show _=_
          have G:=aW.out;rw [<-V.out,<-C.out,U] at G;exact G
        clear hs U aO
        go_wp2_with (
          at_builtin;refine BP (w:=wr.drew) C9 rfl _ _ rfl w0.heap.size (.slice AR x cR) x _ rfl al [.int .i64 (k:Int)] 1 rfl rfl (by simp [Value.oneCell']) b5 aX ?_;intro g' a4 w7 O J M cK;have ab:=hide (d.out.app (rr':=.slice (some ⟨g',0,none⟩) (x+1) a4) al J M);have ad:=hide O;clear O J M)
        refine⟨⟨x+1,all',by go_num,by omega,?_,?_,V⟩,by simp [intOf]; omega⟩
        · have:=ab.out
          rw [<-h.out] at this;exact this
        · rw [ak.out,EM,List.map_append]
          exact ad.out
      · obtain rfl:k=W:=by omega
        have ai:dPr t u p x∉all':=by rw [I.out]; exact Rk fun j hj=>aS.out j (by rw [h.out]; exact hj)
        have fT:((k:Int)==(k:Int))=true:=by simp
        have V:Hid (all'++[(a,b)]=AZ (dPr t u) p all (x+1)):=by
          show _=_
          rw [Cr,<-C.out,<-I.out];unfold Bs;rw [if_neg ai]
        have U:Ax (all'++[(a,b)]) (dPr t u p x)=k:=by
          rw [<-I.out,ES ai,h.out]
        have ak:Hid (Dl (dPr t u) (all'++[(a,b)]) p (x+1)=Dl (dPr t u) all' p x++[k]):=by
          show _=_
          have G:=aW.out;rw [<-V.out,<-C.out,U] at G;exact G
        have hf:=d.out.mem.f;have hg:=d.out.mem.g;rw [<-h.out] at hf hg;have aM:k+1<=4000000:=by omega
        clear ai U
        go_wp2_with (
          at_builtin;first
          | (refine BP (w:=wr.drew) C9 rfl _ _ rfl w0.heap.size (.slice (some ⟨gF,0,none⟩) k cc) k _ rfl hf [.int .i64 (a:Int)] 1 rfl rfl (by simp [Value.oneCell']) aM aX ?_
             intro g5 ce w5 aT Z aP cH;have cE:=Z.ownsRow hg fun q hq e=>d.out.mem.sep q (by rw [<-h.out]; exact e) (by rw [<-h.out]; exact hq);have cY:w0.heap.size<=w5.heap.size:=(by have:=Z.size; omega);have cT:=hide aT;have cM:=hide Z;have cS:=hide aP;clear aT Z aP cH)
          | (refine BP (w:=w5) C9 rfl _ _ rfl w0.heap.size (.slice (some ⟨gG,0,none⟩) k cd) k _ rfl cE [.int .i64 (b:Int)] 1 rfl rfl (by simp [Value.oneCell']) aM cY ?_
             intro g6 cf w6 aU aN aQ cJ;obtain⟨aa,aV⟩:=d.out.add (p:=(a,b)) (vF':=.slice (some ⟨g5,0,none⟩) (k+1) ce) (vG':=.slice (some ⟨g6,0,none⟩) (k+1) cf) al (by rw [<-h.out]; exact cM.out) (by rw [<-h.out]; exact cT.out) (by rw [<-h.out]; exact cS.out) (by rw [<-h.out]; exact aN) (by rw [<-h.out]; exact aU) (by rw [<-h.out]; exact aQ);have cZ:=aa.mem.below.size;have cv:=hide aa;clear aU aN aQ cJ aa)
          | (refine BP (w:=w6) C9 rfl _ _ rfl w0.heap.size (.slice AR x cR) x _ rfl aV [.int .i64 (k:Int)] 1 rfl rfl (by simp [Value.oneCell']) b5 cZ ?_
             intro g' a4 w7 O J M cK;have ab:=hide (cv.out.app (rr':=.slice (some ⟨g',0,none⟩) (x+1) a4) aV J M);have ad:=hide O;clear O J M))
        refine⟨⟨x+1,all'++[(a,b)],by go_num,by omega,ab,?_,V⟩,by simp [intOf]; omega⟩;show World.ownsRow _ _ _ _ _ _ _
        rw [ak.out,EM,List.map_append];exact ad.out
    · obtain rfl:x=L:=by omega
      have cw:=d.out;go_wp2_with fail;refine hQ _ _ _ _ _ _ _ _ _ _ _ _ _ _ _ _ _ _ _ _ _ _ _ _ _ _ _ _ _ _ _ _ _ _ _ _ _ _ _ _ _ _ _ _ _ _ _ _ _ _ _ _ _ _ _ _ _ _ _ _ _ _ _ _ _ _ _ _ _ _ wr _ _ _ all' cw E.out C.out
end Go.Proofs.YtfcfpoemojjglaaGreatDoor
namespace Go.Proofs.YtfcfpoemojjglaaGreatDoor
open Go.RowKit
set_option maxHeartbeats 16000000
set_option maxRecDepth 100000
structure TbM (w0 wr:World) (g1 g2 g3:Nat) (cs:Array Value) (L i:Nat) (vN vA:Value) (gi:Nat->Nat) (f:Nat->Nat->Nat) (as':List Bool):Prop where
 below:Below w0.heap.size w0 wr
 b1:Blk wr g1 35 cs
 b2:Blk wr g2 139 #[sn0,sn0]
 b3:Blk wr g3 139 #[vN,vA]
 nxt:wr.ownsRow w0.heap.size 24 1 vN i ((List.range i).map fun s=>.slice (some ⟨gi s,0,none⟩) L L)
 row:∀s,s<i->Blk wr (gi s) 3 (Bi L fun x=>.int .i64 (f s x:Int))/\w0.heap.size<=gi s
 inj:∀s,s<i->∀s',s'<i->gi s=gi s'->s=s'
 acc:wr.ownsRow w0.heap.size 4 1 vA as'.length (as'.map Value.bool)
 ne:g2≠g3
 ge:w0.heap.size<=g1/\w0.heap.size<=g2/\w0.heap.size<=g3
section
variable {w0 wr w':World} {g1 g2 g3 L i:Nat} {cs:Array Value} {vN vA:Value} {gi:Nat->Nat} {f:Nat->Nat->Nat} {as':List Bool}
theorem TbM.keep (h:TbM w0 wr g1 g2 g3 cs L i vN vA gi f as') (d:Below wr.heap.size wr w'):TbM w0 w' g1 g2 g3 cs L i vN vA gi f as':=
 ⟨h.below.trans (d.mono h.below.size),h.b1.below d,h.b2.below d,h.b3.below d,Bt h.nxt d,fun s j=>⟨(h.row s j).1.below d,(h.row s j).2⟩,h.inj,Bt h.acc d,h.ne,h.ge⟩
theorem TbM.addR {gr:Nat} {vN':Value} {w1:World} (h:TbM w0 wr g1 g2 g3 cs L i vN vA gi f as') (M:Blk wr gr 3 (Bi L fun x=>.int .i64 (0:Int))) (hg:w0.heap.size<=gr) (J:∀s,s<i->gi s≠gr) (hf:∀x,f i x=0)
  (G:Ac wr w1 (fun k=>vN.ownBlock=some k)) (ho:w1.ownsRow w0.heap.size 24 1 vN' (i+1) (((List.range i).map fun s=>Value.slice (some ⟨gi s,0,none⟩) L L)++[.slice (some ⟨gr,0,none⟩) L L])):
  TbM w0 (w1.setCell ⟨g3,0,none⟩ vN') g1 g2 g3 cs L (i+1) vN' vA (up1 gi i gr) f as':=by
 have O:=h.b3.kept G (Aw h.nxt h.b3 (by decide));have I:=(Ac.refl w1 (fun k=>k=g3)).setCell (p:=⟨g3,0,none⟩) (fun _=>rfl) vN';have d:Ac wr (w1.setCell ⟨g3,0,none⟩ vN') (fun k=>vN.ownBlock=some k\/k=g3):=(G.mono fun _ _ e=>.inl e).trans I fun _ _ e=>.inr e;have y:∀{e:TypeId},e≠24->e≠139->∀g cs,(vN.ownBlock=some g\/g=g3)->¬Blk wr g e cs:=by
  rintro e W Z g cs (j | j) l
  ·exact Aw h.nxt l (fun hh=>W hh.symm) j
  ·exact l.ne_ h.b3 Z j
 refine⟨h.below.trans (d.below h.below.size ?_),h.b1.kept d fun x=>y (by decide) (by decide) _ _ x h.b1,h.b2.kept d ?_,O.set_ 0 vN',?_,fun s C=>?_,fun s C U a8 e=>?_,AK d h.acc (y (by decide) (by decide)),h.ne,h.ge⟩
 ·rintro b hb (e | e)
  ·have:=Bb h.nxt e; omega
  ·have:=h.ge; omega
 ·rintro(e | e)
  ·exact Aw h.nxt h.b2 (by decide) e
  ·exact h.ne e
 ·rw [List.range_succ,List.map_append];have j:((List.range i).map fun s=>Value.slice (some ⟨up1 gi i gr s,0,none⟩) L L)=(List.range i).map fun s=>Value.slice (some ⟨gi s,0,none⟩) L L:=List.map_congr_left fun s C=>by
   have:=List.mem_range.1 C;unfold up1;rw [if_neg (by omega)]
  rw [j];have V:([i].map fun s=>Value.slice (some ⟨up1 gi i gr s,0,none⟩) L L)=[.slice (some ⟨gr,0,none⟩) L L]:=by simp [up1]
  rw [V];exact AK I ho (fun g cs e l=>by subst e; exact l.ne_ O (by decide) rfl)
 ·unfold up1;split
  ·rename_i e;subst e;refine⟨?_,hg⟩;have:=M.kept d fun x=>y (by decide) (by decide) _ _ x M;rw [D4 (g:=fun _=>Value.int .i64 (0:Int)) (fun x _=>by rw [hf]; rfl)];exact this
  ·obtain⟨E,h4⟩:=h.row s (by omega);exact⟨E.kept d fun x=>y (by decide) (by decide) _ _ x E,h4⟩
 ·unfold up1 at e;split at e <;> split at e
  ·omega
  ·exact absurd e.symm (J U (by omega))
  ·exact absurd e (J s (by omega))
  ·exact h.inj s (by omega) U (by omega) e
theorem TbM.addA {b:Bool} {vA':Value} {w1:World} (h:TbM w0 wr g1 g2 g3 cs L i vN vA gi f as') (E:Ac wr w1 (fun k=>vA.ownBlock=some k)) (U:w1.ownsRow w0.heap.size 4 1 vA' (as'.length+1) (as'.map Value.bool++[.bool b])):
  TbM w0 (w1.setCell ⟨g3,1,none⟩ vA') g1 g2 g3 cs L i vN vA' gi f (as'++[b]):=by
 have I:=h.b3.kept E (Aw h.acc h.b3 (by decide));have G:=(Ac.refl w1 (fun k=>k=g3)).setCell (p:=⟨g3,1,none⟩) (fun _=>rfl) vA';have d:Ac wr (w1.setCell ⟨g3,1,none⟩ vA') (fun k=>vA.ownBlock=some k\/k=g3):=(E.mono fun _ _ e=>.inl e).trans G fun _ _ e=>.inr e;have C:∀{e:TypeId},e≠4->e≠139->∀g cs,(vA.ownBlock=some g\/g=g3)->¬Blk wr g e cs:=by
  rintro e J M g cs (l | l) j
  ·exact Aw h.acc j (fun O=>J O.symm) l
  ·exact j.ne_ h.b3 M l
 refine⟨h.below.trans (d.below h.below.size ?_),h.b1.kept d fun x=>C (by decide) (by decide) _ _ x h.b1,h.b2.kept d ?_,I.set_ 1 vA',AK d h.nxt (C (by decide) (by decide)),fun s y=>⟨(h.row s y).1.kept d fun x=>C (by decide) (by decide) _ _ x (h.row s y).1,(h.row s y).2⟩,h.inj,?_,h.ne,h.ge⟩
 ·rintro b V (e | e)
  ·have:=Bb h.acc e; omega
  ·have:=h.ge; omega
 ·rintro(e | e)
  ·exact Aw h.acc h.b2 (by decide) e
  ·exact h.ne e
 ·rw [List.length_append,List.map_append];exact AK G U (fun g cs e j=>by subst e; exact j.ne_ I (by decide) rfl)
theorem TbM.put {q x y:Nat} (h:TbM w0 wr g1 g2 g3 cs L i vN vA gi f as') (J:q<i):TbM w0 (wr.setCell ⟨gi q,x,none⟩ (.int .i64 (y:Int))) g1 g2 g3 cs L i vN vA gi (up2 f q x y) as':=by
 obtain⟨I,O⟩:=h.row q J;have d:=(Ac.refl wr (fun k=>k=gi q)).setCell (p:=⟨gi q,x,none⟩) (fun _=>rfl) (.int .i64 (y:Int));have l:∀{e:TypeId},e≠3->∀g cs,g=gi q->¬Blk wr g e cs:=fun C g cs e M=>by subst e; exact M.ne_ I C rfl
 refine⟨h.below.trans (d.below h.below.size fun b U e=>by omega),h.b1.kept d fun e=>l (by decide) _ _ e h.b1,h.b2.kept d fun e=>l (by decide) _ _ e h.b2,h.b3.kept d fun e=>l (by decide) _ _ e h.b3,AK d h.nxt (l (by decide)),fun s G=>?_,h.inj,AK d h.acc (l (by decide)),h.ne,h.ge⟩;by_cases e:s=q
 ·subst e;refine⟨?_,O⟩;have C:=I.set_ x (.int .i64 (y:Int));rw [F7] at C;rw [D4 (g:=fun z=>if z=x then Value.int .i64 (y:Int) else .int .i64 (f s z:Int)) (fun z _=>by
   by_cases E:z=x
   ·subst E; rw [G7,if_pos rfl]
   ·rw [E0 (fun j=>E j.2),if_neg E])]
  exact C
 ·refine⟨?_,(h.row s G).2⟩;rw [D4 (g:=fun z=>Value.int .i64 (f s z:Int)) (fun z _=>by rw [E0 (fun j=>e j.1)])];exact(h.row s G).1.kept d fun j=>e (h.inj s G q J j)
end
theorem TbM.fin {w0 wr wF:World} {g1 g2 g3 L:Nat} {cs:Array Value} {vN vA:Value} {gi:Nat->Nat} {f:Nat->Nat->Nat} {t:List (List Nat)} {ac:List Bool} (h:TbM w0 wr g1 g2 g3 cs L ac.length vN vA gi f ac) (U:DOK L t ac) (hf:∀q x,q<ac.length->x<L->f q x=dnx t q x) (hL:L<=8) (hk:Ac wr wF (fun k=>k=g2\/k<w0.heap.size)):Do wF w0.heap.size (.agg #[vN,vA]) t ac:=by
 have a9:=h.ge;have O:∀{e:TypeId} {v:Value} {n:Nat} {xs:List Value},e≠139->wr.ownsRow w0.heap.size e 1 v n xs->wF.ownsRow w0.heap.size e 1 v n xs:=fun he I=>hk.ownsRow I fun g E e=>by
  rcases e with e | e
  ·exact Aw I h.b2 he (by rw [E,e])
  ·have:=Bb I E; omega
 have W:=U.len;refine⟨vN,vA,_,rfl,O (by decide) h.acc,by rw [W]; exact O (by decide) h.nxt,F2.of_get (by simp [W]) fun s v d j C=>?_⟩;have M:s<ac.length:=by simpa using AP j
 rw [List.getElem?_map,List.getElem?_range M] at j;have j:=Option.some.inj j;subst j;obtain⟨r,J⟩:=An (l:=t) (i:=s) (by omega);rw [List.getElem?_map,J] at C;have C:=Option.some.inj C;subst C;obtain⟨hB,E⟩:=h.row s M;have a7:=(U.row r (List.mem_of_getElem? J)).1;have V:=O (by decide) (DD (base:=w0.heap.size) (n:=L) hB E (Fp _ _) (by omega));refine⟨?_,fun _ _=>trivial⟩;have e:(Bi L fun x=>Value.int .i64 (f s x:Int)).toList=(Ak r).map (Value.int .i64):=by
  apply List.ext_getElem?;intro x;rcases Nat.lt_or_ge x L with G | G
  ·obtain⟨y,Z⟩:=An (l:=r) (i:=x) (by omega);have a5:f s x=y:=by
    rw [hf s x M G];unfold dnx;rw [getD_some J,getD_some Z]
   rw [show(Bi L fun x=>Value.int .i64 (f s x:Int)).toList[x]?=some (.int .i64 (f s x:Int)) from by
    rw [Array.getElem?_toList]; exact CV _ G,a5,List.getElem?_map,Ak,List.getElem?_map,Z]
   rfl
  ·rw [List.getElem?_eq_none (by rw [Array.length_toList,Fp]; exact G),List.getElem?_eq_none (by simp [Ak]; omega)]
 rw [e] at V;have el:(Ak r).length=L:=by simp [Ak,a7]
 rw [el];exact V
end Go.Proofs.YtfcfpoemojjglaaGreatDoor
namespace Go.Proofs.YtfcfpoemojjglaaGreatDoor
open Go.RowKit
set_option maxHeartbeats 16000000
set_option maxRecDepth 100000
theorem aCm {w0 w:World} {g1 g2 g3 L n l1 c1 c2 l3 c3:Nat} {A1 A2 A3:Option Addr} {ac:List Bool} (hM:TbM w0 w g1 g2 g3 #[.int .i64 (L:Int),.int .i64 (n:Int),.slice A1 l1 c1,.slice A2 (AJ ac).length c2,.slice A3 l3 c3] L 0 sn0 sn0 (fun _=>0) (fun _ _=>0) []) (hA:Sl w0 w0.heap.size 1 Ai A2 (AJ ac)) (hn:n=ac.length) (cE:n<=200000) (hL:L<=8)
  {u0 u2 u5 u6 u7 u8 u9 bw bx bz bA bB bC bD bE bF bG bH bI bJ bK bL bM bN bO bP aB aC aD aE aF aG aH aJ aK aL aM aN aO aP aQ aR aS aT aU aV aW aY aZ b0 b4 b5 b6 b7 b8 b9 ba:Value}
  {Q:Exit->Act->World->Prop} (hN:Reg.NoQ Q)
  (hQ:∀(x4 x6 x7 x8 x9 bU bV bW bX bY bZ c0 c5 c6 c7 c8 c9 ca cb cc cd ce cf cg:Value) (w':World) (vN vA:Value) (gi:Nat->Nat),TbM w0 w' g1 g2 g3 #[.int .i64 (L:Int),.int .i64 (n:Int),.slice A1 l1 c1,.slice A2 (AJ ac).length c2,.slice A3 l3 c3] L n vN vA gi (fun _ _=>0) ac->Q (.exit 0) ⟨List.toArray (u0::(.pointer (some ⟨g1,0,none⟩))::u2::(.pointer (some ⟨g3,0,none⟩))::x4::u5::x6::x7::x8::x9::bU::bV::bW::bX::bY::bZ::c0::c5::c6::c7::c8::c9::ca::cb::cc::cd::ce::cf::cg::aB::
   aC::aD::aE::aF::aG::aH::aJ::aK::aL::aM::aN::aO::aP::aQ::aR::aS::aT::aU::aV::aW::aY::aZ::b0::b4::b5::b6::b7::b8::b9::ba::[]),[]⟩ w'):
  (Code.loop (CG Tryz.f127 0)).wp Tryz.prog Q ⟨List.toArray (u0::(.pointer (some ⟨g1,0,none⟩))::u2::(.pointer (some ⟨g3,0,none⟩))::(.int .i64 0)::u5::u6::u7::u8::u9::bw::bx::bz::bA::bB::bC::bD::bE::bF::bG::bH::bI::bJ::bK::bL::bM::bN::bO::bP::
   aB::aC::aD::aE::aF::aG::aH::aJ::aK::aL::aM::aN::aO::aP::aQ::aR::aS::aT::aU::aV::aW::aY::aZ::b0::b4::b5::b6::b7::b8::b9::ba::[]),[]⟩ w:=by
 conv=>arg 2; arg 1; whnf
 have aj:=hide hM;have bf:=hide hA;have a7:=hide hn;obtain⟨la,a5⟩:∃la,la=(AJ ac).length:=⟨_,rfl⟩;have bj:=hide a5;simp only [<-a5] at hQ aj;clear hM hA hn a5;go_loopw [4] (fun ii wr=>∃(i:Nat) (vN vA:Value) (gi:Nat->Nat),ii=.int .i64 (i:Int)/\i<=n/\Hid (TbM w0 wr g1 g2 g3 #[.int .i64 (L:Int),.int .i64 (n:Int),.slice A1 l1 c1,.slice A2 la c2,.slice A3 l3 c3] L i vN vA gi (fun _ _=>0) (ac.take i))) (fun ii _=>n - (intOf ii).toNat)
 case atStart=>exact⟨0,_,_,_,rfl,Nat.zero_le _,aj⟩
 case round=>
  obtain⟨i,vN,vA,gi,rfl,hi,h⟩:=hrel;have cq:=h.out.b1.cell;by_cases bk:i<n
  ·obtain⟨b,hb⟩:=An (l:=ac) (i:=i) (by rw [<-a7.out]; exact bk);obtain⟨AN,cN,rfl⟩:=AH h.out.nxt;obtain⟨AA,cA,rfl⟩:=AH h.out.acc;have a6:(ac.take i).length=i:=by rw [List.length_take]; have:=a7.out; omega
   have I:=hide a6;have ao:=h.out.b3.cell;rw [a6] at ao;have cF:=h.out.nxt;have ar:i+1<=4000000:=by omega
   have bo:L<=200000:=by omega
   have a2:=hide hb;have cp:=hide h.out.b3;have co:=hide h.out.b1;have cH:=h.out.below.size;clear hb a6;go_wp2_with fail;refine Reg.cC [0,1,0,4,12,28,63,127,255] [0,1,2,3,4,5,6,7,8] ?_ (by kernel_rfl) (by repeat (first | exact hN | refine Reg.NoQ.then ?_ | refine Reg.NoQ.inBlock ?_));refine Reg.rest_walk' [0,1,2,3] [4,5,6,7,8] rfl (by kernel_rfl) ?_;intro Qf d;go_wp2_with fail;first | refine d _ _ ?_ | skip
   (try clear d);refine Reg.rest_act' 4 [5,6,7,8] [1] rfl (by kernel_rfl) ?_;intro Qf d;simp only [gT,gS,gZ];refine LG Tryz.underlying24 JF (by omega) (by omega) L bo rfl _ _ rfl rfl rfl ?_;intro gr w3 am J aq;first | refine d _ _ ⟨Reg.same_below J _ rfl,?_⟩ | refine⟨Reg.same_below J _ rfl,?_⟩
   (try clear d);have ag:Below wr.heap.size wr w3:=(Ap wr).trans J;have y:=hide (h.out.keep ag);have av:=y.out.nxt;have hz:Hid (Blk w3 gr 3 (Bi L fun _=>.int .i64 (0:Int))):=by
    have G:=am;rw [show(Value.int .i64 0).cells=#[Value.int .i64 0] from rfl,HA,Fo] at G;exact G
   have cy:wr.heap.size<=gr:=aq;have br:=y.out.below.size;clear am J ag aq ao;refine Reg.rest_walk' [5] [6,7,8] rfl (by kernel_rfl) ?_;intro Qf d;go_wp2_with fail;first | refine d _ _ ?_ | skip
   (try clear d);refine Reg.rest_act' 6 [7,8] [] rfl (by kernel_rfl) ?_;intro Qf d;simp only [gT,gS,gZ];refine BP (w:=w3) F9 rfl _ _ rfl w0.heap.size (.slice AN i cN) i _ rfl av [.slice (some ⟨gr,0,none⟩) L L] 1 rfl rfl (by simp [Value.oneCell']) ar br ?_;intro g5 W w5 aw a3 bm cw;have O:=y.out.b3.kept a3 (Aw y.out.nxt y.out.b3 (by decide));have cu:=O.frozen 0;have cB:=O.lt;have bh:=O.cell;rw [I.out] at bh;have j:=y.out.addR (vN':=.slice (some ⟨g5,0,none⟩) (i+1) W) (w1:=w5) hz.out (by omega) (fun s hs e=>by have:=(h.out.row s hs).1.lt; omega) (fun _=>rfl) a3 aw;obtain⟨E,bu⟩:∃E,w5.setCell ⟨g3,0,none⟩ (.slice (some ⟨g5,0,none⟩) (i+1) W)=E:=⟨_,rfl⟩;rw [bu] at j;have M:=hide j;have cr:=j.b1.cell;have bi:=j.b3.cell;rw [I.out] at bi;have V:=aA0 (c:=c2) (i:Int) (bf.out.keep (w':=E.drew) (fun p hp=>(j.below.trans ((Ap E).mono j.below.size)).cell hp) (Nat.le_refl _));rw [<-bj.out] at V;have ap:decide ((i:Int)∈AJ ac)=b:=by
    rcases an:b with _ | _
    ·refine decide_eq_false fun hm=>?_;obtain⟨q,hq,ay⟩:=Ee.1 hm;have:q=i:=by omega
     subst this;rw [a2.out,an] at ay;cases ay
    ·exact decide_eq_true (Ee.2 ⟨i,rfl,by rw [a2.out,an]⟩)
   rw [ap] at V;have Z:=j.acc;rw [I.out] at Z;have bs:=j.below.size;have bt:Hid (ac.take i++[b]=ac.take (i+1)):=(B5 a2.out).symm;refine d _ _ ⟨Reg.nm,?_⟩;clear d aw a3 bm O j ap av;refine Reg.rest_walk' [7,8] [] rfl (by kernel_rfl) ?_;intro Qf d;go_wp2_with fail;first | refine d _ _ ?_ | skip
   (try clear d);refine Reg.rest_end ?_;go_wp2_with fail;refine Reg.cC [0,1,0,4,0,28,60,127,255,511] [0,1,2,3,4,5,6,7,8,9] ?_ (by kernel_rfl) (by repeat (first | exact hN | refine Reg.NoQ.then ?_ | refine Reg.NoQ.inBlock ?_));refine Reg.rest_walk' [0,1,2,3,4] [5,6,7,8,9] rfl (by kernel_rfl) ?_;intro Qf d;go_wp2_with fail;first | refine d _ _ ?_ | skip
   (try clear d);refine Reg.rest_act' 5 [6,7,8,9] [1] rfl (by kernel_rfl) ?_;intro Qf d;simp only [gT,gS,gZ];go_wp2_with fail;refine V.mono ?_;rintro r w8 ⟨rfl,rfl⟩;clear V;go_wp2_with fail;first | refine d _ _ ⟨Reg.same_below (Below.refl _ _) [1] rfl,?_⟩ | refine⟨Reg.same_below (Below.refl _ _) [1] rfl,?_⟩
   (try clear d);refine Reg.rest_walk' [6] [7,8,9] rfl (by kernel_rfl) ?_;intro Qf d;go_wp2_with fail;first | refine d _ _ ?_ | skip
   (try clear d);refine Reg.rest_act' 7 [8,9] [] rfl (by kernel_rfl) ?_;intro Qf d;simp only [gT,gS,gZ];refine BP (w:=E.drew) GM rfl _ _ rfl w0.heap.size (.slice AA i cA) i _ rfl Z [.bool b] 1 rfl rfl (by simp [Value.oneCell']) ar bs ?_;intro gA ad wA ax C bn cx;have a4:Ac E wA (fun b=>(Value.slice AA (ac.take i).length cA).ownBlock=some b):=by
    rw [I.out];exact⟨C.os,C.tape,C.output,C.size,C.block⟩
   have U:=M.out.b3.kept a4 (Aw M.out.acc M.out.b3 (by decide));have cv:=U.frozen 1;have cD:=U.lt;have ct:=U.cell;have bg:=hide (M.out.addA (b:=b) (vA':=.slice (some ⟨gA,0,none⟩) (i+1) ad) a4 (by rw [I.out]; exact ax));refine d _ _ ⟨Reg.nm,?_⟩;clear d ax C a4 bn U Z;refine Reg.rest_walk' [8,9] [] rfl (by kernel_rfl) ?_;intro Qf d;go_wp2_with fail;first | refine d _ _ ?_ | skip
   (try clear d);refine Reg.rest_end ?_;go_wp2_with fail;refine⟨⟨i+1,.slice (some ⟨g5,0,none⟩) (i+1) W,.slice (some ⟨gA,0,none⟩) (i+1) ad,up1 gi i gr,by go_num,by omega,?_⟩,by simp [intOf]; omega⟩;have G:=bg.out;rw [bt.out] at G;exact G
  ·obtain rfl:i=n:=by omega
   have ah:=h.out;rw [List.take_of_length_le (by rw [<-a7.out]; exact Nat.le_refl _)] at ah;go_wp2_with fail;exact hQ _ _ _ _ _ _ _ _ _ _ _ _ _ _ _ _ _ _ _ _ _ _ _ _ wr vN vA gi ah
end Go.Proofs.YtfcfpoemojjglaaGreatDoor
namespace Go.Proofs.YtfcfpoemojjglaaGreatDoor
open Go.RowKit
set_option maxHeartbeats 16000000
set_option maxRecDepth 100000
theorem SR (w:World) (cs:Array Value):∃w1 w2 d,w.alloc (.cells cs 35)=w1/\w1.alloc (.cells #[sn0,sn0] 139)=w2/\w2.alloc (.cells #[sn0,sn0] 139)=d/\Below w.heap.size w d/\Blk d w.heap.size 35 cs/\Blk d w1.heap.size 139 #[sn0,sn0]/\Blk d w2.heap.size 139 #[sn0,sn0]/\w.heap.size<w1.heap.size/\w1.heap.size<w2.heap.size/\w2.heap.size<d.heap.size:=by
 obtain⟨w1,E,J,j,-⟩:=Ae w cs 35;obtain⟨w2,G,C,l,-⟩:=Ae w1 #[sn0,sn0] 139;obtain⟨d,I,h,y,-⟩:=Ae w2 #[sn0,sn0] 139;have l1:=j.lt;have l2:=l.lt;have l3:=y.lt;exact⟨w1,w2,d,E,G,I,J.trans ((C.mono (by omega)).trans (h.mono (by omega))),(j.below C).below h,l.below h,y,l1,l2,l3⟩
theorem SS {w d h:World} {g2 g4 g6 gm:Nat} {cs:Array Value} {m:List Bool} (y:Below w.heap.size w d) (G:Blk d g2 35 cs) (I:Blk d g4 139 #[sn0,sn0]) (M:Blk d g6 139 #[sn0,sn0]) (V:w.heap.size<=g2/\w.heap.size<=g4/\w.heap.size<=g6) (W:g4≠g6) (C:Below d.heap.size d h) (U:Blk h gm 4 (m.map Value.bool).toArray) (a3:d.heap.size<=gm):
  ∃j,h.alloc (.cells #[.slice (some ⟨gm,0,none⟩) m.length m.length] 76)=j/\SbM w j g2 g4 g6 cs sn0 sn0 (.slice (some ⟨h.heap.size,0,none⟩) 1 1) [m] [] [] [.slice (some ⟨gm,0,none⟩) m.length m.length] [] (fun _=>True):=by
 obtain⟨j,J,E,O,-⟩:=Ae h #[.slice (some ⟨gm,0,none⟩) m.length m.length] 76;have Z:=y.size;have s4:=C.size;have l:Below d.heap.size d j:=C.trans (E.mono s4);refine⟨j,J,y.trans (l.mono Z),G.below l,I.below l,M.below l,?_,.cons ⟨gm,rfl,by omega,U.below E,by simp [Value.ownBlock]⟩ .nil,Cb,Cb,Cl.nil,W,V⟩;exact DD (base:=w.heap.size) (n:=1) O (by omega) rfl (by omega)
theorem Bf.of_exp {a:WA} {all:List (List Bool)} {i:Nat} (h:Exp a.L a.nf.after a.nf.st i all) (d:¬i<all.length):Bf a.L a.nf.after a.nf.st all:=by
 have:=h.inv.le;obtain rfl:i=all.length:=by omega
 exact h
end Go.Proofs.YtfcfpoemojjglaaGreatDoor
namespace Go.Proofs.YtfcfpoemojjglaaGreatDoor
open Go.RowKit
set_option maxHeartbeats 16000000
set_option maxRecDepth 100000
theorem aBn {L:Nat} {t:List (List Nat)}:∀{n q x:Nat},q<n->x<L->(BM L t n)[q*L+x]?=some ⟨(q:Int),(x:Int),(dnx t q x:Int)⟩
 | 0,_,_,h,_=>by omega
 | n+1,q,x,hq,hx=>by
  rw [Ho];by_cases e:q<n
  ·have d:q*L+L<=n*L:=by
    have:=Nat.mul_le_mul_right L (show q+1<=n from e);rw [Nat.succ_mul] at this;exact this
   rw [List.getElem?_append_left (by rw [FN]; omega)];exact aBn e hx
  ·obtain rfl:q=n:=by omega
   rw [List.getElem?_append_right (by rw [FN]; omega),FN,show q*L+x - q*L=x by omega];unfold CX;rw [List.getElem?_map,List.getElem?_range hx];rfl
def aAX (L:Nat) (t:List (List Nat)) (k q x:Nat):Nat:=if q*L+x<k then dnx t q x else 0
theorem aB8 {L q j x l:Nat} (y:x<L) (C:l<L) (h:j*L+l=q*L+x):j=q/\l=x:=by
 have d:∀{a b:Nat},b<L->(a*L+b) / L=a/\(a*L+b) % L=b:=fun {a b} hb=>by
  rw [Nat.mul_comm];exact⟨by rw [Nat.mul_add_div (by omega),Nat.div_eq_of_lt hb,Nat.add_zero],by rw [Nat.mul_add_mod,Nat.mod_eq_of_lt hb]⟩
 exact⟨by rw [<-(d (a:=j) C).1,h,(d y).1],by rw [<-(d (a:=j) C).2,h,(d y).2]⟩
theorem aCk {L:Nat} {t:List (List Nat)} {q x:Nat} (y:x<L) {j d:Nat} (C:d<L):up2 (aAX L t (q*L+x)) q x (dnx t q x) j d=aAX L t (q*L+x+1) j d:=by
 unfold up2 aAX;by_cases e:j=q/\d=x
 ·obtain⟨rfl,rfl⟩:=e;rw [if_pos ⟨rfl,rfl⟩,if_pos (by omega)]
 ·rw [if_neg e];by_cases h:j*L+d<q*L+x
  ·rw [if_pos h,if_pos (by omega)]
  ·have:¬j*L+d=q*L+x:=fun l=>e (aB8 y C l);rw [if_neg h,if_neg (by omega)]
theorem TbM.congr {w0 wr:World} {g1 g2 g3 L i:Nat} {cs:Array Value} {vN vA:Value} {gi:Nat->Nat} {f f':Nat->Nat->Nat} {as':List Bool} (h:TbM w0 wr g1 g2 g3 cs L i vN vA gi f as') (j:∀s x,s<i->x<L->f s x=f' s x):TbM w0 wr g1 g2 g3 cs L i vN vA gi f' as':=
 ⟨h.below,h.b1,h.b2,h.b3,h.nxt,fun s d=>⟨by
  rw [D4 (g:=fun x=>Value.int .i64 (f s x:Int)) (fun x l=>by rw [j s x d l])];exact(h.row s d).1,(h.row s d).2⟩,h.inj,h.acc,h.ne,h.ge⟩
theorem aCl {w0 w:World} {g1 g2 g3 L n l1 c1 l2 c2 c3 m:Nat} {A1 A2 A3:Option Addr} {t:List (List Nat)} {ac:List Bool} {vN vA:Value} {gi:Nat->Nat} (W:TbM w0 w g1 g2 g3 #[.int .i64 (L:Int),.int .i64 (n:Int),.slice A1 l1 c1,.slice A2 l2 c2,.slice A3 m c3] L n vN vA gi (fun _ _=>0) ac) (U:Sl w0 w0.heap.size 3 DP A3 (BM L t n)) (hm:m=n*L) (aH:n<=200000) (bY:1<=L) (hL:L<=8) (aG:∀q x,q<n->x<L->dnx t q x<n)
  {u0 u2 u4 u6 u7 u8 u9 a5 a6 a7 a8 a9 aa ab ad ae af ah ai aj ak al am an ao ap aQ aR aS aT aU aV aW aX aY aZ b0 b4 b5 b6 b7 b8 b9 ba bd be bf bg bh bi bj bk bl bm bn bo ar:Value}
  {Q:Exit->Act->World->Prop} (hN:Reg.NoQ Q)
  (hQ:∀(x5 bp bq br bs bt bu bv bw bx bz bA bB bC bD bF bG bH bI bJ bK bL bN bO bP bQ bR bS bT bU bV:Value) (w':World),TbM w0 w' g1 g2 g3 #[.int .i64 (L:Int),.int .i64 (n:Int),.slice A1 l1 c1,.slice A2 l2 c2,.slice A3 m c3] L n vN vA gi (dnx t) ac->Q (.exit 2) ⟨List.toArray (u0::(.pointer (some ⟨g1,0,none⟩))::u2::(.pointer (some ⟨g3,0,none⟩))::u4::x5::u6::u7::u8::u9::a5::a6::a7::a8::a9::aa::ab::ad::ae::af::ah::ai::aj::ak::al::am::an::ao::ap::bp::
   bq::br::bs::bt::bu::bv::bw::bx::bz::bA::bB::bC::bD::bF::bG::bH::bI::bJ::bK::bL::bN::bO::bP::bQ::bR::bS::bT::bU::bV::ar::[]),[]⟩ w'):
  (Code.loop (CG Tryz.f127 1)).wp Tryz.prog Q ⟨List.toArray (u0::(.pointer (some ⟨g1,0,none⟩))::u2::(.pointer (some ⟨g3,0,none⟩))::u4::(.int .i64 0)::u6::u7::u8::u9::a5::a6::a7::a8::a9::aa::ab::ad::ae::af::ah::ai::aj::ak::al::am::an::ao::ap::
   aQ::aR::aS::aT::aU::aV::aW::aX::aY::aZ::b0::b4::b5::b6::b7::b8::b9::ba::bd::be::bf::bg::bh::bi::bj::bk::bl::bm::bn::bo::ar::[]),[]⟩ w:=by
 conv=>arg 2; arg 1; whnf
 have aC:=hide (W.congr (f':=aAX L t 0) fun s x _ _=>by unfold aAX; rw [if_neg (by omega)]);have aA:=hide U;have a3:=hide hm;have cd:m<=1600000:=by
  have h1:n*L<=200000*8:=Nat.mul_le_mul aH hL;omega
 clear W U hm;go_loopw [5] (fun M wr=>∃(k:Nat),M=.int .i64 (k:Int)/\k<=m/\Hid (TbM w0 wr g1 g2 g3 #[.int .i64 (L:Int),.int .i64 (n:Int),.slice A1 l1 c1,.slice A2 l2 c2,.slice A3 m c3] L n vN vA gi (aAX L t k) ac)) (fun M _=>m - (intOf M).toNat)
 case atStart=>exact⟨0,rfl,Nat.zero_le _,aC⟩
 case round=>
  obtain⟨k,rfl,hk,d⟩:=hrel;have bZ:=d.out.b1.cell;by_cases cc:k<m
  ·have aK:∃q x,k=q*L+x/\q<n/\x<L:=by
    refine⟨k / L,k % L,by rw [Nat.mul_comm]; exact(Nat.div_add_mod k L).symm,?_,Nat.mod_lt _ (by omega)⟩;rw [Nat.div_lt_iff_lt_mul (by omega)];have:=a3.out;omega
   obtain⟨q,x,G,l,C⟩:=aK;have h:=aBn (t:=t) l C;rw [<-G] at h;obtain⟨bE,oE,rfl,aE,Z⟩:=aA.out.2 (fun e=>by rw [e] at h; simp at h);have E:=fun j hj=>(d.out.below.cell (p:=⟨bE,oE+k*3+j,none⟩) aE).trans (Z k _ h j hj);have e0:=E 0 (by omega);have e1:=E 1 (by omega);have O:=E 2 (by omega);simp only [Nat.add_zero,DP] at e0 e1 O;have aM:=aG q x l C;obtain⟨to,J⟩:∃to,to=dnx t q x:=⟨_,rfl⟩;rw [<-J] at O aM;obtain⟨gN,cN,hv,c5⟩:=C7 d.out.nxt (k:=q) (u:=.slice (some ⟨gi q,0,none⟩) L L) (by rw [List.getElem?_map,List.getElem?_range l]; rfl);subst hv;have c0:=d.out.b3.cell;have I:=(d.out.row q l).1;have c7:=I.frozen x;have cb:=I.lt;have c6:wr.cell? ⟨gi q,x,none⟩=some (.int .i64 (aAX L t k q x:Int)):=by rw [I.cell,CV _ C]
   have aJ:=hide (((d.out.put (y:=to) (x:=x) l).keep (Ap _)).congr (f':=aAX L t (k+1)) fun s z _ hz=>by
    rw [G,J];exact aCk C hz)
   have c9:=hide G;have ce:=hide J;clear E Z h I G J;go_wp2_with fail;refine Reg.cP [0,1,0,4,0,28,60,124,255,511,0,1024,0,7168,15360,31744,0,65536,0,458752,983040,2031616,4194303,8388607] ?_ (by kernel_rfl) (by repeat (first | exact hN | refine Reg.NoQ.then ?_ | refine Reg.NoQ.inBlock ?_));go_wp2_with fail;exact⟨⟨k+1,by go_num,by omega,aJ⟩,by simp [intOf]; omega⟩
  ·have ca:k=m:=by omega
   have V:=d.out.congr (f':=dnx t) fun s x hs C=>by
    unfold aAX;rw [if_pos];have:=Nat.mul_le_mul_right L (show s+1<=n from hs);rw [Nat.succ_mul] at this;have:=a3.out;omega
   go_wp2_with fail;first | exact V | exact hQ _ _ _ _ _ _ _ _ _ _ _ _ _ _ _ _ _ _ _ _ _ _ _ _ _ _ _ _ _ _ _ wr V
theorem aBt {w:World} {v:Value} {L:Nat} {t:List (List Nat)} {ac:List Bool} (h:Bj w w.heap.size v (AG L t ac)) (aa:DOK L t ac) (hn:ac.length<=200000) (ai:1<=L) (M:L<=8):
  Calls Tryz.prog 127 #[v] w (Ret fun r w'=>Below w.heap.size w w'/\Do w' w.heap.size r t ac):=by
 obtain⟨A1,c1,A2,c2,A3,c3,rfl,-,j,W,-⟩:=h;have a8:(AG L t ac).edges.length=ac.length*L:=Rv;obtain⟨n,C⟩:∃n,n=ac.length:=⟨_,rfl⟩;obtain⟨m,O⟩:∃m,m=(AG L t ac).edges.length:=⟨_,rfl⟩;have y:=hide C;have ao:Hid (m=n*L):=by show m=n*L; rw [O,a8,C]
 have af:Hid (Sl w w.heap.size 1 Ai A2 (AJ ac)):=j;have ag:Hid (Sl w w.heap.size 3 DP A3 (BM L t n)):=by rw [C]; exact W
 rw [<-O];have ae:(AG L t ac).states=(n:Int):=by rw [C]; rfl
 rw [ae,show(AG L t ac).letters=(L:Int) from rfl,show(AG L t ac).start.length=1 from rfl,show(AG L t ac).accept=AJ ac from rfl];obtain⟨w1,w2,w3,az,aA,aB,a7,Z,a2,a3,l1,l2,l3⟩:=SR w #[.int .i64 (L:Int),.int .i64 (n:Int),.slice A1 1 c1,.slice A2 (AJ ac).length c2,.slice A3 m c3];have aj:=hide (show TbM w w3 w.heap.size w1.heap.size w2.heap.size #[.int .i64 (L:Int),.int .i64 (n:Int),.slice A1 1 c1,.slice A2 (AJ ac).length c2,.slice A3 m c3] L 0 sn0 sn0 (fun _=>0) (fun _ _=>0) [] from⟨a7,Z,a2,a3,Cb,fun s U=>absurd U (by omega),fun s U=>absurd U (by omega),Cb,by omega,⟨by omega,by omega,by omega⟩⟩);have ab:=hide aa;have a9:n<=200000:=by omega
 clear j W a8 C O ae a7 Z a2 a3 aa hn;go_enter Tryz.func127,Tryz.ntmps127;go_wp2_with fail;refine aCm aj.out af.out y.out a9 M ?_ ?_
 ·repeat (first | exact Reg.NoQ.body (fun _ _ h=>h) (fun _ h=>h) | refine Reg.NoQ.then ?_ | refine Reg.NoQ.inBlock ?_)
 ·iterate 24 (intro _)
  intro w4 vN vA gi a5;have a6:=hide a5;clear a5;go_wp2_with fail;refine aCl (t:=t) a6.out ag.out ao.out a9 ai M (fun q x hq hx=>by
   rw [y.out] at hq ⊢;exact ab.out.lt hq hx) ?_ ?_
  ·repeat (first | exact Reg.NoQ.body (fun _ _ h=>h) (fun _ h=>h) | refine Reg.NoQ.then ?_ | refine Reg.NoQ.inBlock ?_)
  ·iterate 31 (intro _)
   intro w5 d;have ak:=hide d;obtain⟨G,cN,rfl⟩:=AH d.nxt;obtain⟨E,I,rfl⟩:=AH d.acc;have l:=d.b2;have ax:=l.frozen;have ay:=l.lt;have aw:=l.cell;have am:=d.b3.cell;rw [<-y.out] at am;obtain⟨wF,aq,a4,J⟩:=Dm l (.slice G n cN) (.slice E n I);have ah:=a4.cell;have al:=hide (d.below.trans (J.below d.below.size fun b hb e=>by have:=d.ge; omega));have an:Hid (Do wF w.heap.size (.agg #[.slice G n cN,.slice E n I]) t ac):=by
    have V:=d;rw [y.out] at V;have j:=V.fin (f:=dnx t) ab.out (fun _ _ _ _=>rfl) M (wF:=wF) (J.mono fun _ _ e=>.inl e);rw [<-y.out] at j;exact j
   unfold CY at aq;clear d l a4 J ak a6;go_wp2_with fail;exact bodyPost_ret (v:=.agg #[.slice G n cN,.slice E n I]) (by simp [results,Tryz.results127,go_sem,ah]) rfl ⟨al.out,an.out⟩
end Go.Proofs.YtfcfpoemojjglaaGreatDoor
