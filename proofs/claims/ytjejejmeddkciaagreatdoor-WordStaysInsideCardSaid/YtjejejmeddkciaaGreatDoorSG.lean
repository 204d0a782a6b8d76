/-
  Part SG of a proof.
-/
import Derived.Test.YtjejejmeddkciaaGreatDoorPA
import Derived.Test.YtjejejmeddkciaaGreatDoorSF
set_option maxHeartbeats 16000000
set_option maxRecDepth 100000
set_option linter.unusedVariables false
set_option linter.unusedSimpArgs false
namespace Go.Proofs.YtjejejmeddkciaaGreatDoor
open Go.RowKit
set_option maxHeartbeats 16000000
set_option maxRecDepth 100000
theorem aAe {w0 w:World} {gd gm g3 g5 g11 n L r:Nat} {d:Drw} {ls:Lst} {S:List (Nme×Nat)} {rc:Array Value} {left right:List Int} {f t:Int} (h:DrS w0 w gd gm d n ls S) (hL:d.L=L) (cx:L<=60) (hr:K4 w0 rc f t left right) (Z:(g3,109,rc)∈ls)
  (h5:(g5,128,#[.pointer (some ⟨gd,0,none⟩)])∈ls) (V:(g11,3,#[.int .i64 (r:Int)])∈ls) (hn:n<=10000)
  {u0 u1 u2 u4 u6 u7 u8 u9 aa cU aw aH aT aU aV aW aX aZ b0 b4 b5 b6 b7 b8 b9 ba bb bc bd be bf bg bh bi bj bk bl bn bo bp bq br bs bt bu bv bw bx bz bA bB bC bD bE bF bG bH bJ bK bL bM u64 bN bO bP bQ bR bT bU bV bW bX bY bZ c0 c4 c5 c6 c7 c8 c9 ca cb cc cd ce cf ch ci cj ck cm cn co cp cq cr ab ad ae cG cH cJ cK cL cM cO cQ cR cS cT af ag ah ai aj ak al am an ao ap aq ar au av ax ay az aA aB aC aD aE aF aG aJ aK aL aM aN aO aP aQ aR aS:Value}
  {Q:Exit->Act->World->Prop} (hN:Reg.NoQ Q)
  (hQ:∀(d8 cW cX cY cZ d0 d1 d2 d3 d4 d5 d6 d7:Value) (w':World) (S':List (Nme×Nat)),DrS w0 w' gd gm (Lb d left r 2) (n+242) ls S'->(∀p∈S,p∈S')->(Lb d left r 2).L=L->Q (.exit 4) ⟨List.toArray (u0::u1::u2::(.pointer (some ⟨g3,0,none⟩))::u4::(.pointer (some ⟨g5,0,none⟩))::u6::u7::u8::u9::aa::(.pointer (some ⟨g11,0,none⟩))::d8::aw::aH::aT::aU::aV::aW::aX::aZ::b0::b4::b5::b6::b7::
   b8::b9::ba::bb::bc::bd::be::bf::bg::bh::bi::bj::bk::bl::bn::bo::bp::bq::br::bs::bt::bu::bv::bw::bx::bz::bA::bB::bC::bD::bE::bF::bG::bH::bJ::bK::bL::
   bM::u64::bN::bO::bP::bQ::bR::bT::bU::bV::bW::bX::bY::bZ::c0::c4::c5::c6::c7::c8::c9::ca::cb::cc::cd::ce::cf::ch::ci::cj::ck::cm::cn::co::cp::cq::cr::
   ab::ad::ae::cW::cX::cY::cZ::d0::d1::d2::d3::d4::d5::d6::d7::af::ag::ah::ai::aj::ak::al::am::an::ao::ap::aq::ar::au::av::ax::ay::az::
   aA::aB::aC::aD::aE::aF::aG::aJ::aK::aL::aM::aN::aO::aP::aQ::aR::aS::[]),[]⟩ w'):
  (Code.loop (CG Tryz.f53 2)).wp Tryz.prog Q ⟨List.toArray (u0::u1::u2::(.pointer (some ⟨g3,0,none⟩))::u4::(.pointer (some ⟨g5,0,none⟩))::u6::u7::u8::u9::aa::(.pointer (some ⟨g11,0,none⟩))::cU::aw::aH::aT::aU::aV::aW::aX::aZ::b0::b4::b5::b6::b7::
   b8::b9::ba::bb::bc::bd::be::bf::bg::bh::bi::bj::bk::bl::bn::bo::bp::bq::br::bs::bt::bu::bv::bw::bx::bz::bA::bB::bC::bD::bE::bF::bG::bH::bJ::bK::bL::
   bM::u64::bN::bO::bP::bQ::bR::bT::bU::bV::bW::bX::bY::bZ::c0::c4::c5::c6::c7::c8::c9::ca::cb::cc::cd::ce::cf::ch::ci::cj::ck::cm::cn::co::cp::cq::cr::
   ab::ad::ae::(.int .i64 0)::cG::cH::cJ::cK::cL::cM::cO::cQ::cR::cS::cT::af::ag::ah::ai::aj::ak::al::am::an::ao::ap::aq::ar::au::av::ax::
   ay::az::aA::aB::aC::aD::aE::aF::aG::aJ::aK::aL::aM::aN::aO::aP::aQ::aR::aS::[]),[]⟩ w:=by
 conv=>arg 2;arg 1;whnf
 have hH:=hide h;have cD:=hide hr;have ct:=hide Z;have G:=hide h5;have W:=hide V;have cy:=hide hL;clear h hr Z h5 V hL;go_loopw [103] (fun U wr=>∃(i:Nat) (S':List (Nme×Nat)),U=.int .i64 (i:Int)/\i<=2/\Hid (DrS w0 wr gd gm (Lb d left r i) (n+121*i) ls S')/\Hid (∀p∈S,p∈S')/\Hid ((Lb d left r i).L=L)) (fun U _=>2 - (intOf U).toNat)
 case atStart=>exact⟨0,S,rfl,Nat.zero_le _,hH,fun p M=>M,cy⟩
 case round=>
  obtain⟨i,S',rfl,hi,hD,hS,J⟩:=hrel;by_cases dc:i<2
  ·have E:=hD.out.keep (Ap wr);have cA:=hide E;have da:=(E.blk G.out).cell;have d9:=(E.blk W.out).cell;have q5:=(((E.push 3 #[.int .i64 1,.int .i64 (i:Int),.int .i64 (r:Int)]).blk (List.mem_cons_of_mem _ G.out)).cell 0);clear E;go_wp2_with fail;refine Reg.cC [0,0,0,0,12,30,0,127] [0,1,2,3,6,4,5,7] ?_ (by kernel_rfl) (by repeat (first|exact hN|refine Reg.NoQ.then ?_|refine Reg.NoQ.inBlock ?_));refine Reg.rest_walk' [0,1,2,3,6,4] [5,7] rfl (by kernel_rfl) ?_;intro Qf C;go_wp2_with fail;first|refine C _ _ ?_|skip
   (try clear C);refine Reg.rest_act' 5 [7] [0] rfl (by kernel_rfl) ?_;intro Qf C;try simp only [gT,gS,gZ]
   go_wp2_with fail;refine Calls.ret (cA.out.state (1,i,r) (m:=3) (.inr (.inr rfl)) (by omega) rfl) ?_;rintro v w2 ⟨e,rfl,I⟩;have p5:=(I.blk G.out).cell 0;have cu:=hide I;clear I;go_wp2_with fail;first|refine C _ _ ⟨?_,?_⟩|refine⟨?_,?_⟩
   ·intro z hz q O;simp only [List.mem_cons,List.not_mem_nil,or_false] at hz;subst hz;injection O with O
    subst O;exact Reg.same_load1 rfl rfl (q5) (p5) Tryz.underlying128 rfl
   (try clear C);refine Reg.rest_act' 7 [] [] rfl (by kernel_rfl) ?_;intro Qf C;try simp only [gT,gS,gZ]
   go_wp2_with fail;refine Calls.ret (cu.out.keep_ (L:=L) (F:=112) (caps:=[.pointer (some ⟨g5,0,none⟩),.pointer (some ⟨g3,0,none⟩),.pointer (some ⟨g11,0,none⟩)]) (κ:=WG left r) (f:=(1,i,r)) (ef:=e) (S0:=[]) (by rw [Drw.add_L];exact J.out) cx (by simp) (fun _ h=>by cases h) (fun _ _=>Yy cD.out ct.out G.out W.out) (.inr (.inr ⟨_,_,_,rfl,rfl⟩)) (by omega)) ?_;rintro v w3 ⟨rfl,a4⟩;have cv:Hid (DrS w0 w3 gd gm (Lb d left r (i+1)) (n+121*(i+1)) ls (((1,i,r),e)::S')):=hide (a4.big (by omega));have cB:Hid ((Lb d left r (i+1)).L=L):=hide (show(((Lb d left r i).add (1,i,r)).kp (1,i,r) (WG left r)).L=L by rw [Drw.kp_L,Drw.add_L];exact J.out);clear a4;go_wp2_with fail;first|refine C _ _ ⟨Reg.nm,?_⟩|refine⟨Reg.nm,?_⟩
   (try clear C);first|refine Reg.rest_end ?_|skip
   go_wp2_with fail;exact⟨⟨i+1,_,by go_num,by omega,cv,fun p M=>List.mem_cons_of_mem _ (hS.out p M),cB⟩,by simp [intOf];omega⟩
  ·obtain rfl:i=2:=by omega
   go_wp2_with fail;exact hQ _ _ _ _ _ _ _ _ _ _ _ _ _ _ S' hD.out hS.out J.out
theorem Drw.ringM_L {d:Drw} {f t:Int} {left:List Int} {r L:Nat} (h:(Lb d left r 2).L=L):(rnM d f t left r).L=L:=by
 unfold rnM;rw [Drw.mov_L,Drw.add_L,Drw.add_L];exact h
theorem aAg {w0 w:World} {gd gm g3 g5 g7 n L e7:Nat} {d:Drw} {ls:Lst} {S:List (Nme×Nat)} {rc:Array Value} {left right:List Int} {f t:Int} (h:DrS w0 w gd gm d n ls S) (hL:d.L=L) (ah:L<=60) (hr:K4 w0 rc f t left right) (h3:(g3,109,rc)∈ls)
  (h5:(g5,128,#[.pointer (some ⟨gd,0,none⟩)])∈ls) (h7:(g7,3,#[.int .i64 (e7:Int)])∈ls) (hE:((5,0,0),e7)∈S) (hn:n<=5000)
  {u0 u1 u2 u4 u6 u8 u9 aZ dc dp dB b0 b5 b6 b7 b8 b9 bb bc bd be bf bg bh bi bj bk bl bm bn bo bp bq br bs bt bu bw bx bz bA bB bC bD bE bF bG bH bI bJ bK bL bM bN bO bP bQ bS bT bU bV u64 bW bX bY bZ c0 c4 c5 c6 c7 c8 c9 ca cb cc cd ce cf cg ch ci cj ck cm cn co cq cr ct cu cv cw cx cy cz cB d3 d4 d5 d6 d7 d8 d9 da db de df dg dh di dj dk dl dm dn dq dr dt du dv dw dx dy dz dA dC dD dE dF dG dH dI dJ dK dL dM dN dO dP dQ dR dS dT dU b4:Value}
  {Q:Exit->Act->World->Prop} (hN:Reg.NoQ Q)
  (hQ:∀(e8 em ex dX dY dZ e0 e1 e2 e3 e4 e5 e6 e9 ec ed ee eg eh ei ej ek el en eo ep eq er es et eu ev ew ey ez eA eB eC eD eE eF eG eH eI eJ eK eL eM eN eO eP eQ:Value) (w':World) (S':List (Nme×Nat)),DrS w0 w' gd gm (Sa d f t left right 2) (n+800) ls S'->Q (.exit 2) ⟨List.toArray (u0::u1::u2::(.pointer (some ⟨g3,0,none⟩))::u4::(.pointer (some ⟨g5,0,none⟩))::u6::(.pointer (some ⟨g7,0,none⟩))::u8::u9::aZ::e8::em::ex::b0::b5::b6::b7::b8::b9::bb::bc::bd::be::bf::bg::
   bh::bi::bj::bk::bl::bm::bn::bo::bp::bq::br::bs::bt::bu::bw::bx::bz::bA::bB::bC::bD::bE::bF::bG::bH::bI::bJ::bK::bL::bM::bN::bO::bP::bQ::bS::bT::bU::
   bV::u64::bW::bX::bY::bZ::c0::c4::c5::c6::c7::c8::c9::ca::cb::cc::cd::ce::cf::cg::ch::ci::cj::ck::cm::cn::co::cq::cr::ct::cu::cv::cw::cx::cy::cz::cB::
   dX::dY::dZ::e0::e1::e2::e3::e4::e5::e6::e9::ec::ed::ee::eg::eh::ei::ej::ek::el::en::eo::ep::eq::er::es::et::eu::ev::ew::ey::ez::eA::
   eB::eC::eD::eE::eF::eG::eH::eI::eJ::eK::eL::eM::eN::eO::eP::eQ::b4::[]),[]⟩ w'):
  (Code.loop (CG Tryz.f53 1)).wp Tryz.prog Q ⟨List.toArray (u0::u1::u2::(.pointer (some ⟨g3,0,none⟩))::u4::(.pointer (some ⟨g5,0,none⟩))::u6::(.pointer (some ⟨g7,0,none⟩))::u8::u9::aZ::dc::dp::dB::b0::b5::b6::b7::b8::b9::bb::bc::bd::be::bf::bg::
   bh::bi::bj::bk::bl::bm::bn::bo::bp::bq::br::bs::bt::bu::bw::bx::bz::bA::bB::bC::bD::bE::bF::bG::bH::bI::bJ::bK::bL::bM::bN::bO::bP::bQ::bS::bT::bU::
   bV::u64::bW::bX::bY::bZ::c0::c4::c5::c6::c7::c8::c9::ca::cb::cc::cd::ce::cf::cg::ch::ci::cj::ck::cm::cn::co::cq::cr::ct::cu::cv::cw::cx::cy::cz::cB::
   (.int .i64 0)::d3::d4::d5::d6::d7::d8::d9::da::db::de::df::dg::dh::di::dj::dk::dl::dm::dn::dq::dr::dt::du::dv::dw::dx::dy::dz::dA::dC::
   dD::dE::dF::dG::dH::dI::dJ::dK::dL::dM::dN::dO::dP::dQ::dR::dS::dT::dU::b4::[]),[]⟩ w:=by
 conv=>arg 2;arg 1;whnf
 have hH:=hide h;have M:=hide hr;have cF:=hide h3;have cG:=hide h5;have cH:=hide h7;have cL:=hide hE;have cQ:=hide hL;clear h hr h3 h5 h7 hE hL;go_loopw [100] (fun ii wr=>∃(i:Nat) (S':List (Nme×Nat)),ii=.int .i64 (i:Int)/\i<=2/\Hid (DrS w0 wr gd gm (Sa d f t left right i) (n+400*i) ls S')/\Hid (∀p∈S,p∈S')/\Hid ((Sa d f t left right i).L=L)) (fun ii _=>2 - (intOf ii).toNat)
 case atStart=>exact⟨0,S,rfl,Nat.zero_le _,hH,fun p E=>E,cQ⟩
 case round=>
  obtain⟨r,S',rfl,hi,hD,hS,cX⟩:=hrel;by_cases eV:r<2
  ·obtain⟨w1,d2,ax,eT⟩:=hD.out.pushE 3 #[.int .i64 (r:Int)];have cR:=(ax.out.blk List.mem_cons_self).cell;have O:=hide (List.mem_cons_of_mem (wr.heap.size,3,#[.int .i64 (r:Int)]) cF.out);have I:=hide (List.mem_cons_of_mem (wr.heap.size,3,#[.int .i64 (r:Int)]) cG.out);have m7:=hide (List.mem_cons_of_mem (wr.heap.size,3,#[.int .i64 (r:Int)]) cH.out);clear cR;go_wp2_with fail;refine aAe (g11:=wr.heap.size) ax.out cX.out ah M.out O.out I.out List.mem_cons_self (by omega) ?_ ?_
   ·repeat (first|exact hN|refine Reg.NoQ.then ?_|refine Reg.NoQ.inBlock ?_)
   iterate 13 (intro _)
   intro w3 S3 a8 ak aF;have cJ:=hide a8;have cO:=hide aF;have aD:=hide (ak _ (hS.out _ cL.out));have aG:=hide (fun p E=>ak p (hS.out p E));have a3:=(a8.blk I.out).cell;have aa:=(a8.blk List.mem_cons_self).cell;clear a8 ak aF d2;go_wp2_with fail;refine Calls.ret (cJ.out.state (2,r,0) (m:=2) (.inr (.inl ⟨rfl,rfl⟩)) (by omega) rfl) ?_;rintro v w4 ⟨J,rfl,az⟩;have U:=az.keep (Ap w4);have cW:=hide U;clear a3 aa;have a3:=(U.blk I.out).cell;have aa:=(U.blk List.mem_cons_self).cell;have cT:=((U.blk O.out).cell 2).trans M.out.fr;have cU:=((U.blk O.out).cell 3).trans M.out.tt;have ab:=U.push 3 #[.int .i64 1,.int .i64 1,.int .i64 (r:Int)];have q5:=(ab.blk (List.mem_cons_of_mem _ I.out)).cell 0;have aV:=((ab.blk (List.mem_cons_of_mem _ O.out)).cell 2).trans M.out.fr;have aW:=((ab.blk (List.mem_cons_of_mem _ O.out)).cell 3).trans M.out.tt;clear az U ab;go_wp2_with fail;refine Reg.cC [0,0,0,4,14,0,32,0,128,0,1023] [0,1,2,5,6,7,8,9,3,4,10] ?_ (by kernel_rfl) (by repeat (first|exact hN|refine Reg.NoQ.then ?_|refine Reg.NoQ.inBlock ?_));refine Reg.rest_walk' [0,1,2,5,6,7,8,9,3] [4,10] rfl (by kernel_rfl) ?_;intro Qf C;go_wp2_with fail;first|refine C _ _ ?_|skip
   (try clear C);refine Reg.rest_act' 4 [10] [0,6,8] rfl (by kernel_rfl) ?_;intro Qf C;try simp only [gT,gS,gZ]
   go_wp2_with fail;refine Calls.ret (cW.out.state (1,1,r) (m:=3) (.inr (.inr rfl)) (by omega) rfl) ?_;rintro v w5 ⟨a6,rfl,V⟩;have p5:=(V.blk I.out).cell 0;have aT:=((V.blk O.out).cell 2).trans M.out.fr;have aU:=((V.blk O.out).cell 3).trans M.out.tt;have cK:=hide V;clear V;go_wp2_with fail;first|refine C _ _ ⟨?_,?_⟩|refine⟨?_,?_⟩
   ·intro z hz q G;simp only [List.mem_cons,List.not_mem_nil,or_false] at hz;rcases hz with rfl|rfl|rfl
    ·injection G with G
     subst G;exact Reg.same_load1 rfl rfl (q5) (p5) Tryz.underlying128 rfl
    ·injection G with G
     subst G;exact Reg.same_load1 rfl rfl (aV) (aT) Tryz.underlying3 rfl
    ·injection G with G
     subst G;exact Reg.same_load1 rfl rfl (aW) (aU) Tryz.underlying3 rfl
   (try clear C);refine Reg.rest_act' 10 [] [] rfl (by kernel_rfl) ?_;intro Qf C;try simp only [gT,gS,gZ]
   go_wp2_with fail;refine Calls.ret (cK.out.move (a:=(1,1,r)) (b:=(2,r,0)) (ea:=a6) (eb:=J) (by simp) (by simp) (by omega)) ?_;rintro v w6 ⟨rfl,aA⟩;have W:Hid (DrS w0 w6 gd gm (rnM (Sa d f t left right r) f t left r) (n+400*r+245) ((wr.heap.size,3,#[.int .i64 (r:Int)])::ls) (((1,1,r),a6)::((2,r,0),J)::S3)):=hide (aA.big (by omega));have a9:=hide (Drw.ringM_L (f:=f) (t:=t) cO.out);clear aA a3 aa cT cU q5 aV aW p5 aT aU;have aa:=(W.out.blk List.mem_cons_self).cell;go_wp2_with fail;first|refine C _ _ ⟨Reg.nm,?_⟩|refine⟨Reg.nm,?_⟩
   (try clear C);first|refine Reg.rest_end ?_|skip
   by_cases al:r=1
   ·have d1:((r:Int)==1)=true:=by simp [al]
    have a3:=(W.out.blk I.out).cell;go_wp2_with fail;have a4:=W.out.keep (Ap w6);have cY:=(a4.blk I.out).cell;obtain⟨AA,mA,cA,⟨f0,eY,av⟩,eW,ys,aN,aL⟩:=a4.app (a:=(2,r,0)) (e:=J) (by simp) (by omega);have cV:=av.cell;have aQ:=a4.below.size;have q5:=(((a4.push 3 #[.int .i64 (J:Int)]).blk (List.mem_cons_of_mem _ I.out)).cell 0);have aM:=hide aL;clear a4 aL av;go_wp2_with fail;refine Reg.cC [0,0,2,6,14,30,0,64,254,511,1023,2047,4095] [0,1,2,3,4,5,6,7,8,9,10,11,12] ?_ (by kernel_rfl) (by repeat (first|exact hN|refine Reg.NoQ.then ?_|refine Reg.NoQ.inBlock ?_));refine Reg.rest_walk' [0,1,2,3,4,5,6,7] [8,9,10,11,12] rfl (by kernel_rfl) ?_;intro Qf C;go_wp2_with fail;first|refine C _ _ ?_|skip
    (try clear C);refine Reg.rest_act' 8 [9,10,11,12] [0] rfl (by kernel_rfl) ?_;intro Qf C;try simp only [gT,gS,gZ]
    refine BP (w:=w6.drew) C9 rfl _ _ rfl w0.heap.size (.slice AA mA cA) mA _ rfl aN [.int .i64 (J:Int)] 1 rfl rfl (by simp [Value.oneCell']) (by omega) aQ ?_;intro g cap wa aO hk aK hg;obtain⟨⟨f1,eZ,a7⟩,aJ,ay⟩:=aM.out g cap wa aO hk aK;have p5:=(aJ _ I.out).cell 0;have aB:=hide ay;have cS:=a7.cell;have cZ:=a7.frozen 3;have d0:=a7.lt;clear aO hk aK a7 aJ ay aN;first|refine C _ _ ⟨?_,?_⟩|refine⟨?_,?_⟩
    ·intro z hz q G;simp only [List.mem_cons,List.not_mem_nil,or_false] at hz;subst hz;injection G with G
     subst G;exact Reg.same_load1 rfl rfl (q5) (p5) Tryz.underlying128 rfl
    (try clear C);refine Reg.rest_walk' [9,10,11] [12] rfl (by kernel_rfl) ?_;intro Qf C;go_wp2_with fail;first|refine C _ _ ?_|skip
    (try clear C);refine Reg.rest_act' 12 [] [] rfl (by kernel_rfl) ?_;intro Qf C;try simp only [gT,gS,gZ]
    go_wp2_with fail;first|refine C _ _ ⟨Reg.nm,?_⟩|refine⟨Reg.nm,?_⟩
    (try clear C);first|refine Reg.rest_end ?_|skip
    clear cY cV aQ aM cS cZ d0;have eR:=(aB.out.blk I.out).cell;go_wp2_with fail;refine Calls.ret (aB.out.keep_ (L:=L) (F:=113) (caps:=[.pointer (some ⟨g3,0,none⟩),.pointer (some ⟨g7,0,none⟩)]) (κ:=B4 right) (f:=(2,r,0)) (ef:=J) (S0:=[((5,0,0),e7)]) (by rw [Drw.acc_L];exact a9.out) ah (by simp) (fun p E=>by rw [List.mem_singleton.1 E];exact List.mem_cons_of_mem _ (List.mem_cons_of_mem _ aD.out)) (fun _ _=>XA M.out O.out m7.out) (.inr (.inl ⟨_,_,rfl,by simp⟩)) (by omega)) ?_;rintro v w8 ⟨rfl,Z⟩;have hR:Hid (Sa d f t left right (r+1)=((rnM (Sa d f t left right r) f t left r).acc (2,r,0)).kp (2,r,0) (B4 right)):=by show La _ _ _ _ _ _=_;unfold La;rw [if_pos al]
    have ag:Hid (DrS w0 w8 gd gm (Sa d f t left right (r+1)) (n+400*(r+1)) ls (((1,1,r),a6)::((2,r,0),J)::S3)):=by
     show DrS _ _ _ _ _ _ _ _
     rw [hR.out];exact(Z.sub (fun x hx=>List.mem_cons_of_mem _ hx) (fun p E=>E)).big (by omega)
    have ai:Hid ((Sa d f t left right (r+1)).L=L):=by
     show _=_
     rw [hR.out,Drw.kp_L];exact a9.out
    clear Z;go_wp2_with fail;exact⟨⟨r+1,_,by go_num,by omega,ag,fun p E=>List.mem_cons_of_mem _ (List.mem_cons_of_mem _ (aG.out p E)),ai⟩,by simp [intOf];omega⟩
   ·have d1:((r:Int)==1)=false:=by simp;omega
    have a3:=(W.out.blk I.out).cell;go_wp2_with fail;refine Calls.ret (W.out.keep_ (L:=L) (F:=113) (caps:=[.pointer (some ⟨g3,0,none⟩),.pointer (some ⟨g7,0,none⟩)]) (κ:=B4 right) (f:=(2,r,0)) (ef:=J) (S0:=[((5,0,0),e7)]) a9.out ah (by simp) (fun p E=>by rw [List.mem_singleton.1 E];exact List.mem_cons_of_mem _ (List.mem_cons_of_mem _ aD.out)) (fun _ _=>XA M.out O.out m7.out) (.inr (.inl ⟨_,_,rfl,by simp⟩)) (by omega)) ?_;rintro v w8 ⟨rfl,Z⟩;have hR:Hid (Sa d f t left right (r+1)=(rnM (Sa d f t left right r) f t left r).kp (2,r,0) (B4 right)):=by show La _ _ _ _ _ _=_;unfold La;rw [if_neg al]
    have ag:Hid (DrS w0 w8 gd gm (Sa d f t left right (r+1)) (n+400*(r+1)) ls (((1,1,r),a6)::((2,r,0),J)::S3)):=by
     show DrS _ _ _ _ _ _ _ _
     rw [hR.out];exact(Z.sub (fun x hx=>List.mem_cons_of_mem _ hx) (fun p E=>E)).big (by omega)
    have ai:Hid ((Sa d f t left right (r+1)).L=L):=by
     show _=_
     rw [hR.out,Drw.kp_L];exact a9.out
    clear Z;go_wp2_with fail;exact⟨⟨r+1,_,by go_num,by omega,ag,fun p E=>List.mem_cons_of_mem _ (List.mem_cons_of_mem _ (aG.out p E)),ai⟩,by simp [intOf];omega⟩
  ·obtain rfl:r=2:=by omega
   go_wp2_with fail;exact hQ _ _ _ _ _ _ _ _ _ _ _ _ _ _ _ _ _ _ _ _ _ _ _ _ _ _ _ _ _ _ _ _ _ _ _ _ _ _ _ _ _ _ _ _ _ _ _ _ _ _ _ _ _ S' hD.out
end Go.Proofs.YtjejejmeddkciaaGreatDoor
