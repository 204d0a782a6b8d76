/-
  Part TB of a proof.
-/
import Derived.Test.YtfcfpoemojjglaaGreatDoorPA
import Derived.Test.YtfcfpoemojjglaaGreatDoorTA
import Derived.Test.YtfcfpoemojjglaaGreatDoorPE
set_option maxHeartbeats 16000000
set_option maxRecDepth 100000
set_option linter.unusedVariables false
set_option linter.unusedSimpArgs false
namespace Go.Proofs.YtfcfpoemojjglaaGreatDoor
open Go.RowKit
attribute [-go_sem] loadCellsFrom
set_option maxHeartbeats 16000000
set_option maxRecDepth 100000
theorem XS {w0 w:World} {gd L n g3 g7:Nat} {ls:Lst} {rc:Array Value} {left right:List Int} {f t e3 e4 e5 ed:Int} (h:MkS w0 w gd L n ls) (hL:L≤60) (hr:K4 w0 rc f t left right) (m3:(g3,99,rc)∈ls) (W:(g7,3,#[.int .i64 e4,.int .i64 e5])∈ls) (hn:n≤100000)
  {u1 u2 u5 aj am az aL aW bb bm bx bJ bU c5 c6 c7 c8 c9 ca cb cc cd ce cf cg ch ci cj ck cl cm cn co cp cq cr ct cu cv cw cx cy cz cZ d0 d1 d2 d3 d4 d5 d6 d7 d9 da db dc de u64 df dg dh di dj dk dl dm dn dp dq dr dt du dv dw dx dy dz dA dB dC dD dE dF dG dH dI dJ dK dL dM dN dO dP cQ cS cT cU cV cW cX cY ak al an ao ap aq ar au av aw ax ay aA aB aC aD aE aF aG aH aJ aK aM aN aO aP aQ aR aS aT aU aV aX aY aZ b4 b5 b6 b7 b8 b9 ba bc bd be bf bg bh bi bj bk bl bn bo bp bq br bs bt bu bv bw bz bA bB bC bD bE bF bG bH bI bK bL bM bN bO bP bQ bR bS bT bV bW bX bY bZ c0:Value}
  {Q:Exit→Act→World→Prop} (hN:Reg.NoQ Q)
  (hQ:∀(x9 e1 e2 e6 e7 e8 e9 ea eb ec ee ef eg eh ei ej ek el em en eo ep eq er et eu ew ex ey ez eA eB eC eD eE eF eG eH eI eJ eK eM eN eO eP eQ eR eS eT eU eV dT dU dV dW dX dY dZ e0:Value) (w':World),MkS w0 w' gd L (n+4*L) ls→Q (.exit 0) ⟨List.toArray ((.pointer (some ⟨gd,0,none⟩))::u1::u2::(.pointer (some ⟨g3,0,none⟩))::(.int .i64 (L:Int))::u5::(.int .i64 e3)::(.slice (some ⟨g7,0,none⟩) 2 2)::(.int .i64 ed)::x9::aj::am::az::aL::aW::bb::bm::bx::bJ::bU::
   c5::c6::c7::c8::c9::ca::cb::cc::cd::ce::cf::cg::ch::ci::cj::ck::cl::cm::cn::co::cp::cq::cr::ct::cu::cv::cw::cx::cy::cz::e1::e2::e6::e7::e8::e9::ea::
   eb::ec::ee::ef::eg::eh::ei::ej::ek::el::em::en::eo::ep::eq::er::et::eu::ew::ex::ey::ez::eA::eB::eC::eD::eE::eF::eG::eH::eI::eJ::eK::eM::eN::eO::eP::
   eQ::eR::eS::eT::eU::eV::dT::dU::dV::dW::dX::dY::dZ::e0::ak::al::an::ao::ap::aq::ar::au::av::aw::ax::ay::aA::aB::aC::aD::aE::aF::aG::
   aH::aJ::aK::aM::aN::aO::aP::aQ::aR::aS::aT::aU::aV::aX::aY::aZ::b4::b5::b6::b7::b8::b9::ba::bc::bd::be::bf::bg::bh::bi::bj::bk::bl::
   bn::bo::bp::bq::br::bs::bt::bu::bv::bw::bz::bA::bB::bC::bD::bE::bF::bG::bH::bI::bK::bL::bM::bN::bO::bP::bQ::bR::bS::bT::bV::bW::bX::
   bY::bZ::c0::[]),[]⟩ w'):
  (Code.loop (CG Tryz.f159 0)).wp Tryz.prog Q ⟨List.toArray ((.pointer (some ⟨gd,0,none⟩))::u1::u2::(.pointer (some ⟨g3,0,none⟩))::(.int .i64 (L:Int))::u5::(.int .i64 e3)::(.slice (some ⟨g7,0,none⟩) 2 2)::(.int .i64 ed)::(.int .i64 0)::aj::am::az::aL::aW::bb::bm::bx::
   bJ::bU::c5::c6::c7::c8::c9::ca::cb::cc::cd::ce::cf::cg::ch::ci::cj::ck::cl::cm::cn::co::cp::cq::cr::ct::cu::cv::cw::cx::cy::cz::cZ::d0::d1::d2::d3::
   d4::d5::d6::d7::d9::da::db::dc::de::u64::df::dg::dh::di::dj::dk::dl::dm::dn::dp::dq::dr::dt::du::dv::dw::dx::dy::dz::dA::dB::dC::dD::dE::dF::dG::dH::
   dI::dJ::dK::dL::dM::dN::dO::dP::cQ::cS::cT::cU::cV::cW::cX::cY::ak::al::an::ao::ap::aq::ar::au::av::aw::ax::ay::aA::aB::aC::aD::aE::aF::
   aG::aH::aJ::aK::aM::aN::aO::aP::aQ::aR::aS::aT::aU::aV::aX::aY::aZ::b4::b5::b6::b7::b8::b9::ba::bc::bd::be::bf::bg::bh::bi::bj::bk::
   bl::bn::bo::bp::bq::br::bs::bt::bu::bv::bw::bz::bA::bB::bC::bD::bE::bF::bG::bH::bI::bK::bL::bM::bN::bO::bP::bQ::bR::bS::bT::bV::bW::
   bX::bY::bZ::c0::[]),[]⟩ w:=by
 conv=>arg 2; arg 1; whnf
 obtain⟨r2,r3,⟨AL,cL,a6,sL⟩,⟨AR,cR,cO,sR⟩⟩:=hr
 have a5:Hid (∀Z (x:Int),Below w0.heap.size w0 Z→Calls Tryz.prog 197 #[.slice AL left.length cL,.int .i64 x] Z fun e w'=>(∃b,e=.returned (.bool b))∧Z=w'):=hide fun Z x hb=>WE x (sL.below hb)
 have cK:Hid (∀Z (x:Int),Below w0.heap.size w0 Z→Calls Tryz.prog 197 #[.slice AR right.length cR,.int .i64 x] Z fun e w'=>(∃b,e=.returned (.bool b))∧Z=w'):=hide fun Z x hb=>WE x (sR.below hb)
 have f2:=sL.1
 have f3:=sR.1
 generalize left.length=nl at*
 generalize right.length=nr at*
 have hH:=hide h
 have cJ:=hide hQ
 clear sL sR h hQ
 go_loopw [9] (fun ii wr=>∃(x:Nat),ii=.int .i64 (x:Int)∧x≤L∧Hid (MkS w0 wr gd L (n+4*x) ls)) (fun ii _=>L - (intOf ii).toNat)
 case atStart=>exact⟨0,rfl,Nat.zero_le _,hH⟩
 case round=>
  obtain⟨x,rfl,hx,hD⟩:=hrel
  by_cases eZ:x<L
  ·have eW:=((hD.out.blk m3).cell 14).trans a6
   have eX:=((hD.out.blk m3).cell 15).trans cO
   go_wp2_with fail
   refine Calls.mono (cK.out _ _ hD.out.below) ?_
   rintro e U ⟨⟨b0,rfl⟩,rfl⟩
   obtain⟨n1,f1⟩:∃k,k=n+4*x+1:=⟨_,rfl⟩
   cases b0
   ·have D2:=hide (hD.out.big (m:=n1) (by omega))
    go_wp2_with fail
    have E:=hide (D2.out.keep (Ap _))
    have a3:=((E.out.blk m3).cell 14).trans a6
    have F:=(E.out.blk W).cell 0
    refine Reg.cC [0,0,2,6,0,0,0,0,128,0,896,1920,4032,8128,16383] [0,1,2,3,4,5,6,7,8,9,10,11,12,13,14] ?_ (by kernel_rfl) (by repeat (first | exact hN | refine Reg.NoQ.then ?_ | refine Reg.NoQ.inBlock ?_))
    refine Reg.rest_walk' [0,1,2,3,4,5,6,7,8,9] [10,11,12,13,14] rfl (by kernel_rfl) ?_
    intro Qf y
    go_wp2_with fail
    first | refine y _ _ ?_ | skip
    try clear y
    refine Reg.rest_act' 10 [11,12,13,14] [3] rfl (by kernel_rfl) ?_
    intro Qf y
    try simp only [gT,gS,gZ]
    go_wp2_with fail
    refine Calls.mono (a5.out _ _ E.out.below) ?_
    rintro e U ⟨⟨b,rfl⟩,rfl⟩
    go_wp2_with fail
    first | refine y _ _ ⟨?_,?_⟩ | refine⟨?_,?_⟩
    ·intro z G q C
     simp only [List.mem_cons,List.not_mem_nil,or_false] at G
     subst G
     injection C with C
     subst C
     exact Reg.same_load1 rfl rfl (F) (F) Tryz.underlying3 rfl
    try clear y
    refine Reg.rest_act' 11 [12,13,14] [3] rfl (by kernel_rfl) ?_
    intro Qf y
    try simp only [gT,gS,gZ]
    go_wp2_with fail
    refine Calls.mono (Wm b _) ?_
    rintro e U ⟨rfl,rfl⟩
    obtain⟨q,O,C⟩:∃q,Ab b=q∧q<2:=⟨_,rfl,by cases b <;> decide⟩
    rw [O]
    clear O
    obtain⟨J,M⟩:∃J,(#[Value.int .i64 e4,.int .i64 e5]:Array Value)[q]?=some (.int .i64 J):=by match q,C with | 0,_=>exact⟨_,rfl⟩ | 1,_=>exact⟨_,rfl⟩
    have V:=((E.out.blk W).cell q).trans M
    go_wp2_with fail
    first | refine y _ _ ⟨?_,?_⟩ | refine⟨?_,?_⟩
    ·intro z G q C
     simp only [List.mem_cons,List.not_mem_nil,or_false] at G
     subst G
     injection C with C
     subst C
     exact Reg.same_load1 rfl rfl (F) (F) Tryz.underlying3 rfl
    try clear y
    refine Reg.rest_walk' [12,13] [14] rfl (by kernel_rfl) ?_
    intro Qf y
    go_wp2_with fail
    first | refine y _ _ ?_ | skip
    try clear y
    refine Reg.rest_act' 14 [] [] rfl (by kernel_rfl) ?_
    intro Qf y
    try simp only [gT,gS,gZ]
    go_wp2_with fail
    refine Calls.ret (E.out.move (by omega)) ?_
    rintro v w3 ⟨rfl,I⟩
    have D3:=hide I
    clear I
    go_wp2_with fail
    first | refine y _ _ ⟨Reg.nm,?_⟩ | refine⟨Reg.nm,?_⟩
    try clear y
    first | refine Reg.rest_end ?_ | skip
    clear E a3 F V M C
    go_wp2_with fail
    have E:=hide (D3.out.keep (Ap _))
    have a3:=((E.out.blk m3).cell 14).trans a6
    have F:=(E.out.blk W).cell 1
    refine Reg.cC [0,0,2,6,0,0,0,0,128,0,896,1920,4032,8128,16383] [0,1,2,3,4,5,6,7,8,9,10,11,12,13,14] ?_ (by kernel_rfl) (by repeat (first | exact hN | refine Reg.NoQ.then ?_ | refine Reg.NoQ.inBlock ?_))
    refine Reg.rest_walk' [0,1,2,3,4,5,6,7,8,9] [10,11,12,13,14] rfl (by kernel_rfl) ?_
    intro Qf y
    go_wp2_with fail
    first | refine y _ _ ?_ | skip
    try clear y
    refine Reg.rest_act' 10 [11,12,13,14] [3] rfl (by kernel_rfl) ?_
    intro Qf y
    try simp only [gT,gS,gZ]
    go_wp2_with fail
    refine Calls.mono (a5.out _ _ E.out.below) ?_
    rintro e U ⟨⟨b,rfl⟩,rfl⟩
    go_wp2_with fail
    first | refine y _ _ ⟨?_,?_⟩ | refine⟨?_,?_⟩
    ·intro z G q C
     simp only [List.mem_cons,List.not_mem_nil,or_false] at G
     subst G
     injection C with C
     subst C
     exact Reg.same_load1 rfl rfl (F) (F) Tryz.underlying3 rfl
    try clear y
    refine Reg.rest_act' 11 [12,13,14] [3] rfl (by kernel_rfl) ?_
    intro Qf y
    try simp only [gT,gS,gZ]
    go_wp2_with fail
    refine Calls.mono (Wm b _) ?_
    rintro e U ⟨rfl,rfl⟩
    obtain⟨q,O,C⟩:∃q,Ab b=q∧q<2:=⟨_,rfl,by cases b <;> decide⟩
    rw [O]
    clear O
    obtain⟨J,M⟩:∃J,(#[Value.int .i64 e4,.int .i64 e5]:Array Value)[q]?=some (.int .i64 J):=by match q,C with | 0,_=>exact⟨_,rfl⟩ | 1,_=>exact⟨_,rfl⟩
    have V:=((E.out.blk W).cell q).trans M
    go_wp2_with fail
    first | refine y _ _ ⟨?_,?_⟩ | refine⟨?_,?_⟩
    ·intro z G q C
     simp only [List.mem_cons,List.not_mem_nil,or_false] at G
     subst G
     injection C with C
     subst C
     exact Reg.same_load1 rfl rfl (F) (F) Tryz.underlying3 rfl
    try clear y
    refine Reg.rest_walk' [12,13] [14] rfl (by kernel_rfl) ?_
    intro Qf y
    go_wp2_with fail
    first | refine y _ _ ?_ | skip
    try clear y
    refine Reg.rest_act' 14 [] [] rfl (by kernel_rfl) ?_
    intro Qf y
    try simp only [gT,gS,gZ]
    go_wp2_with fail
    refine Calls.ret (E.out.move (by omega)) ?_
    rintro v w4 ⟨rfl,I⟩
    have D4:=hide I
    clear I
    go_wp2_with fail
    first | refine y _ _ ⟨Reg.nm,?_⟩ | refine⟨Reg.nm,?_⟩
    try clear y
    first | refine Reg.rest_end ?_ | skip
    clear E a3 F V M C
    go_wp2_with fail
    refine Calls.ret (D4.out.move (by omega)) ?_
    rintro v w5 ⟨rfl,I⟩
    have D5:=hide I
    clear I
    go_wp2_with fail
    exact⟨⟨x+1,by go_num,by omega,hide (D5.out.big (by omega))⟩,by simp [intOf]; omega⟩
   ·go_wp2_with fail
    refine Calls.mono (a5.out _ _ hD.out.below) ?_
    rintro e U ⟨⟨b,rfl⟩,rfl⟩
    go_wp2_with fail
    refine Calls.mono (Wm b _) ?_
    rintro e U ⟨rfl,rfl⟩
    obtain⟨q,O,C⟩:∃q,Ab b=q∧q<2:=⟨_,rfl,by cases b <;> decide⟩
    rw [O]
    clear O
    obtain⟨J,M⟩:∃J,(#[Value.int .i64 e4,.int .i64 e5]:Array Value)[q]?=some (.int .i64 J):=by match q,C with | 0,_=>exact⟨_,rfl⟩ | 1,_=>exact⟨_,rfl⟩
    have V:=((hD.out.blk W).cell q).trans M
    go_wp2_with fail
    refine Calls.ret (hD.out.move (by omega)) ?_
    rintro v w2 ⟨rfl,I⟩
    have D2:=hide (I.big (m:=n1) (by omega))
    clear I V M C
    go_wp2_with fail
    have E:=hide (D2.out.keep (Ap _))
    have a3:=((E.out.blk m3).cell 14).trans a6
    have F:=(E.out.blk W).cell 0
    refine Reg.cC [0,0,2,6,0,0,0,0,128,0,896,1920,4032,8128,16383] [0,1,2,3,4,5,6,7,8,9,10,11,12,13,14] ?_ (by kernel_rfl) (by repeat (first | exact hN | refine Reg.NoQ.then ?_ | refine Reg.NoQ.inBlock ?_))
    refine Reg.rest_walk' [0,1,2,3,4,5,6,7,8,9] [10,11,12,13,14] rfl (by kernel_rfl) ?_
    intro Qf y
    go_wp2_with fail
    first | refine y _ _ ?_ | skip
    try clear y
    refine Reg.rest_act' 10 [11,12,13,14] [3] rfl (by kernel_rfl) ?_
    intro Qf y
    try simp only [gT,gS,gZ]
    go_wp2_with fail
    refine Calls.mono (a5.out _ _ E.out.below) ?_
    rintro e U ⟨⟨b,rfl⟩,rfl⟩
    go_wp2_with fail
    first | refine y _ _ ⟨?_,?_⟩ | refine⟨?_,?_⟩
    ·intro z G q C
     simp only [List.mem_cons,List.not_mem_nil,or_false] at G
     subst G
     injection C with C
     subst C
     exact Reg.same_load1 rfl rfl (F) (F) Tryz.underlying3 rfl
    try clear y
    refine Reg.rest_act' 11 [12,13,14] [3] rfl (by kernel_rfl) ?_
    intro Qf y
    try simp only [gT,gS,gZ]
    go_wp2_with fail
    refine Calls.mono (Wm b _) ?_
    rintro e U ⟨rfl,rfl⟩
    obtain⟨q,O,C⟩:∃q,Ab b=q∧q<2:=⟨_,rfl,by cases b <;> decide⟩
    rw [O]
    clear O
    obtain⟨J,M⟩:∃J,(#[Value.int .i64 e4,.int .i64 e5]:Array Value)[q]?=some (.int .i64 J):=by match q,C with | 0,_=>exact⟨_,rfl⟩ | 1,_=>exact⟨_,rfl⟩
    have V:=((E.out.blk W).cell q).trans M
    go_wp2_with fail
    first | refine y _ _ ⟨?_,?_⟩ | refine⟨?_,?_⟩
    ·intro z G q C
     simp only [List.mem_cons,List.not_mem_nil,or_false] at G
     subst G
     injection C with C
     subst C
     exact Reg.same_load1 rfl rfl (F) (F) Tryz.underlying3 rfl
    try clear y
    refine Reg.rest_walk' [12,13] [14] rfl (by kernel_rfl) ?_
    intro Qf y
    go_wp2_with fail
    first | refine y _ _ ?_ | skip
    try clear y
    refine Reg.rest_act' 14 [] [] rfl (by kernel_rfl) ?_
    intro Qf y
    try simp only [gT,gS,gZ]
    go_wp2_with fail
    refine Calls.ret (E.out.move (by omega)) ?_
    rintro v w3 ⟨rfl,I⟩
    have D3:=hide I
    clear I
    go_wp2_with fail
    first | refine y _ _ ⟨Reg.nm,?_⟩ | refine⟨Reg.nm,?_⟩
    try clear y
    first | refine Reg.rest_end ?_ | skip
    clear E a3 F V M C
    go_wp2_with fail
    have E:=hide (D3.out.keep (Ap _))
    have a3:=((E.out.blk m3).cell 14).trans a6
    have F:=(E.out.blk W).cell 1
    refine Reg.cC [0,0,2,6,0,0,0,0,128,0,896,1920,4032,8128,16383] [0,1,2,3,4,5,6,7,8,9,10,11,12,13,14] ?_ (by kernel_rfl) (by repeat (first | exact hN | refine Reg.NoQ.then ?_ | refine Reg.NoQ.inBlock ?_))
    refine Reg.rest_walk' [0,1,2,3,4,5,6,7,8,9] [10,11,12,13,14] rfl (by kernel_rfl) ?_
    intro Qf y
    go_wp2_with fail
    first | refine y _ _ ?_ | skip
    try clear y
    refine Reg.rest_act' 10 [11,12,13,14] [3] rfl (by kernel_rfl) ?_
    intro Qf y
    try simp only [gT,gS,gZ]
    go_wp2_with fail
    refine Calls.mono (a5.out _ _ E.out.below) ?_
    rintro e U ⟨⟨b,rfl⟩,rfl⟩
    go_wp2_with fail
    first | refine y _ _ ⟨?_,?_⟩ | refine⟨?_,?_⟩
    ·intro z G q C
     simp only [List.mem_cons,List.not_mem_nil,or_false] at G
     subst G
     injection C with C
     subst C
     exact Reg.same_load1 rfl rfl (F) (F) Tryz.underlying3 rfl
    try clear y
    refine Reg.rest_act' 11 [12,13,14] [3] rfl (by kernel_rfl) ?_
    intro Qf y
    try simp only [gT,gS,gZ]
    go_wp2_with fail
    refine Calls.mono (Wm b _) ?_
    rintro e U ⟨rfl,rfl⟩
    obtain⟨q,O,C⟩:∃q,Ab b=q∧q<2:=⟨_,rfl,by cases b <;> decide⟩
    rw [O]
    clear O
    obtain⟨J,M⟩:∃J,(#[Value.int .i64 e4,.int .i64 e5]:Array Value)[q]?=some (.int .i64 J):=by match q,C with | 0,_=>exact⟨_,rfl⟩ | 1,_=>exact⟨_,rfl⟩
    have V:=((E.out.blk W).cell q).trans M
    go_wp2_with fail
    first | refine y _ _ ⟨?_,?_⟩ | refine⟨?_,?_⟩
    ·intro z G q C
     simp only [List.mem_cons,List.not_mem_nil,or_false] at G
     subst G
     injection C with C
     subst C
     exact Reg.same_load1 rfl rfl (F) (F) Tryz.underlying3 rfl
    try clear y
    refine Reg.rest_walk' [12,13] [14] rfl (by kernel_rfl) ?_
    intro Qf y
    go_wp2_with fail
    first | refine y _ _ ?_ | skip
    try clear y
    refine Reg.rest_act' 14 [] [] rfl (by kernel_rfl) ?_
    intro Qf y
    try simp only [gT,gS,gZ]
    go_wp2_with fail
    refine Calls.ret (E.out.move (by omega)) ?_
    rintro v w4 ⟨rfl,I⟩
    have D4:=hide I
    clear I
    go_wp2_with fail
    first | refine y _ _ ⟨Reg.nm,?_⟩ | refine⟨Reg.nm,?_⟩
    try clear y
    first | refine Reg.rest_end ?_ | skip
    clear E a3 F V M C
    go_wp2_with fail
    refine Calls.ret (D4.out.move (by omega)) ?_
    rintro v w5 ⟨rfl,I⟩
    have D5:=hide I
    clear I
    go_wp2_with fail
    exact⟨⟨x+1,by go_num,by omega,hide (D5.out.big (by omega))⟩,by simp [intOf]; omega⟩
  ·obtain rfl:x=L:=by omega
   go_wp2_with fail
   exact cJ.out _ _ _ _ _ _ _ _ _ _ _ _ _ _ _ _ _ _ _ _ _ _ _ _ _ _ _ _ _ _ _ _ _ _ _ _ _ _ _ _ _ _ _ _ _ _ _ _ _ _ _ _ _ _ _ _ _ _ _ _ hD.out
theorem ZV {w0 w:World} {gd L n g3 g11:Nat} {ls:Lst} {rc:Array Value} {left right:List Int} {f t e2 e4 e5 ed ef fq:Int} (h:MkS w0 w gd L n ls) (hL:L≤60) (hr:K4 w0 rc f t left right) (m3:(g3,99,rc)∈ls) (Z:(g11,3,#[.int .i64 e4,.int .i64 e5])∈ls) (hn:n≤100000)
  {u1 u2 u6 u7 u9 aM aN aO aP aQ aV b7 b8 b9 ba bb bc bd be bf bg bh bi bj bk bl bm bn bo bp bq br bs bt bu bv bw bx bz bA bB bC bD bE bF bG bH bI bJ bK bL bN bO bP bQ u64 bR bS bT bU bV bX bY bZ c0 c4 c5 c6 c7 c8 c9 ca cb cc cd ce cf cg ch ci cj cl cm cn co cp cq cr ct cu cv ao ap aq ar au av aw ax ay az aA aB aC aD aE aF aG aH aJ aK aL cF cG cH cJ cK cM cO cQ cS cT cU cV cW cX cY cZ d0 d1 d2 d3 d4 d5 d6 d7 d9 da db dc de df dg dh di dj dk dl dm dn dp dq dr dt du dv dw dx dy dz dA dB dC dD dE dF dG dH dI dJ dK dL dM dN dO dP dQ aR aS aT aU aW aX aY aZ b4 b5:Value}
  {Q:Exit→Act→World→Prop} (hN:Reg.NoQ Q)
  (hQ:∀(e6 dU dV dW dX dY dZ e0 e1 e3 e7 e8 e9 ea eb ec ee eg eh ei ej ek el em en eo ep eq er et eu ew ex ey ez eA eB eC eD eE eF eG eH eI eJ eK eL eM eN eO eP eQ eR eS eT eU eV eW eX eY eZ f0 f1 f2 f3 f4:Value) (w':World),MkS w0 w' gd L (n+4*L) ls→Q (.exit 4) ⟨List.toArray ((.pointer (some ⟨gd,0,none⟩))::u1::u2::(.pointer (some ⟨g3,0,none⟩))::(.int .i64 (L:Int))::(.int .i64 e2)::u6::u7::(.int .i64 ed)::u9::(.int .i64 fq)::(.slice (some ⟨g11,0,none⟩) 2 2)::(.int .i64 ef)::e6::aM::aN::aO::
   aP::aQ::aV::b7::b8::b9::ba::bb::bc::bd::be::bf::bg::bh::bi::bj::bk::bl::bm::bn::bo::bp::bq::br::bs::bt::bu::bv::bw::bx::bz::bA::bB::bC::bD::bE::bF::
   bG::bH::bI::bJ::bK::bL::bN::bO::bP::bQ::u64::bR::bS::bT::bU::bV::bX::bY::bZ::c0::c4::c5::c6::c7::c8::c9::ca::cb::cc::cd::ce::cf::cg::ch::ci::cj::cl::
   cm::cn::co::cp::cq::cr::ct::cu::cv::ao::ap::aq::ar::au::av::aw::ax::ay::az::aA::aB::aC::aD::aE::aF::aG::aH::aJ::aK::aL::dU::dV::dW::dX::
   dY::dZ::e0::e1::e3::e7::e8::e9::ea::eb::ec::ee::eg::eh::ei::ej::ek::el::em::en::eo::ep::eq::er::et::eu::ew::ex::ey::ez::eA::eB::eC::
   eD::eE::eF::eG::eH::eI::eJ::eK::eL::eM::eN::eO::eP::eQ::eR::eS::eT::eU::eV::eW::eX::eY::eZ::f0::f1::f2::f3::f4::aR::aS::aT::aU::aW::
   aX::aY::aZ::b4::b5::[]),[]⟩ w'):
  (Code.loop (CG Tryz.f159 2)).wp Tryz.prog Q ⟨List.toArray ((.pointer (some ⟨gd,0,none⟩))::u1::u2::(.pointer (some ⟨g3,0,none⟩))::(.int .i64 (L:Int))::(.int .i64 e2)::u6::u7::(.int .i64 ed)::u9::(.int .i64 fq)::(.slice (some ⟨g11,0,none⟩) 2 2)::(.int .i64 ef)::(.int .i64 0)::aM::
   aN::aO::aP::aQ::aV::b7::b8::b9::ba::bb::bc::bd::be::bf::bg::bh::bi::bj::bk::bl::bm::bn::bo::bp::bq::br::bs::bt::bu::bv::bw::bx::bz::bA::bB::bC::bD::
   bE::bF::bG::bH::bI::bJ::bK::bL::bN::bO::bP::bQ::u64::bR::bS::bT::bU::bV::bX::bY::bZ::c0::c4::c5::c6::c7::c8::c9::ca::cb::cc::cd::ce::cf::cg::ch::ci::
   cj::cl::cm::cn::co::cp::cq::cr::ct::cu::cv::ao::ap::aq::ar::au::av::aw::ax::ay::az::aA::aB::aC::aD::aE::aF::aG::aH::aJ::aK::aL::cF::cG::
   cH::cJ::cK::cM::cO::cQ::cS::cT::cU::cV::cW::cX::cY::cZ::d0::d1::d2::d3::d4::d5::d6::d7::d9::da::db::dc::de::df::dg::dh::di::dj::dk::
   dl::dm::dn::dp::dq::dr::dt::du::dv::dw::dx::dy::dz::dA::dB::dC::dD::dE::dF::dG::dH::dI::dJ::dK::dL::dM::dN::dO::dP::dQ::aR::aS::aT::
   aU::aW::aX::aY::aZ::b4::b5::[]),[]⟩ w:=by
 conv=>arg 2; arg 1; whnf
 obtain⟨r2,r3,⟨AL,cL,a9,sL⟩,⟨AR,cR,ai,sR⟩⟩:=hr
 have a8:Hid (∀wx (x:Int),Below w0.heap.size w0 wx→Calls Tryz.prog 197 #[.slice AL left.length cL,.int .i64 x] wx fun e w'=>(∃b,e=.returned (.bool b))∧wx=w'):=hide fun wx x hb=>WE x (sL.below hb)
 have ag:Hid (∀wx (x:Int),Below w0.heap.size w0 wx→Calls Tryz.prog 197 #[.slice AR right.length cR,.int .i64 x] wx fun e w'=>(∃b,e=.returned (.bool b))∧wx=w'):=hide fun wx x hb=>WE x (sR.below hb)
 have fb:=sL.1
 have fc:=sR.1
 generalize left.length=nl at*
 generalize right.length=nr at*
 have hH:=hide h
 have cD:=hide hQ
 clear sL sR h hQ
 go_loopw [13] (fun ii wr=>∃(x:Nat),ii=.int .i64 (x:Int)∧x≤L∧Hid (MkS w0 wr gd L (n+4*x) ls)) (fun ii _=>L - (intOf ii).toNat)
 case atStart=>exact⟨0,rfl,Nat.zero_le _,hH⟩
 case round=>
  obtain⟨x,rfl,hx,hD⟩:=hrel
  by_cases f8:x<L
  ·have f5:=((hD.out.blk m3).cell 14).trans a9
   have f6:=((hD.out.blk m3).cell 15).trans ai
   go_wp2_with fail
   refine Calls.mono (ag.out _ _ hD.out.below) ?_
   rintro e U ⟨⟨b0,rfl⟩,rfl⟩
   go_wp2_with fail
   refine Calls.mono (Wm b0 _) ?_
   rintro e U ⟨rfl,rfl⟩
   obtain⟨n1,fa⟩:∃k,k=n+4*x+1:=⟨_,rfl⟩
   have af:((Ab b0:Int)==fq)=true∨((Ab b0:Int)==fq)=false:=by cases ((Ab b0:Int)==fq) <;> simp
   generalize Ab b0=q0 at*
   rcases af with af | af
   ·go_wp2_with fail
    refine Calls.mono (a8.out _ _ hD.out.below) ?_
    rintro e U ⟨⟨b,rfl⟩,rfl⟩
    go_wp2_with fail
    refine Calls.mono (Wm b _) ?_
    rintro e U ⟨rfl,rfl⟩
    obtain⟨q,O,C⟩:∃q,Ab b=q∧q<2:=⟨_,rfl,by cases b <;> decide⟩
    rw [O]
    clear O
    obtain⟨J,M⟩:∃J,(#[Value.int .i64 e4,.int .i64 e5]:Array Value)[q]?=some (.int .i64 J):=by match q,C with | 0,_=>exact⟨_,rfl⟩ | 1,_=>exact⟨_,rfl⟩
    have W:=((hD.out.blk Z).cell q).trans M
    go_wp2_with fail
    refine Calls.ret (hD.out.move (by omega)) ?_
    rintro v w2 ⟨rfl,I⟩
    have D2:=hide (I.big (m:=n1) (by omega))
    clear I W M C
    go_wp2_with fail
    have E:=hide (D2.out.keep (Ap _))
    have a5:=((E.out.blk m3).cell 14).trans a9
    have F:=(E.out.blk Z).cell 0
    refine Reg.cC [0,0,2,6,0,0,0,0,128,0,896,1920,4032,8128,16383] [0,1,2,3,4,5,6,7,8,9,10,11,12,13,14] ?_ (by kernel_rfl) (by repeat (first | exact hN | refine Reg.NoQ.then ?_ | refine Reg.NoQ.inBlock ?_))
    refine Reg.rest_walk' [0,1,2,3,4,5,6,7,8,9] [10,11,12,13,14] rfl (by kernel_rfl) ?_
    intro Qf y
    go_wp2_with fail
    first | refine y _ _ ?_ | skip
    try clear y
    refine Reg.rest_act' 10 [11,12,13,14] [3] rfl (by kernel_rfl) ?_
    intro Qf y
    try simp only [gT,gS,gZ]
    go_wp2_with fail
    refine Calls.mono (a8.out _ _ E.out.below) ?_
    rintro e U ⟨⟨b,rfl⟩,rfl⟩
    go_wp2_with fail
    first | refine y _ _ ⟨?_,?_⟩ | refine⟨?_,?_⟩
    ·intro z G q C
     simp only [List.mem_cons,List.not_mem_nil,or_false] at G
     subst G
     injection C with C
     subst C
     exact Reg.same_load1 rfl rfl (F) (F) Tryz.underlying3 rfl
    try clear y
    refine Reg.rest_act' 11 [12,13,14] [3] rfl (by kernel_rfl) ?_
    intro Qf y
    try simp only [gT,gS,gZ]
    go_wp2_with fail
    refine Calls.mono (Wm b _) ?_
    rintro e U ⟨rfl,rfl⟩
    obtain⟨q,O,C⟩:∃q,Ab b=q∧q<2:=⟨_,rfl,by cases b <;> decide⟩
    rw [O]
    clear O
    obtain⟨J,M⟩:∃J,(#[Value.int .i64 e4,.int .i64 e5]:Array Value)[q]?=some (.int .i64 J):=by match q,C with | 0,_=>exact⟨_,rfl⟩ | 1,_=>exact⟨_,rfl⟩
    have W:=((E.out.blk Z).cell q).trans M
    go_wp2_with fail
    first | refine y _ _ ⟨?_,?_⟩ | refine⟨?_,?_⟩
    ·intro z G q C
     simp only [List.mem_cons,List.not_mem_nil,or_false] at G
     subst G
     injection C with C
     subst C
     exact Reg.same_load1 rfl rfl (F) (F) Tryz.underlying3 rfl
    try clear y
    refine Reg.rest_walk' [12,13] [14] rfl (by kernel_rfl) ?_
    intro Qf y
    go_wp2_with fail
    first | refine y _ _ ?_ | skip
    try clear y
    refine Reg.rest_act' 14 [] [] rfl (by kernel_rfl) ?_
    intro Qf y
    try simp only [gT,gS,gZ]
    go_wp2_with fail
    refine Calls.ret (E.out.move (by omega)) ?_
    rintro v w3 ⟨rfl,I⟩
    have D3:=hide I
    clear I
    go_wp2_with fail
    first | refine y _ _ ⟨Reg.nm,?_⟩ | refine⟨Reg.nm,?_⟩
    try clear y
    first | refine Reg.rest_end ?_ | skip
    clear E a5 F W M C
    go_wp2_with fail
    have E:=hide (D3.out.keep (Ap _))
    have a5:=((E.out.blk m3).cell 14).trans a9
    have F:=(E.out.blk Z).cell 1
    refine Reg.cC [0,0,2,6,0,0,0,0,128,0,896,1920,4032,8128,16383] [0,1,2,3,4,5,6,7,8,9,10,11,12,13,14] ?_ (by kernel_rfl) (by repeat (first | exact hN | refine Reg.NoQ.then ?_ | refine Reg.NoQ.inBlock ?_))
    refine Reg.rest_walk' [0,1,2,3,4,5,6,7,8,9] [10,11,12,13,14] rfl (by kernel_rfl) ?_
    intro Qf y
    go_wp2_with fail
    first | refine y _ _ ?_ | skip
    try clear y
    refine Reg.rest_act' 10 [11,12,13,14] [3] rfl (by kernel_rfl) ?_
    intro Qf y
    try simp only [gT,gS,gZ]
    go_wp2_with fail
    refine Calls.mono (a8.out _ _ E.out.below) ?_
    rintro e U ⟨⟨b,rfl⟩,rfl⟩
    go_wp2_with fail
    first | refine y _ _ ⟨?_,?_⟩ | refine⟨?_,?_⟩
    ·intro z G q C
     simp only [List.mem_cons,List.not_mem_nil,or_false] at G
     subst G
     injection C with C
     subst C
     exact Reg.same_load1 rfl rfl (F) (F) Tryz.underlying3 rfl
    try clear y
    refine Reg.rest_act' 11 [12,13,14] [3] rfl (by kernel_rfl) ?_
    intro Qf y
    try simp only [gT,gS,gZ]
    go_wp2_with fail
    refine Calls.mono (Wm b _) ?_
    rintro e U ⟨rfl,rfl⟩
    obtain⟨q,O,C⟩:∃q,Ab b=q∧q<2:=⟨_,rfl,by cases b <;> decide⟩
    rw [O]
    clear O
    obtain⟨J,M⟩:∃J,(#[Value.int .i64 e4,.int .i64 e5]:Array Value)[q]?=some (.int .i64 J):=by match q,C with | 0,_=>exact⟨_,rfl⟩ | 1,_=>exact⟨_,rfl⟩
    have W:=((E.out.blk Z).cell q).trans M
    go_wp2_with fail
    first | refine y _ _ ⟨?_,?_⟩ | refine⟨?_,?_⟩
    ·intro z G q C
     simp only [List.mem_cons,List.not_mem_nil,or_false] at G
     subst G
     injection C with C
     subst C
     exact Reg.same_load1 rfl rfl (F) (F) Tryz.underlying3 rfl
    try clear y
    refine Reg.rest_walk' [12,13] [14] rfl (by kernel_rfl) ?_
    intro Qf y
    go_wp2_with fail
    first | refine y _ _ ?_ | skip
    try clear y
    refine Reg.rest_act' 14 [] [] rfl (by kernel_rfl) ?_
    intro Qf y
    try simp only [gT,gS,gZ]
    go_wp2_with fail
    refine Calls.ret (E.out.move (by omega)) ?_
    rintro v w4 ⟨rfl,I⟩
    have V:=hide I
    clear I
    go_wp2_with fail
    first | refine y _ _ ⟨Reg.nm,?_⟩ | refine⟨Reg.nm,?_⟩
    try clear y
    first | refine Reg.rest_end ?_ | skip
    clear E a5 F W M C
    have cA:=((V.out.blk m3).cell 15).trans ai
    go_wp2_with fail
    refine Calls.mono (ag.out _ _ V.out.below) ?_
    rintro e U ⟨⟨b2,rfl⟩,rfl⟩
    cases b2
    ·go_wp2_with fail
     exact⟨⟨x+1,by go_num,by omega,hide (V.out.big (by omega))⟩,by simp [intOf]; omega⟩
    ·go_wp2_with fail
     refine Calls.ret (V.out.move (by omega)) ?_
     rintro v w5 ⟨rfl,I⟩
     have D5:=hide I
     clear I
     go_wp2_with fail
     exact⟨⟨x+1,by go_num,by omega,hide (D5.out.big (by omega))⟩,by simp [intOf]; omega⟩
   ·have D2:=hide (hD.out.big (m:=n1) (by omega))
    go_wp2_with fail
    have E:=hide (D2.out.keep (Ap _))
    have a5:=((E.out.blk m3).cell 14).trans a9
    have F:=(E.out.blk Z).cell 0
    refine Reg.cC [0,0,2,6,0,0,0,0,128,0,896,1920,4032,8128,16383] [0,1,2,3,4,5,6,7,8,9,10,11,12,13,14] ?_ (by kernel_rfl) (by repeat (first | exact hN | refine Reg.NoQ.then ?_ | refine Reg.NoQ.inBlock ?_))
    refine Reg.rest_walk' [0,1,2,3,4,5,6,7,8,9] [10,11,12,13,14] rfl (by kernel_rfl) ?_
    intro Qf y
    go_wp2_with fail
    first | refine y _ _ ?_ | skip
    try clear y
    refine Reg.rest_act' 10 [11,12,13,14] [3] rfl (by kernel_rfl) ?_
    intro Qf y
    try simp only [gT,gS,gZ]
    go_wp2_with fail
    refine Calls.mono (a8.out _ _ E.out.below) ?_
    rintro e U ⟨⟨b,rfl⟩,rfl⟩
    go_wp2_with fail
    first | refine y _ _ ⟨?_,?_⟩ | refine⟨?_,?_⟩
    ·intro z G q C
     simp only [List.mem_cons,List.not_mem_nil,or_false] at G
     subst G
     injection C with C
     subst C
     exact Reg.same_load1 rfl rfl (F) (F) Tryz.underlying3 rfl
    try clear y
    refine Reg.rest_act' 11 [12,13,14] [3] rfl (by kernel_rfl) ?_
    intro Qf y
    try simp only [gT,gS,gZ]
    go_wp2_with fail
    refine Calls.mono (Wm b _) ?_
    rintro e U ⟨rfl,rfl⟩
    obtain⟨q,O,C⟩:∃q,Ab b=q∧q<2:=⟨_,rfl,by cases b <;> decide⟩
    rw [O]
    clear O
    obtain⟨J,M⟩:∃J,(#[Value.int .i64 e4,.int .i64 e5]:Array Value)[q]?=some (.int .i64 J):=by match q,C with | 0,_=>exact⟨_,rfl⟩ | 1,_=>exact⟨_,rfl⟩
    have W:=((E.out.blk Z).cell q).trans M
    go_wp2_with fail
    first | refine y _ _ ⟨?_,?_⟩ | refine⟨?_,?_⟩
    ·intro z G q C
     simp only [List.mem_cons,List.not_mem_nil,or_false] at G
     subst G
     injection C with C
     subst C
     exact Reg.same_load1 rfl rfl (F) (F) Tryz.underlying3 rfl
    try clear y
    refine Reg.rest_walk' [12,13] [14] rfl (by kernel_rfl) ?_
    intro Qf y
    go_wp2_with fail
    first | refine y _ _ ?_ | skip
    try clear y
    refine Reg.rest_act' 14 [] [] rfl (by kernel_rfl) ?_
    intro Qf y
    try simp only [gT,gS,gZ]
    go_wp2_with fail
    refine Calls.ret (E.out.move (by omega)) ?_
    rintro v w3 ⟨rfl,I⟩
    have D3:=hide I
    clear I
    go_wp2_with fail
    first | refine y _ _ ⟨Reg.nm,?_⟩ | refine⟨Reg.nm,?_⟩
    try clear y
    first | refine Reg.rest_end ?_ | skip
    clear E a5 F W M C
    go_wp2_with fail
    have E:=hide (D3.out.keep (Ap _))
    have a5:=((E.out.blk m3).cell 14).trans a9
    have F:=(E.out.blk Z).cell 1
    refine Reg.cC [0,0,2,6,0,0,0,0,128,0,896,1920,4032,8128,16383] [0,1,2,3,4,5,6,7,8,9,10,11,12,13,14] ?_ (by kernel_rfl) (by repeat (first | exact hN | refine Reg.NoQ.then ?_ | refine Reg.NoQ.inBlock ?_))
    refine Reg.rest_walk' [0,1,2,3,4,5,6,7,8,9] [10,11,12,13,14] rfl (by kernel_rfl) ?_
    intro Qf y
    go_wp2_with fail
    first | refine y _ _ ?_ | skip
    try clear y
    refine Reg.rest_act' 10 [11,12,13,14] [3] rfl (by kernel_rfl) ?_
    intro Qf y
    try simp only [gT,gS,gZ]
    go_wp2_with fail
    refine Calls.mono (a8.out _ _ E.out.below) ?_
    rintro e U ⟨⟨b,rfl⟩,rfl⟩
    go_wp2_with fail
    first | refine y _ _ ⟨?_,?_⟩ | refine⟨?_,?_⟩
    ·intro z G q C
     simp only [List.mem_cons,List.not_mem_nil,or_false] at G
     subst G
     injection C with C
     subst C
     exact Reg.same_load1 rfl rfl (F) (F) Tryz.underlying3 rfl
    try clear y
    refine Reg.rest_act' 11 [12,13,14] [3] rfl (by kernel_rfl) ?_
    intro Qf y
    try simp only [gT,gS,gZ]
    go_wp2_with fail
    refine Calls.mono (Wm b _) ?_
    rintro e U ⟨rfl,rfl⟩
    obtain⟨q,O,C⟩:∃q,Ab b=q∧q<2:=⟨_,rfl,by cases b <;> decide⟩
    rw [O]
    clear O
    obtain⟨J,M⟩:∃J,(#[Value.int .i64 e4,.int .i64 e5]:Array Value)[q]?=some (.int .i64 J):=by match q,C with | 0,_=>exact⟨_,rfl⟩ | 1,_=>exact⟨_,rfl⟩
    have W:=((E.out.blk Z).cell q).trans M
    go_wp2_with fail
    first | refine y _ _ ⟨?_,?_⟩ | refine⟨?_,?_⟩
    ·intro z G q C
     simp only [List.mem_cons,List.not_mem_nil,or_false] at G
     subst G
     injection C with C
     subst C
     exact Reg.same_load1 rfl rfl (F) (F) Tryz.underlying3 rfl
    try clear y
    refine Reg.rest_walk' [12,13] [14] rfl (by kernel_rfl) ?_
    intro Qf y
    go_wp2_with fail
    first | refine y _ _ ?_ | skip
    try clear y
    refine Reg.rest_act' 14 [] [] rfl (by kernel_rfl) ?_
    intro Qf y
    try simp only [gT,gS,gZ]
    go_wp2_with fail
    refine Calls.ret (E.out.move (by omega)) ?_
    rintro v w4 ⟨rfl,I⟩
    have V:=hide I
    clear I
    go_wp2_with fail
    first | refine y _ _ ⟨Reg.nm,?_⟩ | refine⟨Reg.nm,?_⟩
    try clear y
    first | refine Reg.rest_end ?_ | skip
    clear E a5 F W M C
    have cA:=((V.out.blk m3).cell 15).trans ai
    go_wp2_with fail
    refine Calls.mono (ag.out _ _ V.out.below) ?_
    rintro e U ⟨⟨b2,rfl⟩,rfl⟩
    cases b2
    ·go_wp2_with fail
     exact⟨⟨x+1,by go_num,by omega,hide (V.out.big (by omega))⟩,by simp [intOf]; omega⟩
    ·go_wp2_with fail
     refine Calls.ret (V.out.move (by omega)) ?_
     rintro v w5 ⟨rfl,I⟩
     have D5:=hide I
     clear I
     go_wp2_with fail
     exact⟨⟨x+1,by go_num,by omega,hide (D5.out.big (by omega))⟩,by simp [intOf]; omega⟩
  ·obtain rfl:x=L:=by omega
   go_wp2_with fail
   exact cD.out _ _ _ _ _ _ _ _ _ _ _ _ _ _ _ _ _ _ _ _ _ _ _ _ _ _ _ _ _ _ _ _ _ _ _ _ _ _ _ _ _ _ _ _ _ _ _ _ _ _ _ _ _ _ _ _ _ _ _ _ _ _ _ _ _ _ _ hD.out
theorem XT {w0 w:World} {gd L n g3:Nat} {ls:Lst} {rc:Array Value} {left right:List Int} {f t G J:Int} (h:MkS w0 w gd L n ls) (hL:L≤60) (V:K4 w0 rc f t left right) (F:(g3,99,rc)∈ls) (hn:n≤90000)
  {u1 u2 u6 u7 u9 bS c6 ch a8 a9 aa ab ac ad af ag ah ai aj ak al am an ao ap aq ar au av aw ax ay az aA aB aC aD aE aF aG aH aJ aK aL aM aN aO aP aQ aR aS aT aU aV aX aY aZ b0 u64 b4 b5 b6 b7 b8 ba bb bc bd be bf bg bh bi bj bk bl bm bn bo bp bq br bs bt bv bw bx bz bA bB bC bD bE bF W Z a2 a3 a4 a5 a6 a7 bQ bR bT bU bV bW bX bY bZ c0 c4 c5 c7 c8 c9 ca cb cc cd ce cf cg ci cj ck cl cm cn co cp cq cr ct cu cv cw cx cy cz cA cB cD cE cF cG cH cJ cK cL cM cO cQ cR cS cT cU cV cW cX cY cZ d0 d4 d5 d6 d7 d8 d9 da db dc de df dg dh di dj dk dl dm dn dp dq dr dt du dv dw:Value}
  {Q:Exit→Act→World→Prop} (U:Reg.NoQ Q)
  (hQ:∀(dz dC dN dY dA dB dD dE dF dG dH dI dJ dK dL dM dO dP dQ dR dS dT dU dV dW dX dZ e0 e1 e7 e8 e9 ea eb ec ee ef eg eh ei ej ek el em en eo ep eq er et eu ev ew ex ey ez eA eB eC eD eE eF eG eH eI eJ eK eL eM eN eO eP eQ eR eS eT eU eV eW eX eY eZ f0 f1 f2 f3 f4 f5 f6 f7 f8 f9:Value) (w':World),MkS w0 w' gd L (n+600) ls→Q (.exit 2) ⟨List.toArray ((.pointer (some ⟨gd,0,none⟩))::u1::u2::(.pointer (some ⟨g3,0,none⟩))::(.int .i64 (L:Int))::(.int .i64 G)::u6::u7::(.int .i64 J)::u9::dz::dC::dN::dY::a8::a9::aa::ab::ac::ad::af::ag::ah::ai::
   aj::ak::al::am::an::ao::ap::aq::ar::au::av::aw::ax::ay::az::aA::aB::aC::aD::aE::aF::aG::aH::aJ::aK::aL::aM::aN::aO::aP::aQ::aR::aS::aT::aU::aV::aX::
   aY::aZ::b0::u64::b4::b5::b6::b7::b8::ba::bb::bc::bd::be::bf::bg::bh::bi::bj::bk::bl::bm::bn::bo::bp::bq::br::bs::bt::bv::bw::bx::bz::bA::bB::bC::bD::
   bE::bF::W::Z::a2::a3::a4::a5::a6::a7::dA::dB::dD::dE::dF::dG::dH::dI::dJ::dK::dL::dM::dO::dP::dQ::dR::dS::dT::dU::dV::dW::dX::dZ::
   e0::e1::e7::e8::e9::ea::eb::ec::ee::ef::eg::eh::ei::ej::ek::el::em::en::eo::ep::eq::er::et::eu::ev::ew::ex::ey::ez::eA::eB::eC::eD::
   eE::eF::eG::eH::eI::eJ::eK::eL::eM::eN::eO::eP::eQ::eR::eS::eT::eU::eV::eW::eX::eY::eZ::f0::f1::f2::f3::f4::f5::f6::f7::f8::f9::[]),[]⟩ w'):
  (Code.loop (CG Tryz.f159 1)).wp Tryz.prog Q ⟨List.toArray ((.pointer (some ⟨gd,0,none⟩))::u1::u2::(.pointer (some ⟨g3,0,none⟩))::(.int .i64 (L:Int))::(.int .i64 G)::u6::u7::(.int .i64 J)::u9::(.int .i64 0)::bS::c6::ch::a8::a9::aa::ab::ac::ad::af::ag::ah::
   ai::aj::ak::al::am::an::ao::ap::aq::ar::au::av::aw::ax::ay::az::aA::aB::aC::aD::aE::aF::aG::aH::aJ::aK::aL::aM::aN::aO::aP::aQ::aR::aS::aT::aU::aV::
   aX::aY::aZ::b0::u64::b4::b5::b6::b7::b8::ba::bb::bc::bd::be::bf::bg::bh::bi::bj::bk::bl::bm::bn::bo::bp::bq::br::bs::bt::bv::bw::bx::bz::bA::bB::bC::
   bD::bE::bF::W::Z::a2::a3::a4::a5::a6::a7::bQ::bR::bT::bU::bV::bW::bX::bY::bZ::c0::c4::c5::c7::c8::c9::ca::cb::cc::cd::ce::cf::cg::
   ci::cj::ck::cl::cm::cn::co::cp::cq::cr::ct::cu::cv::cw::cx::cy::cz::cA::cB::cD::cE::cF::cG::cH::cJ::cK::cL::cM::cO::cQ::cR::cS::cT::
   cU::cV::cW::cX::cY::cZ::d0::d4::d5::d6::d7::d8::d9::da::db::dc::de::df::dg::dh::di::dj::dk::dl::dm::dn::dp::dq::dr::dt::du::dv::dw::
   []),[]⟩ w:=by
 conv=>arg 2; arg 1; whnf
 have bO:=hide V
 obtain⟨r2,r3,-,-⟩:=V
 have hH:=hide h
 have bN:=hide hQ
 clear h hQ
 go_loopw [10] (fun E wr=>∃(i:Nat),E=.int .i64 (i:Int)∧i≤2∧Hid (MkS w0 wr gd L (n+300*i) ls)) (fun E _=>2 - (intOf E).toNat)
 case atStart=>exact⟨0,rfl,Nat.zero_le _,hH⟩
 case round=>
  obtain⟨i,rfl,hi,M⟩:=hrel
  by_cases fg:i<2
  ·go_wp2_with fail
   refine Calls.ret (G4 M.out (by omega) (.inl rfl)) ?_
   rintro v w3 ⟨⟨I,rfl⟩,y⟩
   have D3:=hide y
   clear y
   go_wp2_with fail
   refine Calls.ret (G4 D3.out (by omega) (.inl rfl)) ?_
   rintro v w4 ⟨⟨e4,rfl⟩,y⟩
   have D4:=hide y
   clear y
   obtain⟨w5,fi,D5,ff⟩:=D4.out.pushE 3 #[.int .i64 I,.int .i64 e4]
   go_wp2_with fail
   refine Calls.ret (G4 D5.out (by omega) (.inl rfl)) ?_
   rintro v w6 ⟨⟨e6,rfl⟩,y⟩
   have D6:=hide y
   clear y
   go_wp2_with fail
   refine ZV (g11:=w4.heap.size) (e4:=I) (e5:=e4) D6.out hL bO.out (List.mem_cons_of_mem _ F) List.mem_cons_self (by omega) ?_ ?_
   ·repeat (first | exact U | refine Reg.NoQ.then ?_ | refine Reg.NoQ.inBlock ?_)
   iterate 66 (intro _)
   intro w7 O
   have C:=hide (O.keep (Ap w7))
   have d2:=((C.out.blk (List.mem_cons_of_mem _ F)).cell 2).trans r2
   have d3:=((C.out.blk (List.mem_cons_of_mem _ F)).cell 3).trans r3
   have d1:=(C.out.blk List.mem_cons_self).cell 1
   clear O
   go_wp2_with fail
   refine Reg.region_plain [0,0,2,6,0,16,0,64,0,511] (by kernel_rfl) (by repeat (first | exact U | refine Reg.NoQ.then ?_ | refine Reg.NoQ.inBlock ?_)) ?_
   go_wp2_with fail
   refine Calls.ret (C.out.move (by omega)) ?_
   rintro v w8 ⟨rfl,y⟩
   have D8:=hide y
   clear y
   go_wp2_with fail
   exact⟨⟨i+1,by go_num,by omega,hide ((D8.out.sub fun x hx=>List.mem_cons_of_mem _ hx).big (by omega))⟩,by simp [intOf]; omega⟩
  ·obtain rfl:i=2:=by omega
   go_wp2_with fail
   exact bN.out _ _ _ _ _ _ _ _ _ _ _ _ _ _ _ _ _ _ _ _ _ _ _ _ _ _ _ _ _ _ _ _ _ _ _ _ _ _ _ _ _ _ _ _ _ _ _ _ _ _ _ _ _ _ _ _ _ _ _ _ _ _ _ _ _ _ _ _ _ _ _ _ _ _ _ _ _ _ _ _ _ _ _ _ _ _ _ _ _ _ _ _ _ M.out
theorem ZS {w0 w:World} {gd L n:Nat} {ls:Lst} {rc:Array Value} {left right:List Int} {f t:Int} (h:MkS w0 w gd L n ls) (U:L≤60) (hr:K4 w0 rc f t left right) (hn:n≤80000):
  Calls Tryz.prog 159 #[.pointer (some ⟨gd,0,none⟩),.agg rc] w (Ret fun v w'=>v=.tuple #[]∧MkS w0 w' gd L (n+1000) ls):=by
 have V:=hide hr
 obtain⟨r2,r3,⟨AL,cL,aa,sL⟩,⟨AR,cR,ai,sR⟩⟩:=hr
 obtain⟨w1,aO,O,aK⟩:=h.pushE 99 rc
 have C:(w.heap.size,99,rc)∈((w.heap.size,99,rc)::ls):=List.mem_cons_self
 have aq:Hid (∀E (x:Int),Below w0.heap.size w0 E→Calls Tryz.prog 197 #[.slice AL left.length cL,.int .i64 x] E fun e w'=>(∃b,e=.returned (.bool b))∧E=w'):=hide fun E x hb=>WE x (sL.below hb)
 have ar:Hid (∀E (x:Int),Below w0.heap.size w0 E→Calls Tryz.prog 197 #[.slice AR right.length cR,.int .i64 x] E fun e w'=>(∃b,e=.returned (.bool b))∧E=w'):=hide fun E x hb=>WE x (sR.below hb)
 have aw:=hide aa
 have ax:=hide ai
 have aM:=sL.1
 have aN:=sR.1
 have c0:=O.out.let_
 generalize left.length=nl at*
 generalize right.length=nr at*
 clear sL sR h
 have c2:=((O.out.blk C).cell 2).trans r2
 have aH:=((O.out.blk C).cell 14).trans aa
 have ab:=hide r2
 have aj:=hide r3
 clear r2 r3 aa ai
 go_enter Tryz.func159,Tryz.ntmps159
 go_wp2_with fail
 refine Calls.ret (G4 O.out (by omega) (.inr rfl)) ?_
 rintro v w2 ⟨⟨e2,rfl⟩,y⟩
 have F:=hide y
 clear y
 have af:=((F.out.blk C).cell 14).trans aw.out
 have ag:=((F.out.blk C).cell 15).trans ax.out
 have I:=((F.out.blk C).cell 2).trans ab.out
 go_wp2_with fail
 refine Calls.mono (aq.out _ _ F.out.below) ?_
 rintro e wb ⟨⟨b0,rfl⟩,rfl⟩
 cases b0
 ·clear af ag I
  go_wp2_with fail
  refine Calls.ret (G4 F.out (by omega) (.inl rfl)) ?_
  rintro v w3 ⟨⟨e3,rfl⟩,y⟩
  have Z:=hide y
  clear y
  go_wp2_with fail
  refine Calls.ret (G4 Z.out (by omega) (.inl rfl)) ?_
  rintro v w4 ⟨⟨e4,rfl⟩,y⟩
  have D4:=hide y
  clear y
  go_wp2_with fail
  refine Calls.ret (G4 D4.out (by omega) (.inl rfl)) ?_
  rintro v w5 ⟨⟨e5,rfl⟩,y⟩
  have D5:=hide y
  clear y
  obtain⟨w6,av,D6,au⟩:=D5.out.pushE 3 #[.int .i64 e4,.int .i64 e5]
  go_wp2_with fail
  refine Calls.ret (G4 D6.out (by omega) (.inl rfl)) ?_
  rintro v w7 ⟨⟨e7,rfl⟩,y⟩
  have G:=hide y
  clear y
  have I:=((G.out.blk (List.mem_cons_of_mem _ C)).cell 2).trans ab.out
  have d3:=((G.out.blk (List.mem_cons_of_mem _ C)).cell 3).trans aj.out
  go_wp2_with fail
  refine Calls.ret (G.out.move (by omega)) ?_
  rintro v w8 ⟨rfl,y⟩
  have D8:=hide y
  clear y
  clear I d3
  go_wp2_with fail
  refine XS (g3:=w.heap.size) (g7:=w5.heap.size) (e4:=e4) (e5:=e5) D8.out U V.out (List.mem_cons_of_mem _ C) List.mem_cons_self (by omega) ?_ ?_
  ·repeat (first | refine Reg.NoQ.then ?_ | refine Reg.NoQ.inBlock ?_ | exact Reg.NoQ.body (fun _ _ h=>h) (fun _ h=>h))
  iterate 59 (intro _)
  intro w9 M
  have D9:=hide M
  clear M
  go_wp2_with fail
  refine XT (g3:=w.heap.size) D9.out U V.out (List.mem_cons_of_mem _ C) (by omega) ?_ ?_
  ·repeat (first | refine Reg.NoQ.then ?_ | refine Reg.NoQ.inBlock ?_ | exact Reg.NoQ.body (fun _ _ h=>h) (fun _ h=>h))
  iterate 92 (intro _)
  intro ay J
  have W:=hide J
  clear J
  go_wp2_with fail
  exact bodyPost_ret (v:=.tuple #[]) (by simp [results,Tryz.results159,go_sem]) rfl ⟨rfl,(W.out.sub fun x hx=>List.mem_cons_of_mem _ (List.mem_cons_of_mem _ hx)).big (by omega)⟩
 ·go_wp2_with fail
  refine Calls.mono (ar.out _ _ F.out.below) ?_
  rintro e wb ⟨⟨b1,rfl⟩,rfl⟩
  clear af ag I
  go_wp2_with fail
  refine Calls.ret (G4 F.out (by omega) (.inl rfl)) ?_
  rintro v w3 ⟨⟨e3,rfl⟩,y⟩
  have Z:=hide y
  clear y
  go_wp2_with fail
  refine Calls.ret (G4 Z.out (by omega) (.inl rfl)) ?_
  rintro v w4 ⟨⟨e4,rfl⟩,y⟩
  have D4:=hide y
  clear y
  go_wp2_with fail
  refine Calls.ret (G4 D4.out (by omega) (.inl rfl)) ?_
  rintro v w5 ⟨⟨e5,rfl⟩,y⟩
  have D5:=hide y
  clear y
  obtain⟨w6,av,D6,au⟩:=D5.out.pushE 3 #[.int .i64 e4,.int .i64 e5]
  go_wp2_with fail
  refine Calls.ret (G4 D6.out (by omega) (.inl rfl)) ?_
  rintro v w7 ⟨⟨e7,rfl⟩,y⟩
  have G:=hide y
  clear y
  have I:=((G.out.blk (List.mem_cons_of_mem _ C)).cell 2).trans ab.out
  have d3:=((G.out.blk (List.mem_cons_of_mem _ C)).cell 3).trans aj.out
  go_wp2_with fail
  refine Calls.ret (G.out.move (by omega)) ?_
  rintro v w8 ⟨rfl,y⟩
  have D8:=hide y
  clear y
  clear I d3
  go_wp2_with fail
  refine XS (g3:=w.heap.size) (g7:=w5.heap.size) (e4:=e4) (e5:=e5) D8.out U V.out (List.mem_cons_of_mem _ C) List.mem_cons_self (by omega) ?_ ?_
  ·repeat (first | refine Reg.NoQ.then ?_ | refine Reg.NoQ.inBlock ?_ | exact Reg.NoQ.body (fun _ _ h=>h) (fun _ h=>h))
  iterate 59 (intro _)
  intro w9 M
  have D9:=hide M
  clear M
  go_wp2_with fail
  refine XT (g3:=w.heap.size) D9.out U V.out (List.mem_cons_of_mem _ C) (by omega) ?_ ?_
  ·repeat (first | refine Reg.NoQ.then ?_ | refine Reg.NoQ.inBlock ?_ | exact Reg.NoQ.body (fun _ _ h=>h) (fun _ h=>h))
  iterate 92 (intro _)
  intro ay J
  have W:=hide J
  clear J
  go_wp2_with fail
  exact bodyPost_ret (v:=.tuple #[]) (by simp [results,Tryz.results159,go_sem]) rfl ⟨rfl,(W.out.sub fun x hx=>List.mem_cons_of_mem _ (List.mem_cons_of_mem _ hx)).big (by omega)⟩
end Go.Proofs.YtfcfpoemojjglaaGreatDoor
