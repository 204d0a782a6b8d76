/-
  Part CF of a proof.
-/
import Derived.Test.YtfcfpoemojjglaaGreatDoorPA
import Derived.Test.YtfcfpoemojjglaaGreatDoorCE
set_option maxHeartbeats 16000000
set_option maxRecDepth 100000
set_option linter.unusedVariables false
set_option linter.unusedSimpArgs false
namespace Go.Proofs.YtfcfpoemojjglaaGreatDoor.K
open Go.RowKit
attribute [-go_sem] loadCellsFrom storeCells
def CW:Code→List Code
 | .region i o d=>[.region i o d]
 | .seq a b=>CW a++CW b
 | .loop a=>CW a
 | .scope a=>CW a
 | .block _ a=>CW a
 | .cond _ a b=>CW a++CW b
 | _=>[]
def Eu (f:Func) (k:Nat):Code:=match f.body with
 | some c=>(CW c).getD k .skip
 | none=>.skip
theorem RN {w x:World} {g2 g5:Nat} {p:Am} {r:Az} {A1 A2 A3 G I J A7:Option Addr} {c1 c2 c3 c4 c5 c6 c7:Nat} {M O U V W Z E7 E8:Option Addr} {f1 f2 f3 f4 f5 f6 f7 f8:Nat}
  (y:Cp x g2 g5 #[.string p.name,.int .i64 p.topo,.slice A1 p.states.length c1,.slice A2 p.messages.length c2,.slice A3 p.values.length c3,.int .i64 p.fault,.slice G p.res.length c4,.slice I p.initial.length c5,.slice J p.leader.length c6,.slice A7 p.rules.length c7] #[.string r.name,.int .i64 r.kind,.int .i64 r.fr,.int .i64 r.to,.int .i64 r.pf,.int .i64 r.pt,.slice M r.resp.length f1,.slice O r.guards.length f2,.slice U r.ex.length f3,.slice V r.fa.length f4,.int .i64 r.rd,.int .i64 r.wr,.slice W r.send.length f5,.int .i64 r.at_,.slice Z r.left.length f6,.slice E7 r.right.length f7,.slice E8 r.parent.length f8,.int .i64 r.dir] p r) (hb:Below w.heap.size w x)
  {u0 u1 u3 u4 u7 u8 u9 ak ax aJ aU b9 bk bv bH bS c8 c9 ca cb cc cd ce cf cg ch ci ck cl cm cn co cp cq cr ct cu cw cx cy cz cA cB cD dH dI dJ dK dL dM dN dO dP dQ cE cF cG cH cJ cK cL u64 cM cO cQ cR cS cU cV cW cX cY cZ d0 d1 d2 d3 d4 d5 d6 d7 d8 d9 da db dc de dg dh di dj dk dl dm dn dp dq al am an ao ap aq ar au av aw ay az aA aB aC aD aE aF aG aH aK aL aM aN aO aP aQ aR aS aT aV aW aX aY aZ b0 b4 b6 b7 b8 ba bb bc bd be bf bg bh bi bj bl bm bn bo bp bq br bs bt bu bw bx bz bA bB bC bD bE bF bG bI bJ bK bL bM bN bO bP bQ bR bT bU bV bW bX bY bZ c0:Value}
  {Q:Exit→Act→World→Prop} (hN:Reg.NoQ Q)
  (hQ:∀(dS dT dU dV dW dX dY dZ e0 e1:Value) (w':World),Cp w' g2 g5 #[.string p.name,.int .i64 p.topo,.slice A1 p.states.length c1,.slice A2 p.messages.length c2,.slice A3 p.values.length c3,.int .i64 p.fault,.slice G p.res.length c4,.slice I p.initial.length c5,.slice J p.leader.length c6,.slice A7 p.rules.length c7] #[.string r.name,.int .i64 r.kind,.int .i64 r.fr,.int .i64 r.to,.int .i64 r.pf,.int .i64 r.pt,.slice M r.resp.length f1,.slice O r.guards.length f2,.slice U r.ex.length f3,.slice V r.fa.length f4,.int .i64 r.rd,.int .i64 r.wr,.slice W r.send.length f5,.int .i64 r.at_,.slice Z r.left.length f6,.slice E7 r.right.length f7,.slice E8 r.parent.length f8,.int .i64 r.dir] p r→Below w.heap.size w w'→Q .normal ⟨List.toArray (u0::u1::(.pointer (some ⟨g2,0,none⟩))::u3::u4::(.pointer (some ⟨g5,0,none⟩))::(.int .i64 (p.states.length:Int))::u7::(.int .i64 (Aj id [AD r.fr (p.states.length:Int),AD r.to (p.states.length:Int)]))::u9::ak::ax::aJ::
   aU::b9::bk::bv::bH::bS::c8::c9::ca::cb::cc::cd::ce::cf::cg::ch::ci::ck::cl::cm::cn::co::cp::cq::cr::ct::cu::cw::cx::cy::cz::cA::cB::cD::dS::dT::dU::
   dV::dW::dX::dY::dZ::e0::e1::cE::cF::cG::cH::cJ::cK::cL::u64::cM::cO::cQ::cR::cS::cU::cV::cW::cX::cY::cZ::d0::d1::d2::d3::d4::d5::d6::d7::d8::d9::da::
   db::dc::de::dg::dh::di::dj::dk::dl::dm::dn::dp::dq::al::am::an::ao::ap::aq::ar::au::av::aw::ay::az::aA::aB::aC::aD::aE::aF::aG::aH::aK::
   aL::aM::aN::aO::aP::aQ::aR::aS::aT::aV::aW::aX::aY::aZ::b0::b4::b6::b7::b8::ba::bb::bc::bd::be::bf::bg::bh::bi::bj::bl::bm::bn::bo::
   bp::bq::br::bs::bt::bu::bw::bx::bz::bA::bB::bC::bD::bE::bF::bG::bI::bJ::bK::bL::bM::bN::bO::bP::bQ::bR::bT::bU::bV::bW::bX::bY::bZ::
   c0::[]),[]⟩ w'):
  (Eu Tryz.f170 8).wp Tryz.prog Q ⟨List.toArray (u0::u1::(.pointer (some ⟨g2,0,none⟩))::u3::u4::(.pointer (some ⟨g5,0,none⟩))::(.int .i64 (p.states.length:Int))::u7::u8::u9::ak::ax::aJ::aU::b9::bk::bv::bH::bS::c8::c9::ca::cb::cc::cd::ce::
   cf::cg::ch::ci::ck::cl::cm::cn::co::cp::cq::cr::ct::cu::cw::cx::cy::cz::cA::cB::cD::dH::dI::dJ::dK::dL::dM::dN::dO::dP::dQ::cE::cF::cG::cH::cJ::cK::
   cL::u64::cM::cO::cQ::cR::cS::cU::cV::cW::cX::cY::cZ::d0::d1::d2::d3::d4::d5::d6::d7::d8::d9::da::db::dc::de::dg::dh::di::dj::dk::dl::dm::dn::dp::dq::
   al::am::an::ao::ap::aq::ar::au::av::aw::ay::az::aA::aB::aC::aD::aE::aF::aG::aH::aK::aL::aM::aN::aO::aP::aQ::aR::aS::aT::aV::aW::aX::
   aY::aZ::b0::b4::b6::b7::b8::ba::bb::bc::bd::be::bf::bg::bh::bi::bj::bl::bm::bn::bo::bp::bq::br::bs::bt::bu::bw::bx::bz::bA::bB::bC::
   bD::bE::bF::bG::bI::bJ::bK::bL::bM::bN::bO::bP::bQ::bR::bT::bU::bV::bW::bX::bY::bZ::c0::[]),[]⟩ x:=by
 conv=>arg 2; whnf
 have du:=hide y
 have ag:=hide hb
 have dy:=y.b2.cell
 have dA:=y.b5.cell
 have dD:=y.load2 rfl
 have dF:=y.load5 rfl
 clear y hb
 have C:=du.out.at (Ap x)
 have dz:=C.b2.cell
 have dB:=C.b5.cell
 have dE:=C.load2 rfl
 have dG:=C.load5 rfl
 have dv:=hide C
 have ah:=hide (ag.out.trans ((Ap x).mono ag.out.size))
 clear C dy dA dD dF
 refine Reg.region_cutI [0,1,0,7,0,16,0,127,255,511,1023] [0,1,2,4,5,6,3,7,8,9,10] (by kernel_rfl) hN ?_
 refine Reg.wI [0,1,2,4,5,6] [3,7,8,9,10] rfl fun Qf h=>?_
 go_wp2_with fail
 first | refine h _ _ ⟨rfl,?_⟩ | refine⟨rfl,?_⟩ | refine h _ _ ⟨by simp [Reg.fineT,Reg.intOp,Region.wanted,yielded,Reg.intFine,Reg.isInt,Act.eval],?_⟩
 try clear h
 refine Reg.aI 3 [7,8,9,10] [5] rfl fun Qf h=>?_
 simp only [gT,gS,gZ]
 go_wp2_with (go_at_call 173; refine(Cu _ _ _).mono ?_; rintro e w' ⟨rfl,rfl⟩)
 first | refine h _ _ ⟨Reg.same_below (Below.refl _ _) [5] rfl,?_⟩ | refine⟨Reg.same_below (Below.refl _ _) [5] rfl,?_⟩
 try clear h
 refine Reg.aI 7 [8,9,10] [] rfl fun Qf h=>?_
 simp only [gT,gS,gZ]
 go_wp2_with (go_at_call 173; refine(Cu _ _ _).mono ?_; rintro e w' ⟨rfl,rfl⟩)
 first | refine h _ _ ⟨Reg.nm,?_⟩ | refine⟨Reg.nm,?_⟩
 try clear h
 obtain⟨wz,e6,ai,ae,dC⟩:=Ae x.drew #[.int .i64 (AD r.fr (p.states.length:Int)),.int .i64 (AD r.to (p.states.length:Int))] 36
 have dt:=hide (Ch (l:=[AD r.fr (p.states.length:Int),AD r.to (p.states.length:Int)]) ae (by simp))
 have F:Below x.drew.heap.size x.drew wz:=ai
 clear ae dC ai
 have E:=dv.out.at F
 have e2:=E.b2.cell
 have e3:=E.b5.cell
 have e4:=E.load2 rfl
 have e5:=E.load5 rfl
 have dw:=hide E
 have dx:=hide (ah.out.trans (F.mono ah.out.size))
 clear F E dz dB dE dG
 refine Reg.wI [8] [9,10] rfl fun Qf h=>?_
 go_wp2_with fail
 first | refine h _ _ ⟨rfl,?_⟩ | refine⟨rfl,?_⟩ | refine h _ _ ⟨by simp [Reg.fineT,Reg.intOp,Region.wanted,yielded,Reg.intFine,Reg.isInt,Act.eval],?_⟩
 try clear h
 refine Reg.aI 9 [10] [] rfl fun Qf h=>?_
 simp only [gT,gS,gZ]
 go_wp2_with (go_at_call 120; refine(Ci (l:=[AD r.fr (p.states.length:Int),AD r.to (p.states.length:Int)]) dt.out).mono ?_; rintro e w' ⟨rfl,rfl⟩)
 first | refine h _ _ ⟨Reg.nm,?_⟩ | refine⟨Reg.nm,?_⟩
 try clear h
 refine Reg.wI [10] [] rfl fun Qf h=>?_
 go_wp2_with fail
 first | refine h _ _ ⟨rfl,?_⟩ | refine⟨rfl,?_⟩ | refine h _ _ ⟨by simp [Reg.fineT,Reg.intOp,Region.wanted,yielded,Reg.intFine,Reg.isInt,Act.eval],?_⟩
 try clear h
 first | refine Reg.restI_end ?_ | skip
 refine hQ _ _ _ _ _ _ _ _ _ _ _ dw.out dx.out
theorem RK {w w5:World} {g2 g5:Nat} {p:Am} {r:Az} {A1 A2 A3 A4 A5 A6 A7:Option Addr} {c1 c2 c3 c4 c5 c6 c7:Nat} {E1 E2 E3 E4 E5 E6 E7 E8:Option Addr} {f1 f2 f3 f4 f5 f6 f7 f8:Nat}
  (x:Cp w5 g2 g5 #[.string p.name,.int .i64 p.topo,.slice A1 p.states.length c1,.slice A2 p.messages.length c2,.slice A3 p.values.length c3,.int .i64 p.fault,.slice A4 p.res.length c4,.slice A5 p.initial.length c5,.slice A6 p.leader.length c6,.slice A7 p.rules.length c7] #[.string r.name,.int .i64 r.kind,.int .i64 r.fr,.int .i64 r.to,.int .i64 r.pf,.int .i64 r.pt,.slice E1 r.resp.length f1,.slice E2 r.guards.length f2,.slice E3 r.ex.length f3,.slice E4 r.fa.length f4,.int .i64 r.rd,.int .i64 r.wr,.slice E5 r.send.length f5,.int .i64 r.at_,.slice E6 r.left.length f6,.slice E7 r.right.length f7,.slice E8 r.parent.length f8,.int .i64 r.dir] p r) (hb:Below w.heap.size w w5)
  {u0 u1 u3 u4 u7 u8 u9 bs bE bP c0 ci cu cG cU d5 df dg dh di dj dk dl dm dn dp dq dt du dv dw dx dy dz dA dB dC dE dF dG dH dI dJ dK dL dM dN dO dP dQ dR dS dT dU dV dW dX dY dZ e0 e1 u64 e2 e3 e4 e5 e6 e8 e9 ea eb ec ed ee ef eg eh ei ej ek el em en eo ep eq er eu ev ew ey ez eA eB eC eD eE bt bu bv bw bx bz bA bB bC bD bF bG bH bI bJ bK bL bM bN bO bQ bR bS bT bU bV bW bX bY bZ c8 c9 ca cb cc cd ce cf cg ch cj ck cl cm cn co cp cq cr ct cv cw cx cy cz cA cB cD cE cF cH cJ cK cL cM cO cQ cR cS cT cV cW cX cY cZ d0 d1 d2 d3 d4 d6 d7 d8 d9 da db dc de:Value}
  {Q:Exit→Act→World→Prop} (hN:Reg.NoQ Q)
  (hQ:∀(tm:Array Value) (w':World),tm[4]?.getD undef=.int .i64 (Aj id [Dy (p.messages.length:Int) r.guards,Aa r.ex (p.states.length:Int),Aa r.fa (p.states.length:Int),Bn r.rd (p.values.length:Int),Bn r.wr (p.values.length:Int),Aa r.send (p.messages.length:Int)])→Below w.heap.size w w'→Q .normal ⟨tm,[]⟩ w'):
  (Eu Tryz.f170 13).wp Tryz.prog Q ⟨List.toArray (u0::u1::(.pointer (some ⟨g2,0,none⟩))::u3::u4::(.pointer (some ⟨g5,0,none⟩))::(.int .i64 (p.states.length:Int))::u7::u8::u9::bs::bE::bP::c0::ci::cu::cG::cU::d5::df::dg::dh::di::dj::dk::dl::
   dm::dn::dp::dq::dt::du::dv::dw::dx::dy::dz::dA::dB::dC::dE::dF::dG::dH::dI::dJ::dK::dL::dM::dN::dO::dP::dQ::dR::dS::dT::dU::dV::dW::dX::dY::dZ::e0::
   e1::u64::e2::e3::e4::e5::e6::e8::e9::ea::eb::ec::ed::ee::ef::eg::eh::ei::ej::ek::el::em::en::eo::ep::eq::er::eu::ev::ew::ey::ez::eA::eB::eC::eD::eE::
   bt::bu::bv::bw::bx::bz::bA::bB::bC::bD::bF::bG::bH::bI::bJ::bK::bL::bM::bN::bO::bQ::bR::bS::bT::bU::bV::bW::bX::bY::bZ::c8::c9::ca::
   cb::cc::cd::ce::cf::cg::ch::cj::ck::cl::cm::cn::co::cp::cq::cr::ct::cv::cw::cx::cy::cz::cA::cB::cD::cE::cF::cH::cJ::cK::cL::cM::cO::
   cQ::cR::cS::cT::cV::cW::cX::cY::cZ::d0::d1::d2::d3::d4::d6::d7::d8::d9::da::db::dc::de::[]),[]⟩ w5:=by
 conv=>arg 2; whnf
 have aN:=hide x
 have ad:=hide hb
 have aQ:=x.b2.cell
 have aY:=x.b5.cell
 have bb:=x.load2 rfl
 have bj:=x.load5 rfl
 clear x hb
 have y:=aN.out.at (Ap w5)
 have aR:=y.b2.cell
 have aZ:=y.b5.cell
 have bc:=y.load2 rfl
 have bk:=y.load5 rfl
 have a3:=hide y
 have ae:=hide (ad.out.trans ((Ap w5).mono ad.out.size))
 clear y aQ aY bb bj
 refine Reg.region_cutI [0,0,2,7,0,16,0,127,0,256,0,2047,0,0,8192,32767,0,0,131072,524287,0,1048576,0,4194304,12582912,33554431,67108863,134217727,268435455] [0,1,2,4,5,6,8,9,10,12,13,14,16,17,18,20,21,22,23,24,3,7,11,15,19,25,26,27,28] (by kernel_rfl) hN ?_
 refine Reg.wI [0,1,2,4,5,6,8,9,10,12,13,14,16,17,18,20,21,22,23,24] [3,7,11,15,19,25,26,27,28] rfl fun Qf h=>?_
 go_wp2_with fail
 first | refine h _ _ ⟨rfl,?_⟩ | refine⟨rfl,?_⟩ | refine h _ _ ⟨by simp [Reg.fineT,Reg.intOp,Region.wanted,yielded,Reg.intFine,Reg.isInt,Act.eval],?_⟩
 try clear h
 refine Reg.aI 3 [7,11,15,19,25,26,27,28] [5,9,12,14,16,18,21,23] rfl fun Qf h=>?_
 simp only [gT,gS,gZ]
 go_wp2_with (go_at_call 210; refine Calls.ret (P5 a3.out.pr (Ev a3.out.ru).2.1) ?_; rintro v w7 ⟨rfl,O⟩)
 first | refine h _ _ ⟨Reg.same_below (O) [5,9,12,14,16,18,21,23] rfl,?_⟩ | refine⟨Reg.same_below (O) [5,9,12,14,16,18,21,23] rfl,?_⟩
 try clear h
 have C:=a3.out.at O
 have aS:=C.b2.cell
 have b0:=C.b5.cell
 have bd:=C.load2 rfl
 have bl:=C.load5 rfl
 have a7:=hide C
 have af:=hide (ae.out.trans (O.mono ae.out.size))
 clear O C aR aZ bc bk
 refine Reg.aI 7 [11,15,19,25,26,27,28] [9,12,14,16,18,21,23] rfl fun Qf h=>?_
 simp only [gT,gS,gZ]
 go_wp2_with (go_at_call 119; refine Calls.ret (DE (Ev a7.out.ru).2.2.1) ?_; rintro v w8 ⟨rfl,U⟩)
 first | refine h _ _ ⟨Reg.same_below (U) [9,12,14,16,18,21,23] rfl,?_⟩ | refine⟨Reg.same_below (U) [9,12,14,16,18,21,23] rfl,?_⟩
 try clear h
 have E:=a7.out.at U
 have aT:=E.b2.cell
 have b4:=E.b5.cell
 have be:=E.load2 rfl
 have bm:=E.load5 rfl
 have a8:=hide E
 have ag:=hide (af.out.trans (U.mono af.out.size))
 clear U E aS b0 bd bl
 refine Reg.aI 11 [15,19,25,26,27,28] [12,14,16,18,21,23] rfl fun Qf h=>?_
 simp only [gT,gS,gZ]
 go_wp2_with (go_at_call 119; refine Calls.ret (DE (Ev a8.out.ru).2.2.2.1) ?_; rintro v w9 ⟨rfl,V⟩)
 first | refine h _ _ ⟨Reg.same_below (V) [12,14,16,18,21,23] rfl,?_⟩ | refine⟨Reg.same_below (V) [12,14,16,18,21,23] rfl,?_⟩
 try clear h
 have F:=a8.out.at V
 have aU:=F.b2.cell
 have b6:=F.b5.cell
 have bf:=F.load2 rfl
 have bn:=F.load5 rfl
 have a9:=hide F
 have ah:=hide (ag.out.trans (V.mono ag.out.size))
 clear V F aT b4 be bm
 refine Reg.aI 15 [19,25,26,27,28] [16,18,21,23] rfl fun Qf h=>?_
 simp only [gT,gS,gZ]
 go_wp2_with (go_at_call 211; refine Calls.ret (FE a9.out.pr) ?_; rintro v wa ⟨rfl,W⟩)
 first | refine h _ _ ⟨Reg.same_below (W) [16,18,21,23] rfl,?_⟩ | refine⟨Reg.same_below (W) [16,18,21,23] rfl,?_⟩
 try clear h
 have G:=a9.out.at W
 have aV:=G.b2.cell
 have b7:=G.b5.cell
 have bg:=G.load2 rfl
 have bo:=G.load5 rfl
 have aa:=hide G
 have ai:=hide (ah.out.trans (W.mono ah.out.size))
 clear W G aU b6 bf bn
 refine Reg.aI 19 [25,26,27,28] [21,23] rfl fun Qf h=>?_
 simp only [gT,gS,gZ]
 go_wp2_with (go_at_call 211; refine Calls.ret (FE aa.out.pr) ?_; rintro v wb ⟨rfl,Z⟩)
 first | refine h _ _ ⟨Reg.same_below (Z) [21,23] rfl,?_⟩ | refine⟨Reg.same_below (Z) [21,23] rfl,?_⟩
 try clear h
 have I:=aa.out.at Z
 have aW:=I.b2.cell
 have b8:=I.b5.cell
 have bh:=I.load2 rfl
 have bp:=I.load5 rfl
 have ab:=hide I
 have aj:=hide (ai.out.trans (Z.mono ai.out.size))
 clear Z I aV b7 bg bo
 refine Reg.aI 25 [26,27,28] [] rfl fun Qf h=>?_
 simp only [gT,gS,gZ]
 go_wp2_with (go_at_call 119; refine Calls.ret (DE (Ev ab.out.ru).2.2.2.2.1) ?_; rintro v wc ⟨rfl,a4⟩)
 first | refine h _ _ ⟨Reg.nm,?_⟩ | refine⟨Reg.nm,?_⟩
 try clear h
 have J:=ab.out.at a4
 have aX:=J.b2.cell
 have b9:=J.b5.cell
 have bi:=J.load2 rfl
 have bq:=J.load5 rfl
 have aO:=hide J
 have ak:=hide (aj.out.trans (a4.mono aj.out.size))
 clear a4 J aW b8 bh bp
 obtain⟨wz,eK,al,a6,ba⟩:=Ae wc #[.int .i64 (Dy (p.messages.length:Int) r.guards),.int .i64 (Aa r.ex (p.states.length:Int)),.int .i64 (Aa r.fa (p.states.length:Int)),.int .i64 (Bn r.rd (p.values.length:Int)),.int .i64 (Bn r.wr (p.values.length:Int)),.int .i64 (Aa r.send (p.messages.length:Int))] 36
 have aM:=hide (Ch (l:=[Dy (p.messages.length:Int) r.guards,Aa r.ex (p.states.length:Int),Aa r.fa (p.states.length:Int),Bn r.rd (p.values.length:Int),Bn r.wr (p.values.length:Int),Aa r.send (p.messages.length:Int)]) a6 (by simp))
 have a5:=al
 clear a6 ba al
 have M:=aO.out.at a5
 have eG:=M.b2.cell
 have eH:=M.b5.cell
 have eI:=M.load2 rfl
 have eJ:=M.load5 rfl
 have eF:=hide M
 have aP:=hide (ak.out.trans (a5.mono ak.out.size))
 clear a5 M aX b9 bi bq
 refine Reg.wI [26] [27,28] rfl fun Qf h=>?_
 go_wp2_with fail
 first | refine h _ _ ⟨rfl,?_⟩ | refine⟨rfl,?_⟩ | refine h _ _ ⟨by simp [Reg.fineT,Reg.intOp,Region.wanted,yielded,Reg.intFine,Reg.isInt,Act.eval],?_⟩
 try clear h
 refine Reg.aI 27 [28] [] rfl fun Qf h=>?_
 simp only [gT,gS,gZ]
 go_wp2_with (go_at_call 120; refine(Ci (l:=[Dy (p.messages.length:Int) r.guards,Aa r.ex (p.states.length:Int),Aa r.fa (p.states.length:Int),Bn r.rd (p.values.length:Int),Bn r.wr (p.values.length:Int),Aa r.send (p.messages.length:Int)]) aM.out).mono ?_; rintro e w' ⟨rfl,rfl⟩)
 first | refine h _ _ ⟨Reg.nm,?_⟩ | refine⟨Reg.nm,?_⟩
 try clear h
 refine Reg.wI [28] [] rfl fun Qf h=>?_
 go_wp2_with fail
 first | refine h _ _ ⟨rfl,?_⟩ | refine⟨rfl,?_⟩ | refine h _ _ ⟨by simp [Reg.fineT,Reg.intOp,Region.wanted,yielded,Reg.intFine,Reg.isInt,Act.eval],?_⟩
 try clear h
 first | refine Reg.restI_end ?_ | skip
 refine hQ _ _ (by first | rfl | simp) aP.out
theorem RL {w I:World} {g2 g5:Nat} {p:Am} {r:Az} {A1 A2 A3 A4 A5 A6 A7:Option Addr} {c1 c2 c3 c4 c5 c6 c7:Nat} {E1 E2 E3 E4 E5 E6 E7 E8:Option Addr} {f1 f2 f3 f4 f5 f6 f7 f8:Nat}
  (x:Cp I g2 g5 #[.string p.name,.int .i64 p.topo,.slice A1 p.states.length c1,.slice A2 p.messages.length c2,.slice A3 p.values.length c3,.int .i64 p.fault,.slice A4 p.res.length c4,.slice A5 p.initial.length c5,.slice A6 p.leader.length c6,.slice A7 p.rules.length c7] #[.string r.name,.int .i64 r.kind,.int .i64 r.fr,.int .i64 r.to,.int .i64 r.pf,.int .i64 r.pt,.slice E1 r.resp.length f1,.slice E2 r.guards.length f2,.slice E3 r.ex.length f3,.slice E4 r.fa.length f4,.int .i64 r.rd,.int .i64 r.wr,.slice E5 r.send.length f5,.int .i64 r.at_,.slice E6 r.left.length f6,.slice E7 r.right.length f7,.slice E8 r.parent.length f8,.int .i64 r.dir] p r) (W:Below w.heap.size w I)
  {u0 u1 u3 u4 u7 u8 u9 aS b7 bi bt bF bQ c8 cj cv cF cG cH cJ cK cL cM cO cQ cR cS cU cV cW cX cY cZ d0 d1 d2 d3 d5 d6 d7 d8 d9 da db dc de df dg dh di dj dk dl dm dn dp dq dr dt du dv u64 dw dx dy dz dA dC dD dE dF dG dH dI dJ dK dL dM dN dO dP dQ dR dS dT dU dV dX dY dZ e0 e1 e2 e3 e4 e5 e6 aT aU aV aW aX aY aZ b0 b4 b6 b8 b9 ba bb bc bd be bf bg bh bj bk bl bm bn bo bp bq br bs bu bv bw bx bz bA bB bC bD bE bG bH bI bJ bK bL bM bN bO bP bR bS bT bU bV bW bX bY bZ c0 c9 ca cb cc cd ce cf cg ch ci ck cl cm cn co cp cq cr ct cu cw cx cy cz cA cB cD cE:Value}
  {Q:Exit→Act→World→Prop} (hN:Reg.NoQ Q)
  (hQ:∀(tm:Array Value) (w':World),tm[4]?.getD undef=.int .i64 (Aj id [AD r.pf (p.states.length:Int),AD r.pt (p.states.length:Int),Bn r.rd (p.values.length:Int),Bn r.wr (p.values.length:Int)])→Below w.heap.size w w'→Q .normal ⟨tm,[]⟩ w'):
  (Eu Tryz.f170 15).wp Tryz.prog Q ⟨List.toArray (u0::u1::(.pointer (some ⟨g2,0,none⟩))::u3::u4::(.pointer (some ⟨g5,0,none⟩))::(.int .i64 (p.states.length:Int))::u7::u8::u9::aS::b7::bi::bt::bF::bQ::c8::cj::cv::cF::cG::cH::cJ::cK::cL::cM::
   cO::cQ::cR::cS::cU::cV::cW::cX::cY::cZ::d0::d1::d2::d3::d5::d6::d7::d8::d9::da::db::dc::de::df::dg::dh::di::dj::dk::dl::dm::dn::dp::dq::dr::dt::du::
   dv::u64::dw::dx::dy::dz::dA::dC::dD::dE::dF::dG::dH::dI::dJ::dK::dL::dM::dN::dO::dP::dQ::dR::dS::dT::dU::dV::dX::dY::dZ::e0::e1::e2::e3::e4::e5::e6::
   aT::aU::aV::aW::aX::aY::aZ::b0::b4::b6::b8::b9::ba::bb::bc::bd::be::bf::bg::bh::bj::bk::bl::bm::bn::bo::bp::bq::br::bs::bu::bv::bw::
   bx::bz::bA::bB::bC::bD::bE::bG::bH::bI::bJ::bK::bL::bM::bN::bO::bP::bR::bS::bT::bU::bV::bW::bX::bY::bZ::c0::c9::ca::cb::cc::cd::ce::
   cf::cg::ch::ci::ck::cl::cm::cn::co::cp::cq::cr::ct::cu::cw::cx::cy::cz::cA::cB::cD::cE::[]),[]⟩ I:=by
 conv=>arg 2; whnf
 have aw:=hide x
 have Z:=hide W
 have az:=x.b2.cell
 have aD:=x.b5.cell
 have aJ:=x.load2 rfl
 have aN:=x.load5 rfl
 clear x W
 have y:=aw.out.at (Ap I)
 have aA:=y.b2.cell
 have aE:=y.b5.cell
 have aK:=y.load2 rfl
 have aO:=y.load5 rfl
 have U:=hide y
 have a2:=hide (Z.out.trans ((Ap I).mono Z.out.size))
 clear y az aD aJ aN
 refine Reg.region_cutI [0,1,0,7,0,16,0,127,0,0,512,2047,0,0,8192,32767,65535,131071,262143] [0,1,2,4,5,6,8,9,10,12,13,14,3,7,11,15,16,17,18] (by kernel_rfl) hN ?_
 refine Reg.wI [0,1,2,4,5,6,8,9,10,12,13,14] [3,7,11,15,16,17,18] rfl fun Qf h=>?_
 go_wp2_with fail
 first | refine h _ _ ⟨rfl,?_⟩ | refine⟨rfl,?_⟩ | refine h _ _ ⟨by simp [Reg.fineT,Reg.intOp,Region.wanted,yielded,Reg.intFine,Reg.isInt,Act.eval],?_⟩
 try clear h
 refine Reg.aI 3 [7,11,15,16,17,18] [5,8,10,12,14] rfl fun Qf h=>?_
 simp only [gT,gS,gZ]
 go_wp2_with (go_at_call 173; refine(Cu _ _ _).mono ?_; rintro e w' ⟨rfl,rfl⟩)
 first | refine h _ _ ⟨Reg.same_below (Below.refl _ _) [5,8,10,12,14] rfl,?_⟩ | refine⟨Reg.same_below (Below.refl _ _) [5,8,10,12,14] rfl,?_⟩
 try clear h
 refine Reg.aI 7 [11,15,16,17,18] [8,10,12,14] rfl fun Qf h=>?_
 simp only [gT,gS,gZ]
 go_wp2_with (go_at_call 173; refine(Cu _ _ _).mono ?_; rintro e w' ⟨rfl,rfl⟩)
 first | refine h _ _ ⟨Reg.same_below (Below.refl _ _) [8,10,12,14] rfl,?_⟩ | refine⟨Reg.same_below (Below.refl _ _) [8,10,12,14] rfl,?_⟩
 try clear h
 refine Reg.aI 11 [15,16,17,18] [12,14] rfl fun Qf h=>?_
 simp only [gT,gS,gZ]
 go_wp2_with (go_at_call 211; refine Calls.ret (FE U.out.pr) ?_; rintro v wa ⟨rfl,G⟩)
 first | refine h _ _ ⟨Reg.same_below (G) [12,14] rfl,?_⟩ | refine⟨Reg.same_below (G) [12,14] rfl,?_⟩
 try clear h
 have C:=U.out.at G
 have aB:=C.b2.cell
 have aF:=C.b5.cell
 have aL:=C.load2 rfl
 have aP:=C.load5 rfl
 have V:=hide C
 have a3:=hide (a2.out.trans (G.mono a2.out.size))
 clear G C aA aE aK aO
 refine Reg.aI 15 [16,17,18] [] rfl fun Qf h=>?_
 simp only [gT,gS,gZ]
 go_wp2_with (go_at_call 211; refine Calls.ret (FE V.out.pr) ?_; rintro v wb ⟨rfl,J⟩)
 first | refine h _ _ ⟨Reg.nm,?_⟩ | refine⟨Reg.nm,?_⟩
 try clear h
 have E:=V.out.at J
 have aC:=E.b2.cell
 have aG:=E.b5.cell
 have aM:=E.load2 rfl
 have aQ:=E.load5 rfl
 have ax:=hide E
 have a4:=hide (a3.out.trans (J.mono a3.out.size))
 clear J E aB aF aL aP
 obtain⟨wz,ed,a5,O,aH⟩:=Ae wb #[.int .i64 (AD r.pf (p.states.length:Int)),.int .i64 (AD r.pt (p.states.length:Int)),.int .i64 (Bn r.rd (p.values.length:Int)),.int .i64 (Bn r.wr (p.values.length:Int))] 36
 have av:=hide (Ch (l:=[AD r.pf (p.states.length:Int),AD r.pt (p.states.length:Int),Bn r.rd (p.values.length:Int),Bn r.wr (p.values.length:Int)]) O (by simp))
 have M:=a5
 clear O aH a5
 have F:=ax.out.at M
 have e9:=F.b2.cell
 have ea:=F.b5.cell
 have eb:=F.load2 rfl
 have ec:=F.load5 rfl
 have e8:=hide F
 have ay:=hide (a4.out.trans (M.mono a4.out.size))
 clear M F aC aG aM aQ
 refine Reg.wI [16] [17,18] rfl fun Qf h=>?_
 go_wp2_with fail
 first | refine h _ _ ⟨rfl,?_⟩ | refine⟨rfl,?_⟩ | refine h _ _ ⟨by simp [Reg.fineT,Reg.intOp,Region.wanted,yielded,Reg.intFine,Reg.isInt,Act.eval],?_⟩
 try clear h
 refine Reg.aI 17 [18] [] rfl fun Qf h=>?_
 simp only [gT,gS,gZ]
 go_wp2_with (go_at_call 120; refine(Ci (l:=[AD r.pf (p.states.length:Int),AD r.pt (p.states.length:Int),Bn r.rd (p.values.length:Int),Bn r.wr (p.values.length:Int)]) av.out).mono ?_; rintro e w' ⟨rfl,rfl⟩)
 first | refine h _ _ ⟨Reg.nm,?_⟩ | refine⟨Reg.nm,?_⟩
 try clear h
 refine Reg.wI [18] [] rfl fun Qf h=>?_
 go_wp2_with fail
 first | refine h _ _ ⟨rfl,?_⟩ | refine⟨rfl,?_⟩ | refine h _ _ ⟨by simp [Reg.fineT,Reg.intOp,Region.wanted,yielded,Reg.intFine,Reg.isInt,Act.eval],?_⟩
 try clear h
 first | refine Reg.restI_end ?_ | skip
 refine hQ _ _ (by first | rfl | simp) ay.out
theorem RM {w I:World} {g2 g5:Nat} {p:Am} {r:Az} {A1 A2 A3 A4 A5 A6 A7:Option Addr} {c1 c2 c3 c4 c5 c6 c7:Nat} {E1 E2 E3 E4 E5 E6 E7 E8:Option Addr} {f1 f2 f3 f4 f5 f6 f7 f8:Nat}
  (x:Cp I g2 g5 #[.string p.name,.int .i64 p.topo,.slice A1 p.states.length c1,.slice A2 p.messages.length c2,.slice A3 p.values.length c3,.int .i64 p.fault,.slice A4 p.res.length c4,.slice A5 p.initial.length c5,.slice A6 p.leader.length c6,.slice A7 p.rules.length c7] #[.string r.name,.int .i64 r.kind,.int .i64 r.fr,.int .i64 r.to,.int .i64 r.pf,.int .i64 r.pt,.slice E1 r.resp.length f1,.slice E2 r.guards.length f2,.slice E3 r.ex.length f3,.slice E4 r.fa.length f4,.int .i64 r.rd,.int .i64 r.wr,.slice E5 r.send.length f5,.int .i64 r.at_,.slice E6 r.left.length f6,.slice E7 r.right.length f7,.slice E8 r.parent.length f8,.int .i64 r.dir] p r) (W:Below w.heap.size w I)
  {u0 u1 u3 u4 u7 u8 u9 aS b7 bi bt bF bQ c8 cj cv cF cG cH cJ cK cL cM cO cQ cR cS cU cV cW cX cY cZ d0 d1 d2 d3 d5 d6 d7 d8 d9 da db dc de df dg dh di dj dk dl dm dn dp dq dr dt du dv u64 dw dx dy dz dA dC dD dE dF dG dH dI dJ dK dL dM dN dO dP dQ dR dS dT dU dV dX dY dZ e0 e1 e2 e3 e4 e5 e6 aT aU aV aW aX aY aZ b0 b4 b6 b8 b9 ba bb bc bd be bf bg bh bj bk bl bm bn bo bp bq br bs bu bv bw bx bz bA bB bC bD bE bG bH bI bJ bK bL bM bN bO bP bR bS bT bU bV bW bX bY bZ c0 c9 ca cb cc cd ce cf cg ch ci ck cl cm cn co cp cq cr ct cu cw cx cy cz cA cB cD cE:Value}
  {Q:Exit→Act→World→Prop} (hN:Reg.NoQ Q)
  (hQ:∀(tm:Array Value) (w':World),tm[4]?.getD undef=.int .i64 (Aj id [C8 (p.states.length:Int) r.resp,Bn r.rd (p.values.length:Int),Bn r.wr (p.values.length:Int)])→Below w.heap.size w w'→Q .normal ⟨tm,[]⟩ w'):
  (Eu Tryz.f170 17).wp Tryz.prog Q ⟨List.toArray (u0::u1::(.pointer (some ⟨g2,0,none⟩))::u3::u4::(.pointer (some ⟨g5,0,none⟩))::(.int .i64 (p.states.length:Int))::u7::u8::u9::aS::b7::bi::bt::bF::bQ::c8::cj::cv::cF::cG::cH::cJ::cK::cL::cM::
   cO::cQ::cR::cS::cU::cV::cW::cX::cY::cZ::d0::d1::d2::d3::d5::d6::d7::d8::d9::da::db::dc::de::df::dg::dh::di::dj::dk::dl::dm::dn::dp::dq::dr::dt::du::
   dv::u64::dw::dx::dy::dz::dA::dC::dD::dE::dF::dG::dH::dI::dJ::dK::dL::dM::dN::dO::dP::dQ::dR::dS::dT::dU::dV::dX::dY::dZ::e0::e1::e2::e3::e4::e5::e6::
   aT::aU::aV::aW::aX::aY::aZ::b0::b4::b6::b8::b9::ba::bb::bc::bd::be::bf::bg::bh::bj::bk::bl::bm::bn::bo::bp::bq::br::bs::bu::bv::bw::
   bx::bz::bA::bB::bC::bD::bE::bG::bH::bI::bJ::bK::bL::bM::bN::bO::bP::bR::bS::bT::bU::bV::bW::bX::bY::bZ::c0::c9::ca::cb::cc::cd::ce::
   cf::cg::ch::ci::ck::cl::cm::cn::co::cp::cq::cr::ct::cu::cw::cx::cy::cz::cA::cB::cD::cE::[]),[]⟩ I:=by
 conv=>arg 2; whnf
 have aw:=hide x
 have Z:=hide W
 have az:=x.b2.cell
 have aD:=x.b5.cell
 have aJ:=x.load2 rfl
 have aN:=x.load5 rfl
 clear x W
 have y:=aw.out.at (Ap I)
 have aA:=y.b2.cell
 have aE:=y.b5.cell
 have aK:=y.load2 rfl
 have aO:=y.load5 rfl
 have J:=hide y
 have a2:=hide (Z.out.trans ((Ap I).mono Z.out.size))
 clear y az aD aJ aN
 refine Reg.region_cutI [0,1,0,7,0,0,32,127,0,0,512,2047,4095,8191,16383] [0,1,2,4,5,6,8,9,10,3,7,11,12,13,14] (by kernel_rfl) hN ?_
 refine Reg.wI [0,1,2,4,5,6,8,9,10] [3,7,11,12,13,14] rfl fun Qf h=>?_
 go_wp2_with fail
 first | refine h _ _ ⟨rfl,?_⟩ | refine⟨rfl,?_⟩ | refine h _ _ ⟨by simp [Reg.fineT,Reg.intOp,Region.wanted,yielded,Reg.intFine,Reg.isInt,Act.eval],?_⟩
 try clear h
 refine Reg.aI 3 [7,11,12,13,14] [4,6,8,10] rfl fun Qf h=>?_
 simp only [gT,gS,gZ]
 go_wp2_with (go_at_call 212; refine(R7 (Ev J.out.ru).1).mono ?_; rintro e w' ⟨rfl,rfl⟩)
 first | refine h _ _ ⟨Reg.same_below (Below.refl _ _) [4,6,8,10] rfl,?_⟩ | refine⟨Reg.same_below (Below.refl _ _) [4,6,8,10] rfl,?_⟩
 try clear h
 refine Reg.aI 7 [11,12,13,14] [8,10] rfl fun Qf h=>?_
 simp only [gT,gS,gZ]
 go_wp2_with (go_at_call 211; refine Calls.ret (FE J.out.pr) ?_; rintro v wa ⟨rfl,G⟩)
 first | refine h _ _ ⟨Reg.same_below (G) [8,10] rfl,?_⟩ | refine⟨Reg.same_below (G) [8,10] rfl,?_⟩
 try clear h
 have C:=J.out.at G
 have aB:=C.b2.cell
 have aF:=C.b5.cell
 have aL:=C.load2 rfl
 have aP:=C.load5 rfl
 have V:=hide C
 have a3:=hide (a2.out.trans (G.mono a2.out.size))
 clear G C aA aE aK aO
 refine Reg.aI 11 [12,13,14] [] rfl fun Qf h=>?_
 simp only [gT,gS,gZ]
 go_wp2_with (go_at_call 211; refine Calls.ret (FE V.out.pr) ?_; rintro v wb ⟨rfl,M⟩)
 first | refine h _ _ ⟨Reg.nm,?_⟩ | refine⟨Reg.nm,?_⟩
 try clear h
 have E:=V.out.at M
 have aC:=E.b2.cell
 have aG:=E.b5.cell
 have aM:=E.load2 rfl
 have aQ:=E.load5 rfl
 have ax:=hide E
 have a4:=hide (a3.out.trans (M.mono a3.out.size))
 clear M E aB aF aL aP
 obtain⟨wz,ed,a5,U,aH⟩:=Ae wb #[.int .i64 (C8 (p.states.length:Int) r.resp),.int .i64 (Bn r.rd (p.values.length:Int)),.int .i64 (Bn r.wr (p.values.length:Int))] 36
 have av:=hide (Ch (l:=[C8 (p.states.length:Int) r.resp,Bn r.rd (p.values.length:Int),Bn r.wr (p.values.length:Int)]) U (by simp))
 have O:=a5
 clear U aH a5
 have F:=ax.out.at O
 have e9:=F.b2.cell
 have ea:=F.b5.cell
 have eb:=F.load2 rfl
 have ec:=F.load5 rfl
 have e8:=hide F
 have ay:=hide (a4.out.trans (O.mono a4.out.size))
 clear O F aC aG aM aQ
 refine Reg.wI [12] [13,14] rfl fun Qf h=>?_
 go_wp2_with fail
 first | refine h _ _ ⟨rfl,?_⟩ | refine⟨rfl,?_⟩ | refine h _ _ ⟨by simp [Reg.fineT,Reg.intOp,Region.wanted,yielded,Reg.intFine,Reg.isInt,Act.eval],?_⟩
 try clear h
 refine Reg.aI 13 [14] [] rfl fun Qf h=>?_
 simp only [gT,gS,gZ]
 go_wp2_with (go_at_call 120; refine(Ci (l:=[C8 (p.states.length:Int) r.resp,Bn r.rd (p.values.length:Int),Bn r.wr (p.values.length:Int)]) av.out).mono ?_; rintro e w' ⟨rfl,rfl⟩)
 first | refine h _ _ ⟨Reg.nm,?_⟩ | refine⟨Reg.nm,?_⟩
 try clear h
 refine Reg.wI [14] [] rfl fun Qf h=>?_
 go_wp2_with fail
 first | refine h _ _ ⟨rfl,?_⟩ | refine⟨rfl,?_⟩ | refine h _ _ ⟨by simp [Reg.fineT,Reg.intOp,Region.wanted,yielded,Reg.intFine,Reg.isInt,Act.eval],?_⟩
 try clear h
 first | refine Reg.restI_end ?_ | skip
 refine hQ _ _ (by first | rfl | simp) ay.out
theorem F8 {w M:World} {g2 g5:Nat} {p:Am} {r:Az} {A1 A2 A3 A4 A5 A6 A7:Option Addr} {c1 c2 c3 c4 c5 c6 c7:Nat} {E1 E2 E3 E4 E5 E6 E7 E8:Option Addr} {f1 f2 f3 f4 f5 f6 f7 f8:Nat} {m:Bool}
  (x:Cp M g2 g5 #[.string p.name,.int .i64 p.topo,.slice A1 p.states.length c1,.slice A2 p.messages.length c2,.slice A3 p.values.length c3,.int .i64 p.fault,.slice A4 p.res.length c4,.slice A5 p.initial.length c5,.slice A6 p.leader.length c6,.slice A7 p.rules.length c7] #[.string r.name,.int .i64 r.kind,.int .i64 r.fr,.int .i64 r.to,.int .i64 r.pf,.int .i64 r.pt,.slice E1 r.resp.length f1,.slice E2 r.guards.length f2,.slice E3 r.ex.length f3,.slice E4 r.fa.length f4,.int .i64 r.rd,.int .i64 r.wr,.slice E5 r.send.length f5,.int .i64 r.at_,.slice E6 r.left.length f6,.slice E7 r.right.length f7,.slice E8 r.parent.length f8,.int .i64 r.dir] p r) (hb:Below w.heap.size w M)
  {u0 u1 u3 u4 u7 u8 b0 bf bq bC bN bY cg cr cE cQ cR cS cT cU cV cW cX cY cZ d0 d2 d3 d4 d5 d6 d7 d8 d9 da db de df dg dh di dj dk dl dm dn dp dq dr dt du dv dw dx dy dz dA dB dC dD u64 dE dF dG dH dI dK dL dM dN dO dP dQ dR dS dT dU dV dW dX dY dZ e0 e1 e2 e3 e4 e5 e6 e7 e8 e9 ea eb ec ed b4 b6 b7 b8 b9 ba bb bc bd be bg bh bi bj bk bl bm bn bo bp br bs bt bu bv bw bx bz bA bB bD bE bF bG bH bI bJ bK bL bM bO bP bQ bR bS bT bU bV bW bX bZ c0 c8 c9 ca cb cc cd ce cf ch ci cj ck cl cm cn co cp cq ct cu cv cw cx cy cz cA cB cD cF cG cH cJ cK cL cM cO:Value}
  {Q:Exit→Act→World→Prop} (hN:Reg.NoQ Q)
  (hQ:∀(tm:Array Value) (w':World),tm[4]?.getD undef=.int .i64 (Aj id [Aa r.left (p.states.length:Int),Aa r.right (p.states.length:Int),Aa r.parent (p.states.length:Int),Ad m 1])→Below w.heap.size w w'→Q .normal ⟨tm,[]⟩ w'):
  (Eu Tryz.f170 20).wp Tryz.prog Q ⟨List.toArray (u0::u1::(.pointer (some ⟨g2,0,none⟩))::u3::u4::(.pointer (some ⟨g5,0,none⟩))::(.int .i64 (p.states.length:Int))::u7::u8::(.bool m)::b0::bf::bq::bC::bN::bY::cg::cr::cE::cQ::cR::cS::cT::cU::cV::
   cW::cX::cY::cZ::d0::d2::d3::d4::d5::d6::d7::d8::d9::da::db::de::df::dg::dh::di::dj::dk::dl::dm::dn::dp::dq::dr::dt::du::dv::dw::dx::dy::dz::dA::dB::
   dC::dD::u64::dE::dF::dG::dH::dI::dK::dL::dM::dN::dO::dP::dQ::dR::dS::dT::dU::dV::dW::dX::dY::dZ::e0::e1::e2::e3::e4::e5::e6::e7::e8::e9::ea::eb::ec::
   ed::b4::b6::b7::b8::b9::ba::bb::bc::bd::be::bg::bh::bi::bj::bk::bl::bm::bn::bo::bp::br::bs::bt::bu::bv::bw::bx::bz::bA::bB::bD::bE::
   bF::bG::bH::bI::bJ::bK::bL::bM::bO::bP::bQ::bR::bS::bT::bU::bV::bW::bX::bZ::c0::c8::c9::ca::cb::cc::cd::ce::cf::ch::ci::cj::ck::cl::
   cm::cn::co::cp::cq::ct::cu::cv::cw::cx::cy::cz::cA::cB::cD::cF::cG::cH::cJ::cK::cL::cM::cO::[]),[]⟩ M:=by
 conv=>arg 2; whnf
 have aA:=hide x
 have a4:=hide hb
 have aD:=x.b2.cell
 have aJ:=x.b5.cell
 have aP:=x.load2 rfl
 have aU:=x.load5 rfl
 clear x hb
 have y:=aA.out.at (Ap M)
 have aE:=y.b2.cell
 have aK:=y.b5.cell
 have aQ:=y.load2 rfl
 have aV:=y.load5 rfl
 have W:=hide y
 have a5:=hide (a4.out.trans ((Ap M).mono a4.out.size))
 clear y aD aJ aP aU
 refine Reg.region_cutI [0,1,0,7,0,16,0,127,0,256,0,2047,0,8191,16383,32767,65535] [0,1,2,4,5,6,8,9,10,12,3,7,11,13,14,15,16] (by kernel_rfl) hN ?_
 refine Reg.wI [0,1,2,4,5,6,8,9,10,12] [3,7,11,13,14,15,16] rfl fun Qf h=>?_
 go_wp2_with fail
 first | refine h _ _ ⟨rfl,?_⟩ | refine⟨rfl,?_⟩ | refine h _ _ ⟨by simp [Reg.fineT,Reg.intOp,Region.wanted,yielded,Reg.intFine,Reg.isInt,Act.eval],?_⟩
 try clear h
 refine Reg.aI 3 [7,11,13,14,15,16] [5,9] rfl fun Qf h=>?_
 simp only [gT,gS,gZ]
 go_wp2_with (go_at_call 119; refine Calls.ret (DE (Ev W.out.ru).2.2.2.2.2.1) ?_; rintro v wa ⟨rfl,I⟩)
 first | refine h _ _ ⟨Reg.same_below (I) [5,9] rfl,?_⟩ | refine⟨Reg.same_below (I) [5,9] rfl,?_⟩
 try clear h
 have C:=W.out.at I
 have aF:=C.b2.cell
 have aL:=C.b5.cell
 have aR:=C.load2 rfl
 have aW:=C.load5 rfl
 have Z:=hide C
 have a6:=hide (a5.out.trans (I.mono a5.out.size))
 clear I C aE aK aQ aV
 refine Reg.aI 7 [11,13,14,15,16] [9] rfl fun Qf h=>?_
 simp only [gT,gS,gZ]
 go_wp2_with (go_at_call 119; refine Calls.ret (DE (Ev Z.out.ru).2.2.2.2.2.2.1) ?_; rintro v wb ⟨rfl,J⟩)
 first | refine h _ _ ⟨Reg.same_below (J) [9] rfl,?_⟩ | refine⟨Reg.same_below (J) [9] rfl,?_⟩
 try clear h
 have E:=Z.out.at J
 have aG:=E.b2.cell
 have aM:=E.b5.cell
 have aS:=E.load2 rfl
 have aX:=E.load5 rfl
 have a2:=hide E
 have a7:=hide (a6.out.trans (J.mono a6.out.size))
 clear J E aF aL aR aW
 refine Reg.aI 11 [13,14,15,16] [] rfl fun Qf h=>?_
 simp only [gT,gS,gZ]
 go_wp2_with (go_at_call 119; refine Calls.ret (DE (Ev a2.out.ru).2.2.2.2.2.2.2) ?_; rintro v wc ⟨rfl,O⟩)
 first | refine h _ _ ⟨Reg.nm,?_⟩ | refine⟨Reg.nm,?_⟩
 try clear h
 have F:=a2.out.at O
 have aH:=F.b2.cell
 have aN:=F.b5.cell
 have aT:=F.load2 rfl
 have aY:=F.load5 rfl
 have aB:=hide F
 have a8:=hide (a7.out.trans (O.mono a7.out.size))
 clear O F aG aM aS aX
 refine Reg.aI 13 [14,15,16] [] rfl fun Qf h=>?_
 simp only [gT,gS,gZ]
 go_wp2_with (go_at_call 121; refine(Ce _ _ _).mono ?_; rintro e w' ⟨rfl,rfl⟩)
 first | refine h _ _ ⟨Reg.nm,?_⟩ | refine⟨Reg.nm,?_⟩
 try clear h
 obtain⟨wz,ej,a9,V,aO⟩:=Ae wc #[.int .i64 (Aa r.left (p.states.length:Int)),.int .i64 (Aa r.right (p.states.length:Int)),.int .i64 (Aa r.parent (p.states.length:Int)),.int .i64 (Ad m 1)] 36
 have az:=hide (Ch (l:=[Aa r.left (p.states.length:Int),Aa r.right (p.states.length:Int),Aa r.parent (p.states.length:Int),Ad m 1]) V (by simp))
 have U:=a9
 clear V aO a9
 have G:=aB.out.at U
 have ef:=G.b2.cell
 have eg:=G.b5.cell
 have eh:=G.load2 rfl
 have ei:=G.load5 rfl
 have ee:=hide G
 have aC:=hide (a8.out.trans (U.mono a8.out.size))
 clear U G aH aN aT aY
 refine Reg.wI [14] [15,16] rfl fun Qf h=>?_
 go_wp2_with fail
 first | refine h _ _ ⟨rfl,?_⟩ | refine⟨rfl,?_⟩ | refine h _ _ ⟨by simp [Reg.fineT,Reg.intOp,Region.wanted,yielded,Reg.intFine,Reg.isInt,Act.eval],?_⟩
 try clear h
 refine Reg.aI 15 [16] [] rfl fun Qf h=>?_
 simp only [gT,gS,gZ]
 go_wp2_with (go_at_call 120; refine(Ci (l:=[Aa r.left (p.states.length:Int),Aa r.right (p.states.length:Int),Aa r.parent (p.states.length:Int),Ad m 1]) az.out).mono ?_; rintro e w' ⟨rfl,rfl⟩)
 first | refine h _ _ ⟨Reg.nm,?_⟩ | refine⟨Reg.nm,?_⟩
 try clear h
 refine Reg.wI [16] [] rfl fun Qf h=>?_
 go_wp2_with fail
 first | refine h _ _ ⟨rfl,?_⟩ | refine⟨rfl,?_⟩ | refine h _ _ ⟨by simp [Reg.fineT,Reg.intOp,Region.wanted,yielded,Reg.intFine,Reg.isInt,Act.eval],?_⟩
 try clear h
 first | refine Reg.restI_end ?_ | skip
 refine hQ _ _ (by first | rfl | simp) aC.out
theorem KB {w y:World} {g2 g5:Nat} {p:Am} {r:Az} {A1 A2 A3 A4 A5 A6 A7:Option Addr} {c1 c2 c3 c4 c5 c6 c7:Nat} {E1 E2 E3 E4 E5 E6 E7 E8:Option Addr} {f1 f2 f3 f4 f5 f6 f7 f8:Nat} {O J:Int}
  (E:Cp y g2 g5 #[.string p.name,.int .i64 p.topo,.slice A1 p.states.length c1,.slice A2 p.messages.length c2,.slice A3 p.values.length c3,.int .i64 p.fault,.slice A4 p.res.length c4,.slice A5 p.initial.length c5,.slice A6 p.leader.length c6,.slice A7 p.rules.length c7] #[.string r.name,.int .i64 r.kind,.int .i64 r.fr,.int .i64 r.to,.int .i64 r.pf,.int .i64 r.pt,.slice E1 r.resp.length f1,.slice E2 r.guards.length f2,.slice E3 r.ex.length f3,.slice E4 r.fa.length f4,.int .i64 r.rd,.int .i64 r.wr,.slice E5 r.send.length f5,.int .i64 r.at_,.slice E6 r.left.length f6,.slice E7 r.right.length f7,.slice E8 r.parent.length f8,.int .i64 r.dir] p r) (hb:Below w.heap.size w y)
  {u0 u1 u3 u4 u7 u8 u9 bb bm bx bJ bU cc cn cx cy cz cA cB cD cE cF cG cH cJ cL cM cO cQ cR cS cT cU cV cW cY cZ d0 d1 d2 d3 d4 d5 d6 d7 d8 d9 da db dc de df dg dh di dj dk dl dm u64 dn dp dq dr dt dv dw dx dy dz dA dB dC dD dE dF dG dH dI dJ dK dL dM dN dO dQ dR dS dT dU dV dW dX dY dZ aN aO aP aQ aR aS aT aU aV aW aX aY aZ b0 b4 b6 b7 b8 b9 ba bc bd be bf bg bh bi bj bk bl bn bo bp bq br bs bt bu bv bw bz bA bB bC bD bE bF bG bH bI bK bL bM bN bO bP bQ bR bS bT bV bW bX bY bZ c0 c8 c9 ca cb cd ce cf cg ch ci cj ck cl cm co cp cq cr ct cu cv cw:Value}
  {Q:Exit→Act→World→Prop} (hN:Reg.NoQ Q)
  (hQ:∀(tm:Array Value) (w':World),tm[4]?.getD undef=.int .i64 (Aj id [AD r.pf (p.states.length:Int),AD r.pt (p.states.length:Int),Ad (decide (r.dir<O)||decide (J<r.dir)) 1])→Below w.heap.size w w'→Q .normal ⟨tm,[]⟩ w'):
  (Eu Tryz.f170 24).wp Tryz.prog Q ⟨List.toArray (u0::u1::(.pointer (some ⟨g2,0,none⟩))::u3::u4::(.pointer (some ⟨g5,0,none⟩))::(.int .i64 (p.states.length:Int))::u7::u8::u9::(.int .i64 O)::(.int .i64 J)::bb::bm::bx::bJ::bU::cc::cn::cx::cy::cz::cA::
   cB::cD::cE::cF::cG::cH::cJ::cL::cM::cO::cQ::cR::cS::cT::cU::cV::cW::cY::cZ::d0::d1::d2::d3::d4::d5::d6::d7::d8::d9::da::db::dc::de::df::dg::dh::di::
   dj::dk::dl::dm::u64::dn::dp::dq::dr::dt::dv::dw::dx::dy::dz::dA::dB::dC::dD::dE::dF::dG::dH::dI::dJ::dK::dL::dM::dN::dO::dQ::dR::dS::dT::dU::dV::dW::
   dX::dY::dZ::aN::aO::aP::aQ::aR::aS::aT::aU::aV::aW::aX::aY::aZ::b0::b4::b6::b7::b8::b9::ba::bc::bd::be::bf::bg::bh::bi::bj::bk::bl::
   bn::bo::bp::bq::br::bs::bt::bu::bv::bw::bz::bA::bB::bC::bD::bE::bF::bG::bH::bI::bK::bL::bM::bN::bO::bP::bQ::bR::bS::bT::bV::bW::bX::
   bY::bZ::c0::c8::c9::ca::cb::cd::ce::cf::cg::ch::ci::cj::ck::cl::cm::co::cp::cq::cr::ct::cu::cv::cw::[]),[]⟩ y:=by
 conv=>arg 2; whnf
 have ay:=hide E
 have a5:=hide hb
 have aB:=E.b2.cell
 have aD:=E.b5.cell
 have aF:=E.load2 rfl
 have aH:=E.load5 rfl
 clear E hb
 have F:=ay.out.at (Ap y)
 have a6:=F.b2.cell
 have a7:=F.b5.cell
 have a8:=F.load2 rfl
 have a9:=F.load5 rfl
 have a3:=hide F
 have M:=hide (a5.out.trans ((Ap y).mono a5.out.size))
 clear F aB aD aF aH
 by_cases ha:r.dir<O
 ·
  refine Reg.region_cutI [0,1,0,7,0,16,0,127,0,256,0,1792,4095,8191,16383,8191,65535,131071,262143,524287,1048575,2097151] [0,1,2,4,5,6,8,9,10,11,3,7,12,13,14,15,16,17,18,19,20,21] (by kernel_rfl) hN ?_
  refine Reg.wI [0,1,2,4,5,6,8,9,10,11] [3,7,12,13,14,15,16,17,18,19,20,21] rfl fun Qf h=>?_
  go_wp2_with fail
  first | refine h _ _ ⟨rfl,?_⟩ | refine⟨rfl,?_⟩ | refine h _ _ ⟨by simp [Reg.fineT,Reg.intOp,Region.wanted,yielded,Reg.intFine,Reg.isInt,Act.eval],?_⟩
  try clear h
  refine Reg.aI 3 [7,12,13,14,15,16,17,18,19,20,21] [5,9] rfl fun Qf h=>?_
  simp only [gT,gS,gZ]
  go_wp2_with (go_at_call 173; refine(Cu _ _ _).mono ?_; rintro e w' ⟨rfl,rfl⟩)
  first | refine h _ _ ⟨Reg.same_below (Below.refl _ _) [5,9] rfl,?_⟩ | refine⟨Reg.same_below (Below.refl _ _) [5,9] rfl,?_⟩
  try clear h
  refine Reg.aI 7 [12,13,14,15,16,17,18,19,20,21] [9] rfl fun Qf h=>?_
  simp only [gT,gS,gZ]
  go_wp2_with (go_at_call 173; refine(Cu _ _ _).mono ?_; rintro e w' ⟨rfl,rfl⟩)
  first | refine h _ _ ⟨Reg.same_below (Below.refl _ _) [9] rfl,?_⟩ | refine⟨Reg.same_below (Below.refl _ _) [9] rfl,?_⟩
  try clear h
  refine Reg.wI [12,13,14,15,16,17] [18,19,20,21] rfl fun Qf h=>?_
  go_wp2_with fail
  first | refine h _ _ ⟨rfl,?_⟩ | refine⟨rfl,?_⟩ | refine h _ _ ⟨by simp [Reg.fineT,Reg.intOp,Region.wanted,yielded,Reg.intFine,Reg.isInt,Act.eval],?_⟩
  try clear h
  refine Reg.aI 18 [19,20,21] [] rfl fun Qf h=>?_
  simp only [gT,gS,gZ]
  go_wp2_with (go_at_call 121; refine(Ce _ _ _).mono ?_; rintro e w' ⟨rfl,rfl⟩)
  first | refine h _ _ ⟨Reg.nm,?_⟩ | refine⟨Reg.nm,?_⟩
  try clear h
  obtain⟨Z,aL,I,G,W⟩:=Ae y.drew #[.int .i64 (AD r.pf (p.states.length:Int)),.int .i64 (AD r.pt (p.states.length:Int)),.int .i64 (Ad true 1)] 36
  have U:=hide (Ch (l:=[AD r.pf (p.states.length:Int),AD r.pt (p.states.length:Int),Ad true 1]) G (by simp))
  have C:Below y.drew.heap.size y.drew Z:=I
  clear G W I
  have x:=a3.out.at C
  have aC:=x.b2.cell
  have aE:=x.b5.cell
  have aG:=x.load2 rfl
  have aJ:=x.load5 rfl
  have az:=hide x
  have V:=hide (M.out.trans (C.mono M.out.size))
  clear C x a6 a7 a8 a9
  refine Reg.wI [19] [20,21] rfl fun Qf h=>?_
  go_wp2_with fail
  first | refine h _ _ ⟨rfl,?_⟩ | refine⟨rfl,?_⟩ | refine h _ _ ⟨by simp [Reg.fineT,Reg.intOp,Region.wanted,yielded,Reg.intFine,Reg.isInt,Act.eval],?_⟩
  try clear h
  refine Reg.aI 20 [21] [] rfl fun Qf h=>?_
  simp only [gT,gS,gZ]
  go_wp2_with (go_at_call 120; refine(Ci (l:=[AD r.pf (p.states.length:Int),AD r.pt (p.states.length:Int),Ad true 1]) U.out).mono ?_; rintro e w' ⟨rfl,rfl⟩)
  first | refine h _ _ ⟨Reg.nm,?_⟩ | refine⟨Reg.nm,?_⟩
  try clear h
  refine Reg.wI [21] [] rfl fun Qf h=>?_
  go_wp2_with fail
  first | refine h _ _ ⟨rfl,?_⟩ | refine⟨rfl,?_⟩ | refine h _ _ ⟨by simp [Reg.fineT,Reg.intOp,Region.wanted,yielded,Reg.intFine,Reg.isInt,Act.eval],?_⟩
  try clear h
  first | refine Reg.restI_end ?_ | skip
  refine hQ _ _ ?_ V.out
  simp [ha]
 ·
  refine Reg.region_cutI [0,1,0,7,0,16,0,127,0,256,0,1792,4095,8191,16383,8191,65535,131071,262143,524287,1048575,2097151] [0,1,2,4,5,6,8,9,10,11,3,7,12,13,14,15,16,17,18,19,20,21] (by kernel_rfl) hN ?_
  refine Reg.wI [0,1,2,4,5,6,8,9,10,11] [3,7,12,13,14,15,16,17,18,19,20,21] rfl fun Qf h=>?_
  go_wp2_with fail
  first | refine h _ _ ⟨rfl,?_⟩ | refine⟨rfl,?_⟩ | refine h _ _ ⟨by simp [Reg.fineT,Reg.intOp,Region.wanted,yielded,Reg.intFine,Reg.isInt,Act.eval],?_⟩
  try clear h
  refine Reg.aI 3 [7,12,13,14,15,16,17,18,19,20,21] [5,9] rfl fun Qf h=>?_
  simp only [gT,gS,gZ]
  go_wp2_with (go_at_call 173; refine(Cu _ _ _).mono ?_; rintro e w' ⟨rfl,rfl⟩)
  first | refine h _ _ ⟨Reg.same_below (Below.refl _ _) [5,9] rfl,?_⟩ | refine⟨Reg.same_below (Below.refl _ _) [5,9] rfl,?_⟩
  try clear h
  refine Reg.aI 7 [12,13,14,15,16,17,18,19,20,21] [9] rfl fun Qf h=>?_
  simp only [gT,gS,gZ]
  go_wp2_with (go_at_call 173; refine(Cu _ _ _).mono ?_; rintro e w' ⟨rfl,rfl⟩)
  first | refine h _ _ ⟨Reg.same_below (Below.refl _ _) [9] rfl,?_⟩ | refine⟨Reg.same_below (Below.refl _ _) [9] rfl,?_⟩
  try clear h
  refine Reg.wI [12,13,14,15,16,17] [18,19,20,21] rfl fun Qf h=>?_
  go_wp2_with fail
  first | refine h _ _ ⟨rfl,?_⟩ | refine⟨rfl,?_⟩ | refine h _ _ ⟨by simp [Reg.fineT,Reg.intOp,Region.wanted,yielded,Reg.intFine,Reg.isInt,Act.eval],?_⟩
  try clear h
  refine Reg.aI 18 [19,20,21] [] rfl fun Qf h=>?_
  simp only [gT,gS,gZ]
  go_wp2_with (go_at_call 121; refine(Ce _ _ _).mono ?_; rintro e w' ⟨rfl,rfl⟩)
  first | refine h _ _ ⟨Reg.nm,?_⟩ | refine⟨Reg.nm,?_⟩
  try clear h
  obtain⟨Z,aL,I,G,W⟩:=Ae y.drew #[.int .i64 (AD r.pf (p.states.length:Int)),.int .i64 (AD r.pt (p.states.length:Int)),.int .i64 (Ad (decide (J<r.dir)) 1)] 36
  have U:=hide (Ch (l:=[AD r.pf (p.states.length:Int),AD r.pt (p.states.length:Int),Ad (decide (J<r.dir)) 1]) G (by simp))
  have C:Below y.drew.heap.size y.drew Z:=I
  clear G W I
  have x:=a3.out.at C
  have aC:=x.b2.cell
  have aE:=x.b5.cell
  have aG:=x.load2 rfl
  have aJ:=x.load5 rfl
  have az:=hide x
  have V:=hide (M.out.trans (C.mono M.out.size))
  clear C x a6 a7 a8 a9
  refine Reg.wI [19] [20,21] rfl fun Qf h=>?_
  go_wp2_with fail
  first | refine h _ _ ⟨rfl,?_⟩ | refine⟨rfl,?_⟩ | refine h _ _ ⟨by simp [Reg.fineT,Reg.intOp,Region.wanted,yielded,Reg.intFine,Reg.isInt,Act.eval],?_⟩
  try clear h
  refine Reg.aI 20 [21] [] rfl fun Qf h=>?_
  simp only [gT,gS,gZ]
  go_wp2_with (go_at_call 120; refine(Ci (l:=[AD r.pf (p.states.length:Int),AD r.pt (p.states.length:Int),Ad (decide (J<r.dir)) 1]) U.out).mono ?_; rintro e w' ⟨rfl,rfl⟩)
  first | refine h _ _ ⟨Reg.nm,?_⟩ | refine⟨Reg.nm,?_⟩
  try clear h
  refine Reg.wI [21] [] rfl fun Qf h=>?_
  go_wp2_with fail
  first | refine h _ _ ⟨rfl,?_⟩ | refine⟨rfl,?_⟩ | refine h _ _ ⟨by simp [Reg.fineT,Reg.intOp,Region.wanted,yielded,Reg.intFine,Reg.isInt,Act.eval],?_⟩
  try clear h
  first | refine Reg.restI_end ?_ | skip
  refine hQ _ _ ?_ V.out
  have hn:¬r.dir<O:=by omega
  rw [decide_eq_false hn,Bool.false_or]
  first | rfl | simp
end Go.Proofs.YtfcfpoemojjglaaGreatDoor.K
