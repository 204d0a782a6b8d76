/-
  Part CF of a proof.
-/
import Derived.Test.YtfcfpoemojjglaaGreatDoorPA
import Derived.Test.YtfcfpoemojjglaaGreatDoorCE
set_option maxHeartbeats 16000000
set_option maxRecDepth 100000
set_option linter.unusedVariables false
set_option linter.unusedSimpArgs false
namespace Go.Proofs.YtfcfpoemojjglaaGreatDoor.K
open Go.RowKit
attribute [-go_sem] loadCellsFrom storeCells
def CW:Code→List Code
 | .region i o d=>[.region i o d]
 | .seq a b=>CW a++CW b
 | .loop a=>CW a
 | .scope a=>CW a
 | .block _ a=>CW a
 | .cond _ a b=>CW a++CW b
 | _=>[]
def Eu (f:Func) (k:Nat):Code:=match f.body with
 | some c=>(CW c).getD k .skip
 | none=>.skip
theorem RN {w y:World} {g2 g5:Nat} {p:Am} {r:Az} {G I J M O U V:Option Addr} {c1 c2 c3 c4 c5 c6 c7:Nat} {W Z E3 E4 E5 E6 E7 E8:Option Addr} {f1 f2 f3 f4 f5 f6 f7 f8:Nat}
  (z:Cp y g2 g5 #[.string p.name,.int .i64 p.topo,.slice G p.states.length c1,.slice I p.messages.length c2,.slice J p.values.length c3,.int .i64 p.fault,.slice M p.res.length c4,.slice O p.initial.length c5,.slice U p.leader.length c6,.slice V p.rules.length c7] #[.string r.name,.int .i64 r.kind,.int .i64 r.fr,.int .i64 r.to,.int .i64 r.pf,.int .i64 r.pt,.slice W r.resp.length f1,.slice Z r.guards.length f2,.slice E3 r.ex.length f3,.slice E4 r.fa.length f4,.int .i64 r.rd,.int .i64 r.wr,.slice E5 r.send.length f5,.int .i64 r.at_,.slice E6 r.left.length f6,.slice E7 r.right.length f7,.slice E8 r.parent.length f8,.int .i64 r.dir] p r) (hb:Below w.heap.size w y)
  {u0 u1 u3 u4 u7 u8 u9 av aG aS b4 bg br bD bO bZ cf cg ch ci cj ck cm cn co cp cq ct cu cv cw cx cy cz cA cB cD cF cG cH cJ cK cL cM dP dQ dR dS dT dU dV dW dX dY cO cQ cR cS cT cU cV u64 cW cX cY cZ d0 d2 d3 d4 d5 d6 d7 d8 d9 da db dc de df dg dh di dj dk dl dm dp dq dr dt du dv dw dx dy dz aw ax ay az aA aB aC aD aE aF aH aJ aK aL aM aN aO aP aQ aR aT aU aV aW aX aY aZ b0 b1 b3 b6 b7 b8 b9 ba bb bc bd be bf bh bi bj bk bl bm bn bo bp bq bs bt bu bv bw bx bz bA bB bC bE bF bG bH bI bJ bK bL bM bN bP bQ bR bS bT bU bV bW bX bY c0 c8 c9 ca cb cc cd ce:Value}
  {Q:Exit→Act→World→Prop} (hN:Reg.NoQ Q)
  (hQ:∀(e0 e1 e2 e3 e4 e5 e6 e7 e8 e9:Value) (w':World),Cp w' g2 g5 #[.string p.name,.int .i64 p.topo,.slice G p.states.length c1,.slice I p.messages.length c2,.slice J p.values.length c3,.int .i64 p.fault,.slice M p.res.length c4,.slice O p.initial.length c5,.slice U p.leader.length c6,.slice V p.rules.length c7] #[.string r.name,.int .i64 r.kind,.int .i64 r.fr,.int .i64 r.to,.int .i64 r.pf,.int .i64 r.pt,.slice W r.resp.length f1,.slice Z r.guards.length f2,.slice E3 r.ex.length f3,.slice E4 r.fa.length f4,.int .i64 r.rd,.int .i64 r.wr,.slice E5 r.send.length f5,.int .i64 r.at_,.slice E6 r.left.length f6,.slice E7 r.right.length f7,.slice E8 r.parent.length f8,.int .i64 r.dir] p r→Below w.heap.size w w'→Q .normal ⟨List.toArray (u0::u1::(.pointer (some ⟨g2,0,none⟩))::u3::u4::(.pointer (some ⟨g5,0,none⟩))::(.int .i64 (p.states.length:Int))::u7::(.int .i64 (Aj id [AD r.fr (p.states.length:Int),AD r.to (p.states.length:Int)]))::u9::av::aG::aS::
   b4::bg::br::bD::bO::bZ::cf::cg::ch::ci::cj::ck::cm::cn::co::cp::cq::ct::cu::cv::cw::cx::cy::cz::cA::cB::cD::cF::cG::cH::cJ::cK::cL::cM::e0::e1::e2::
   e3::e4::e5::e6::e7::e8::e9::cO::cQ::cR::cS::cT::cU::cV::u64::cW::cX::cY::cZ::d0::d2::d3::d4::d5::d6::d7::d8::d9::da::db::dc::de::df::dg::dh::di::dj::
   dk::dl::dm::dp::dq::dr::dt::du::dv::dw::dx::dy::dz::aw::ax::ay::az::aA::aB::aC::aD::aE::aF::aH::aJ::aK::aL::aM::aN::aO::aP::aQ::aR::aT::
   aU::aV::aW::aX::aY::aZ::b0::b1::b3::b6::b7::b8::b9::ba::bb::bc::bd::be::bf::bh::bi::bj::bk::bl::bm::bn::bo::bp::bq::bs::bt::bu::bv::
   bw::bx::bz::bA::bB::bC::bE::bF::bG::bH::bI::bJ::bK::bL::bM::bN::bP::bQ::bR::bS::bT::bU::bV::bW::bX::bY::c0::c8::c9::ca::cb::cc::cd::
   ce::[]),[]⟩ w'):
  (Eu Tryz.f170 8).wp Tryz.prog Q ⟨List.toArray (u0::u1::(.pointer (some ⟨g2,0,none⟩))::u3::u4::(.pointer (some ⟨g5,0,none⟩))::(.int .i64 (p.states.length:Int))::u7::u8::u9::av::aG::aS::b4::bg::br::bD::bO::bZ::cf::cg::ch::ci::cj::ck::cm::
   cn::co::cp::cq::ct::cu::cv::cw::cx::cy::cz::cA::cB::cD::cF::cG::cH::cJ::cK::cL::cM::dP::dQ::dR::dS::dT::dU::dV::dW::dX::dY::cO::cQ::cR::cS::cT::cU::
   cV::u64::cW::cX::cY::cZ::d0::d2::d3::d4::d5::d6::d7::d8::d9::da::db::dc::de::df::dg::dh::di::dj::dk::dl::dm::dp::dq::dr::dt::du::dv::dw::dx::dy::dz::
   aw::ax::ay::az::aA::aB::aC::aD::aE::aF::aH::aJ::aK::aL::aM::aN::aO::aP::aQ::aR::aT::aU::aV::aW::aX::aY::aZ::b0::b1::b3::b6::b7::b8::
   b9::ba::bb::bc::bd::be::bf::bh::bi::bj::bk::bl::bm::bn::bo::bp::bq::bs::bt::bu::bv::bw::bx::bz::bA::bB::bC::bE::bF::bG::bH::bI::bJ::
   bK::bL::bM::bN::bP::bQ::bR::bS::bT::bU::bV::bW::bX::bY::c0::c8::c9::ca::cb::cc::cd::ce::[]),[]⟩ y:=by
 conv=>arg 2; whnf
 have dC:=hide z
 have ao:=hide hb
 have dG:=z.b2.cell
 have dI:=z.b5.cell
 have dL:=z.load2 rfl
 have dN:=z.load5 rfl
 clear z hb
 have C:=dC.out.at (Ap y)
 have dH:=C.b2.cell
 have dJ:=C.b5.cell
 have dM:=C.load2 rfl
 have dO:=C.load5 rfl
 have dD:=hide C
 have ap:=hide (ao.out.trans ((Ap y).mono ao.out.size))
 clear C dG dI dL dN
 refine Reg.region_cutI [0,1,0,7,0,16,0,127,255,511,1023] [0,1,2,4,5,6,3,7,8,9,10] (by kernel_rfl) hN ?_
 refine Reg.wI [0,1,2,4,5,6] [3,7,8,9,10] rfl fun Qf h=>?_
 go_wp2_with fail
 first | refine h _ _ ⟨rfl,?_⟩ | refine⟨rfl,?_⟩ | refine h _ _ ⟨by simp [Reg.fineT,Reg.intOp,Region.wanted,yielded,Reg.intFine,Reg.isInt,Act.eval],?_⟩
 try clear h
 refine Reg.aI 3 [7,8,9,10] [5] rfl fun Qf h=>?_
 simp only [gT,gS,gZ]
 go_wp2_with (go_at_call 173; refine(Cu _ _ _).mono ?_; rintro e w' ⟨rfl,rfl⟩)
 first | refine h _ _ ⟨Reg.same_below (Below.refl _ _) [5] rfl,?_⟩ | refine⟨Reg.same_below (Below.refl _ _) [5] rfl,?_⟩
 try clear h
 refine Reg.aI 7 [8,9,10] [] rfl fun Qf h=>?_
 simp only [gT,gS,gZ]
 go_wp2_with (go_at_call 173; refine(Cu _ _ _).mono ?_; rintro e w' ⟨rfl,rfl⟩)
 first | refine h _ _ ⟨Reg.nm,?_⟩ | refine⟨Reg.nm,?_⟩
 try clear h
 obtain⟨wz,ee,aq,am,dK⟩:=Ae y.drew #[.int .i64 (AD r.fr (p.states.length:Int)),.int .i64 (AD r.to (p.states.length:Int))] 36
 have dB:=hide (Ch (l:=[AD r.fr (p.states.length:Int),AD r.to (p.states.length:Int)]) am (by simp))
 have F:Below y.drew.heap.size y.drew wz:=aq
 clear am dK aq
 have E:=dD.out.at F
 have ea:=E.b2.cell
 have eb:=E.b5.cell
 have ec:=E.load2 rfl
 have ed:=E.load5 rfl
 have dE:=hide E
 have dF:=hide (ap.out.trans (F.mono ap.out.size))
 clear F E dH dJ dM dO
 refine Reg.wI [8] [9,10] rfl fun Qf h=>?_
 go_wp2_with fail
 first | refine h _ _ ⟨rfl,?_⟩ | refine⟨rfl,?_⟩ | refine h _ _ ⟨by simp [Reg.fineT,Reg.intOp,Region.wanted,yielded,Reg.intFine,Reg.isInt,Act.eval],?_⟩
 try clear h
 refine Reg.aI 9 [10] [] rfl fun Qf h=>?_
 simp only [gT,gS,gZ]
 go_wp2_with (go_at_call 120; refine(Ci (l:=[AD r.fr (p.states.length:Int),AD r.to (p.states.length:Int)]) dB.out).mono ?_; rintro e w' ⟨rfl,rfl⟩)
 first | refine h _ _ ⟨Reg.nm,?_⟩ | refine⟨Reg.nm,?_⟩
 try clear h
 refine Reg.wI [10] [] rfl fun Qf h=>?_
 go_wp2_with fail
 first | refine h _ _ ⟨rfl,?_⟩ | refine⟨rfl,?_⟩ | refine h _ _ ⟨by simp [Reg.fineT,Reg.intOp,Region.wanted,yielded,Reg.intFine,Reg.isInt,Act.eval],?_⟩
 try clear h
 first | refine Reg.restI_end ?_ | skip
 refine hQ _ _ _ _ _ _ _ _ _ _ _ dE.out dF.out
theorem RK {w w5:World} {g2 g5:Nat} {p:Am} {r:Az} {A1 A2 A3 A4 A5 A6 A7:Option Addr} {c1 c2 c3 c4 c5 c6 c7:Nat} {E1 E2 E3 E4 E5 E6 E7 E8:Option Addr} {f1 f2 f3 f4 f5 f6 f7 f8:Nat}
  (y:Cp w5 g2 g5 #[.string p.name,.int .i64 p.topo,.slice A1 p.states.length c1,.slice A2 p.messages.length c2,.slice A3 p.values.length c3,.int .i64 p.fault,.slice A4 p.res.length c4,.slice A5 p.initial.length c5,.slice A6 p.leader.length c6,.slice A7 p.rules.length c7] #[.string r.name,.int .i64 r.kind,.int .i64 r.fr,.int .i64 r.to,.int .i64 r.pf,.int .i64 r.pt,.slice E1 r.resp.length f1,.slice E2 r.guards.length f2,.slice E3 r.ex.length f3,.slice E4 r.fa.length f4,.int .i64 r.rd,.int .i64 r.wr,.slice E5 r.send.length f5,.int .i64 r.at_,.slice E6 r.left.length f6,.slice E7 r.right.length f7,.slice E8 r.parent.length f8,.int .i64 r.dir] p r) (hb:Below w.heap.size w w5)
  {u0 u1 u3 u4 u7 u8 u9 bA bL bW ce cq cD cR d2 de dn dp dq dr dt du dv dw dx dy dz dB dC dD dE dF dG dH dI dJ dK dM dN dO dP dQ dR dS dT dU dV dW dX dY dZ e0 e1 e2 e3 e4 e5 e6 e7 e8 e9 u64 ea eb ec ed ee eg eh ei ej ek el em en eo ep eq er et eu ev ew ey ez eA eB eE eF eG eH eI eJ eK eL eM eN bB bC bD bE bF bG bH bI bJ bK bM bN bO bP bQ bR bS bT bU bV bX bY bZ c0 c8 c9 ca cb cc cd cf cg ch ci cj ck cm cn co cp cr ct cu cv cw cx cy cz cA cB cE cF cG cH cJ cK cL cM cO cQ cS cT cU cV cW cX cY cZ d0 d1 d3 d4 d5 d6 d7 d8 d9 da db dc df dg dh di dj dk dl dm:Value}
  {Q:Exit→Act→World→Prop} (hN:Reg.NoQ Q)
  (hQ:∀(tm:Array Value) (w':World),tm[4]?.getD undef=.int .i64 (Aj id [Dy (p.messages.length:Int) r.guards,Aa r.ex (p.states.length:Int),Aa r.fa (p.states.length:Int),Bn r.rd (p.values.length:Int),Bn r.wr (p.values.length:Int),Aa r.send (p.messages.length:Int)])→Below w.heap.size w w'→Q .normal ⟨tm,[]⟩ w'):
  (Eu Tryz.f170 13).wp Tryz.prog Q ⟨List.toArray (u0::u1::(.pointer (some ⟨g2,0,none⟩))::u3::u4::(.pointer (some ⟨g5,0,none⟩))::(.int .i64 (p.states.length:Int))::u7::u8::u9::bA::bL::bW::ce::cq::cD::cR::d2::de::dn::dp::dq::dr::dt::du::dv::
   dw::dx::dy::dz::dB::dC::dD::dE::dF::dG::dH::dI::dJ::dK::dM::dN::dO::dP::dQ::dR::dS::dT::dU::dV::dW::dX::dY::dZ::e0::e1::e2::e3::e4::e5::e6::e7::e8::
   e9::u64::ea::eb::ec::ed::ee::eg::eh::ei::ej::ek::el::em::en::eo::ep::eq::er::et::eu::ev::ew::ey::ez::eA::eB::eE::eF::eG::eH::eI::eJ::eK::eL::eM::eN::
   bB::bC::bD::bE::bF::bG::bH::bI::bJ::bK::bM::bN::bO::bP::bQ::bR::bS::bT::bU::bV::bX::bY::bZ::c0::c8::c9::ca::cb::cc::cd::cf::cg::ch::
   ci::cj::ck::cm::cn::co::cp::cr::ct::cu::cv::cw::cx::cy::cz::cA::cB::cE::cF::cG::cH::cJ::cK::cL::cM::cO::cQ::cS::cT::cU::cV::cW::cX::
   cY::cZ::d0::d1::d3::d4::d5::d6::d7::d8::d9::da::db::dc::df::dg::dh::di::dj::dk::dl::dm::[]),[]⟩ w5:=by
 conv=>arg 2; whnf
 have aV:=hide y
 have ae:=hide hb
 have aY:=y.b2.cell
 have b8:=y.b5.cell
 have bh:=y.load2 rfl
 have bp:=y.load5 rfl
 clear y hb
 have z:=aV.out.at (Ap w5)
 have aZ:=z.b2.cell
 have b9:=z.b5.cell
 have bi:=z.load2 rfl
 have bq:=z.load5 rfl
 have a3:=hide z
 have af:=hide (ae.out.trans ((Ap w5).mono ae.out.size))
 clear z aY b8 bh bp
 refine Reg.region_cutI [0,0,2,7,0,16,0,127,0,256,0,2047,0,0,8192,32767,0,0,131072,524287,0,1048576,0,4194304,12582912,33554431,67108863,134217727,268435455] [0,1,2,4,5,6,8,9,10,12,13,14,16,17,18,20,21,22,23,24,3,7,11,15,19,25,26,27,28] (by kernel_rfl) hN ?_
 refine Reg.wI [0,1,2,4,5,6,8,9,10,12,13,14,16,17,18,20,21,22,23,24] [3,7,11,15,19,25,26,27,28] rfl fun Qf h=>?_
 go_wp2_with fail
 first | refine h _ _ ⟨rfl,?_⟩ | refine⟨rfl,?_⟩ | refine h _ _ ⟨by simp [Reg.fineT,Reg.intOp,Region.wanted,yielded,Reg.intFine,Reg.isInt,Act.eval],?_⟩
 try clear h
 refine Reg.aI 3 [7,11,15,19,25,26,27,28] [5,9,12,14,16,18,21,23] rfl fun Qf h=>?_
 simp only [gT,gS,gZ]
 go_wp2_with (go_at_call 210; refine Calls.ret (P5 a3.out.pr (Ev a3.out.ru).2.1) ?_; rintro v w7 ⟨rfl,O⟩)
 first | refine h _ _ ⟨Reg.same_below (O) [5,9,12,14,16,18,21,23] rfl,?_⟩ | refine⟨Reg.same_below (O) [5,9,12,14,16,18,21,23] rfl,?_⟩
 try clear h
 have C:=a3.out.at O
 have b0:=C.b2.cell
 have ba:=C.b5.cell
 have bj:=C.load2 rfl
 have br:=C.load5 rfl
 have a7:=hide C
 have ag:=hide (af.out.trans (O.mono af.out.size))
 clear O C aZ b9 bi bq
 refine Reg.aI 7 [11,15,19,25,26,27,28] [9,12,14,16,18,21,23] rfl fun Qf h=>?_
 simp only [gT,gS,gZ]
 go_wp2_with (go_at_call 119; refine Calls.ret (DE (Ev a7.out.ru).2.2.1) ?_; rintro v w8 ⟨rfl,U⟩)
 first | refine h _ _ ⟨Reg.same_below (U) [9,12,14,16,18,21,23] rfl,?_⟩ | refine⟨Reg.same_below (U) [9,12,14,16,18,21,23] rfl,?_⟩
 try clear h
 have E:=a7.out.at U
 have b1:=E.b2.cell
 have bb:=E.b5.cell
 have bk:=E.load2 rfl
 have bs:=E.load5 rfl
 have a8:=hide E
 have ah:=hide (ag.out.trans (U.mono ag.out.size))
 clear U E b0 ba bj br
 refine Reg.aI 11 [15,19,25,26,27,28] [12,14,16,18,21,23] rfl fun Qf h=>?_
 simp only [gT,gS,gZ]
 go_wp2_with (go_at_call 119; refine Calls.ret (DE (Ev a8.out.ru).2.2.2.1) ?_; rintro v w9 ⟨rfl,V⟩)
 first | refine h _ _ ⟨Reg.same_below (V) [12,14,16,18,21,23] rfl,?_⟩ | refine⟨Reg.same_below (V) [12,14,16,18,21,23] rfl,?_⟩
 try clear h
 have F:=a8.out.at V
 have b3:=F.b2.cell
 have bc:=F.b5.cell
 have bl:=F.load2 rfl
 have bt:=F.load5 rfl
 have a9:=hide F
 have ai:=hide (ah.out.trans (V.mono ah.out.size))
 clear V F b1 bb bk bs
 refine Reg.aI 15 [19,25,26,27,28] [16,18,21,23] rfl fun Qf h=>?_
 simp only [gT,gS,gZ]
 go_wp2_with (go_at_call 211; refine Calls.ret (FE a9.out.pr) ?_; rintro v wa ⟨rfl,W⟩)
 first | refine h _ _ ⟨Reg.same_below (W) [16,18,21,23] rfl,?_⟩ | refine⟨Reg.same_below (W) [16,18,21,23] rfl,?_⟩
 try clear h
 have G:=a9.out.at W
 have b4:=G.b2.cell
 have bd:=G.b5.cell
 have bm:=G.load2 rfl
 have bu:=G.load5 rfl
 have aa:=hide G
 have aj:=hide (ai.out.trans (W.mono ai.out.size))
 clear W G b3 bc bl bt
 refine Reg.aI 19 [25,26,27,28] [21,23] rfl fun Qf h=>?_
 simp only [gT,gS,gZ]
 go_wp2_with (go_at_call 211; refine Calls.ret (FE aa.out.pr) ?_; rintro v wb ⟨rfl,Z⟩)
 first | refine h _ _ ⟨Reg.same_below (Z) [21,23] rfl,?_⟩ | refine⟨Reg.same_below (Z) [21,23] rfl,?_⟩
 try clear h
 have I:=aa.out.at Z
 have b6:=I.b2.cell
 have be:=I.b5.cell
 have bn:=I.load2 rfl
 have bv:=I.load5 rfl
 have ab:=hide I
 have ak:=hide (aj.out.trans (Z.mono aj.out.size))
 clear Z I b4 bd bm bu
 refine Reg.aI 25 [26,27,28] [] rfl fun Qf h=>?_
 simp only [gT,gS,gZ]
 go_wp2_with (go_at_call 119; refine Calls.ret (DE (Ev ab.out.ru).2.2.2.2.1) ?_; rintro v wc ⟨rfl,a4⟩)
 first | refine h _ _ ⟨Reg.nm,?_⟩ | refine⟨Reg.nm,?_⟩
 try clear h
 have J:=ab.out.at a4
 have b7:=J.b2.cell
 have bf:=J.b5.cell
 have bo:=J.load2 rfl
 have bw:=J.load5 rfl
 have aW:=hide J
 have al:=hide (ak.out.trans (a4.mono ak.out.size))
 clear a4 J b6 be bn bv
 obtain⟨wz,eU,am,a6,bg⟩:=Ae wc #[.int .i64 (Dy (p.messages.length:Int) r.guards),.int .i64 (Aa r.ex (p.states.length:Int)),.int .i64 (Aa r.fa (p.states.length:Int)),.int .i64 (Bn r.rd (p.values.length:Int)),.int .i64 (Bn r.wr (p.values.length:Int)),.int .i64 (Aa r.send (p.messages.length:Int))] 36
 have aU:=hide (Ch (l:=[Dy (p.messages.length:Int) r.guards,Aa r.ex (p.states.length:Int),Aa r.fa (p.states.length:Int),Bn r.rd (p.values.length:Int),Bn r.wr (p.values.length:Int),Aa r.send (p.messages.length:Int)]) a6 (by simp))
 have a5:=am
 clear a6 bg am
 have M:=aW.out.at a5
 have eQ:=M.b2.cell
 have eR:=M.b5.cell
 have eS:=M.load2 rfl
 have eT:=M.load5 rfl
 have eP:=hide M
 have aX:=hide (al.out.trans (a5.mono al.out.size))
 clear a5 M b7 bf bo bw
 refine Reg.wI [26] [27,28] rfl fun Qf h=>?_
 go_wp2_with fail
 first | refine h _ _ ⟨rfl,?_⟩ | refine⟨rfl,?_⟩ | refine h _ _ ⟨by simp [Reg.fineT,Reg.intOp,Region.wanted,yielded,Reg.intFine,Reg.isInt,Act.eval],?_⟩
 try clear h
 refine Reg.aI 27 [28] [] rfl fun Qf h=>?_
 simp only [gT,gS,gZ]
 go_wp2_with (go_at_call 120; refine(Ci (l:=[Dy (p.messages.length:Int) r.guards,Aa r.ex (p.states.length:Int),Aa r.fa (p.states.length:Int),Bn r.rd (p.values.length:Int),Bn r.wr (p.values.length:Int),Aa r.send (p.messages.length:Int)]) aU.out).mono ?_; rintro e w' ⟨rfl,rfl⟩)
 first | refine h _ _ ⟨Reg.nm,?_⟩ | refine⟨Reg.nm,?_⟩
 try clear h
 refine Reg.wI [28] [] rfl fun Qf h=>?_
 go_wp2_with fail
 first | refine h _ _ ⟨rfl,?_⟩ | refine⟨rfl,?_⟩ | refine h _ _ ⟨by simp [Reg.fineT,Reg.intOp,Region.wanted,yielded,Reg.intFine,Reg.isInt,Act.eval],?_⟩
 try clear h
 first | refine Reg.restI_end ?_ | skip
 refine hQ _ _ (by first | rfl | simp) aX.out
theorem RL {w I:World} {g2 g5:Nat} {p:Am} {r:Az} {A1 A2 A3 A4 A5 A6 A7:Option Addr} {c1 c2 c3 c4 c5 c6 c7:Nat} {E1 E2 E3 E4 E5 E6 E7 E8:Option Addr} {f1 f2 f3 f4 f5 f6 f7 f8:Nat}
  (y:Cp I g2 g5 #[.string p.name,.int .i64 p.topo,.slice A1 p.states.length c1,.slice A2 p.messages.length c2,.slice A3 p.values.length c3,.int .i64 p.fault,.slice A4 p.res.length c4,.slice A5 p.initial.length c5,.slice A6 p.leader.length c6,.slice A7 p.rules.length c7] #[.string r.name,.int .i64 r.kind,.int .i64 r.fr,.int .i64 r.to,.int .i64 r.pf,.int .i64 r.pt,.slice E1 r.resp.length f1,.slice E2 r.guards.length f2,.slice E3 r.ex.length f3,.slice E4 r.fa.length f4,.int .i64 r.rd,.int .i64 r.wr,.slice E5 r.send.length f5,.int .i64 r.at_,.slice E6 r.left.length f6,.slice E7 r.right.length f7,.slice E8 r.parent.length f8,.int .i64 r.dir] p r) (W:Below w.heap.size w I)
  {u0 u1 u3 u4 u7 u8 u9 b1 be bp bB bM bX cf cr cE cQ cR cS cT cU cV cW cX cY cZ d0 d2 d3 d4 d5 d6 d7 d8 d9 da db de df dg dh di dj dk dl dm dn dp dq dr dt du dv dw dx dy dz dA dB dC dD u64 dE dF dG dH dI dK dL dM dN dO dP dQ dR dS dT dU dV dW dX dY dZ e0 e1 e2 e3 e5 e6 e7 e8 e9 ea eb ec ed ee b3 b4 b6 b7 b8 b9 ba bb bc bd bf bg bh bi bj bk bl bm bn bo bq br bs bt bu bv bw bx bz bA bC bD bE bF bG bH bI bJ bK bL bN bO bP bQ bR bS bT bU bV bW bY bZ c0 c8 c9 ca cb cc cd ce cg ch ci cj ck cm cn co cp cq ct cu cv cw cx cy cz cA cB cD cF cG cH cJ cK cL cM cO:Value}
  {Q:Exit→Act→World→Prop} (hN:Reg.NoQ Q)
  (hQ:∀(tm:Array Value) (w':World),tm[4]?.getD undef=.int .i64 (Aj id [AD r.pf (p.states.length:Int),AD r.pt (p.states.length:Int),Bn r.rd (p.values.length:Int),Bn r.wr (p.values.length:Int)])→Below w.heap.size w w'→Q .normal ⟨tm,[]⟩ w'):
  (Eu Tryz.f170 15).wp Tryz.prog Q ⟨List.toArray (u0::u1::(.pointer (some ⟨g2,0,none⟩))::u3::u4::(.pointer (some ⟨g5,0,none⟩))::(.int .i64 (p.states.length:Int))::u7::u8::u9::b1::be::bp::bB::bM::bX::cf::cr::cE::cQ::cR::cS::cT::cU::cV::cW::
   cX::cY::cZ::d0::d2::d3::d4::d5::d6::d7::d8::d9::da::db::de::df::dg::dh::di::dj::dk::dl::dm::dn::dp::dq::dr::dt::du::dv::dw::dx::dy::dz::dA::dB::dC::
   dD::u64::dE::dF::dG::dH::dI::dK::dL::dM::dN::dO::dP::dQ::dR::dS::dT::dU::dV::dW::dX::dY::dZ::e0::e1::e2::e3::e5::e6::e7::e8::e9::ea::eb::ec::ed::ee::
   b3::b4::b6::b7::b8::b9::ba::bb::bc::bd::bf::bg::bh::bi::bj::bk::bl::bm::bn::bo::bq::br::bs::bt::bu::bv::bw::bx::bz::bA::bC::bD::bE::
   bF::bG::bH::bI::bJ::bK::bL::bN::bO::bP::bQ::bR::bS::bT::bU::bV::bW::bY::bZ::c0::c8::c9::ca::cb::cc::cd::ce::cg::ch::ci::cj::ck::cm::
   cn::co::cp::cq::ct::cu::cv::cw::cx::cy::cz::cA::cB::cD::cF::cG::cH::cJ::cK::cL::cM::cO::[]),[]⟩ I:=by
 conv=>arg 2; whnf
 have aE:=hide y
 have Z:=hide W
 have aH:=y.b2.cell
 have aM:=y.b5.cell
 have aR:=y.load2 rfl
 have aV:=y.load5 rfl
 clear y W
 have z:=aE.out.at (Ap I)
 have aJ:=z.b2.cell
 have aN:=z.b5.cell
 have aS:=z.load2 rfl
 have aW:=z.load5 rfl
 have U:=hide z
 have a2:=hide (Z.out.trans ((Ap I).mono Z.out.size))
 clear z aH aM aR aV
 refine Reg.region_cutI [0,1,0,7,0,16,0,127,0,0,512,2047,0,0,8192,32767,65535,131071,262143] [0,1,2,4,5,6,8,9,10,12,13,14,3,7,11,15,16,17,18] (by kernel_rfl) hN ?_
 refine Reg.wI [0,1,2,4,5,6,8,9,10,12,13,14] [3,7,11,15,16,17,18] rfl fun Qf h=>?_
 go_wp2_with fail
 first | refine h _ _ ⟨rfl,?_⟩ | refine⟨rfl,?_⟩ | refine h _ _ ⟨by simp [Reg.fineT,Reg.intOp,Region.wanted,yielded,Reg.intFine,Reg.isInt,Act.eval],?_⟩
 try clear h
 refine Reg.aI 3 [7,11,15,16,17,18] [5,8,10,12,14] rfl fun Qf h=>?_
 simp only [gT,gS,gZ]
 go_wp2_with (go_at_call 173; refine(Cu _ _ _).mono ?_; rintro e w' ⟨rfl,rfl⟩)
 first | refine h _ _ ⟨Reg.same_below (Below.refl _ _) [5,8,10,12,14] rfl,?_⟩ | refine⟨Reg.same_below (Below.refl _ _) [5,8,10,12,14] rfl,?_⟩
 try clear h
 refine Reg.aI 7 [11,15,16,17,18] [8,10,12,14] rfl fun Qf h=>?_
 simp only [gT,gS,gZ]
 go_wp2_with (go_at_call 173; refine(Cu _ _ _).mono ?_; rintro e w' ⟨rfl,rfl⟩)
 first | refine h _ _ ⟨Reg.same_below (Below.refl _ _) [8,10,12,14] rfl,?_⟩ | refine⟨Reg.same_below (Below.refl _ _) [8,10,12,14] rfl,?_⟩
 try clear h
 refine Reg.aI 11 [15,16,17,18] [12,14] rfl fun Qf h=>?_
 simp only [gT,gS,gZ]
 go_wp2_with (go_at_call 211; refine Calls.ret (FE U.out.pr) ?_; rintro v wa ⟨rfl,G⟩)
 first | refine h _ _ ⟨Reg.same_below (G) [12,14] rfl,?_⟩ | refine⟨Reg.same_below (G) [12,14] rfl,?_⟩
 try clear h
 have C:=U.out.at G
 have aK:=C.b2.cell
 have aO:=C.b5.cell
 have aT:=C.load2 rfl
 have aX:=C.load5 rfl
 have V:=hide C
 have a3:=hide (a2.out.trans (G.mono a2.out.size))
 clear G C aJ aN aS aW
 refine Reg.aI 15 [16,17,18] [] rfl fun Qf h=>?_
 simp only [gT,gS,gZ]
 go_wp2_with (go_at_call 211; refine Calls.ret (FE V.out.pr) ?_; rintro v wb ⟨rfl,J⟩)
 first | refine h _ _ ⟨Reg.nm,?_⟩ | refine⟨Reg.nm,?_⟩
 try clear h
 have E:=V.out.at J
 have aL:=E.b2.cell
 have aP:=E.b5.cell
 have aU:=E.load2 rfl
 have aY:=E.load5 rfl
 have aF:=hide E
 have a4:=hide (a3.out.trans (J.mono a3.out.size))
 clear J E aK aO aT aX
 obtain⟨wz,el,a5,O,aQ⟩:=Ae wb #[.int .i64 (AD r.pf (p.states.length:Int)),.int .i64 (AD r.pt (p.states.length:Int)),.int .i64 (Bn r.rd (p.values.length:Int)),.int .i64 (Bn r.wr (p.values.length:Int))] 36
 have aD:=hide (Ch (l:=[AD r.pf (p.states.length:Int),AD r.pt (p.states.length:Int),Bn r.rd (p.values.length:Int),Bn r.wr (p.values.length:Int)]) O (by simp))
 have M:=a5
 clear O aQ a5
 have F:=aF.out.at M
 have eh:=F.b2.cell
 have ei:=F.b5.cell
 have ej:=F.load2 rfl
 have ek:=F.load5 rfl
 have eg:=hide F
 have aG:=hide (a4.out.trans (M.mono a4.out.size))
 clear M F aL aP aU aY
 refine Reg.wI [16] [17,18] rfl fun Qf h=>?_
 go_wp2_with fail
 first | refine h _ _ ⟨rfl,?_⟩ | refine⟨rfl,?_⟩ | refine h _ _ ⟨by simp [Reg.fineT,Reg.intOp,Region.wanted,yielded,Reg.intFine,Reg.isInt,Act.eval],?_⟩
 try clear h
 refine Reg.aI 17 [18] [] rfl fun Qf h=>?_
 simp only [gT,gS,gZ]
 go_wp2_with (go_at_call 120; refine(Ci (l:=[AD r.pf (p.states.length:Int),AD r.pt (p.states.length:Int),Bn r.rd (p.values.length:Int),Bn r.wr (p.values.length:Int)]) aD.out).mono ?_; rintro e w' ⟨rfl,rfl⟩)
 first | refine h _ _ ⟨Reg.nm,?_⟩ | refine⟨Reg.nm,?_⟩
 try clear h
 refine Reg.wI [18] [] rfl fun Qf h=>?_
 go_wp2_with fail
 first | refine h _ _ ⟨rfl,?_⟩ | refine⟨rfl,?_⟩ | refine h _ _ ⟨by simp [Reg.fineT,Reg.intOp,Region.wanted,yielded,Reg.intFine,Reg.isInt,Act.eval],?_⟩
 try clear h
 first | refine Reg.restI_end ?_ | skip
 refine hQ _ _ (by first | rfl | simp) aG.out
theorem RM {w I:World} {g2 g5:Nat} {p:Am} {r:Az} {A1 A2 A3 A4 A5 A6 A7:Option Addr} {c1 c2 c3 c4 c5 c6 c7:Nat} {E1 E2 E3 E4 E5 E6 E7 E8:Option Addr} {f1 f2 f3 f4 f5 f6 f7 f8:Nat}
  (y:Cp I g2 g5 #[.string p.name,.int .i64 p.topo,.slice A1 p.states.length c1,.slice A2 p.messages.length c2,.slice A3 p.values.length c3,.int .i64 p.fault,.slice A4 p.res.length c4,.slice A5 p.initial.length c5,.slice A6 p.leader.length c6,.slice A7 p.rules.length c7] #[.string r.name,.int .i64 r.kind,.int .i64 r.fr,.int .i64 r.to,.int .i64 r.pf,.int .i64 r.pt,.slice E1 r.resp.length f1,.slice E2 r.guards.length f2,.slice E3 r.ex.length f3,.slice E4 r.fa.length f4,.int .i64 r.rd,.int .i64 r.wr,.slice E5 r.send.length f5,.int .i64 r.at_,.slice E6 r.left.length f6,.slice E7 r.right.length f7,.slice E8 r.parent.length f8,.int .i64 r.dir] p r) (W:Below w.heap.size w I)
  {u0 u1 u3 u4 u7 u8 u9 b1 be bp bB bM bX cf cr cE cQ cR cS cT cU cV cW cX cY cZ d0 d2 d3 d4 d5 d6 d7 d8 d9 da db de df dg dh di dj dk dl dm dn dp dq dr dt du dv dw dx dy dz dA dB dC dD u64 dE dF dG dH dI dK dL dM dN dO dP dQ dR dS dT dU dV dW dX dY dZ e0 e1 e2 e3 e5 e6 e7 e8 e9 ea eb ec ed ee b3 b4 b6 b7 b8 b9 ba bb bc bd bf bg bh bi bj bk bl bm bn bo bq br bs bt bu bv bw bx bz bA bC bD bE bF bG bH bI bJ bK bL bN bO bP bQ bR bS bT bU bV bW bY bZ c0 c8 c9 ca cb cc cd ce cg ch ci cj ck cm cn co cp cq ct cu cv cw cx cy cz cA cB cD cF cG cH cJ cK cL cM cO:Value}
  {Q:Exit→Act→World→Prop} (hN:Reg.NoQ Q)
  (hQ:∀(tm:Array Value) (w':World),tm[4]?.getD undef=.int .i64 (Aj id [C8 (p.states.length:Int) r.resp,Bn r.rd (p.values.length:Int),Bn r.wr (p.values.length:Int)])→Below w.heap.size w w'→Q .normal ⟨tm,[]⟩ w'):
  (Eu Tryz.f170 17).wp Tryz.prog Q ⟨List.toArray (u0::u1::(.pointer (some ⟨g2,0,none⟩))::u3::u4::(.pointer (some ⟨g5,0,none⟩))::(.int .i64 (p.states.length:Int))::u7::u8::u9::b1::be::bp::bB::bM::bX::cf::cr::cE::cQ::cR::cS::cT::cU::cV::cW::
   cX::cY::cZ::d0::d2::d3::d4::d5::d6::d7::d8::d9::da::db::de::df::dg::dh::di::dj::dk::dl::dm::dn::dp::dq::dr::dt::du::dv::dw::dx::dy::dz::dA::dB::dC::
   dD::u64::dE::dF::dG::dH::dI::dK::dL::dM::dN::dO::dP::dQ::dR::dS::dT::dU::dV::dW::dX::dY::dZ::e0::e1::e2::e3::e5::e6::e7::e8::e9::ea::eb::ec::ed::ee::
   b3::b4::b6::b7::b8::b9::ba::bb::bc::bd::bf::bg::bh::bi::bj::bk::bl::bm::bn::bo::bq::br::bs::bt::bu::bv::bw::bx::bz::bA::bC::bD::bE::
   bF::bG::bH::bI::bJ::bK::bL::bN::bO::bP::bQ::bR::bS::bT::bU::bV::bW::bY::bZ::c0::c8::c9::ca::cb::cc::cd::ce::cg::ch::ci::cj::ck::cm::
   cn::co::cp::cq::ct::cu::cv::cw::cx::cy::cz::cA::cB::cD::cF::cG::cH::cJ::cK::cL::cM::cO::[]),[]⟩ I:=by
 conv=>arg 2; whnf
 have aE:=hide y
 have Z:=hide W
 have aH:=y.b2.cell
 have aM:=y.b5.cell
 have aR:=y.load2 rfl
 have aV:=y.load5 rfl
 clear y W
 have z:=aE.out.at (Ap I)
 have aJ:=z.b2.cell
 have aN:=z.b5.cell
 have aS:=z.load2 rfl
 have aW:=z.load5 rfl
 have J:=hide z
 have a2:=hide (Z.out.trans ((Ap I).mono Z.out.size))
 clear z aH aM aR aV
 refine Reg.region_cutI [0,1,0,7,0,0,32,127,0,0,512,2047,4095,8191,16383] [0,1,2,4,5,6,8,9,10,3,7,11,12,13,14] (by kernel_rfl) hN ?_
 refine Reg.wI [0,1,2,4,5,6,8,9,10] [3,7,11,12,13,14] rfl fun Qf h=>?_
 go_wp2_with fail
 first | refine h _ _ ⟨rfl,?_⟩ | refine⟨rfl,?_⟩ | refine h _ _ ⟨by simp [Reg.fineT,Reg.intOp,Region.wanted,yielded,Reg.intFine,Reg.isInt,Act.eval],?_⟩
 try clear h
 refine Reg.aI 3 [7,11,12,13,14] [4,6,8,10] rfl fun Qf h=>?_
 simp only [gT,gS,gZ]
 go_wp2_with (go_at_call 212; refine(R7 (Ev J.out.ru).1).mono ?_; rintro e w' ⟨rfl,rfl⟩)
 first | refine h _ _ ⟨Reg.same_below (Below.refl _ _) [4,6,8,10] rfl,?_⟩ | refine⟨Reg.same_below (Below.refl _ _) [4,6,8,10] rfl,?_⟩
 try clear h
 refine Reg.aI 7 [11,12,13,14] [8,10] rfl fun Qf h=>?_
 simp only [gT,gS,gZ]
 go_wp2_with (go_at_call 211; refine Calls.ret (FE J.out.pr) ?_; rintro v wa ⟨rfl,G⟩)
 first | refine h _ _ ⟨Reg.same_below (G) [8,10] rfl,?_⟩ | refine⟨Reg.same_below (G) [8,10] rfl,?_⟩
 try clear h
 have C:=J.out.at G
 have aK:=C.b2.cell
 have aO:=C.b5.cell
 have aT:=C.load2 rfl
 have aX:=C.load5 rfl
 have V:=hide C
 have a3:=hide (a2.out.trans (G.mono a2.out.size))
 clear G C aJ aN aS aW
 refine Reg.aI 11 [12,13,14] [] rfl fun Qf h=>?_
 simp only [gT,gS,gZ]
 go_wp2_with (go_at_call 211; refine Calls.ret (FE V.out.pr) ?_; rintro v wb ⟨rfl,M⟩)
 first | refine h _ _ ⟨Reg.nm,?_⟩ | refine⟨Reg.nm,?_⟩
 try clear h
 have E:=V.out.at M
 have aL:=E.b2.cell
 have aP:=E.b5.cell
 have aU:=E.load2 rfl
 have aY:=E.load5 rfl
 have aF:=hide E
 have a4:=hide (a3.out.trans (M.mono a3.out.size))
 clear M E aK aO aT aX
 obtain⟨wz,el,a5,U,aQ⟩:=Ae wb #[.int .i64 (C8 (p.states.length:Int) r.resp),.int .i64 (Bn r.rd (p.values.length:Int)),.int .i64 (Bn r.wr (p.values.length:Int))] 36
 have aD:=hide (Ch (l:=[C8 (p.states.length:Int) r.resp,Bn r.rd (p.values.length:Int),Bn r.wr (p.values.length:Int)]) U (by simp))
 have O:=a5
 clear U aQ a5
 have F:=aF.out.at O
 have eh:=F.b2.cell
 have ei:=F.b5.cell
 have ej:=F.load2 rfl
 have ek:=F.load5 rfl
 have eg:=hide F
 have aG:=hide (a4.out.trans (O.mono a4.out.size))
 clear O F aL aP aU aY
 refine Reg.wI [12] [13,14] rfl fun Qf h=>?_
 go_wp2_with fail
 first | refine h _ _ ⟨rfl,?_⟩ | refine⟨rfl,?_⟩ | refine h _ _ ⟨by simp [Reg.fineT,Reg.intOp,Region.wanted,yielded,Reg.intFine,Reg.isInt,Act.eval],?_⟩
 try clear h
 refine Reg.aI 13 [14] [] rfl fun Qf h=>?_
 simp only [gT,gS,gZ]
 go_wp2_with (go_at_call 120; refine(Ci (l:=[C8 (p.states.length:Int) r.resp,Bn r.rd (p.values.length:Int),Bn r.wr (p.values.length:Int)]) aD.out).mono ?_; rintro e w' ⟨rfl,rfl⟩)
 first | refine h _ _ ⟨Reg.nm,?_⟩ | refine⟨Reg.nm,?_⟩
 try clear h
 refine Reg.wI [14] [] rfl fun Qf h=>?_
 go_wp2_with fail
 first | refine h _ _ ⟨rfl,?_⟩ | refine⟨rfl,?_⟩ | refine h _ _ ⟨by simp [Reg.fineT,Reg.intOp,Region.wanted,yielded,Reg.intFine,Reg.isInt,Act.eval],?_⟩
 try clear h
 first | refine Reg.restI_end ?_ | skip
 refine hQ _ _ (by first | rfl | simp) aG.out
theorem F8 {w M:World} {g2 g5:Nat} {p:Am} {r:Az} {A1 A2 A3 A4 A5 A6 A7:Option Addr} {c1 c2 c3 c4 c5 c6 c7:Nat} {E1 E2 E3 E4 E5 E6 E7 E8:Option Addr} {f1 f2 f3 f4 f5 f6 f7 f8:Nat} {m:Bool}
  (y:Cp M g2 g5 #[.string p.name,.int .i64 p.topo,.slice A1 p.states.length c1,.slice A2 p.messages.length c2,.slice A3 p.values.length c3,.int .i64 p.fault,.slice A4 p.res.length c4,.slice A5 p.initial.length c5,.slice A6 p.leader.length c6,.slice A7 p.rules.length c7] #[.string r.name,.int .i64 r.kind,.int .i64 r.fr,.int .i64 r.to,.int .i64 r.pf,.int .i64 r.pt,.slice E1 r.resp.length f1,.slice E2 r.guards.length f2,.slice E3 r.ex.length f3,.slice E4 r.fa.length f4,.int .i64 r.rd,.int .i64 r.wr,.slice E5 r.send.length f5,.int .i64 r.at_,.slice E6 r.left.length f6,.slice E7 r.right.length f7,.slice E8 r.parent.length f8,.int .i64 r.dir] p r) (hb:Below w.heap.size w M)
  {u0 u1 u3 u4 u7 u8 bb bm bx bJ bU cc co cA cO cY cZ d0 d1 d2 d3 d4 d5 d6 d7 d8 da db dc de df dg dh di dj dk dm dn dp dq dr dt du dv dw dx dy dz dA dB dC dD dE dF dG dH dI dJ dK dL u64 dM dN dO dP dQ dS dT dU dV dW dX dY dZ e0 e1 e2 e3 e4 e5 e6 e7 e8 e9 ea eb ec ed ee ef eg eh ei ej ek el bc bd be bf bg bh bi bj bk bl bn bo bp bq br bs bt bu bv bw bz bA bB bC bD bE bF bG bH bI bK bL bM bN bO bP bQ bR bS bT bV bW bX bY bZ c0 c8 c9 ca cb cd ce cf cg ch ci cj ck cm cn cp cq cr ct cu cv cw cx cy cz cB cD cE cF cG cH cJ cK cL cM cQ cR cS cT cU cV cW cX:Value}
  {Q:Exit→Act→World→Prop} (hN:Reg.NoQ Q)
  (hQ:∀(tm:Array Value) (w':World),tm[4]?.getD undef=.int .i64 (Aj id [Aa r.left (p.states.length:Int),Aa r.right (p.states.length:Int),Aa r.parent (p.states.length:Int),Ad m 1])→Below w.heap.size w w'→Q .normal ⟨tm,[]⟩ w'):
  (Eu Tryz.f170 20).wp Tryz.prog Q ⟨List.toArray (u0::u1::(.pointer (some ⟨g2,0,none⟩))::u3::u4::(.pointer (some ⟨g5,0,none⟩))::(.int .i64 (p.states.length:Int))::u7::u8::(.bool m)::bb::bm::bx::bJ::bU::cc::co::cA::cO::cY::cZ::d0::d1::d2::d3::
   d4::d5::d6::d7::d8::da::db::dc::de::df::dg::dh::di::dj::dk::dm::dn::dp::dq::dr::dt::du::dv::dw::dx::dy::dz::dA::dB::dC::dD::dE::dF::dG::dH::dI::dJ::
   dK::dL::u64::dM::dN::dO::dP::dQ::dS::dT::dU::dV::dW::dX::dY::dZ::e0::e1::e2::e3::e4::e5::e6::e7::e8::e9::ea::eb::ec::ed::ee::ef::eg::eh::ei::ej::ek::
   el::bc::bd::be::bf::bg::bh::bi::bj::bk::bl::bn::bo::bp::bq::br::bs::bt::bu::bv::bw::bz::bA::bB::bC::bD::bE::bF::bG::bH::bI::bK::bL::
   bM::bN::bO::bP::bQ::bR::bS::bT::bV::bW::bX::bY::bZ::c0::c8::c9::ca::cb::cd::ce::cf::cg::ch::ci::cj::ck::cm::cn::cp::cq::cr::ct::cu::
   cv::cw::cx::cy::cz::cB::cD::cE::cF::cG::cH::cJ::cK::cL::cM::cQ::cR::cS::cT::cU::cV::cW::cX::[]),[]⟩ M:=by
 conv=>arg 2; whnf
 have aJ:=hide y
 have a4:=hide hb
 have aM:=y.b2.cell
 have aR:=y.b5.cell
 have aX:=y.load2 rfl
 have b3:=y.load5 rfl
 clear y hb
 have z:=aJ.out.at (Ap M)
 have aN:=z.b2.cell
 have aS:=z.b5.cell
 have aY:=z.load2 rfl
 have b4:=z.load5 rfl
 have W:=hide z
 have a5:=hide (a4.out.trans ((Ap M).mono a4.out.size))
 clear z aM aR aX b3
 refine Reg.region_cutI [0,1,0,7,0,16,0,127,0,256,0,2047,0,8191,16383,32767,65535] [0,1,2,4,5,6,8,9,10,12,3,7,11,13,14,15,16] (by kernel_rfl) hN ?_
 refine Reg.wI [0,1,2,4,5,6,8,9,10,12] [3,7,11,13,14,15,16] rfl fun Qf h=>?_
 go_wp2_with fail
 first | refine h _ _ ⟨rfl,?_⟩ | refine⟨rfl,?_⟩ | refine h _ _ ⟨by simp [Reg.fineT,Reg.intOp,Region.wanted,yielded,Reg.intFine,Reg.isInt,Act.eval],?_⟩
 try clear h
 refine Reg.aI 3 [7,11,13,14,15,16] [5,9] rfl fun Qf h=>?_
 simp only [gT,gS,gZ]
 go_wp2_with (go_at_call 119; refine Calls.ret (DE (Ev W.out.ru).2.2.2.2.2.1) ?_; rintro v wa ⟨rfl,I⟩)
 first | refine h _ _ ⟨Reg.same_below (I) [5,9] rfl,?_⟩ | refine⟨Reg.same_below (I) [5,9] rfl,?_⟩
 try clear h
 have C:=W.out.at I
 have aO:=C.b2.cell
 have aT:=C.b5.cell
 have aZ:=C.load2 rfl
 have b6:=C.load5 rfl
 have Z:=hide C
 have a6:=hide (a5.out.trans (I.mono a5.out.size))
 clear I C aN aS aY b4
 refine Reg.aI 7 [11,13,14,15,16] [9] rfl fun Qf h=>?_
 simp only [gT,gS,gZ]
 go_wp2_with (go_at_call 119; refine Calls.ret (DE (Ev Z.out.ru).2.2.2.2.2.2.1) ?_; rintro v wb ⟨rfl,J⟩)
 first | refine h _ _ ⟨Reg.same_below (J) [9] rfl,?_⟩ | refine⟨Reg.same_below (J) [9] rfl,?_⟩
 try clear h
 have E:=Z.out.at J
 have aP:=E.b2.cell
 have aU:=E.b5.cell
 have b0:=E.load2 rfl
 have b7:=E.load5 rfl
 have a2:=hide E
 have a7:=hide (a6.out.trans (J.mono a6.out.size))
 clear J E aO aT aZ b6
 refine Reg.aI 11 [13,14,15,16] [] rfl fun Qf h=>?_
 simp only [gT,gS,gZ]
 go_wp2_with (go_at_call 119; refine Calls.ret (DE (Ev a2.out.ru).2.2.2.2.2.2.2) ?_; rintro v wc ⟨rfl,O⟩)
 first | refine h _ _ ⟨Reg.nm,?_⟩ | refine⟨Reg.nm,?_⟩
 try clear h
 have F:=a2.out.at O
 have aQ:=F.b2.cell
 have aV:=F.b5.cell
 have b1:=F.load2 rfl
 have b8:=F.load5 rfl
 have aK:=hide F
 have a8:=hide (a7.out.trans (O.mono a7.out.size))
 clear O F aP aU b0 b7
 refine Reg.aI 13 [14,15,16] [] rfl fun Qf h=>?_
 simp only [gT,gS,gZ]
 go_wp2_with (go_at_call 121; refine(Ce _ _ _).mono ?_; rintro e w' ⟨rfl,rfl⟩)
 first | refine h _ _ ⟨Reg.nm,?_⟩ | refine⟨Reg.nm,?_⟩
 try clear h
 obtain⟨wz,et,a9,V,aW⟩:=Ae wc #[.int .i64 (Aa r.left (p.states.length:Int)),.int .i64 (Aa r.right (p.states.length:Int)),.int .i64 (Aa r.parent (p.states.length:Int)),.int .i64 (Ad m 1)] 36
 have aH:=hide (Ch (l:=[Aa r.left (p.states.length:Int),Aa r.right (p.states.length:Int),Aa r.parent (p.states.length:Int),Ad m 1]) V (by simp))
 have U:=a9
 clear V aW a9
 have G:=aK.out.at U
 have eo:=G.b2.cell
 have ep:=G.b5.cell
 have eq:=G.load2 rfl
 have er:=G.load5 rfl
 have en:=hide G
 have aL:=hide (a8.out.trans (U.mono a8.out.size))
 clear U G aQ aV b1 b8
 refine Reg.wI [14] [15,16] rfl fun Qf h=>?_
 go_wp2_with fail
 first | refine h _ _ ⟨rfl,?_⟩ | refine⟨rfl,?_⟩ | refine h _ _ ⟨by simp [Reg.fineT,Reg.intOp,Region.wanted,yielded,Reg.intFine,Reg.isInt,Act.eval],?_⟩
 try clear h
 refine Reg.aI 15 [16] [] rfl fun Qf h=>?_
 simp only [gT,gS,gZ]
 go_wp2_with (go_at_call 120; refine(Ci (l:=[Aa r.left (p.states.length:Int),Aa r.right (p.states.length:Int),Aa r.parent (p.states.length:Int),Ad m 1]) aH.out).mono ?_; rintro e w' ⟨rfl,rfl⟩)
 first | refine h _ _ ⟨Reg.nm,?_⟩ | refine⟨Reg.nm,?_⟩
 try clear h
 refine Reg.wI [16] [] rfl fun Qf h=>?_
 go_wp2_with fail
 first | refine h _ _ ⟨rfl,?_⟩ | refine⟨rfl,?_⟩ | refine h _ _ ⟨by simp [Reg.fineT,Reg.intOp,Region.wanted,yielded,Reg.intFine,Reg.isInt,Act.eval],?_⟩
 try clear h
 first | refine Reg.restI_end ?_ | skip
 refine hQ _ _ (by first | rfl | simp) aL.out
theorem KB {w z:World} {g2 g5:Nat} {p:Am} {r:Az} {A1 A2 A3 A4 A5 A6 A7:Option Addr} {c1 c2 c3 c4 c5 c6 c7:Nat} {E1 E2 E3 E4 E5 E6 E7 E8:Option Addr} {f1 f2 f3 f4 f5 f6 f7 f8:Nat} {O J:Int}
  (E:Cp z g2 g5 #[.string p.name,.int .i64 p.topo,.slice A1 p.states.length c1,.slice A2 p.messages.length c2,.slice A3 p.values.length c3,.int .i64 p.fault,.slice A4 p.res.length c4,.slice A5 p.initial.length c5,.slice A6 p.leader.length c6,.slice A7 p.rules.length c7] #[.string r.name,.int .i64 r.kind,.int .i64 r.fr,.int .i64 r.to,.int .i64 r.pf,.int .i64 r.pt,.slice E1 r.resp.length f1,.slice E2 r.guards.length f2,.slice E3 r.ex.length f3,.slice E4 r.fa.length f4,.int .i64 r.rd,.int .i64 r.wr,.slice E5 r.send.length f5,.int .i64 r.at_,.slice E6 r.left.length f6,.slice E7 r.right.length f7,.slice E8 r.parent.length f8,.int .i64 r.dir] p r) (hb:Below w.heap.size w z)
  {u0 u1 u3 u4 u7 u8 u9 bi bt bF bQ c8 cj cw cG cH cJ cK cL cM cO cQ cR cS cT cV cW cX cY cZ d0 d1 d2 d3 d4 d6 d7 d8 d9 da db dc de df dg dh di dj dk dl dm dn dp dq dr dt du dv dw u64 dx dy dz dA dB dD dE dF dG dH dI dJ dK dL dM dN dO dP dQ dR dS dT dU dV dW dY dZ e0 e1 e2 e3 e4 e5 e6 e7 aW aX aY aZ b0 b1 b3 b4 b6 b7 b8 b9 ba bb bc bd be bf bg bh bj bk bl bm bn bo bp bq br bs bu bv bw bx bz bA bB bC bD bE bG bH bI bJ bK bL bM bN bO bP bR bS bT bU bV bW bX bY bZ c0 c9 ca cb cc cd ce cf cg ch ci ck cm cn co cp cq cr ct cu cv cx cy cz cA cB cD cE cF:Value}
  {Q:Exit→Act→World→Prop} (hN:Reg.NoQ Q)
  (hQ:∀(tm:Array Value) (w':World),tm[4]?.getD undef=.int .i64 (Aj id [AD r.pf (p.states.length:Int),AD r.pt (p.states.length:Int),Ad (decide (r.dir<O)||decide (J<r.dir)) 1])→Below w.heap.size w w'→Q .normal ⟨tm,[]⟩ w'):
  (Eu Tryz.f170 24).wp Tryz.prog Q ⟨List.toArray (u0::u1::(.pointer (some ⟨g2,0,none⟩))::u3::u4::(.pointer (some ⟨g5,0,none⟩))::(.int .i64 (p.states.length:Int))::u7::u8::u9::(.int .i64 O)::(.int .i64 J)::bi::bt::bF::bQ::c8::cj::cw::cG::cH::cJ::cK::
   cL::cM::cO::cQ::cR::cS::cT::cV::cW::cX::cY::cZ::d0::d1::d2::d3::d4::d6::d7::d8::d9::da::db::dc::de::df::dg::dh::di::dj::dk::dl::dm::dn::dp::dq::dr::
   dt::du::dv::dw::u64::dx::dy::dz::dA::dB::dD::dE::dF::dG::dH::dI::dJ::dK::dL::dM::dN::dO::dP::dQ::dR::dS::dT::dU::dV::dW::dY::dZ::e0::e1::e2::e3::e4::
   e5::e6::e7::aW::aX::aY::aZ::b0::b1::b3::b4::b6::b7::b8::b9::ba::bb::bc::bd::be::bf::bg::bh::bj::bk::bl::bm::bn::bo::bp::bq::br::bs::
   bu::bv::bw::bx::bz::bA::bB::bC::bD::bE::bG::bH::bI::bJ::bK::bL::bM::bN::bO::bP::bR::bS::bT::bU::bV::bW::bX::bY::bZ::c0::c9::ca::cb::
   cc::cd::ce::cf::cg::ch::ci::ck::cm::cn::co::cp::cq::cr::ct::cu::cv::cx::cy::cz::cA::cB::cD::cE::cF::[]),[]⟩ z:=by
 conv=>arg 2; whnf
 have aG:=hide E
 have a5:=hide hb
 have aK:=E.b2.cell
 have aM:=E.b5.cell
 have aO:=E.load2 rfl
 have aQ:=E.load5 rfl
 clear E hb
 have F:=aG.out.at (Ap z)
 have a6:=F.b2.cell
 have a7:=F.b5.cell
 have a8:=F.load2 rfl
 have a9:=F.load5 rfl
 have a3:=hide F
 have M:=hide (a5.out.trans ((Ap z).mono a5.out.size))
 clear F aK aM aO aQ
 by_cases ha:r.dir<O
 ·
  refine Reg.region_cutI [0,1,0,7,0,16,0,127,0,256,0,1792,4095,8191,16383,8191,65535,131071,262143,524287,1048575,2097151] [0,1,2,4,5,6,8,9,10,11,3,7,12,13,14,15,16,17,18,19,20,21] (by kernel_rfl) hN ?_
  refine Reg.wI [0,1,2,4,5,6,8,9,10,11] [3,7,12,13,14,15,16,17,18,19,20,21] rfl fun Qf h=>?_
  go_wp2_with fail
  first | refine h _ _ ⟨rfl,?_⟩ | refine⟨rfl,?_⟩ | refine h _ _ ⟨by simp [Reg.fineT,Reg.intOp,Region.wanted,yielded,Reg.intFine,Reg.isInt,Act.eval],?_⟩
  try clear h
  refine Reg.aI 3 [7,12,13,14,15,16,17,18,19,20,21] [5,9] rfl fun Qf h=>?_
  simp only [gT,gS,gZ]
  go_wp2_with (go_at_call 173; refine(Cu _ _ _).mono ?_; rintro e w' ⟨rfl,rfl⟩)
  first | refine h _ _ ⟨Reg.same_below (Below.refl _ _) [5,9] rfl,?_⟩ | refine⟨Reg.same_below (Below.refl _ _) [5,9] rfl,?_⟩
  try clear h
  refine Reg.aI 7 [12,13,14,15,16,17,18,19,20,21] [9] rfl fun Qf h=>?_
  simp only [gT,gS,gZ]
  go_wp2_with (go_at_call 173; refine(Cu _ _ _).mono ?_; rintro e w' ⟨rfl,rfl⟩)
  first | refine h _ _ ⟨Reg.same_below (Below.refl _ _) [9] rfl,?_⟩ | refine⟨Reg.same_below (Below.refl _ _) [9] rfl,?_⟩
  try clear h
  refine Reg.wI [12,13,14,15,16,17] [18,19,20,21] rfl fun Qf h=>?_
  go_wp2_with fail
  first | refine h _ _ ⟨rfl,?_⟩ | refine⟨rfl,?_⟩ | refine h _ _ ⟨by simp [Reg.fineT,Reg.intOp,Region.wanted,yielded,Reg.intFine,Reg.isInt,Act.eval],?_⟩
  try clear h
  refine Reg.aI 18 [19,20,21] [] rfl fun Qf h=>?_
  simp only [gT,gS,gZ]
  go_wp2_with (go_at_call 121; refine(Ce _ _ _).mono ?_; rintro e w' ⟨rfl,rfl⟩)
  first | refine h _ _ ⟨Reg.nm,?_⟩ | refine⟨Reg.nm,?_⟩
  try clear h
  obtain⟨Z,aT,I,G,W⟩:=Ae z.drew #[.int .i64 (AD r.pf (p.states.length:Int)),.int .i64 (AD r.pt (p.states.length:Int)),.int .i64 (Ad true 1)] 36
  have U:=hide (Ch (l:=[AD r.pf (p.states.length:Int),AD r.pt (p.states.length:Int),Ad true 1]) G (by simp))
  have C:Below z.drew.heap.size z.drew Z:=I
  clear G W I
  have y:=a3.out.at C
  have aL:=y.b2.cell
  have aN:=y.b5.cell
  have aP:=y.load2 rfl
  have aR:=y.load5 rfl
  have aH:=hide y
  have V:=hide (M.out.trans (C.mono M.out.size))
  clear C y a6 a7 a8 a9
  refine Reg.wI [19] [20,21] rfl fun Qf h=>?_
  go_wp2_with fail
  first | refine h _ _ ⟨rfl,?_⟩ | refine⟨rfl,?_⟩ | refine h _ _ ⟨by simp [Reg.fineT,Reg.intOp,Region.wanted,yielded,Reg.intFine,Reg.isInt,Act.eval],?_⟩
  try clear h
  refine Reg.aI 20 [21] [] rfl fun Qf h=>?_
  simp only [gT,gS,gZ]
  go_wp2_with (go_at_call 120; refine(Ci (l:=[AD r.pf (p.states.length:Int),AD r.pt (p.states.length:Int),Ad true 1]) U.out).mono ?_; rintro e w' ⟨rfl,rfl⟩)
  first | refine h _ _ ⟨Reg.nm,?_⟩ | refine⟨Reg.nm,?_⟩
  try clear h
  refine Reg.wI [21] [] rfl fun Qf h=>?_
  go_wp2_with fail
  first | refine h _ _ ⟨rfl,?_⟩ | refine⟨rfl,?_⟩ | refine h _ _ ⟨by simp [Reg.fineT,Reg.intOp,Region.wanted,yielded,Reg.intFine,Reg.isInt,Act.eval],?_⟩
  try clear h
  first | refine Reg.restI_end ?_ | skip
  refine hQ _ _ ?_ V.out
  simp [ha]
 ·
  refine Reg.region_cutI [0,1,0,7,0,16,0,127,0,256,0,1792,4095,8191,16383,8191,65535,131071,262143,524287,1048575,2097151] [0,1,2,4,5,6,8,9,10,11,3,7,12,13,14,15,16,17,18,19,20,21] (by kernel_rfl) hN ?_
  refine Reg.wI [0,1,2,4,5,6,8,9,10,11] [3,7,12,13,14,15,16,17,18,19,20,21] rfl fun Qf h=>?_
  go_wp2_with fail
  first | refine h _ _ ⟨rfl,?_⟩ | refine⟨rfl,?_⟩ | refine h _ _ ⟨by simp [Reg.fineT,Reg.intOp,Region.wanted,yielded,Reg.intFine,Reg.isInt,Act.eval],?_⟩
  try clear h
  refine Reg.aI 3 [7,12,13,14,15,16,17,18,19,20,21] [5,9] rfl fun Qf h=>?_
  simp only [gT,gS,gZ]
  go_wp2_with (go_at_call 173; refine(Cu _ _ _).mono ?_; rintro e w' ⟨rfl,rfl⟩)
  first | refine h _ _ ⟨Reg.same_below (Below.refl _ _) [5,9] rfl,?_⟩ | refine⟨Reg.same_below (Below.refl _ _) [5,9] rfl,?_⟩
  try clear h
  refine Reg.aI 7 [12,13,14,15,16,17,18,19,20,21] [9] rfl fun Qf h=>?_
  simp only [gT,gS,gZ]
  go_wp2_with (go_at_call 173; refine(Cu _ _ _).mono ?_; rintro e w' ⟨rfl,rfl⟩)
  first | refine h _ _ ⟨Reg.same_below (Below.refl _ _) [9] rfl,?_⟩ | refine⟨Reg.same_below (Below.refl _ _) [9] rfl,?_⟩
  try clear h
  refine Reg.wI [12,13,14,15,16,17] [18,19,20,21] rfl fun Qf h=>?_
  go_wp2_with fail
  first | refine h _ _ ⟨rfl,?_⟩ | refine⟨rfl,?_⟩ | refine h _ _ ⟨by simp [Reg.fineT,Reg.intOp,Region.wanted,yielded,Reg.intFine,Reg.isInt,Act.eval],?_⟩
  try clear h
  refine Reg.aI 18 [19,20,21] [] rfl fun Qf h=>?_
  simp only [gT,gS,gZ]
  go_wp2_with (go_at_call 121; refine(Ce _ _ _).mono ?_; rintro e w' ⟨rfl,rfl⟩)
  first | refine h _ _ ⟨Reg.nm,?_⟩ | refine⟨Reg.nm,?_⟩
  try clear h
  obtain⟨Z,aT,I,G,W⟩:=Ae z.drew #[.int .i64 (AD r.pf (p.states.length:Int)),.int .i64 (AD r.pt (p.states.length:Int)),.int .i64 (Ad (decide (J<r.dir)) 1)] 36
  have U:=hide (Ch (l:=[AD r.pf (p.states.length:Int),AD r.pt (p.states.length:Int),Ad (decide (J<r.dir)) 1]) G (by simp))
  have C:Below z.drew.heap.size z.drew Z:=I
  clear G W I
  have y:=a3.out.at C
  have aL:=y.b2.cell
  have aN:=y.b5.cell
  have aP:=y.load2 rfl
  have aR:=y.load5 rfl
  have aH:=hide y
  have V:=hide (M.out.trans (C.mono M.out.size))
  clear C y a6 a7 a8 a9
  refine Reg.wI [19] [20,21] rfl fun Qf h=>?_
  go_wp2_with fail
  first | refine h _ _ ⟨rfl,?_⟩ | refine⟨rfl,?_⟩ | refine h _ _ ⟨by simp [Reg.fineT,Reg.intOp,Region.wanted,yielded,Reg.intFine,Reg.isInt,Act.eval],?_⟩
  try clear h
  refine Reg.aI 20 [21] [] rfl fun Qf h=>?_
  simp only [gT,gS,gZ]
  go_wp2_with (go_at_call 120; refine(Ci (l:=[AD r.pf (p.states.length:Int),AD r.pt (p.states.length:Int),Ad (decide (J<r.dir)) 1]) U.out).mono ?_; rintro e w' ⟨rfl,rfl⟩)
  first | refine h _ _ ⟨Reg.nm,?_⟩ | refine⟨Reg.nm,?_⟩
  try clear h
  refine Reg.wI [21] [] rfl fun Qf h=>?_
  go_wp2_with fail
  first | refine h _ _ ⟨rfl,?_⟩ | refine⟨rfl,?_⟩ | refine h _ _ ⟨by simp [Reg.fineT,Reg.intOp,Region.wanted,yielded,Reg.intFine,Reg.isInt,Act.eval],?_⟩
  try clear h
  first | refine Reg.restI_end ?_ | skip
  refine hQ _ _ ?_ V.out
  have hn:¬r.dir<O:=by omega
  rw [decide_eq_false hn,Bool.false_or]
  first | rfl | simp
end Go.Proofs.YtfcfpoemojjglaaGreatDoor.K
