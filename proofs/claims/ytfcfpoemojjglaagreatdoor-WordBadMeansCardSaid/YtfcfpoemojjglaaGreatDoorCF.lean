/-
  Part CF of a proof.
-/
import Derived.Test.YtfcfpoemojjglaaGreatDoorPA
import Derived.Test.YtfcfpoemojjglaaGreatDoorCE
set_option maxHeartbeats 16000000
set_option maxRecDepth 100000
set_option linter.unusedVariables false
set_option linter.unusedSimpArgs false
namespace Go.Proofs.YtfcfpoemojjglaaGreatDoor.K
open Go.RowKit
attribute [-go_sem] loadCellsFrom storeCells
def CW:Code→List Code
 | .region i o d=>[.region i o d]
 | .seq a b=>CW a++CW b
 | .loop a=>CW a
 | .scope a=>CW a
 | .block _ a=>CW a
 | .cond _ a b=>CW a++CW b
 | _=>[]
def Eu (f:Func) (k:Nat):Code:=match f.body with
 | some c=>(CW c).getD k .skip
 | none=>.skip
theorem RN {w y:World} {g2 g5:Nat} {p:Am} {r:Az} {I J M O U V W:Option Addr} {c1 c2 c3 c4 c5 c6 c7:Nat} {Z E2 E3 E4 E5 E6 E7 E8:Option Addr} {f1 f2 f3 f4 f5 f6 f7 f8:Nat}
  (z:Cp y g2 g5 #[.string p.name,.int .i64 p.topo,.slice I p.states.length c1,.slice J p.messages.length c2,.slice M p.values.length c3,.int .i64 p.fault,.slice O p.res.length c4,.slice U p.initial.length c5,.slice V p.leader.length c6,.slice W p.rules.length c7] #[.string r.name,.int .i64 r.kind,.int .i64 r.fr,.int .i64 r.to,.int .i64 r.pf,.int .i64 r.pt,.slice Z r.resp.length f1,.slice E2 r.guards.length f2,.slice E3 r.ex.length f3,.slice E4 r.fa.length f4,.int .i64 r.rd,.int .i64 r.wr,.slice E5 r.send.length f5,.int .i64 r.at_,.slice E6 r.left.length f6,.slice E7 r.right.length f7,.slice E8 r.parent.length f8,.int .i64 r.dir] p r) (hb:Below w.heap.size w y)
  {u0 u1 u3 u4 u7 u8 u9 au aF aR b3 bg br bD bO bZ cf cg ch ci cj ck cm cn co cp cq ct cu cv cw cx cy cz cA cB cD cF cG cH cJ cK cL cM dP dQ dR dS dT dU dV dW dX dY cO cQ cR cS cT cU cV u64 cW cX cY cZ d0 d2 d3 d4 d5 d6 d7 d8 d9 da db dc de df dg dh di dj dk dl dm dp dq dr dt du dv dw dx dy dz av aw ax ay az aA aB aC aD aE aG aH aJ aK aL aM aN aO aP aQ aS aT aU aV aW aX aY aZ b0 b1 b4 b6 b7 b8 b9 ba bb bd be bf bh bi bj bk bl bm bn bo bp bq bs bt bu bv bw bx bz bA bB bC bE bF bG bH bI bJ bK bL bM bN bP bQ bR bS bT bU bV bW bX bY c0 c8 c9 ca cb cc cd ce:Value}
  {Q:Exit→Act→World→Prop} (hN:Reg.NoQ Q)
  (hQ:∀(e0 e1 e2 e3 e4 e5 e6 e7 e8 e9:Value) (w':World),Cp w' g2 g5 #[.string p.name,.int .i64 p.topo,.slice I p.states.length c1,.slice J p.messages.length c2,.slice M p.values.length c3,.int .i64 p.fault,.slice O p.res.length c4,.slice U p.initial.length c5,.slice V p.leader.length c6,.slice W p.rules.length c7] #[.string r.name,.int .i64 r.kind,.int .i64 r.fr,.int .i64 r.to,.int .i64 r.pf,.int .i64 r.pt,.slice Z r.resp.length f1,.slice E2 r.guards.length f2,.slice E3 r.ex.length f3,.slice E4 r.fa.length f4,.int .i64 r.rd,.int .i64 r.wr,.slice E5 r.send.length f5,.int .i64 r.at_,.slice E6 r.left.length f6,.slice E7 r.right.length f7,.slice E8 r.parent.length f8,.int .i64 r.dir] p r→Below w.heap.size w w'→Q .normal ⟨List.toArray (u0::u1::(.pointer (some ⟨g2,0,none⟩))::u3::u4::(.pointer (some ⟨g5,0,none⟩))::(.int .i64 (p.states.length:Int))::u7::(.int .i64 (Aj id [AD r.fr (p.states.length:Int),AD r.to (p.states.length:Int)]))::u9::au::aF::aR::
   b3::bg::br::bD::bO::bZ::cf::cg::ch::ci::cj::ck::cm::cn::co::cp::cq::ct::cu::cv::cw::cx::cy::cz::cA::cB::cD::cF::cG::cH::cJ::cK::cL::cM::e0::e1::e2::
   e3::e4::e5::e6::e7::e8::e9::cO::cQ::cR::cS::cT::cU::cV::u64::cW::cX::cY::cZ::d0::d2::d3::d4::d5::d6::d7::d8::d9::da::db::dc::de::df::dg::dh::di::dj::
   dk::dl::dm::dp::dq::dr::dt::du::dv::dw::dx::dy::dz::av::aw::ax::ay::az::aA::aB::aC::aD::aE::aG::aH::aJ::aK::aL::aM::aN::aO::aP::aQ::aS::
   aT::aU::aV::aW::aX::aY::aZ::b0::b1::b4::b6::b7::b8::b9::ba::bb::bd::be::bf::bh::bi::bj::bk::bl::bm::bn::bo::bp::bq::bs::bt::bu::bv::
   bw::bx::bz::bA::bB::bC::bE::bF::bG::bH::bI::bJ::bK::bL::bM::bN::bP::bQ::bR::bS::bT::bU::bV::bW::bX::bY::c0::c8::c9::ca::cb::cc::cd::
   ce::[]),[]⟩ w'):
  (Eu Tryz.f170 8).wp Tryz.prog Q ⟨List.toArray (u0::u1::(.pointer (some ⟨g2,0,none⟩))::u3::u4::(.pointer (some ⟨g5,0,none⟩))::(.int .i64 (p.states.length:Int))::u7::u8::u9::au::aF::aR::b3::bg::br::bD::bO::bZ::cf::cg::ch::ci::cj::ck::cm::
   cn::co::cp::cq::ct::cu::cv::cw::cx::cy::cz::cA::cB::cD::cF::cG::cH::cJ::cK::cL::cM::dP::dQ::dR::dS::dT::dU::dV::dW::dX::dY::cO::cQ::cR::cS::cT::cU::
   cV::u64::cW::cX::cY::cZ::d0::d2::d3::d4::d5::d6::d7::d8::d9::da::db::dc::de::df::dg::dh::di::dj::dk::dl::dm::dp::dq::dr::dt::du::dv::dw::dx::dy::dz::
   av::aw::ax::ay::az::aA::aB::aC::aD::aE::aG::aH::aJ::aK::aL::aM::aN::aO::aP::aQ::aS::aT::aU::aV::aW::aX::aY::aZ::b0::b1::b4::b6::b7::
   b8::b9::ba::bb::bd::be::bf::bh::bi::bj::bk::bl::bm::bn::bo::bp::bq::bs::bt::bu::bv::bw::bx::bz::bA::bB::bC::bE::bF::bG::bH::bI::bJ::
   bK::bL::bM::bN::bP::bQ::bR::bS::bT::bU::bV::bW::bX::bY::c0::c8::c9::ca::cb::cc::cd::ce::[]),[]⟩ y:=by
 conv=>arg 2; whnf
 have dC:=hide z
 have an:=hide hb
 have dG:=z.b2.cell
 have dI:=z.b5.cell
 have dL:=z.load2 rfl
 have dN:=z.load5 rfl
 clear z hb
 have C:=dC.out.at (Ap y)
 have dH:=C.b2.cell
 have dJ:=C.b5.cell
 have dM:=C.load2 rfl
 have dO:=C.load5 rfl
 have dD:=hide C
 have ao:=hide (an.out.trans ((Ap y).mono an.out.size))
 clear C dG dI dL dN
 refine Reg.region_cutI [0,1,0,7,0,16,0,127,255,511,1023] [0,1,2,4,5,6,3,7,8,9,10] (by kernel_rfl) hN ?_
 refine Reg.wI [0,1,2,4,5,6] [3,7,8,9,10] rfl fun Qf h=>?_
 go_wp2_with fail
 first | refine h _ _ ⟨rfl,?_⟩ | refine⟨rfl,?_⟩ | refine h _ _ ⟨by simp [Reg.fineT,Reg.intOp,Region.wanted,yielded,Reg.intFine,Reg.isInt,Act.eval],?_⟩
 try clear h
 refine Reg.aI 3 [7,8,9,10] [5] rfl fun Qf h=>?_
 simp only [gT,gS,gZ]
 go_wp2_with (go_at_call 173; refine(Cu _ _ _).mono ?_; rintro e w' ⟨rfl,rfl⟩)
 first | refine h _ _ ⟨Reg.same_below (Below.refl _ _) [5] rfl,?_⟩ | refine⟨Reg.same_below (Below.refl _ _) [5] rfl,?_⟩
 try clear h
 refine Reg.aI 7 [8,9,10] [] rfl fun Qf h=>?_
 simp only [gT,gS,gZ]
 go_wp2_with (go_at_call 173; refine(Cu _ _ _).mono ?_; rintro e w' ⟨rfl,rfl⟩)
 first | refine h _ _ ⟨Reg.nm,?_⟩ | refine⟨Reg.nm,?_⟩
 try clear h
 obtain⟨wz,ee,ap,al,dK⟩:=Ae y.drew #[.int .i64 (AD r.fr (p.states.length:Int)),.int .i64 (AD r.to (p.states.length:Int))] 36
 have dB:=hide (Ch (l:=[AD r.fr (p.states.length:Int),AD r.to (p.states.length:Int)]) al (by simp))
 have G:Below y.drew.heap.size y.drew wz:=ap
 clear al dK ap
 have E:=dD.out.at G
 have ea:=E.b2.cell
 have eb:=E.b5.cell
 have ec:=E.load2 rfl
 have ed:=E.load5 rfl
 have dE:=hide E
 have dF:=hide (ao.out.trans (G.mono ao.out.size))
 clear G E dH dJ dM dO
 refine Reg.wI [8] [9,10] rfl fun Qf h=>?_
 go_wp2_with fail
 first | refine h _ _ ⟨rfl,?_⟩ | refine⟨rfl,?_⟩ | refine h _ _ ⟨by simp [Reg.fineT,Reg.intOp,Region.wanted,yielded,Reg.intFine,Reg.isInt,Act.eval],?_⟩
 try clear h
 refine Reg.aI 9 [10] [] rfl fun Qf h=>?_
 simp only [gT,gS,gZ]
 go_wp2_with (go_at_call 120; refine(Ci (l:=[AD r.fr (p.states.length:Int),AD r.to (p.states.length:Int)]) dB.out).mono ?_; rintro e w' ⟨rfl,rfl⟩)
 first | refine h _ _ ⟨Reg.nm,?_⟩ | refine⟨Reg.nm,?_⟩
 try clear h
 refine Reg.wI [10] [] rfl fun Qf h=>?_
 go_wp2_with fail
 first | refine h _ _ ⟨rfl,?_⟩ | refine⟨rfl,?_⟩ | refine h _ _ ⟨by simp [Reg.fineT,Reg.intOp,Region.wanted,yielded,Reg.intFine,Reg.isInt,Act.eval],?_⟩
 try clear h
 first | refine Reg.restI_end ?_ | skip
 refine hQ _ _ _ _ _ _ _ _ _ _ _ dE.out dF.out
theorem RK {w w5:World} {g2 g5:Nat} {p:Am} {r:Az} {A1 A2 A3 A4 A5 A6 A7:Option Addr} {c1 c2 c3 c4 c5 c6 c7:Nat} {E1 E2 E3 E4 E5 E6 E7 E8:Option Addr} {f1 f2 f3 f4 f5 f6 f7 f8:Nat}
  (y:Cp w5 g2 g5 #[.string p.name,.int .i64 p.topo,.slice A1 p.states.length c1,.slice A2 p.messages.length c2,.slice A3 p.values.length c3,.int .i64 p.fault,.slice A4 p.res.length c4,.slice A5 p.initial.length c5,.slice A6 p.leader.length c6,.slice A7 p.rules.length c7] #[.string r.name,.int .i64 r.kind,.int .i64 r.fr,.int .i64 r.to,.int .i64 r.pf,.int .i64 r.pt,.slice E1 r.resp.length f1,.slice E2 r.guards.length f2,.slice E3 r.ex.length f3,.slice E4 r.fa.length f4,.int .i64 r.rd,.int .i64 r.wr,.slice E5 r.send.length f5,.int .i64 r.at_,.slice E6 r.left.length f6,.slice E7 r.right.length f7,.slice E8 r.parent.length f8,.int .i64 r.dir] p r) (hb:Below w.heap.size w w5)
  {u0 u1 u3 u4 u7 u8 u9 bA bL bW ce cq cD cR d2 de dn dp dq dr dt du dv dw dx dy dz dB dC dD dE dF dG dH dI dJ dK dM dN dO dP dQ dR dS dT dU dV dW dX dY dZ e0 e1 e2 e3 e4 e5 e6 e7 e8 e9 u64 ea eb ec ed ee eg eh ei ej ek el em en eo ep eq er et eu ev ew ey ez eA eB eE eF eG eH eI eJ eK eL eM eN bB bC bD bE bF bG bH bI bJ bK bM bN bO bP bQ bR bS bT bU bV bX bY bZ c0 c8 c9 ca cb cc cd cf cg ch ci cj ck cm cn co cp cr ct cu cv cw cx cy cz cA cB cE cF cG cH cJ cK cL cM cO cQ cS cT cU cV cW cX cY cZ d0 d1 d3 d4 d5 d6 d7 d8 d9 da db dc df dg dh di dj dk dl dm:Value}
  {Q:Exit→Act→World→Prop} (hN:Reg.NoQ Q)
  (hQ:∀(tm:Array Value) (w':World),tm[4]?.getD undef=.int .i64 (Aj id [Dy (p.messages.length:Int) r.guards,setE r.ex (p.states.length:Int),setE r.fa (p.states.length:Int),Bn r.rd (p.values.length:Int),Bn r.wr (p.values.length:Int),setE r.send (p.messages.length:Int)])→Below w.heap.size w w'→Q .normal ⟨tm,[]⟩ w'):
  (Eu Tryz.f170 13).wp Tryz.prog Q ⟨List.toArray (u0::u1::(.pointer (some ⟨g2,0,none⟩))::u3::u4::(.pointer (some ⟨g5,0,none⟩))::(.int .i64 (p.states.length:Int))::u7::u8::u9::bA::bL::bW::ce::cq::cD::cR::d2::de::dn::dp::dq::dr::dt::du::dv::
   dw::dx::dy::dz::dB::dC::dD::dE::dF::dG::dH::dI::dJ::dK::dM::dN::dO::dP::dQ::dR::dS::dT::dU::dV::dW::dX::dY::dZ::e0::e1::e2::e3::e4::e5::e6::e7::e8::
   e9::u64::ea::eb::ec::ed::ee::eg::eh::ei::ej::ek::el::em::en::eo::ep::eq::er::et::eu::ev::ew::ey::ez::eA::eB::eE::eF::eG::eH::eI::eJ::eK::eL::eM::eN::
   bB::bC::bD::bE::bF::bG::bH::bI::bJ::bK::bM::bN::bO::bP::bQ::bR::bS::bT::bU::bV::bX::bY::bZ::c0::c8::c9::ca::cb::cc::cd::cf::cg::ch::
   ci::cj::ck::cm::cn::co::cp::cr::ct::cu::cv::cw::cx::cy::cz::cA::cB::cE::cF::cG::cH::cJ::cK::cL::cM::cO::cQ::cS::cT::cU::cV::cW::cX::
   cY::cZ::d0::d1::d3::d4::d5::d6::d7::d8::d9::da::db::dc::df::dg::dh::di::dj::dk::dl::dm::[]),[]⟩ w5:=by
 conv=>arg 2; whnf
 have aU:=hide y
 have af:=hide hb
 have aX:=y.b2.cell
 have b7:=y.b5.cell
 have bh:=y.load2 rfl
 have bp:=y.load5 rfl
 clear y hb
 have z:=aU.out.at (Ap w5)
 have aY:=z.b2.cell
 have b8:=z.b5.cell
 have bi:=z.load2 rfl
 have bq:=z.load5 rfl
 have a4:=hide z
 have ag:=hide (af.out.trans ((Ap w5).mono af.out.size))
 clear z aX b7 bh bp
 refine Reg.region_cutI [0,0,2,7,0,16,0,127,0,256,0,2047,0,0,8192,32767,0,0,131072,524287,0,1048576,0,4194304,12582912,33554431,67108863,134217727,268435455] [0,1,2,4,5,6,8,9,10,12,13,14,16,17,18,20,21,22,23,24,3,7,11,15,19,25,26,27,28] (by kernel_rfl) hN ?_
 refine Reg.wI [0,1,2,4,5,6,8,9,10,12,13,14,16,17,18,20,21,22,23,24] [3,7,11,15,19,25,26,27,28] rfl fun Qf h=>?_
 go_wp2_with fail
 first | refine h _ _ ⟨rfl,?_⟩ | refine⟨rfl,?_⟩ | refine h _ _ ⟨by simp [Reg.fineT,Reg.intOp,Region.wanted,yielded,Reg.intFine,Reg.isInt,Act.eval],?_⟩
 try clear h
 refine Reg.aI 3 [7,11,15,19,25,26,27,28] [5,9,12,14,16,18,21,23] rfl fun Qf h=>?_
 simp only [gT,gS,gZ]
 go_wp2_with (go_at_call 210; refine Calls.ret (P5 a4.out.pr (Ev a4.out.ru).2.1) ?_; rintro v w7 ⟨rfl,U⟩)
 first | refine h _ _ ⟨Reg.same_below (U) [5,9,12,14,16,18,21,23] rfl,?_⟩ | refine⟨Reg.same_below (U) [5,9,12,14,16,18,21,23] rfl,?_⟩
 try clear h
 have C:=a4.out.at U
 have aZ:=C.b2.cell
 have b9:=C.b5.cell
 have bj:=C.load2 rfl
 have br:=C.load5 rfl
 have a8:=hide C
 have ah:=hide (ag.out.trans (U.mono ag.out.size))
 clear U C aY b8 bi bq
 refine Reg.aI 7 [11,15,19,25,26,27,28] [9,12,14,16,18,21,23] rfl fun Qf h=>?_
 simp only [gT,gS,gZ]
 go_wp2_with (go_at_call 119; refine Calls.ret (DE (Ev a8.out.ru).2.2.1) ?_; rintro v w8 ⟨rfl,V⟩)
 first | refine h _ _ ⟨Reg.same_below (V) [9,12,14,16,18,21,23] rfl,?_⟩ | refine⟨Reg.same_below (V) [9,12,14,16,18,21,23] rfl,?_⟩
 try clear h
 have E:=a8.out.at V
 have b0:=E.b2.cell
 have ba:=E.b5.cell
 have bk:=E.load2 rfl
 have bs:=E.load5 rfl
 have a9:=hide E
 have ai:=hide (ah.out.trans (V.mono ah.out.size))
 clear V E aZ b9 bj br
 refine Reg.aI 11 [15,19,25,26,27,28] [12,14,16,18,21,23] rfl fun Qf h=>?_
 simp only [gT,gS,gZ]
 go_wp2_with (go_at_call 119; refine Calls.ret (DE (Ev a9.out.ru).2.2.2.1) ?_; rintro v w9 ⟨rfl,W⟩)
 first | refine h _ _ ⟨Reg.same_below (W) [12,14,16,18,21,23] rfl,?_⟩ | refine⟨Reg.same_below (W) [12,14,16,18,21,23] rfl,?_⟩
 try clear h
 have G:=a9.out.at W
 have b1:=G.b2.cell
 have bb:=G.b5.cell
 have bl:=G.load2 rfl
 have bt:=G.load5 rfl
 have aa:=hide G
 have aj:=hide (ai.out.trans (W.mono ai.out.size))
 clear W G b0 ba bk bs
 refine Reg.aI 15 [19,25,26,27,28] [16,18,21,23] rfl fun Qf h=>?_
 simp only [gT,gS,gZ]
 go_wp2_with (go_at_call 211; refine Calls.ret (FE aa.out.pr) ?_; rintro v wa ⟨rfl,Z⟩)
 first | refine h _ _ ⟨Reg.same_below (Z) [16,18,21,23] rfl,?_⟩ | refine⟨Reg.same_below (Z) [16,18,21,23] rfl,?_⟩
 try clear h
 have I:=aa.out.at Z
 have b3:=I.b2.cell
 have bd:=I.b5.cell
 have bm:=I.load2 rfl
 have bu:=I.load5 rfl
 have ab:=hide I
 have ak:=hide (aj.out.trans (Z.mono aj.out.size))
 clear Z I b1 bb bl bt
 refine Reg.aI 19 [25,26,27,28] [21,23] rfl fun Qf h=>?_
 simp only [gT,gS,gZ]
 go_wp2_with (go_at_call 211; refine Calls.ret (FE ab.out.pr) ?_; rintro v wb ⟨rfl,a2⟩)
 first | refine h _ _ ⟨Reg.same_below (a2) [21,23] rfl,?_⟩ | refine⟨Reg.same_below (a2) [21,23] rfl,?_⟩
 try clear h
 have J:=ab.out.at a2
 have b4:=J.b2.cell
 have be:=J.b5.cell
 have bn:=J.load2 rfl
 have bv:=J.load5 rfl
 have ad:=hide J
 have al:=hide (ak.out.trans (a2.mono ak.out.size))
 clear a2 J b3 bd bm bu
 refine Reg.aI 25 [26,27,28] [] rfl fun Qf h=>?_
 simp only [gT,gS,gZ]
 go_wp2_with (go_at_call 119; refine Calls.ret (DE (Ev ad.out.ru).2.2.2.2.1) ?_; rintro v wc ⟨rfl,a5⟩)
 first | refine h _ _ ⟨Reg.nm,?_⟩ | refine⟨Reg.nm,?_⟩
 try clear h
 have M:=ad.out.at a5
 have b6:=M.b2.cell
 have bf:=M.b5.cell
 have bo:=M.load2 rfl
 have bw:=M.load5 rfl
 have aV:=hide M
 have am:=hide (al.out.trans (a5.mono al.out.size))
 clear a5 M b4 be bn bv
 obtain⟨wz,eU,an,a7,bg⟩:=Ae wc #[.int .i64 (Dy (p.messages.length:Int) r.guards),.int .i64 (setE r.ex (p.states.length:Int)),.int .i64 (setE r.fa (p.states.length:Int)),.int .i64 (Bn r.rd (p.values.length:Int)),.int .i64 (Bn r.wr (p.values.length:Int)),.int .i64 (setE r.send (p.messages.length:Int))] 36
 have aT:=hide (Ch (l:=[Dy (p.messages.length:Int) r.guards,setE r.ex (p.states.length:Int),setE r.fa (p.states.length:Int),Bn r.rd (p.values.length:Int),Bn r.wr (p.values.length:Int),setE r.send (p.messages.length:Int)]) a7 (by simp))
 have a6:=an
 clear a7 bg an
 have O:=aV.out.at a6
 have eQ:=O.b2.cell
 have eR:=O.b5.cell
 have eS:=O.load2 rfl
 have eT:=O.load5 rfl
 have eP:=hide O
 have aW:=hide (am.out.trans (a6.mono am.out.size))
 clear a6 O b6 bf bo bw
 refine Reg.wI [26] [27,28] rfl fun Qf h=>?_
 go_wp2_with fail
 first | refine h _ _ ⟨rfl,?_⟩ | refine⟨rfl,?_⟩ | refine h _ _ ⟨by simp [Reg.fineT,Reg.intOp,Region.wanted,yielded,Reg.intFine,Reg.isInt,Act.eval],?_⟩
 try clear h
 refine Reg.aI 27 [28] [] rfl fun Qf h=>?_
 simp only [gT,gS,gZ]
 go_wp2_with (go_at_call 120; refine(Ci (l:=[Dy (p.messages.length:Int) r.guards,setE r.ex (p.states.length:Int),setE r.fa (p.states.length:Int),Bn r.rd (p.values.length:Int),Bn r.wr (p.values.length:Int),setE r.send (p.messages.length:Int)]) aT.out).mono ?_; rintro e w' ⟨rfl,rfl⟩)
 first | refine h _ _ ⟨Reg.nm,?_⟩ | refine⟨Reg.nm,?_⟩
 try clear h
 refine Reg.wI [28] [] rfl fun Qf h=>?_
 go_wp2_with fail
 first | refine h _ _ ⟨rfl,?_⟩ | refine⟨rfl,?_⟩ | refine h _ _ ⟨by simp [Reg.fineT,Reg.intOp,Region.wanted,yielded,Reg.intFine,Reg.isInt,Act.eval],?_⟩
 try clear h
 first | refine Reg.restI_end ?_ | skip
 refine hQ _ _ (by first | rfl | simp) aW.out
theorem RL {w J:World} {g2 g5:Nat} {p:Am} {r:Az} {A1 A2 A3 A4 A5 A6 A7:Option Addr} {c1 c2 c3 c4 c5 c6 c7:Nat} {E1 E2 E3 E4 E5 E6 E7 E8:Option Addr} {f1 f2 f3 f4 f5 f6 f7 f8:Nat}
  (y:Cp J g2 g5 #[.string p.name,.int .i64 p.topo,.slice A1 p.states.length c1,.slice A2 p.messages.length c2,.slice A3 p.values.length c3,.int .i64 p.fault,.slice A4 p.res.length c4,.slice A5 p.initial.length c5,.slice A6 p.leader.length c6,.slice A7 p.rules.length c7] #[.string r.name,.int .i64 r.kind,.int .i64 r.fr,.int .i64 r.to,.int .i64 r.pf,.int .i64 r.pt,.slice E1 r.resp.length f1,.slice E2 r.guards.length f2,.slice E3 r.ex.length f3,.slice E4 r.fa.length f4,.int .i64 r.rd,.int .i64 r.wr,.slice E5 r.send.length f5,.int .i64 r.at_,.slice E6 r.left.length f6,.slice E7 r.right.length f7,.slice E8 r.parent.length f8,.int .i64 r.dir] p r) (Z:Below w.heap.size w J)
  {u0 u1 u3 u4 u7 u8 u9 b0 be bp bB bM bX cf cr cE cQ cR cS cT cU cV cW cX cY cZ d0 d2 d3 d4 d5 d6 d7 d8 d9 da db de df dg dh di dj dk dl dm dn dp dq dr dt du dv dw dx dy dz dA dB dC dD u64 dE dF dG dH dI dK dL dM dN dO dP dQ dR dS dT dU dV dW dX dY dZ e0 e1 e2 e3 e5 e6 e7 e8 e9 ea eb ec ed ee b1 b3 b4 b6 b7 b8 b9 ba bb bd bf bg bh bi bj bk bl bm bn bo bq br bs bt bu bv bw bx bz bA bC bD bE bF bG bH bI bJ bK bL bN bO bP bQ bR bS bT bU bV bW bY bZ c0 c8 c9 ca cb cc cd ce cg ch ci cj ck cm cn co cp cq ct cu cv cw cx cy cz cA cB cD cF cG cH cJ cK cL cM cO:Value}
  {Q:Exit→Act→World→Prop} (hN:Reg.NoQ Q)
  (hQ:∀(tm:Array Value) (w':World),tm[4]?.getD undef=.int .i64 (Aj id [AD r.pf (p.states.length:Int),AD r.pt (p.states.length:Int),Bn r.rd (p.values.length:Int),Bn r.wr (p.values.length:Int)])→Below w.heap.size w w'→Q .normal ⟨tm,[]⟩ w'):
  (Eu Tryz.f170 15).wp Tryz.prog Q ⟨List.toArray (u0::u1::(.pointer (some ⟨g2,0,none⟩))::u3::u4::(.pointer (some ⟨g5,0,none⟩))::(.int .i64 (p.states.length:Int))::u7::u8::u9::b0::be::bp::bB::bM::bX::cf::cr::cE::cQ::cR::cS::cT::cU::cV::cW::
   cX::cY::cZ::d0::d2::d3::d4::d5::d6::d7::d8::d9::da::db::de::df::dg::dh::di::dj::dk::dl::dm::dn::dp::dq::dr::dt::du::dv::dw::dx::dy::dz::dA::dB::dC::
   dD::u64::dE::dF::dG::dH::dI::dK::dL::dM::dN::dO::dP::dQ::dR::dS::dT::dU::dV::dW::dX::dY::dZ::e0::e1::e2::e3::e5::e6::e7::e8::e9::ea::eb::ec::ed::ee::
   b1::b3::b4::b6::b7::b8::b9::ba::bb::bd::bf::bg::bh::bi::bj::bk::bl::bm::bn::bo::bq::br::bs::bt::bu::bv::bw::bx::bz::bA::bC::bD::bE::
   bF::bG::bH::bI::bJ::bK::bL::bN::bO::bP::bQ::bR::bS::bT::bU::bV::bW::bY::bZ::c0::c8::c9::ca::cb::cc::cd::ce::cg::ch::ci::cj::ck::cm::
   cn::co::cp::cq::ct::cu::cv::cw::cx::cy::cz::cA::cB::cD::cF::cG::cH::cJ::cK::cL::cM::cO::[]),[]⟩ J:=by
 conv=>arg 2; whnf
 have aD:=hide y
 have a2:=hide Z
 have aG:=y.b2.cell
 have aL:=y.b5.cell
 have aQ:=y.load2 rfl
 have aU:=y.load5 rfl
 clear y Z
 have z:=aD.out.at (Ap J)
 have aH:=z.b2.cell
 have aM:=z.b5.cell
 have aR:=z.load2 rfl
 have aV:=z.load5 rfl
 have V:=hide z
 have a3:=hide (a2.out.trans ((Ap J).mono a2.out.size))
 clear z aG aL aQ aU
 refine Reg.region_cutI [0,1,0,7,0,16,0,127,0,0,512,2047,0,0,8192,32767,65535,131071,262143] [0,1,2,4,5,6,8,9,10,12,13,14,3,7,11,15,16,17,18] (by kernel_rfl) hN ?_
 refine Reg.wI [0,1,2,4,5,6,8,9,10,12,13,14] [3,7,11,15,16,17,18] rfl fun Qf h=>?_
 go_wp2_with fail
 first | refine h _ _ ⟨rfl,?_⟩ | refine⟨rfl,?_⟩ | refine h _ _ ⟨by simp [Reg.fineT,Reg.intOp,Region.wanted,yielded,Reg.intFine,Reg.isInt,Act.eval],?_⟩
 try clear h
 refine Reg.aI 3 [7,11,15,16,17,18] [5,8,10,12,14] rfl fun Qf h=>?_
 simp only [gT,gS,gZ]
 go_wp2_with (go_at_call 173; refine(Cu _ _ _).mono ?_; rintro e w' ⟨rfl,rfl⟩)
 first | refine h _ _ ⟨Reg.same_below (Below.refl _ _) [5,8,10,12,14] rfl,?_⟩ | refine⟨Reg.same_below (Below.refl _ _) [5,8,10,12,14] rfl,?_⟩
 try clear h
 refine Reg.aI 7 [11,15,16,17,18] [8,10,12,14] rfl fun Qf h=>?_
 simp only [gT,gS,gZ]
 go_wp2_with (go_at_call 173; refine(Cu _ _ _).mono ?_; rintro e w' ⟨rfl,rfl⟩)
 first | refine h _ _ ⟨Reg.same_below (Below.refl _ _) [8,10,12,14] rfl,?_⟩ | refine⟨Reg.same_below (Below.refl _ _) [8,10,12,14] rfl,?_⟩
 try clear h
 refine Reg.aI 11 [15,16,17,18] [12,14] rfl fun Qf h=>?_
 simp only [gT,gS,gZ]
 go_wp2_with (go_at_call 211; refine Calls.ret (FE V.out.pr) ?_; rintro v wa ⟨rfl,I⟩)
 first | refine h _ _ ⟨Reg.same_below (I) [12,14] rfl,?_⟩ | refine⟨Reg.same_below (I) [12,14] rfl,?_⟩
 try clear h
 have C:=V.out.at I
 have aJ:=C.b2.cell
 have aN:=C.b5.cell
 have aS:=C.load2 rfl
 have aW:=C.load5 rfl
 have W:=hide C
 have a4:=hide (a3.out.trans (I.mono a3.out.size))
 clear I C aH aM aR aV
 refine Reg.aI 15 [16,17,18] [] rfl fun Qf h=>?_
 simp only [gT,gS,gZ]
 go_wp2_with (go_at_call 211; refine Calls.ret (FE W.out.pr) ?_; rintro v wb ⟨rfl,M⟩)
 first | refine h _ _ ⟨Reg.nm,?_⟩ | refine⟨Reg.nm,?_⟩
 try clear h
 have E:=W.out.at M
 have aK:=E.b2.cell
 have aO:=E.b5.cell
 have aT:=E.load2 rfl
 have aX:=E.load5 rfl
 have aE:=hide E
 have a5:=hide (a4.out.trans (M.mono a4.out.size))
 clear M E aJ aN aS aW
 obtain⟨wz,el,a6,U,aP⟩:=Ae wb #[.int .i64 (AD r.pf (p.states.length:Int)),.int .i64 (AD r.pt (p.states.length:Int)),.int .i64 (Bn r.rd (p.values.length:Int)),.int .i64 (Bn r.wr (p.values.length:Int))] 36
 have aC:=hide (Ch (l:=[AD r.pf (p.states.length:Int),AD r.pt (p.states.length:Int),Bn r.rd (p.values.length:Int),Bn r.wr (p.values.length:Int)]) U (by simp))
 have O:=a6
 clear U aP a6
 have G:=aE.out.at O
 have eh:=G.b2.cell
 have ei:=G.b5.cell
 have ej:=G.load2 rfl
 have ek:=G.load5 rfl
 have eg:=hide G
 have aF:=hide (a5.out.trans (O.mono a5.out.size))
 clear O G aK aO aT aX
 refine Reg.wI [16] [17,18] rfl fun Qf h=>?_
 go_wp2_with fail
 first | refine h _ _ ⟨rfl,?_⟩ | refine⟨rfl,?_⟩ | refine h _ _ ⟨by simp [Reg.fineT,Reg.intOp,Region.wanted,yielded,Reg.intFine,Reg.isInt,Act.eval],?_⟩
 try clear h
 refine Reg.aI 17 [18] [] rfl fun Qf h=>?_
 simp only [gT,gS,gZ]
 go_wp2_with (go_at_call 120; refine(Ci (l:=[AD r.pf (p.states.length:Int),AD r.pt (p.states.length:Int),Bn r.rd (p.values.length:Int),Bn r.wr (p.values.length:Int)]) aC.out).mono ?_; rintro e w' ⟨rfl,rfl⟩)
 first | refine h _ _ ⟨Reg.nm,?_⟩ | refine⟨Reg.nm,?_⟩
 try clear h
 refine Reg.wI [18] [] rfl fun Qf h=>?_
 go_wp2_with fail
 first | refine h _ _ ⟨rfl,?_⟩ | refine⟨rfl,?_⟩ | refine h _ _ ⟨by simp [Reg.fineT,Reg.intOp,Region.wanted,yielded,Reg.intFine,Reg.isInt,Act.eval],?_⟩
 try clear h
 first | refine Reg.restI_end ?_ | skip
 refine hQ _ _ (by first | rfl | simp) aF.out
theorem RM {w J:World} {g2 g5:Nat} {p:Am} {r:Az} {A1 A2 A3 A4 A5 A6 A7:Option Addr} {c1 c2 c3 c4 c5 c6 c7:Nat} {E1 E2 E3 E4 E5 E6 E7 E8:Option Addr} {f1 f2 f3 f4 f5 f6 f7 f8:Nat}
  (y:Cp J g2 g5 #[.string p.name,.int .i64 p.topo,.slice A1 p.states.length c1,.slice A2 p.messages.length c2,.slice A3 p.values.length c3,.int .i64 p.fault,.slice A4 p.res.length c4,.slice A5 p.initial.length c5,.slice A6 p.leader.length c6,.slice A7 p.rules.length c7] #[.string r.name,.int .i64 r.kind,.int .i64 r.fr,.int .i64 r.to,.int .i64 r.pf,.int .i64 r.pt,.slice E1 r.resp.length f1,.slice E2 r.guards.length f2,.slice E3 r.ex.length f3,.slice E4 r.fa.length f4,.int .i64 r.rd,.int .i64 r.wr,.slice E5 r.send.length f5,.int .i64 r.at_,.slice E6 r.left.length f6,.slice E7 r.right.length f7,.slice E8 r.parent.length f8,.int .i64 r.dir] p r) (Z:Below w.heap.size w J)
  {u0 u1 u3 u4 u7 u8 u9 b0 be bp bB bM bX cf cr cE cQ cR cS cT cU cV cW cX cY cZ d0 d2 d3 d4 d5 d6 d7 d8 d9 da db de df dg dh di dj dk dl dm dn dp dq dr dt du dv dw dx dy dz dA dB dC dD u64 dE dF dG dH dI dK dL dM dN dO dP dQ dR dS dT dU dV dW dX dY dZ e0 e1 e2 e3 e5 e6 e7 e8 e9 ea eb ec ed ee b1 b3 b4 b6 b7 b8 b9 ba bb bd bf bg bh bi bj bk bl bm bn bo bq br bs bt bu bv bw bx bz bA bC bD bE bF bG bH bI bJ bK bL bN bO bP bQ bR bS bT bU bV bW bY bZ c0 c8 c9 ca cb cc cd ce cg ch ci cj ck cm cn co cp cq ct cu cv cw cx cy cz cA cB cD cF cG cH cJ cK cL cM cO:Value}
  {Q:Exit→Act→World→Prop} (hN:Reg.NoQ Q)
  (hQ:∀(tm:Array Value) (w':World),tm[4]?.getD undef=.int .i64 (Aj id [C8 (p.states.length:Int) r.resp,Bn r.rd (p.values.length:Int),Bn r.wr (p.values.length:Int)])→Below w.heap.size w w'→Q .normal ⟨tm,[]⟩ w'):
  (Eu Tryz.f170 17).wp Tryz.prog Q ⟨List.toArray (u0::u1::(.pointer (some ⟨g2,0,none⟩))::u3::u4::(.pointer (some ⟨g5,0,none⟩))::(.int .i64 (p.states.length:Int))::u7::u8::u9::b0::be::bp::bB::bM::bX::cf::cr::cE::cQ::cR::cS::cT::cU::cV::cW::
   cX::cY::cZ::d0::d2::d3::d4::d5::d6::d7::d8::d9::da::db::de::df::dg::dh::di::dj::dk::dl::dm::dn::dp::dq::dr::dt::du::dv::dw::dx::dy::dz::dA::dB::dC::
   dD::u64::dE::dF::dG::dH::dI::dK::dL::dM::dN::dO::dP::dQ::dR::dS::dT::dU::dV::dW::dX::dY::dZ::e0::e1::e2::e3::e5::e6::e7::e8::e9::ea::eb::ec::ed::ee::
   b1::b3::b4::b6::b7::b8::b9::ba::bb::bd::bf::bg::bh::bi::bj::bk::bl::bm::bn::bo::bq::br::bs::bt::bu::bv::bw::bx::bz::bA::bC::bD::bE::
   bF::bG::bH::bI::bJ::bK::bL::bN::bO::bP::bQ::bR::bS::bT::bU::bV::bW::bY::bZ::c0::c8::c9::ca::cb::cc::cd::ce::cg::ch::ci::cj::ck::cm::
   cn::co::cp::cq::ct::cu::cv::cw::cx::cy::cz::cA::cB::cD::cF::cG::cH::cJ::cK::cL::cM::cO::[]),[]⟩ J:=by
 conv=>arg 2; whnf
 have aD:=hide y
 have a2:=hide Z
 have aG:=y.b2.cell
 have aL:=y.b5.cell
 have aQ:=y.load2 rfl
 have aU:=y.load5 rfl
 clear y Z
 have z:=aD.out.at (Ap J)
 have aH:=z.b2.cell
 have aM:=z.b5.cell
 have aR:=z.load2 rfl
 have aV:=z.load5 rfl
 have M:=hide z
 have a3:=hide (a2.out.trans ((Ap J).mono a2.out.size))
 clear z aG aL aQ aU
 refine Reg.region_cutI [0,1,0,7,0,0,32,127,0,0,512,2047,4095,8191,16383] [0,1,2,4,5,6,8,9,10,3,7,11,12,13,14] (by kernel_rfl) hN ?_
 refine Reg.wI [0,1,2,4,5,6,8,9,10] [3,7,11,12,13,14] rfl fun Qf h=>?_
 go_wp2_with fail
 first | refine h _ _ ⟨rfl,?_⟩ | refine⟨rfl,?_⟩ | refine h _ _ ⟨by simp [Reg.fineT,Reg.intOp,Region.wanted,yielded,Reg.intFine,Reg.isInt,Act.eval],?_⟩
 try clear h
 refine Reg.aI 3 [7,11,12,13,14] [4,6,8,10] rfl fun Qf h=>?_
 simp only [gT,gS,gZ]
 go_wp2_with (go_at_call 212; refine(R7 (Ev M.out.ru).1).mono ?_; rintro e w' ⟨rfl,rfl⟩)
 first | refine h _ _ ⟨Reg.same_below (Below.refl _ _) [4,6,8,10] rfl,?_⟩ | refine⟨Reg.same_below (Below.refl _ _) [4,6,8,10] rfl,?_⟩
 try clear h
 refine Reg.aI 7 [11,12,13,14] [8,10] rfl fun Qf h=>?_
 simp only [gT,gS,gZ]
 go_wp2_with (go_at_call 211; refine Calls.ret (FE M.out.pr) ?_; rintro v wa ⟨rfl,I⟩)
 first | refine h _ _ ⟨Reg.same_below (I) [8,10] rfl,?_⟩ | refine⟨Reg.same_below (I) [8,10] rfl,?_⟩
 try clear h
 have C:=M.out.at I
 have aJ:=C.b2.cell
 have aN:=C.b5.cell
 have aS:=C.load2 rfl
 have aW:=C.load5 rfl
 have W:=hide C
 have a4:=hide (a3.out.trans (I.mono a3.out.size))
 clear I C aH aM aR aV
 refine Reg.aI 11 [12,13,14] [] rfl fun Qf h=>?_
 simp only [gT,gS,gZ]
 go_wp2_with (go_at_call 211; refine Calls.ret (FE W.out.pr) ?_; rintro v wb ⟨rfl,O⟩)
 first | refine h _ _ ⟨Reg.nm,?_⟩ | refine⟨Reg.nm,?_⟩
 try clear h
 have E:=W.out.at O
 have aK:=E.b2.cell
 have aO:=E.b5.cell
 have aT:=E.load2 rfl
 have aX:=E.load5 rfl
 have aE:=hide E
 have a5:=hide (a4.out.trans (O.mono a4.out.size))
 clear O E aJ aN aS aW
 obtain⟨wz,el,a6,V,aP⟩:=Ae wb #[.int .i64 (C8 (p.states.length:Int) r.resp),.int .i64 (Bn r.rd (p.values.length:Int)),.int .i64 (Bn r.wr (p.values.length:Int))] 36
 have aC:=hide (Ch (l:=[C8 (p.states.length:Int) r.resp,Bn r.rd (p.values.length:Int),Bn r.wr (p.values.length:Int)]) V (by simp))
 have U:=a6
 clear V aP a6
 have G:=aE.out.at U
 have eh:=G.b2.cell
 have ei:=G.b5.cell
 have ej:=G.load2 rfl
 have ek:=G.load5 rfl
 have eg:=hide G
 have aF:=hide (a5.out.trans (U.mono a5.out.size))
 clear U G aK aO aT aX
 refine Reg.wI [12] [13,14] rfl fun Qf h=>?_
 go_wp2_with fail
 first | refine h _ _ ⟨rfl,?_⟩ | refine⟨rfl,?_⟩ | refine h _ _ ⟨by simp [Reg.fineT,Reg.intOp,Region.wanted,yielded,Reg.intFine,Reg.isInt,Act.eval],?_⟩
 try clear h
 refine Reg.aI 13 [14] [] rfl fun Qf h=>?_
 simp only [gT,gS,gZ]
 go_wp2_with (go_at_call 120; refine(Ci (l:=[C8 (p.states.length:Int) r.resp,Bn r.rd (p.values.length:Int),Bn r.wr (p.values.length:Int)]) aC.out).mono ?_; rintro e w' ⟨rfl,rfl⟩)
 first | refine h _ _ ⟨Reg.nm,?_⟩ | refine⟨Reg.nm,?_⟩
 try clear h
 refine Reg.wI [14] [] rfl fun Qf h=>?_
 go_wp2_with fail
 first | refine h _ _ ⟨rfl,?_⟩ | refine⟨rfl,?_⟩ | refine h _ _ ⟨by simp [Reg.fineT,Reg.intOp,Region.wanted,yielded,Reg.intFine,Reg.isInt,Act.eval],?_⟩
 try clear h
 first | refine Reg.restI_end ?_ | skip
 refine hQ _ _ (by first | rfl | simp) aF.out
theorem F8 {w O:World} {g2 g5:Nat} {p:Am} {r:Az} {A1 A2 A3 A4 A5 A6 A7:Option Addr} {c1 c2 c3 c4 c5 c6 c7:Nat} {E1 E2 E3 E4 E5 E6 E7 E8:Option Addr} {f1 f2 f3 f4 f5 f6 f7 f8:Nat} {m:Bool}
  (y:Cp O g2 g5 #[.string p.name,.int .i64 p.topo,.slice A1 p.states.length c1,.slice A2 p.messages.length c2,.slice A3 p.values.length c3,.int .i64 p.fault,.slice A4 p.res.length c4,.slice A5 p.initial.length c5,.slice A6 p.leader.length c6,.slice A7 p.rules.length c7] #[.string r.name,.int .i64 r.kind,.int .i64 r.fr,.int .i64 r.to,.int .i64 r.pf,.int .i64 r.pt,.slice E1 r.resp.length f1,.slice E2 r.guards.length f2,.slice E3 r.ex.length f3,.slice E4 r.fa.length f4,.int .i64 r.rd,.int .i64 r.wr,.slice E5 r.send.length f5,.int .i64 r.at_,.slice E6 r.left.length f6,.slice E7 r.right.length f7,.slice E8 r.parent.length f8,.int .i64 r.dir] p r) (hb:Below w.heap.size w O)
  {u0 u1 u3 u4 u7 u8 ba bm bx bJ bU cc co cA cO cY cZ d0 d1 d2 d3 d4 d5 d6 d7 d8 da db dc de df dg dh di dj dk dm dn dp dq dr dt du dv dw dx dy dz dA dB dC dD dE dF dG dH dI dJ dK dL u64 dM dN dO dP dQ dS dT dU dV dW dX dY dZ e0 e1 e2 e3 e4 e5 e6 e7 e8 e9 ea eb ec ed ee ef eg eh ei ej ek el bb bd be bf bg bh bi bj bk bl bn bo bp bq br bs bt bu bv bw bz bA bB bC bD bE bF bG bH bI bK bL bM bN bO bP bQ bR bS bT bV bW bX bY bZ c0 c8 c9 ca cb cd ce cf cg ch ci cj ck cm cn cp cq cr ct cu cv cw cx cy cz cB cD cE cF cG cH cJ cK cL cM cQ cR cS cT cU cV cW cX:Value}
  {Q:Exit→Act→World→Prop} (hN:Reg.NoQ Q)
  (hQ:∀(tm:Array Value) (w':World),tm[4]?.getD undef=.int .i64 (Aj id [setE r.left (p.states.length:Int),setE r.right (p.states.length:Int),setE r.parent (p.states.length:Int),Ad m 1])→Below w.heap.size w w'→Q .normal ⟨tm,[]⟩ w'):
  (Eu Tryz.f170 20).wp Tryz.prog Q ⟨List.toArray (u0::u1::(.pointer (some ⟨g2,0,none⟩))::u3::u4::(.pointer (some ⟨g5,0,none⟩))::(.int .i64 (p.states.length:Int))::u7::u8::(.bool m)::ba::bm::bx::bJ::bU::cc::co::cA::cO::cY::cZ::d0::d1::d2::d3::
   d4::d5::d6::d7::d8::da::db::dc::de::df::dg::dh::di::dj::dk::dm::dn::dp::dq::dr::dt::du::dv::dw::dx::dy::dz::dA::dB::dC::dD::dE::dF::dG::dH::dI::dJ::
   dK::dL::u64::dM::dN::dO::dP::dQ::dS::dT::dU::dV::dW::dX::dY::dZ::e0::e1::e2::e3::e4::e5::e6::e7::e8::e9::ea::eb::ec::ed::ee::ef::eg::eh::ei::ej::ek::
   el::bb::bd::be::bf::bg::bh::bi::bj::bk::bl::bn::bo::bp::bq::br::bs::bt::bu::bv::bw::bz::bA::bB::bC::bD::bE::bF::bG::bH::bI::bK::bL::
   bM::bN::bO::bP::bQ::bR::bS::bT::bV::bW::bX::bY::bZ::c0::c8::c9::ca::cb::cd::ce::cf::cg::ch::ci::cj::ck::cm::cn::cp::cq::cr::ct::cu::
   cv::cw::cx::cy::cz::cB::cD::cE::cF::cG::cH::cJ::cK::cL::cM::cQ::cR::cS::cT::cU::cV::cW::cX::[]),[]⟩ O:=by
 conv=>arg 2; whnf
 have aH:=hide y
 have a5:=hide hb
 have aL:=y.b2.cell
 have aQ:=y.b5.cell
 have aW:=y.load2 rfl
 have b1:=y.load5 rfl
 clear y hb
 have z:=aH.out.at (Ap O)
 have aM:=z.b2.cell
 have aR:=z.b5.cell
 have aX:=z.load2 rfl
 have b3:=z.load5 rfl
 have Z:=hide z
 have a6:=hide (a5.out.trans ((Ap O).mono a5.out.size))
 clear z aL aQ aW b1
 refine Reg.region_cutI [0,1,0,7,0,16,0,127,0,256,0,2047,0,8191,16383,32767,65535] [0,1,2,4,5,6,8,9,10,12,3,7,11,13,14,15,16] (by kernel_rfl) hN ?_
 refine Reg.wI [0,1,2,4,5,6,8,9,10,12] [3,7,11,13,14,15,16] rfl fun Qf h=>?_
 go_wp2_with fail
 first | refine h _ _ ⟨rfl,?_⟩ | refine⟨rfl,?_⟩ | refine h _ _ ⟨by simp [Reg.fineT,Reg.intOp,Region.wanted,yielded,Reg.intFine,Reg.isInt,Act.eval],?_⟩
 try clear h
 refine Reg.aI 3 [7,11,13,14,15,16] [5,9] rfl fun Qf h=>?_
 simp only [gT,gS,gZ]
 go_wp2_with (go_at_call 119; refine Calls.ret (DE (Ev Z.out.ru).2.2.2.2.2.1) ?_; rintro v wa ⟨rfl,J⟩)
 first | refine h _ _ ⟨Reg.same_below (J) [5,9] rfl,?_⟩ | refine⟨Reg.same_below (J) [5,9] rfl,?_⟩
 try clear h
 have C:=Z.out.at J
 have aN:=C.b2.cell
 have aS:=C.b5.cell
 have aY:=C.load2 rfl
 have b4:=C.load5 rfl
 have a2:=hide C
 have a7:=hide (a6.out.trans (J.mono a6.out.size))
 clear J C aM aR aX b3
 refine Reg.aI 7 [11,13,14,15,16] [9] rfl fun Qf h=>?_
 simp only [gT,gS,gZ]
 go_wp2_with (go_at_call 119; refine Calls.ret (DE (Ev a2.out.ru).2.2.2.2.2.2.1) ?_; rintro v wb ⟨rfl,M⟩)
 first | refine h _ _ ⟨Reg.same_below (M) [9] rfl,?_⟩ | refine⟨Reg.same_below (M) [9] rfl,?_⟩
 try clear h
 have E:=a2.out.at M
 have aO:=E.b2.cell
 have aT:=E.b5.cell
 have aZ:=E.load2 rfl
 have b6:=E.load5 rfl
 have a3:=hide E
 have a8:=hide (a7.out.trans (M.mono a7.out.size))
 clear M E aN aS aY b4
 refine Reg.aI 11 [13,14,15,16] [] rfl fun Qf h=>?_
 simp only [gT,gS,gZ]
 go_wp2_with (go_at_call 119; refine Calls.ret (DE (Ev a3.out.ru).2.2.2.2.2.2.2) ?_; rintro v wc ⟨rfl,U⟩)
 first | refine h _ _ ⟨Reg.nm,?_⟩ | refine⟨Reg.nm,?_⟩
 try clear h
 have G:=a3.out.at U
 have aP:=G.b2.cell
 have aU:=G.b5.cell
 have b0:=G.load2 rfl
 have b7:=G.load5 rfl
 have aJ:=hide G
 have a9:=hide (a8.out.trans (U.mono a8.out.size))
 clear U G aO aT aZ b6
 refine Reg.aI 13 [14,15,16] [] rfl fun Qf h=>?_
 simp only [gT,gS,gZ]
 go_wp2_with (go_at_call 121; refine(Ce _ _ _).mono ?_; rintro e w' ⟨rfl,rfl⟩)
 first | refine h _ _ ⟨Reg.nm,?_⟩ | refine⟨Reg.nm,?_⟩
 try clear h
 obtain⟨wz,et,aa,W,aV⟩:=Ae wc #[.int .i64 (setE r.left (p.states.length:Int)),.int .i64 (setE r.right (p.states.length:Int)),.int .i64 (setE r.parent (p.states.length:Int)),.int .i64 (Ad m 1)] 36
 have aG:=hide (Ch (l:=[setE r.left (p.states.length:Int),setE r.right (p.states.length:Int),setE r.parent (p.states.length:Int),Ad m 1]) W (by simp))
 have V:=aa
 clear W aV aa
 have I:=aJ.out.at V
 have eo:=I.b2.cell
 have ep:=I.b5.cell
 have eq:=I.load2 rfl
 have er:=I.load5 rfl
 have en:=hide I
 have aK:=hide (a9.out.trans (V.mono a9.out.size))
 clear V I aP aU b0 b7
 refine Reg.wI [14] [15,16] rfl fun Qf h=>?_
 go_wp2_with fail
 first | refine h _ _ ⟨rfl,?_⟩ | refine⟨rfl,?_⟩ | refine h _ _ ⟨by simp [Reg.fineT,Reg.intOp,Region.wanted,yielded,Reg.intFine,Reg.isInt,Act.eval],?_⟩
 try clear h
 refine Reg.aI 15 [16] [] rfl fun Qf h=>?_
 simp only [gT,gS,gZ]
 go_wp2_with (go_at_call 120; refine(Ci (l:=[setE r.left (p.states.length:Int),setE r.right (p.states.length:Int),setE r.parent (p.states.length:Int),Ad m 1]) aG.out).mono ?_; rintro e w' ⟨rfl,rfl⟩)
 first | refine h _ _ ⟨Reg.nm,?_⟩ | refine⟨Reg.nm,?_⟩
 try clear h
 refine Reg.wI [16] [] rfl fun Qf h=>?_
 go_wp2_with fail
 first | refine h _ _ ⟨rfl,?_⟩ | refine⟨rfl,?_⟩ | refine h _ _ ⟨by simp [Reg.fineT,Reg.intOp,Region.wanted,yielded,Reg.intFine,Reg.isInt,Act.eval],?_⟩
 try clear h
 first | refine Reg.restI_end ?_ | skip
 refine hQ _ _ (by first | rfl | simp) aK.out
theorem KB {w z:World} {g2 g5:Nat} {p:Am} {r:Az} {A1 A2 A3 A4 A5 A6 A7:Option Addr} {c1 c2 c3 c4 c5 c6 c7:Nat} {E1 E2 E3 E4 E5 E6 E7 E8:Option Addr} {f1 f2 f3 f4 f5 f6 f7 f8:Nat} {U M:Int}
  (E:Cp z g2 g5 #[.string p.name,.int .i64 p.topo,.slice A1 p.states.length c1,.slice A2 p.messages.length c2,.slice A3 p.values.length c3,.int .i64 p.fault,.slice A4 p.res.length c4,.slice A5 p.initial.length c5,.slice A6 p.leader.length c6,.slice A7 p.rules.length c7] #[.string r.name,.int .i64 r.kind,.int .i64 r.fr,.int .i64 r.to,.int .i64 r.pf,.int .i64 r.pt,.slice E1 r.resp.length f1,.slice E2 r.guards.length f2,.slice E3 r.ex.length f3,.slice E4 r.fa.length f4,.int .i64 r.rd,.int .i64 r.wr,.slice E5 r.send.length f5,.int .i64 r.at_,.slice E6 r.left.length f6,.slice E7 r.right.length f7,.slice E8 r.parent.length f8,.int .i64 r.dir] p r) (hb:Below w.heap.size w z)
  {u0 u1 u3 u4 u7 u8 u9 bi bt bF bQ c8 cj cw cG cH cJ cK cL cM cO cQ cR cS cT cV cW cX cY cZ d0 d1 d2 d3 d4 d6 d7 d8 d9 da db dc de df dg dh di dj dk dl dm dn dp dq dr dt du dv dw u64 dx dy dz dA dB dD dE dF dG dH dI dJ dK dL dM dN dO dP dQ dR dS dT dU dV dW dY dZ e0 e1 e2 e3 e4 e5 e6 e7 aV aW aX aY aZ b0 b1 b3 b4 b6 b7 b8 b9 ba bb bd be bf bg bh bj bk bl bm bn bo bp bq br bs bu bv bw bx bz bA bB bC bD bE bG bH bI bJ bK bL bM bN bO bP bR bS bT bU bV bW bX bY bZ c0 c9 ca cb cc cd ce cf cg ch ci ck cm cn co cp cq cr ct cu cv cx cy cz cA cB cD cE cF:Value}
  {Q:Exit→Act→World→Prop} (hN:Reg.NoQ Q)
  (hQ:∀(tm:Array Value) (w':World),tm[4]?.getD undef=.int .i64 (Aj id [AD r.pf (p.states.length:Int),AD r.pt (p.states.length:Int),Ad (decide (r.dir<U)||decide (M<r.dir)) 1])→Below w.heap.size w w'→Q .normal ⟨tm,[]⟩ w'):
  (Eu Tryz.f170 24).wp Tryz.prog Q ⟨List.toArray (u0::u1::(.pointer (some ⟨g2,0,none⟩))::u3::u4::(.pointer (some ⟨g5,0,none⟩))::(.int .i64 (p.states.length:Int))::u7::u8::u9::(.int .i64 U)::(.int .i64 M)::bi::bt::bF::bQ::c8::cj::cw::cG::cH::cJ::cK::
   cL::cM::cO::cQ::cR::cS::cT::cV::cW::cX::cY::cZ::d0::d1::d2::d3::d4::d6::d7::d8::d9::da::db::dc::de::df::dg::dh::di::dj::dk::dl::dm::dn::dp::dq::dr::
   dt::du::dv::dw::u64::dx::dy::dz::dA::dB::dD::dE::dF::dG::dH::dI::dJ::dK::dL::dM::dN::dO::dP::dQ::dR::dS::dT::dU::dV::dW::dY::dZ::e0::e1::e2::e3::e4::
   e5::e6::e7::aV::aW::aX::aY::aZ::b0::b1::b3::b4::b6::b7::b8::b9::ba::bb::bd::be::bf::bg::bh::bj::bk::bl::bm::bn::bo::bp::bq::br::bs::
   bu::bv::bw::bx::bz::bA::bB::bC::bD::bE::bG::bH::bI::bJ::bK::bL::bM::bN::bO::bP::bR::bS::bT::bU::bV::bW::bX::bY::bZ::c0::c9::ca::cb::
   cc::cd::ce::cf::cg::ch::ci::ck::cm::cn::co::cp::cq::cr::ct::cu::cv::cx::cy::cz::cA::cB::cD::cE::cF::[]),[]⟩ z:=by
 conv=>arg 2; whnf
 have aF:=hide E
 have a6:=hide hb
 have aJ:=E.b2.cell
 have aL:=E.b5.cell
 have aN:=E.load2 rfl
 have aP:=E.load5 rfl
 clear E hb
 have G:=aF.out.at (Ap z)
 have a7:=G.b2.cell
 have a8:=G.b5.cell
 have a9:=G.load2 rfl
 have aa:=G.load5 rfl
 have a4:=hide G
 have O:=hide (a6.out.trans ((Ap z).mono a6.out.size))
 clear G aJ aL aN aP
 by_cases ha:r.dir<U
 ·
  refine Reg.region_cutI [0,1,0,7,0,16,0,127,0,256,0,1792,4095,8191,16383,8191,65535,131071,262143,524287,1048575,2097151] [0,1,2,4,5,6,8,9,10,11,3,7,12,13,14,15,16,17,18,19,20,21] (by kernel_rfl) hN ?_
  refine Reg.wI [0,1,2,4,5,6,8,9,10,11] [3,7,12,13,14,15,16,17,18,19,20,21] rfl fun Qf h=>?_
  go_wp2_with fail
  first | refine h _ _ ⟨rfl,?_⟩ | refine⟨rfl,?_⟩ | refine h _ _ ⟨by simp [Reg.fineT,Reg.intOp,Region.wanted,yielded,Reg.intFine,Reg.isInt,Act.eval],?_⟩
  try clear h
  refine Reg.aI 3 [7,12,13,14,15,16,17,18,19,20,21] [5,9] rfl fun Qf h=>?_
  simp only [gT,gS,gZ]
  go_wp2_with (go_at_call 173; refine(Cu _ _ _).mono ?_; rintro e w' ⟨rfl,rfl⟩)
  first | refine h _ _ ⟨Reg.same_below (Below.refl _ _) [5,9] rfl,?_⟩ | refine⟨Reg.same_below (Below.refl _ _) [5,9] rfl,?_⟩
  try clear h
  refine Reg.aI 7 [12,13,14,15,16,17,18,19,20,21] [9] rfl fun Qf h=>?_
  simp only [gT,gS,gZ]
  go_wp2_with (go_at_call 173; refine(Cu _ _ _).mono ?_; rintro e w' ⟨rfl,rfl⟩)
  first | refine h _ _ ⟨Reg.same_below (Below.refl _ _) [9] rfl,?_⟩ | refine⟨Reg.same_below (Below.refl _ _) [9] rfl,?_⟩
  try clear h
  refine Reg.wI [12,13,14,15,16,17] [18,19,20,21] rfl fun Qf h=>?_
  go_wp2_with fail
  first | refine h _ _ ⟨rfl,?_⟩ | refine⟨rfl,?_⟩ | refine h _ _ ⟨by simp [Reg.fineT,Reg.intOp,Region.wanted,yielded,Reg.intFine,Reg.isInt,Act.eval],?_⟩
  try clear h
  refine Reg.aI 18 [19,20,21] [] rfl fun Qf h=>?_
  simp only [gT,gS,gZ]
  go_wp2_with (go_at_call 121; refine(Ce _ _ _).mono ?_; rintro e w' ⟨rfl,rfl⟩)
  first | refine h _ _ ⟨Reg.nm,?_⟩ | refine⟨Reg.nm,?_⟩
  try clear h
  obtain⟨wz,aS,J,I,Z⟩:=Ae z.drew #[.int .i64 (AD r.pf (p.states.length:Int)),.int .i64 (AD r.pt (p.states.length:Int)),.int .i64 (Ad true 1)] 36
  have V:=hide (Ch (l:=[AD r.pf (p.states.length:Int),AD r.pt (p.states.length:Int),Ad true 1]) I (by simp))
  have C:Below z.drew.heap.size z.drew wz:=J
  clear I Z J
  have y:=a4.out.at C
  have aK:=y.b2.cell
  have aM:=y.b5.cell
  have aO:=y.load2 rfl
  have aQ:=y.load5 rfl
  have aG:=hide y
  have W:=hide (O.out.trans (C.mono O.out.size))
  clear C y a7 a8 a9 aa
  refine Reg.wI [19] [20,21] rfl fun Qf h=>?_
  go_wp2_with fail
  first | refine h _ _ ⟨rfl,?_⟩ | refine⟨rfl,?_⟩ | refine h _ _ ⟨by simp [Reg.fineT,Reg.intOp,Region.wanted,yielded,Reg.intFine,Reg.isInt,Act.eval],?_⟩
  try clear h
  refine Reg.aI 20 [21] [] rfl fun Qf h=>?_
  simp only [gT,gS,gZ]
  go_wp2_with (go_at_call 120; refine(Ci (l:=[AD r.pf (p.states.length:Int),AD r.pt (p.states.length:Int),Ad true 1]) V.out).mono ?_; rintro e w' ⟨rfl,rfl⟩)
  first | refine h _ _ ⟨Reg.nm,?_⟩ | refine⟨Reg.nm,?_⟩
  try clear h
  refine Reg.wI [21] [] rfl fun Qf h=>?_
  go_wp2_with fail
  first | refine h _ _ ⟨rfl,?_⟩ | refine⟨rfl,?_⟩ | refine h _ _ ⟨by simp [Reg.fineT,Reg.intOp,Region.wanted,yielded,Reg.intFine,Reg.isInt,Act.eval],?_⟩
  try clear h
  first | refine Reg.restI_end ?_ | skip
  refine hQ _ _ ?_ W.out
  simp [ha]
 ·
  refine Reg.region_cutI [0,1,0,7,0,16,0,127,0,256,0,1792,4095,8191,16383,8191,65535,131071,262143,524287,1048575,2097151] [0,1,2,4,5,6,8,9,10,11,3,7,12,13,14,15,16,17,18,19,20,21] (by kernel_rfl) hN ?_
  refine Reg.wI [0,1,2,4,5,6,8,9,10,11] [3,7,12,13,14,15,16,17,18,19,20,21] rfl fun Qf h=>?_
  go_wp2_with fail
  first | refine h _ _ ⟨rfl,?_⟩ | refine⟨rfl,?_⟩ | refine h _ _ ⟨by simp [Reg.fineT,Reg.intOp,Region.wanted,yielded,Reg.intFine,Reg.isInt,Act.eval],?_⟩
  try clear h
  refine Reg.aI 3 [7,12,13,14,15,16,17,18,19,20,21] [5,9] rfl fun Qf h=>?_
  simp only [gT,gS,gZ]
  go_wp2_with (go_at_call 173; refine(Cu _ _ _).mono ?_; rintro e w' ⟨rfl,rfl⟩)
  first | refine h _ _ ⟨Reg.same_below (Below.refl _ _) [5,9] rfl,?_⟩ | refine⟨Reg.same_below (Below.refl _ _) [5,9] rfl,?_⟩
  try clear h
  refine Reg.aI 7 [12,13,14,15,16,17,18,19,20,21] [9] rfl fun Qf h=>?_
  simp only [gT,gS,gZ]
  go_wp2_with (go_at_call 173; refine(Cu _ _ _).mono ?_; rintro e w' ⟨rfl,rfl⟩)
  first | refine h _ _ ⟨Reg.same_below (Below.refl _ _) [9] rfl,?_⟩ | refine⟨Reg.same_below (Below.refl _ _) [9] rfl,?_⟩
  try clear h
  refine Reg.wI [12,13,14,15,16,17] [18,19,20,21] rfl fun Qf h=>?_
  go_wp2_with fail
  first | refine h _ _ ⟨rfl,?_⟩ | refine⟨rfl,?_⟩ | refine h _ _ ⟨by simp [Reg.fineT,Reg.intOp,Region.wanted,yielded,Reg.intFine,Reg.isInt,Act.eval],?_⟩
  try clear h
  refine Reg.aI 18 [19,20,21] [] rfl fun Qf h=>?_
  simp only [gT,gS,gZ]
  go_wp2_with (go_at_call 121; refine(Ce _ _ _).mono ?_; rintro e w' ⟨rfl,rfl⟩)
  first | refine h _ _ ⟨Reg.nm,?_⟩ | refine⟨Reg.nm,?_⟩
  try clear h
  obtain⟨wz,aS,J,I,Z⟩:=Ae z.drew #[.int .i64 (AD r.pf (p.states.length:Int)),.int .i64 (AD r.pt (p.states.length:Int)),.int .i64 (Ad (decide (M<r.dir)) 1)] 36
  have V:=hide (Ch (l:=[AD r.pf (p.states.length:Int),AD r.pt (p.states.length:Int),Ad (decide (M<r.dir)) 1]) I (by simp))
  have C:Below z.drew.heap.size z.drew wz:=J
  clear I Z J
  have y:=a4.out.at C
  have aK:=y.b2.cell
  have aM:=y.b5.cell
  have aO:=y.load2 rfl
  have aQ:=y.load5 rfl
  have aG:=hide y
  have W:=hide (O.out.trans (C.mono O.out.size))
  clear C y a7 a8 a9 aa
  refine Reg.wI [19] [20,21] rfl fun Qf h=>?_
  go_wp2_with fail
  first | refine h _ _ ⟨rfl,?_⟩ | refine⟨rfl,?_⟩ | refine h _ _ ⟨by simp [Reg.fineT,Reg.intOp,Region.wanted,yielded,Reg.intFine,Reg.isInt,Act.eval],?_⟩
  try clear h
  refine Reg.aI 20 [21] [] rfl fun Qf h=>?_
  simp only [gT,gS,gZ]
  go_wp2_with (go_at_call 120; refine(Ci (l:=[AD r.pf (p.states.length:Int),AD r.pt (p.states.length:Int),Ad (decide (M<r.dir)) 1]) V.out).mono ?_; rintro e w' ⟨rfl,rfl⟩)
  first | refine h _ _ ⟨Reg.nm,?_⟩ | refine⟨Reg.nm,?_⟩
  try clear h
  refine Reg.wI [21] [] rfl fun Qf h=>?_
  go_wp2_with fail
  first | refine h _ _ ⟨rfl,?_⟩ | refine⟨rfl,?_⟩ | refine h _ _ ⟨by simp [Reg.fineT,Reg.intOp,Region.wanted,yielded,Reg.intFine,Reg.isInt,Act.eval],?_⟩
  try clear h
  first | refine Reg.restI_end ?_ | skip
  refine hQ _ _ ?_ W.out
  have hn:¬r.dir<U:=by omega
  rw [decide_eq_false hn,Bool.false_or]
  first | rfl | simp
end Go.Proofs.YtfcfpoemojjglaaGreatDoor.K
