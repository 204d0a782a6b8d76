/-
  Part CF of a proof.
-/
import Derived.Test.YtlakpndhhelliaaGreatDoorPA
import Derived.Test.YtlakpndhhelliaaGreatDoorCE
set_option maxHeartbeats 16000000
set_option maxRecDepth 100000
set_option linter.unusedVariables false
set_option linter.unusedSimpArgs false
namespace Go.Proofs.YtlakpndhhelliaaGreatDoor.K
open Go.RowKit
attribute [-go_sem] loadCellsFrom storeCells
def Cz:Code→List Code
 | .region i o d=>[.region i o d]
 | .seq a b=>Cz a++Cz b
 | .loop a=>Cz a
 | .scope a=>Cz a
 | .block _ a=>Cz a
 | .cond _ a b=>Cz a++Cz b
 | _=>[]
def D0 (f:Func) (k:Nat):Code:=match f.body with
 | some c=>(Cz c).getD k .skip
 | none=>.skip
theorem Ka {w h:World} {g2 g5:Nat} {p:Ao} {r:As} {F G I J M O U:Option Addr} {V c2 W Z c5 c6 c7:Nat} {E1 E2 E3 E4 E5 E6 E7 E8:Option Addr} {f1 f2 f3 f4 f5 f6 f7 f8:Nat}
  (y:BM h g2 g5 #[.string p.name,.int .i64 p.topo,.slice F p.states.length V,.slice G p.messages.length c2,.slice I p.values.length W,.int .i64 p.fault,.slice J p.res.length Z,.slice M p.initial.length c5,.slice O p.leader.length c6,.slice U p.rules.length c7] #[.string r.name,.int .i64 r.kind,.int .i64 r.fr,.int .i64 r.to,.int .i64 r.pf,.int .i64 r.pt,.slice E1 r.resp.length f1,.slice E2 r.guards.length f2,.slice E3 r.ex.length f3,.slice E4 r.fa.length f4,.int .i64 r.rd,.int .i64 r.wr,.slice E5 r.send.length f5,.int .i64 r.at_,.slice E6 r.left.length f6,.slice E7 r.right.length f7,.slice E8 r.parent.length f8,.int .i64 r.dir] p r) (hb:Below w.heap.size w h)
  {u0 u1 u3 u4 u7 u8 u9 au av aw ax ay az aA aB aC aD aE aF aG aH aJ aK aL aM aN aO aP aQ aR aS aT aU aV aW aX aY aZ b0 b1 b3 b4 b6 b7 dz dA dB dC dD dE dF dG dH dI b8 b9 ba bb bc bd be u64 bf bg bh bi bj bk bl bm bn bo bp bq br bs bt bu bv bw bx bz bA bB bC bD bE bF bG bH bI bJ bK bL bM bN bO bP bQ bR bS bT bU bV bW bX bY bZ c0 c8 c9 ca cb cc cd ce cf cg ch ci cj ck cm cn co cp cq cr ct cu cv cw cx cy cz cA cB cD cE cF cG cH cJ cK cL cM cO cQ cR cS cT cU cV cW cX cY cZ d0 d1 d2 d3 d4 d5 d6 d7 d8 d9 da db dc de df dg dh di dj dk dl dm dn dp dq dr dt du:Value}
  {Q:Exit→Act→World→Prop} (hN:Reg.NoQ Q)
  (hQ:∀(dK dL dM dN dO dP dQ dR dS dT:Value) (w':World),BM w' g2 g5 #[.string p.name,.int .i64 p.topo,.slice F p.states.length V,.slice G p.messages.length c2,.slice I p.values.length W,.int .i64 p.fault,.slice J p.res.length Z,.slice M p.initial.length c5,.slice O p.leader.length c6,.slice U p.rules.length c7] #[.string r.name,.int .i64 r.kind,.int .i64 r.fr,.int .i64 r.to,.int .i64 r.pf,.int .i64 r.pt,.slice E1 r.resp.length f1,.slice E2 r.guards.length f2,.slice E3 r.ex.length f3,.slice E4 r.fa.length f4,.int .i64 r.rd,.int .i64 r.wr,.slice E5 r.send.length f5,.int .i64 r.at_,.slice E6 r.left.length f6,.slice E7 r.right.length f7,.slice E8 r.parent.length f8,.int .i64 r.dir] p r→Below w.heap.size w w'→Q .normal ⟨List.toArray (u0::u1::(.pointer (some ⟨g2,0,none⟩))::u3::u4::(.pointer (some ⟨g5,0,none⟩))::(.int .i64 (p.states.length:Int))::u7::(.int .i64 (Ah id [Aw r.fr (p.states.length:Int),Aw r.to (p.states.length:Int)]))::u9::au::av::aw::
   ax::ay::az::aA::aB::aC::aD::aE::aF::aG::aH::aJ::aK::aL::aM::aN::aO::aP::aQ::aR::aS::aT::aU::aV::aW::aX::aY::aZ::b0::b1::b3::b4::b6::b7::dK::dL::dM::
   dN::dO::dP::dQ::dR::dS::dT::b8::b9::ba::bb::bc::bd::be::u64::bf::bg::bh::bi::bj::bk::bl::bm::bn::bo::bp::bq::br::bs::bt::bu::bv::bw::bx::bz::bA::bB::
   bC::bD::bE::bF::bG::bH::bI::bJ::bK::bL::bM::bN::bO::bP::bQ::bR::bS::bT::bU::bV::bW::bX::bY::bZ::c0::c8::c9::ca::cb::cc::cd::ce::cf::cg::
   ch::ci::cj::ck::cm::cn::co::cp::cq::cr::ct::cu::cv::cw::cx::cy::cz::cA::cB::cD::cE::cF::cG::cH::cJ::cK::cL::cM::cO::cQ::cR::cS::cT::
   cU::cV::cW::cX::cY::cZ::d0::d1::d2::d3::d4::d5::d6::d7::d8::d9::da::db::dc::de::df::dg::dh::di::dj::dk::dl::dm::dn::dp::dq::dr::dt::
   du::[]),[]⟩ w'):
  (D0 Tryz.f48 8).wp Tryz.prog Q ⟨List.toArray (u0::u1::(.pointer (some ⟨g2,0,none⟩))::u3::u4::(.pointer (some ⟨g5,0,none⟩))::(.int .i64 (p.states.length:Int))::u7::u8::u9::au::av::aw::ax::ay::az::aA::aB::aC::aD::aE::aF::aG::aH::aJ::aK::
   aL::aM::aN::aO::aP::aQ::aR::aS::aT::aU::aV::aW::aX::aY::aZ::b0::b1::b3::b4::b6::b7::dz::dA::dB::dC::dD::dE::dF::dG::dH::dI::b8::b9::ba::bb::bc::bd::
   be::u64::bf::bg::bh::bi::bj::bk::bl::bm::bn::bo::bp::bq::br::bs::bt::bu::bv::bw::bx::bz::bA::bB::bC::bD::bE::bF::bG::bH::bI::bJ::bK::bL::bM::bN::bO::
   bP::bQ::bR::bS::bT::bU::bV::bW::bX::bY::bZ::c0::c8::c9::ca::cb::cc::cd::ce::cf::cg::ch::ci::cj::ck::cm::cn::co::cp::cq::cr::ct::cu::
   cv::cw::cx::cy::cz::cA::cB::cD::cE::cF::cG::cH::cJ::cK::cL::cM::cO::cQ::cR::cS::cT::cU::cV::cW::cX::cY::cZ::d0::d1::d2::d3::d4::d5::
   d6::d7::d8::d9::da::db::dc::de::df::dg::dh::di::dj::dk::dl::dm::dn::dp::dq::dr::dt::du::[]),[]⟩ h:=by
 conv=>arg 2; whnf
 have dU:=hide y
 have dv:=hide hb
 have dV:=y.b2.cell
 have dW:=y.b5.cell
 have dX:=y.load2 rfl
 have dY:=y.load5 rfl
 clear y hb
 have z:=dU.out.at (Ap h)
 have dZ:=z.b2.cell
 have e0:=z.b5.cell
 have e1:=z.load2 rfl
 have e2:=z.load5 rfl
 have e3:=hide z
 have dw:=hide (dv.out.trans ((Ap h).mono dv.out.size))
 clear z dV dW dX dY
 refine Reg.region_cutI [0,1,0,7,0,16,0,127,255,511,1023] [0,1,2,4,5,6,3,7,8,9,10] (by kernel_rfl) hN ?_
 refine Reg.wI [0,1,2,4,5,6] [3,7,8,9,10] rfl fun Qf f=>?_
 go_wp2_with fail
 first | refine f _ _ ⟨rfl,?_⟩ | refine⟨rfl,?_⟩ | refine f _ _ ⟨by simp [Reg.fineT,Reg.intOp,Region.wanted,yielded,Reg.intFine,Reg.isInt,Act.eval],?_⟩
 try clear f
 refine Reg.aI 3 [7,8,9,10] [5] rfl fun Qf f=>?_
 simp only [gT,gS,gZ]
 go_wp2_with (go_at_call 52; refine(Cl _ _ _).mono ?_; rintro e w' ⟨rfl,rfl⟩)
 first | refine f _ _ ⟨Reg.same_below (Below.refl _ _) [5] rfl,?_⟩ | refine⟨Reg.same_below (Below.refl _ _) [5] rfl,?_⟩
 try clear f
 refine Reg.aI 7 [8,9,10] [] rfl fun Qf f=>?_
 simp only [gT,gS,gZ]
 go_wp2_with (go_at_call 52; refine(Cl _ _ _).mono ?_; rintro e w' ⟨rfl,rfl⟩)
 first | refine f _ _ ⟨Reg.nm,?_⟩ | refine⟨Reg.nm,?_⟩
 try clear f
 obtain⟨wz,e9,dx,dy,e5⟩:=Ag h.drew #[.int .i64 (Aw r.fr (p.states.length:Int)),.int .i64 (Aw r.to (p.states.length:Int))] 33
 have e6:=hide (B0 (l:=[Aw r.fr (p.states.length:Int),Aw r.to (p.states.length:Int)]) dy (by simp))
 have E:Below h.drew.heap.size h.drew wz:=dx
 clear dy e5 dx
 have C:=e3.out.at E
 have ea:=C.b2.cell
 have eb:=C.b5.cell
 have ec:=C.load2 rfl
 have ed:=C.load5 rfl
 have e7:=hide C
 have e8:=hide (dw.out.trans (E.mono dw.out.size))
 clear E C dZ e0 e1 e2
 refine Reg.wI [8] [9,10] rfl fun Qf f=>?_
 go_wp2_with fail
 first | refine f _ _ ⟨rfl,?_⟩ | refine⟨rfl,?_⟩ | refine f _ _ ⟨by simp [Reg.fineT,Reg.intOp,Region.wanted,yielded,Reg.intFine,Reg.isInt,Act.eval],?_⟩
 try clear f
 refine Reg.aI 9 [10] [] rfl fun Qf f=>?_
 simp only [gT,gS,gZ]
 go_wp2_with (go_at_call 26; refine(B7 (l:=[Aw r.fr (p.states.length:Int),Aw r.to (p.states.length:Int)]) e6.out).mono ?_; rintro e w' ⟨rfl,rfl⟩)
 first | refine f _ _ ⟨Reg.nm,?_⟩ | refine⟨Reg.nm,?_⟩
 try clear f
 refine Reg.wI [10] [] rfl fun Qf f=>?_
 go_wp2_with fail
 first | refine f _ _ ⟨rfl,?_⟩ | refine⟨rfl,?_⟩ | refine f _ _ ⟨by simp [Reg.fineT,Reg.intOp,Region.wanted,yielded,Reg.intFine,Reg.isInt,Act.eval],?_⟩
 try clear f
 first | refine Reg.restI_end ?_ | skip
 refine hQ _ _ _ _ _ _ _ _ _ _ _ e7.out e8.out
theorem L8 {w M:World} {g2 g5:Nat} {p:Ao} {r:As} {A1 A2 A3 A4 A5 A6 A7:Option Addr} {c1 c2 c3 c4 c5 c6 c7:Nat} {E1 E2 E3 E4 E5 E6 E7 E8:Option Addr} {f1 f2 f3 f4 f5 f6 f7 f8:Nat}
  (h:BM M g2 g5 #[.string p.name,.int .i64 p.topo,.slice A1 p.states.length c1,.slice A2 p.messages.length c2,.slice A3 p.values.length c3,.int .i64 p.fault,.slice A4 p.res.length c4,.slice A5 p.initial.length c5,.slice A6 p.leader.length c6,.slice A7 p.rules.length c7] #[.string r.name,.int .i64 r.kind,.int .i64 r.fr,.int .i64 r.to,.int .i64 r.pf,.int .i64 r.pt,.slice E1 r.resp.length f1,.slice E2 r.guards.length f2,.slice E3 r.ex.length f3,.slice E4 r.fa.length f4,.int .i64 r.rd,.int .i64 r.wr,.slice E5 r.send.length f5,.int .i64 r.at_,.slice E6 r.left.length f6,.slice E7 r.right.length f7,.slice E8 r.parent.length f8,.int .i64 r.dir] p r) (hb:Below w.heap.size w M)
  {u0 u1 u3 u4 u7 u8 u9 aY aZ b0 b1 b3 b4 b6 b7 b8 b9 ba bb bc bd be bf bg bh bi bj bk bl bm bn bo bp bq br bs bt bu bv bw bx bz bA bB bC bD bE bF bG bH bI bJ bK bL bM bN bO bP bQ bR bS u64 bT bU bV bW bX bY bZ c0 c8 c9 ca cb cc cd ce cf cg ch ci cj ck cm cn co cp cq cr ct cu cv cw cx cy cz cA cB cD cE cF cG cH cJ cK cL cM cO cQ cR cS cT cU cV cW cX cY cZ d0 d1 d2 d3 d4 d5 d6 d7 d8 d9 da db dc de df dg dh di dj dk dl dm dn dp dq dr dt du dv dw dx dy dz dA dB dC dD dE dF dG dH dI dJ dK dL dM dN dO dP dQ dR dS dT dU dV dW dX dY dZ e0 e1 e2 e3 e4 e5 e6 e7:Value}
  {Q:Exit→Act→World→Prop} (hN:Reg.NoQ Q)
  (hQ:∀(tm:Array Value) (w':World),tm[4]?.getD undef=.int .i64 (Ah id [Db (p.messages.length:Int) r.guards,Aa r.ex (p.states.length:Int),Aa r.fa (p.states.length:Int),Bi r.rd (p.values.length:Int),Bi r.wr (p.values.length:Int),Aa r.send (p.messages.length:Int)])→Below w.heap.size w w'→Q .normal ⟨tm,[]⟩ w'):
  (D0 Tryz.f48 13).wp Tryz.prog Q ⟨List.toArray (u0::u1::(.pointer (some ⟨g2,0,none⟩))::u3::u4::(.pointer (some ⟨g5,0,none⟩))::(.int .i64 (p.states.length:Int))::u7::u8::u9::aY::aZ::b0::b1::b3::b4::b6::b7::b8::b9::ba::bb::bc::bd::be::bf::
   bg::bh::bi::bj::bk::bl::bm::bn::bo::bp::bq::br::bs::bt::bu::bv::bw::bx::bz::bA::bB::bC::bD::bE::bF::bG::bH::bI::bJ::bK::bL::bM::bN::bO::bP::bQ::bR::
   bS::u64::bT::bU::bV::bW::bX::bY::bZ::c0::c8::c9::ca::cb::cc::cd::ce::cf::cg::ch::ci::cj::ck::cm::cn::co::cp::cq::cr::ct::cu::cv::cw::cx::cy::cz::cA::
   cB::cD::cE::cF::cG::cH::cJ::cK::cL::cM::cO::cQ::cR::cS::cT::cU::cV::cW::cX::cY::cZ::d0::d1::d2::d3::d4::d5::d6::d7::d8::d9::da::db::
   dc::de::df::dg::dh::di::dj::dk::dl::dm::dn::dp::dq::dr::dt::du::dv::dw::dx::dy::dz::dA::dB::dC::dD::dE::dF::dG::dH::dI::dJ::dK::dL::
   dM::dN::dO::dP::dQ::dR::dS::dT::dU::dV::dW::dX::dY::dZ::e0::e1::e2::e3::e4::e5::e6::e7::[]),[]⟩ M:=by
 conv=>arg 2; whnf
 have e9:=hide h
 have a7:=hide hb
 have ea:=h.b2.cell
 have eb:=h.b5.cell
 have ec:=h.load2 rfl
 have ed:=h.load5 rfl
 clear h hb
 have y:=e9.out.at (Ap M)
 have ee:=y.b2.cell
 have ef:=y.b5.cell
 have eg:=y.load2 rfl
 have eh:=y.load5 rfl
 have a2:=hide y
 have a8:=hide (a7.out.trans ((Ap M).mono a7.out.size))
 clear y ea eb ec ed
 refine Reg.region_cutI [0,0,2,7,0,16,0,127,0,256,0,2047,0,0,8192,32767,0,0,131072,524287,0,1048576,0,4194304,12582912,33554431,67108863,134217727,268435455] [0,1,2,4,5,6,8,9,10,12,13,14,16,17,18,20,21,22,23,24,3,7,11,15,19,25,26,27,28] (by kernel_rfl) hN ?_
 refine Reg.wI [0,1,2,4,5,6,8,9,10,12,13,14,16,17,18,20,21,22,23,24] [3,7,11,15,19,25,26,27,28] rfl fun Qf f=>?_
 go_wp2_with fail
 first | refine f _ _ ⟨rfl,?_⟩ | refine⟨rfl,?_⟩ | refine f _ _ ⟨by simp [Reg.fineT,Reg.intOp,Region.wanted,yielded,Reg.intFine,Reg.isInt,Act.eval],?_⟩
 try clear f
 refine Reg.aI 3 [7,11,15,19,25,26,27,28] [5,9,12,14,16,18,21,23] rfl fun Qf f=>?_
 simp only [gT,gS,gZ]
 go_wp2_with (go_at_call 76; refine Calls.ret (NT a2.out.pr (D4 a2.out.ru).2.1) ?_; rintro v w7 ⟨rfl,O⟩)
 first | refine f _ _ ⟨Reg.same_below (O) [5,9,12,14,16,18,21,23] rfl,?_⟩ | refine⟨Reg.same_below (O) [5,9,12,14,16,18,21,23] rfl,?_⟩
 try clear f
 have z:=a2.out.at O
 have ei:=z.b2.cell
 have ej:=z.b5.cell
 have ek:=z.load2 rfl
 have el:=z.load5 rfl
 have a9:=hide z
 have aa:=hide (a8.out.trans (O.mono a8.out.size))
 clear O z ee ef eg eh
 refine Reg.aI 7 [11,15,19,25,26,27,28] [9,12,14,16,18,21,23] rfl fun Qf f=>?_
 simp only [gT,gS,gZ]
 go_wp2_with (go_at_call 24; refine Calls.ret (Bw (D4 a9.out.ru).2.2.1) ?_; rintro v w8 ⟨rfl,U⟩)
 first | refine f _ _ ⟨Reg.same_below (U) [9,12,14,16,18,21,23] rfl,?_⟩ | refine⟨Reg.same_below (U) [9,12,14,16,18,21,23] rfl,?_⟩
 try clear f
 have C:=a9.out.at U
 have em:=C.b2.cell
 have en:=C.b5.cell
 have eo:=C.load2 rfl
 have ep:=C.load5 rfl
 have ab:=hide C
 have ad:=hide (aa.out.trans (U.mono aa.out.size))
 clear U C ei ej ek el
 refine Reg.aI 11 [15,19,25,26,27,28] [12,14,16,18,21,23] rfl fun Qf f=>?_
 simp only [gT,gS,gZ]
 go_wp2_with (go_at_call 24; refine Calls.ret (Bw (D4 ab.out.ru).2.2.2.1) ?_; rintro v w9 ⟨rfl,V⟩)
 first | refine f _ _ ⟨Reg.same_below (V) [12,14,16,18,21,23] rfl,?_⟩ | refine⟨Reg.same_below (V) [12,14,16,18,21,23] rfl,?_⟩
 try clear f
 have E:=ab.out.at V
 have eq:=E.b2.cell
 have er:=E.b5.cell
 have et:=E.load2 rfl
 have eu:=E.load5 rfl
 have ae:=hide E
 have af:=hide (ad.out.trans (V.mono ad.out.size))
 clear V E em en eo ep
 refine Reg.aI 15 [19,25,26,27,28] [16,18,21,23] rfl fun Qf f=>?_
 simp only [gT,gS,gZ]
 go_wp2_with (go_at_call 77; refine Calls.ret (EA ae.out.pr) ?_; rintro v wa ⟨rfl,W⟩)
 first | refine f _ _ ⟨Reg.same_below (W) [16,18,21,23] rfl,?_⟩ | refine⟨Reg.same_below (W) [16,18,21,23] rfl,?_⟩
 try clear f
 have F:=ae.out.at W
 have ev:=F.b2.cell
 have ew:=F.b5.cell
 have ey:=F.load2 rfl
 have ez:=F.load5 rfl
 have ag:=hide F
 have ah:=hide (af.out.trans (W.mono af.out.size))
 clear W F eq er et eu
 refine Reg.aI 19 [25,26,27,28] [21,23] rfl fun Qf f=>?_
 simp only [gT,gS,gZ]
 go_wp2_with (go_at_call 77; refine Calls.ret (EA ag.out.pr) ?_; rintro v wb ⟨rfl,Z⟩)
 first | refine f _ _ ⟨Reg.same_below (Z) [21,23] rfl,?_⟩ | refine⟨Reg.same_below (Z) [21,23] rfl,?_⟩
 try clear f
 have G:=ag.out.at Z
 have eA:=G.b2.cell
 have eB:=G.b5.cell
 have eD:=G.load2 rfl
 have eE:=G.load5 rfl
 have ai:=hide G
 have aj:=hide (ah.out.trans (Z.mono ah.out.size))
 clear Z G ev ew ey ez
 refine Reg.aI 25 [26,27,28] [] rfl fun Qf f=>?_
 simp only [gT,gS,gZ]
 go_wp2_with (go_at_call 24; refine Calls.ret (Bw (D4 ai.out.ru).2.2.2.2.1) ?_; rintro v wc ⟨rfl,a3⟩)
 first | refine f _ _ ⟨Reg.nm,?_⟩ | refine⟨Reg.nm,?_⟩
 try clear f
 have I:=ai.out.at a3
 have eG:=I.b2.cell
 have eH:=I.b5.cell
 have eI:=I.load2 rfl
 have eJ:=I.load5 rfl
 have eK:=hide I
 have ak:=hide (aj.out.trans (a3.mono aj.out.size))
 clear a3 I eA eB eD eE
 obtain⟨wz,eU,al,am,eL⟩:=Ag wc #[.int .i64 (Db (p.messages.length:Int) r.guards),.int .i64 (Aa r.ex (p.states.length:Int)),.int .i64 (Aa r.fa (p.states.length:Int)),.int .i64 (Bi r.rd (p.values.length:Int)),.int .i64 (Bi r.wr (p.values.length:Int)),.int .i64 (Aa r.send (p.messages.length:Int))] 33
 have eM:=hide (B0 (l:=[Db (p.messages.length:Int) r.guards,Aa r.ex (p.states.length:Int),Aa r.fa (p.states.length:Int),Bi r.rd (p.values.length:Int),Bi r.wr (p.values.length:Int),Aa r.send (p.messages.length:Int)]) am (by simp))
 have a4:=al
 clear am eL al
 have J:=eK.out.at a4
 have eV:=J.b2.cell
 have eW:=J.b5.cell
 have eX:=J.load2 rfl
 have eY:=J.load5 rfl
 have eZ:=hide J
 have eN:=hide (ak.out.trans (a4.mono ak.out.size))
 clear a4 J eG eH eI eJ
 refine Reg.wI [26] [27,28] rfl fun Qf f=>?_
 go_wp2_with fail
 first | refine f _ _ ⟨rfl,?_⟩ | refine⟨rfl,?_⟩ | refine f _ _ ⟨by simp [Reg.fineT,Reg.intOp,Region.wanted,yielded,Reg.intFine,Reg.isInt,Act.eval],?_⟩
 try clear f
 refine Reg.aI 27 [28] [] rfl fun Qf f=>?_
 simp only [gT,gS,gZ]
 go_wp2_with (go_at_call 26; refine(B7 (l:=[Db (p.messages.length:Int) r.guards,Aa r.ex (p.states.length:Int),Aa r.fa (p.states.length:Int),Bi r.rd (p.values.length:Int),Bi r.wr (p.values.length:Int),Aa r.send (p.messages.length:Int)]) eM.out).mono ?_; rintro e w' ⟨rfl,rfl⟩)
 first | refine f _ _ ⟨Reg.nm,?_⟩ | refine⟨Reg.nm,?_⟩
 try clear f
 refine Reg.wI [28] [] rfl fun Qf f=>?_
 go_wp2_with fail
 first | refine f _ _ ⟨rfl,?_⟩ | refine⟨rfl,?_⟩ | refine f _ _ ⟨by simp [Reg.fineT,Reg.intOp,Region.wanted,yielded,Reg.intFine,Reg.isInt,Act.eval],?_⟩
 try clear f
 first | refine Reg.restI_end ?_ | skip
 refine hQ _ _ (by first | rfl | simp) eN.out
theorem Qt {w F:World} {g2 g5:Nat} {p:Ao} {r:As} {A1 A2 A3 A4 A5 A6 A7:Option Addr} {c1 c2 c3 c4 c5 c6 c7:Nat} {E1 E2 E3 E4 E5 E6 E7 E8:Option Addr} {f1 f2 f3 f4 f5 f6 f7 f8:Nat}
  (h:BM F g2 g5 #[.string p.name,.int .i64 p.topo,.slice A1 p.states.length c1,.slice A2 p.messages.length c2,.slice A3 p.values.length c3,.int .i64 p.fault,.slice A4 p.res.length c4,.slice A5 p.initial.length c5,.slice A6 p.leader.length c6,.slice A7 p.rules.length c7] #[.string r.name,.int .i64 r.kind,.int .i64 r.fr,.int .i64 r.to,.int .i64 r.pf,.int .i64 r.pt,.slice E1 r.resp.length f1,.slice E2 r.guards.length f2,.slice E3 r.ex.length f3,.slice E4 r.fa.length f4,.int .i64 r.rd,.int .i64 r.wr,.slice E5 r.send.length f5,.int .i64 r.at_,.slice E6 r.left.length f6,.slice E7 r.right.length f7,.slice E8 r.parent.length f8,.int .i64 r.dir] p r) (M:Below w.heap.size w F)
  {u0 u1 u3 u4 u7 u8 u9 aH aJ aK aL aM aN aO aP aQ aR aS aT aU aV aW aX aY aZ b0 b1 b3 b4 b6 b7 b8 b9 ba bb bc bd be bf bg bh bi bj bk bl bm bn bo bp bq br bs bt bu bv bw bx bz bA bB bC u64 bD bE bF bG bH bI bJ bK bL bM bN bO bP bQ bR bS bT bU bV bW bX bY bZ c0 c8 c9 ca cb cc cd ce cf cg ch ci cj ck cm cn co cp cq cr ct cu cv cw cx cy cz cA cB cD cE cF cG cH cJ cK cL cM cO cQ cR cS cT cU cV cW cX cY cZ d0 d1 d2 d3 d4 d5 d6 d7 d8 d9 da db dc de df dg dh di dj dk dl dm dn dp dq dr dt du dv dw dx dy dz dA dB dC dD dE dF dG dH dI dJ dK dL dM dN dO dP dQ dR:Value}
  {Q:Exit→Act→World→Prop} (hN:Reg.NoQ Q)
  (hQ:∀(O:Array Value) (w':World),O[4]?.getD undef=.int .i64 (Ah id [Aw r.pf (p.states.length:Int),Aw r.pt (p.states.length:Int),Bi r.rd (p.values.length:Int),Bi r.wr (p.values.length:Int)])→Below w.heap.size w w'→Q .normal ⟨O,[]⟩ w'):
  (D0 Tryz.f48 15).wp Tryz.prog Q ⟨List.toArray (u0::u1::(.pointer (some ⟨g2,0,none⟩))::u3::u4::(.pointer (some ⟨g5,0,none⟩))::(.int .i64 (p.states.length:Int))::u7::u8::u9::aH::aJ::aK::aL::aM::aN::aO::aP::aQ::aR::aS::aT::aU::aV::aW::aX::
   aY::aZ::b0::b1::b3::b4::b6::b7::b8::b9::ba::bb::bc::bd::be::bf::bg::bh::bi::bj::bk::bl::bm::bn::bo::bp::bq::br::bs::bt::bu::bv::bw::bx::bz::bA::bB::
   bC::u64::bD::bE::bF::bG::bH::bI::bJ::bK::bL::bM::bN::bO::bP::bQ::bR::bS::bT::bU::bV::bW::bX::bY::bZ::c0::c8::c9::ca::cb::cc::cd::ce::cf::cg::ch::ci::
   cj::ck::cm::cn::co::cp::cq::cr::ct::cu::cv::cw::cx::cy::cz::cA::cB::cD::cE::cF::cG::cH::cJ::cK::cL::cM::cO::cQ::cR::cS::cT::cU::cV::
   cW::cX::cY::cZ::d0::d1::d2::d3::d4::d5::d6::d7::d8::d9::da::db::dc::de::df::dg::dh::di::dj::dk::dl::dm::dn::dp::dq::dr::dt::du::dv::
   dw::dx::dy::dz::dA::dB::dC::dD::dE::dF::dG::dH::dI::dJ::dK::dL::dM::dN::dO::dP::dQ::dR::[]),[]⟩ F:=by
 conv=>arg 2; whnf
 have dT:=hide h
 have U:=hide M
 have dU:=h.b2.cell
 have dV:=h.b5.cell
 have dW:=h.load2 rfl
 have dX:=h.load5 rfl
 clear h M
 have y:=dT.out.at (Ap F)
 have dY:=y.b2.cell
 have dZ:=y.b5.cell
 have e0:=y.load2 rfl
 have e1:=y.load5 rfl
 have V:=hide y
 have W:=hide (U.out.trans ((Ap F).mono U.out.size))
 clear y dU dV dW dX
 refine Reg.region_cutI [0,1,0,7,0,16,0,127,0,0,512,2047,0,0,8192,32767,65535,131071,262143] [0,1,2,4,5,6,8,9,10,12,13,14,3,7,11,15,16,17,18] (by kernel_rfl) hN ?_
 refine Reg.wI [0,1,2,4,5,6,8,9,10,12,13,14] [3,7,11,15,16,17,18] rfl fun Qf f=>?_
 go_wp2_with fail
 first | refine f _ _ ⟨rfl,?_⟩ | refine⟨rfl,?_⟩ | refine f _ _ ⟨by simp [Reg.fineT,Reg.intOp,Region.wanted,yielded,Reg.intFine,Reg.isInt,Act.eval],?_⟩
 try clear f
 refine Reg.aI 3 [7,11,15,16,17,18] [5,8,10,12,14] rfl fun Qf f=>?_
 simp only [gT,gS,gZ]
 go_wp2_with (go_at_call 52; refine(Cl _ _ _).mono ?_; rintro e w' ⟨rfl,rfl⟩)
 first | refine f _ _ ⟨Reg.same_below (Below.refl _ _) [5,8,10,12,14] rfl,?_⟩ | refine⟨Reg.same_below (Below.refl _ _) [5,8,10,12,14] rfl,?_⟩
 try clear f
 refine Reg.aI 7 [11,15,16,17,18] [8,10,12,14] rfl fun Qf f=>?_
 simp only [gT,gS,gZ]
 go_wp2_with (go_at_call 52; refine(Cl _ _ _).mono ?_; rintro e w' ⟨rfl,rfl⟩)
 first | refine f _ _ ⟨Reg.same_below (Below.refl _ _) [8,10,12,14] rfl,?_⟩ | refine⟨Reg.same_below (Below.refl _ _) [8,10,12,14] rfl,?_⟩
 try clear f
 refine Reg.aI 11 [15,16,17,18] [12,14] rfl fun Qf f=>?_
 simp only [gT,gS,gZ]
 go_wp2_with (go_at_call 77; refine Calls.ret (EA V.out.pr) ?_; rintro v wa ⟨rfl,G⟩)
 first | refine f _ _ ⟨Reg.same_below (G) [12,14] rfl,?_⟩ | refine⟨Reg.same_below (G) [12,14] rfl,?_⟩
 try clear f
 have z:=V.out.at G
 have e2:=z.b2.cell
 have e3:=z.b5.cell
 have e4:=z.load2 rfl
 have e5:=z.load5 rfl
 have Z:=hide z
 have a2:=hide (W.out.trans (G.mono W.out.size))
 clear G z dY dZ e0 e1
 refine Reg.aI 15 [16,17,18] [] rfl fun Qf f=>?_
 simp only [gT,gS,gZ]
 go_wp2_with (go_at_call 77; refine Calls.ret (EA Z.out.pr) ?_; rintro v wb ⟨rfl,I⟩)
 first | refine f _ _ ⟨Reg.nm,?_⟩ | refine⟨Reg.nm,?_⟩
 try clear f
 have C:=Z.out.at I
 have e7:=C.b2.cell
 have e8:=C.b5.cell
 have e9:=C.load2 rfl
 have ea:=C.load5 rfl
 have eb:=hide C
 have a3:=hide (a2.out.trans (I.mono a2.out.size))
 clear I C e2 e3 e4 e5
 obtain⟨wz,eh,a4,a5,ec⟩:=Ag wb #[.int .i64 (Aw r.pf (p.states.length:Int)),.int .i64 (Aw r.pt (p.states.length:Int)),.int .i64 (Bi r.rd (p.values.length:Int)),.int .i64 (Bi r.wr (p.values.length:Int))] 33
 have ed:=hide (B0 (l:=[Aw r.pf (p.states.length:Int),Aw r.pt (p.states.length:Int),Bi r.rd (p.values.length:Int),Bi r.wr (p.values.length:Int)]) a5 (by simp))
 have J:=a4
 clear a5 ec a4
 have E:=eb.out.at J
 have ei:=E.b2.cell
 have ej:=E.b5.cell
 have ek:=E.load2 rfl
 have el:=E.load5 rfl
 have em:=hide E
 have ee:=hide (a3.out.trans (J.mono a3.out.size))
 clear J E e7 e8 e9 ea
 refine Reg.wI [16] [17,18] rfl fun Qf f=>?_
 go_wp2_with fail
 first | refine f _ _ ⟨rfl,?_⟩ | refine⟨rfl,?_⟩ | refine f _ _ ⟨by simp [Reg.fineT,Reg.intOp,Region.wanted,yielded,Reg.intFine,Reg.isInt,Act.eval],?_⟩
 try clear f
 refine Reg.aI 17 [18] [] rfl fun Qf f=>?_
 simp only [gT,gS,gZ]
 go_wp2_with (go_at_call 26; refine(B7 (l:=[Aw r.pf (p.states.length:Int),Aw r.pt (p.states.length:Int),Bi r.rd (p.values.length:Int),Bi r.wr (p.values.length:Int)]) ed.out).mono ?_; rintro e w' ⟨rfl,rfl⟩)
 first | refine f _ _ ⟨Reg.nm,?_⟩ | refine⟨Reg.nm,?_⟩
 try clear f
 refine Reg.wI [18] [] rfl fun Qf f=>?_
 go_wp2_with fail
 first | refine f _ _ ⟨rfl,?_⟩ | refine⟨rfl,?_⟩ | refine f _ _ ⟨by simp [Reg.fineT,Reg.intOp,Region.wanted,yielded,Reg.intFine,Reg.isInt,Act.eval],?_⟩
 try clear f
 first | refine Reg.restI_end ?_ | skip
 refine hQ _ _ (by first | rfl | simp) ee.out
theorem Ms {w F:World} {g2 g5:Nat} {p:Ao} {r:As} {A1 A2 A3 A4 A5 A6 A7:Option Addr} {c1 c2 c3 c4 c5 c6 c7:Nat} {E1 E2 E3 E4 E5 E6 E7 E8:Option Addr} {f1 f2 f3 f4 f5 f6 f7 f8:Nat}
  (h:BM F g2 g5 #[.string p.name,.int .i64 p.topo,.slice A1 p.states.length c1,.slice A2 p.messages.length c2,.slice A3 p.values.length c3,.int .i64 p.fault,.slice A4 p.res.length c4,.slice A5 p.initial.length c5,.slice A6 p.leader.length c6,.slice A7 p.rules.length c7] #[.string r.name,.int .i64 r.kind,.int .i64 r.fr,.int .i64 r.to,.int .i64 r.pf,.int .i64 r.pt,.slice E1 r.resp.length f1,.slice E2 r.guards.length f2,.slice E3 r.ex.length f3,.slice E4 r.fa.length f4,.int .i64 r.rd,.int .i64 r.wr,.slice E5 r.send.length f5,.int .i64 r.at_,.slice E6 r.left.length f6,.slice E7 r.right.length f7,.slice E8 r.parent.length f8,.int .i64 r.dir] p r) (O:Below w.heap.size w F)
  {u0 u1 u3 u4 u7 u8 u9 aH aJ aK aL aM aN aO aP aQ aR aS aT aU aV aW aX aY aZ b0 b1 b3 b4 b6 b7 b8 b9 ba bb bc bd be bf bg bh bi bj bk bl bm bn bo bp bq br bs bt bu bv bw bx bz bA bB bC u64 bD bE bF bG bH bI bJ bK bL bM bN bO bP bQ bR bS bT bU bV bW bX bY bZ c0 c8 c9 ca cb cc cd ce cf cg ch ci cj ck cm cn co cp cq cr ct cu cv cw cx cy cz cA cB cD cE cF cG cH cJ cK cL cM cO cQ cR cS cT cU cV cW cX cY cZ d0 d1 d2 d3 d4 d5 d6 d7 d8 d9 da db dc de df dg dh di dj dk dl dm dn dp dq dr dt du dv dw dx dy dz dA dB dC dD dE dF dG dH dI dJ dK dL dM dN dO dP dQ dR:Value}
  {Q:Exit→Act→World→Prop} (hN:Reg.NoQ Q)
  (hQ:∀(U:Array Value) (w':World),U[4]?.getD undef=.int .i64 (Ah id [CL (p.states.length:Int) r.resp,Bi r.rd (p.values.length:Int),Bi r.wr (p.values.length:Int)])→Below w.heap.size w w'→Q .normal ⟨U,[]⟩ w'):
  (D0 Tryz.f48 17).wp Tryz.prog Q ⟨List.toArray (u0::u1::(.pointer (some ⟨g2,0,none⟩))::u3::u4::(.pointer (some ⟨g5,0,none⟩))::(.int .i64 (p.states.length:Int))::u7::u8::u9::aH::aJ::aK::aL::aM::aN::aO::aP::aQ::aR::aS::aT::aU::aV::aW::aX::
   aY::aZ::b0::b1::b3::b4::b6::b7::b8::b9::ba::bb::bc::bd::be::bf::bg::bh::bi::bj::bk::bl::bm::bn::bo::bp::bq::br::bs::bt::bu::bv::bw::bx::bz::bA::bB::
   bC::u64::bD::bE::bF::bG::bH::bI::bJ::bK::bL::bM::bN::bO::bP::bQ::bR::bS::bT::bU::bV::bW::bX::bY::bZ::c0::c8::c9::ca::cb::cc::cd::ce::cf::cg::ch::ci::
   cj::ck::cm::cn::co::cp::cq::cr::ct::cu::cv::cw::cx::cy::cz::cA::cB::cD::cE::cF::cG::cH::cJ::cK::cL::cM::cO::cQ::cR::cS::cT::cU::cV::
   cW::cX::cY::cZ::d0::d1::d2::d3::d4::d5::d6::d7::d8::d9::da::db::dc::de::df::dg::dh::di::dj::dk::dl::dm::dn::dp::dq::dr::dt::du::dv::
   dw::dx::dy::dz::dA::dB::dC::dD::dE::dF::dG::dH::dI::dJ::dK::dL::dM::dN::dO::dP::dQ::dR::[]),[]⟩ F:=by
 conv=>arg 2; whnf
 have dT:=hide h
 have V:=hide O
 have dU:=h.b2.cell
 have dV:=h.b5.cell
 have dW:=h.load2 rfl
 have dX:=h.load5 rfl
 clear h O
 have y:=dT.out.at (Ap F)
 have dY:=y.b2.cell
 have dZ:=y.b5.cell
 have e0:=y.load2 rfl
 have e1:=y.load5 rfl
 have I:=hide y
 have W:=hide (V.out.trans ((Ap F).mono V.out.size))
 clear y dU dV dW dX
 refine Reg.region_cutI [0,1,0,7,0,0,32,127,0,0,512,2047,4095,8191,16383] [0,1,2,4,5,6,8,9,10,3,7,11,12,13,14] (by kernel_rfl) hN ?_
 refine Reg.wI [0,1,2,4,5,6,8,9,10] [3,7,11,12,13,14] rfl fun Qf f=>?_
 go_wp2_with fail
 first | refine f _ _ ⟨rfl,?_⟩ | refine⟨rfl,?_⟩ | refine f _ _ ⟨by simp [Reg.fineT,Reg.intOp,Region.wanted,yielded,Reg.intFine,Reg.isInt,Act.eval],?_⟩
 try clear f
 refine Reg.aI 3 [7,11,12,13,14] [4,6,8,10] rfl fun Qf f=>?_
 simp only [gT,gS,gZ]
 go_wp2_with (go_at_call 78; refine(QZ (D4 I.out.ru).1).mono ?_; rintro e w' ⟨rfl,rfl⟩)
 first | refine f _ _ ⟨Reg.same_below (Below.refl _ _) [4,6,8,10] rfl,?_⟩ | refine⟨Reg.same_below (Below.refl _ _) [4,6,8,10] rfl,?_⟩
 try clear f
 refine Reg.aI 7 [11,12,13,14] [8,10] rfl fun Qf f=>?_
 simp only [gT,gS,gZ]
 go_wp2_with (go_at_call 77; refine Calls.ret (EA I.out.pr) ?_; rintro v wa ⟨rfl,G⟩)
 first | refine f _ _ ⟨Reg.same_below (G) [8,10] rfl,?_⟩ | refine⟨Reg.same_below (G) [8,10] rfl,?_⟩
 try clear f
 have z:=I.out.at G
 have e2:=z.b2.cell
 have e3:=z.b5.cell
 have e4:=z.load2 rfl
 have e5:=z.load5 rfl
 have Z:=hide z
 have a2:=hide (W.out.trans (G.mono W.out.size))
 clear G z dY dZ e0 e1
 refine Reg.aI 11 [12,13,14] [] rfl fun Qf f=>?_
 simp only [gT,gS,gZ]
 go_wp2_with (go_at_call 77; refine Calls.ret (EA Z.out.pr) ?_; rintro v wb ⟨rfl,J⟩)
 first | refine f _ _ ⟨Reg.nm,?_⟩ | refine⟨Reg.nm,?_⟩
 try clear f
 have C:=Z.out.at J
 have e7:=C.b2.cell
 have e8:=C.b5.cell
 have e9:=C.load2 rfl
 have ea:=C.load5 rfl
 have eb:=hide C
 have a3:=hide (a2.out.trans (J.mono a2.out.size))
 clear J C e2 e3 e4 e5
 obtain⟨wz,eh,a4,a5,ec⟩:=Ag wb #[.int .i64 (CL (p.states.length:Int) r.resp),.int .i64 (Bi r.rd (p.values.length:Int)),.int .i64 (Bi r.wr (p.values.length:Int))] 33
 have ed:=hide (B0 (l:=[CL (p.states.length:Int) r.resp,Bi r.rd (p.values.length:Int),Bi r.wr (p.values.length:Int)]) a5 (by simp))
 have M:=a4
 clear a5 ec a4
 have E:=eb.out.at M
 have ei:=E.b2.cell
 have ej:=E.b5.cell
 have ek:=E.load2 rfl
 have el:=E.load5 rfl
 have em:=hide E
 have ee:=hide (a3.out.trans (M.mono a3.out.size))
 clear M E e7 e8 e9 ea
 refine Reg.wI [12] [13,14] rfl fun Qf f=>?_
 go_wp2_with fail
 first | refine f _ _ ⟨rfl,?_⟩ | refine⟨rfl,?_⟩ | refine f _ _ ⟨by simp [Reg.fineT,Reg.intOp,Region.wanted,yielded,Reg.intFine,Reg.isInt,Act.eval],?_⟩
 try clear f
 refine Reg.aI 13 [14] [] rfl fun Qf f=>?_
 simp only [gT,gS,gZ]
 go_wp2_with (go_at_call 26; refine(B7 (l:=[CL (p.states.length:Int) r.resp,Bi r.rd (p.values.length:Int),Bi r.wr (p.values.length:Int)]) ed.out).mono ?_; rintro e w' ⟨rfl,rfl⟩)
 first | refine f _ _ ⟨Reg.nm,?_⟩ | refine⟨Reg.nm,?_⟩
 try clear f
 refine Reg.wI [14] [] rfl fun Qf f=>?_
 go_wp2_with fail
 first | refine f _ _ ⟨rfl,?_⟩ | refine⟨rfl,?_⟩ | refine f _ _ ⟨by simp [Reg.fineT,Reg.intOp,Region.wanted,yielded,Reg.intFine,Reg.isInt,Act.eval],?_⟩
 try clear f
 first | refine Reg.restI_end ?_ | skip
 refine hQ _ _ (by first | rfl | simp) ee.out
theorem EX {w G:World} {g2 g5:Nat} {p:Ao} {r:As} {A1 A2 A3 A4 A5 A6 A7:Option Addr} {c1 c2 c3 c4 c5 c6 c7:Nat} {E1 E2 E3 E4 E5 E6 E7 E8:Option Addr} {f1 f2 f3 f4 f5 f6 f7 f8:Nat} {m:Bool}
  (h:BM G g2 g5 #[.string p.name,.int .i64 p.topo,.slice A1 p.states.length c1,.slice A2 p.messages.length c2,.slice A3 p.values.length c3,.int .i64 p.fault,.slice A4 p.res.length c4,.slice A5 p.initial.length c5,.slice A6 p.leader.length c6,.slice A7 p.rules.length c7] #[.string r.name,.int .i64 r.kind,.int .i64 r.fr,.int .i64 r.to,.int .i64 r.pf,.int .i64 r.pt,.slice E1 r.resp.length f1,.slice E2 r.guards.length f2,.slice E3 r.ex.length f3,.slice E4 r.fa.length f4,.int .i64 r.rd,.int .i64 r.wr,.slice E5 r.send.length f5,.int .i64 r.at_,.slice E6 r.left.length f6,.slice E7 r.right.length f7,.slice E8 r.parent.length f8,.int .i64 r.dir] p r) (U:Below w.heap.size w G)
  {u0 u1 u3 u4 u7 u8 aL aM aN aO aP aQ aR aS aT aU aV aW aX aY aZ b0 b1 b3 b4 b6 b7 b8 b9 ba bb bc bd be bf bg bh bi bj bk bl bm bn bo bp bq br bs bt bu bv bw bx bz bA bB bC bD bE bF u64 bG bH bI bJ bK bL bM bN bO bP bQ bR bS bT bU bV bW bX bY bZ c0 c8 c9 ca cb cc cd ce cf cg ch ci cj ck cm cn co cp cq cr ct cu cv cw cx cy cz cA cB cD cE cF cG cH cJ cK cL cM cO cQ cR cS cT cU cV cW cX cY cZ d0 d1 d2 d3 d4 d5 d6 d7 d8 d9 da db dc de df dg dh di dj dk dl dm dn dp dq dr dt du dv dw dx dy dz dA dB dC dD dE dF dG dH dI dJ dK dL dM dN dO dP dQ dR dS dT dU:Value}
  {Q:Exit→Act→World→Prop} (hN:Reg.NoQ Q)
  (hQ:∀(V:Array Value) (w':World),V[4]?.getD undef=.int .i64 (Ah id [Aa r.left (p.states.length:Int),Aa r.right (p.states.length:Int),Aa r.parent (p.states.length:Int),Ac m 1])→Below w.heap.size w w'→Q .normal ⟨V,[]⟩ w'):
  (D0 Tryz.f48 20).wp Tryz.prog Q ⟨List.toArray (u0::u1::(.pointer (some ⟨g2,0,none⟩))::u3::u4::(.pointer (some ⟨g5,0,none⟩))::(.int .i64 (p.states.length:Int))::u7::u8::(.bool m)::aL::aM::aN::aO::aP::aQ::aR::aS::aT::aU::aV::aW::aX::aY::aZ::
   b0::b1::b3::b4::b6::b7::b8::b9::ba::bb::bc::bd::be::bf::bg::bh::bi::bj::bk::bl::bm::bn::bo::bp::bq::br::bs::bt::bu::bv::bw::bx::bz::bA::bB::bC::bD::
   bE::bF::u64::bG::bH::bI::bJ::bK::bL::bM::bN::bO::bP::bQ::bR::bS::bT::bU::bV::bW::bX::bY::bZ::c0::c8::c9::ca::cb::cc::cd::ce::cf::cg::ch::ci::cj::ck::
   cm::cn::co::cp::cq::cr::ct::cu::cv::cw::cx::cy::cz::cA::cB::cD::cE::cF::cG::cH::cJ::cK::cL::cM::cO::cQ::cR::cS::cT::cU::cV::cW::cX::
   cY::cZ::d0::d1::d2::d3::d4::d5::d6::d7::d8::d9::da::db::dc::de::df::dg::dh::di::dj::dk::dl::dm::dn::dp::dq::dr::dt::du::dv::dw::dx::
   dy::dz::dA::dB::dC::dD::dE::dF::dG::dH::dI::dJ::dK::dL::dM::dN::dO::dP::dQ::dR::dS::dT::dU::[]),[]⟩ G:=by
 conv=>arg 2; whnf
 have dW:=hide h
 have W:=hide U
 have dX:=h.b2.cell
 have dY:=h.b5.cell
 have dZ:=h.load2 rfl
 have e0:=h.load5 rfl
 clear h U
 have y:=dW.out.at (Ap G)
 have e1:=y.b2.cell
 have e2:=y.b5.cell
 have e3:=y.load2 rfl
 have e4:=y.load5 rfl
 have Z:=hide y
 have a2:=hide (W.out.trans ((Ap G).mono W.out.size))
 clear y dX dY dZ e0
 refine Reg.region_cutI [0,1,0,7,0,16,0,127,0,256,0,2047,0,8191,16383,32767,65535] [0,1,2,4,5,6,8,9,10,12,3,7,11,13,14,15,16] (by kernel_rfl) hN ?_
 refine Reg.wI [0,1,2,4,5,6,8,9,10,12] [3,7,11,13,14,15,16] rfl fun Qf f=>?_
 go_wp2_with fail
 first | refine f _ _ ⟨rfl,?_⟩ | refine⟨rfl,?_⟩ | refine f _ _ ⟨by simp [Reg.fineT,Reg.intOp,Region.wanted,yielded,Reg.intFine,Reg.isInt,Act.eval],?_⟩
 try clear f
 refine Reg.aI 3 [7,11,13,14,15,16] [5,9] rfl fun Qf f=>?_
 simp only [gT,gS,gZ]
 go_wp2_with (go_at_call 24; refine Calls.ret (Bw (D4 Z.out.ru).2.2.2.2.2.1) ?_; rintro v wa ⟨rfl,I⟩)
 first | refine f _ _ ⟨Reg.same_below (I) [5,9] rfl,?_⟩ | refine⟨Reg.same_below (I) [5,9] rfl,?_⟩
 try clear f
 have z:=Z.out.at I
 have e5:=z.b2.cell
 have e6:=z.b5.cell
 have e7:=z.load2 rfl
 have e8:=z.load5 rfl
 have a3:=hide z
 have a4:=hide (a2.out.trans (I.mono a2.out.size))
 clear I z e1 e2 e3 e4
 refine Reg.aI 7 [11,13,14,15,16] [9] rfl fun Qf f=>?_
 simp only [gT,gS,gZ]
 go_wp2_with (go_at_call 24; refine Calls.ret (Bw (D4 a3.out.ru).2.2.2.2.2.2.1) ?_; rintro v wb ⟨rfl,J⟩)
 first | refine f _ _ ⟨Reg.same_below (J) [9] rfl,?_⟩ | refine⟨Reg.same_below (J) [9] rfl,?_⟩
 try clear f
 have C:=a3.out.at J
 have e9:=C.b2.cell
 have ea:=C.b5.cell
 have eb:=C.load2 rfl
 have ec:=C.load5 rfl
 have a5:=hide C
 have a6:=hide (a4.out.trans (J.mono a4.out.size))
 clear J C e5 e6 e7 e8
 refine Reg.aI 11 [13,14,15,16] [] rfl fun Qf f=>?_
 simp only [gT,gS,gZ]
 go_wp2_with (go_at_call 24; refine Calls.ret (Bw (D4 a5.out.ru).2.2.2.2.2.2.2) ?_; rintro v wc ⟨rfl,M⟩)
 first | refine f _ _ ⟨Reg.nm,?_⟩ | refine⟨Reg.nm,?_⟩
 try clear f
 have E:=a5.out.at M
 have ee:=E.b2.cell
 have ef:=E.b5.cell
 have eg:=E.load2 rfl
 have eh:=E.load5 rfl
 have ei:=hide E
 have a7:=hide (a6.out.trans (M.mono a6.out.size))
 clear M E e9 ea eb ec
 refine Reg.aI 13 [14,15,16] [] rfl fun Qf f=>?_
 simp only [gT,gS,gZ]
 go_wp2_with (go_at_call 27; refine(BZ _ _ _).mono ?_; rintro e w' ⟨rfl,rfl⟩)
 first | refine f _ _ ⟨Reg.nm,?_⟩ | refine⟨Reg.nm,?_⟩
 try clear f
 obtain⟨wz,ep,a8,a9,ej⟩:=Ag wc #[.int .i64 (Aa r.left (p.states.length:Int)),.int .i64 (Aa r.right (p.states.length:Int)),.int .i64 (Aa r.parent (p.states.length:Int)),.int .i64 (Ac m 1)] 33
 have ek:=hide (B0 (l:=[Aa r.left (p.states.length:Int),Aa r.right (p.states.length:Int),Aa r.parent (p.states.length:Int),Ac m 1]) a9 (by simp))
 have O:=a8
 clear a9 ej a8
 have F:=ei.out.at O
 have eq:=F.b2.cell
 have er:=F.b5.cell
 have et:=F.load2 rfl
 have eu:=F.load5 rfl
 have ev:=hide F
 have el:=hide (a7.out.trans (O.mono a7.out.size))
 clear O F ee ef eg eh
 refine Reg.wI [14] [15,16] rfl fun Qf f=>?_
 go_wp2_with fail
 first | refine f _ _ ⟨rfl,?_⟩ | refine⟨rfl,?_⟩ | refine f _ _ ⟨by simp [Reg.fineT,Reg.intOp,Region.wanted,yielded,Reg.intFine,Reg.isInt,Act.eval],?_⟩
 try clear f
 refine Reg.aI 15 [16] [] rfl fun Qf f=>?_
 simp only [gT,gS,gZ]
 go_wp2_with (go_at_call 26; refine(B7 (l:=[Aa r.left (p.states.length:Int),Aa r.right (p.states.length:Int),Aa r.parent (p.states.length:Int),Ac m 1]) ek.out).mono ?_; rintro e w' ⟨rfl,rfl⟩)
 first | refine f _ _ ⟨Reg.nm,?_⟩ | refine⟨Reg.nm,?_⟩
 try clear f
 refine Reg.wI [16] [] rfl fun Qf f=>?_
 go_wp2_with fail
 first | refine f _ _ ⟨rfl,?_⟩ | refine⟨rfl,?_⟩ | refine f _ _ ⟨by simp [Reg.fineT,Reg.intOp,Region.wanted,yielded,Reg.intFine,Reg.isInt,Act.eval],?_⟩
 try clear f
 first | refine Reg.restI_end ?_ | skip
 refine hQ _ _ (by first | rfl | simp) el.out
theorem HR {w y:World} {g2 g5:Nat} {p:Ao} {r:As} {A1 A2 A3 A4 A5 A6 A7:Option Addr} {c1 c2 c3 c4 c5 c6 c7:Nat} {E1 E2 E3 E4 E5 E6 E7 E8:Option Addr} {f1 f2 f3 f4 f5 f6 f7 f8:Nat} {J F:Int}
  (C:BM y g2 g5 #[.string p.name,.int .i64 p.topo,.slice A1 p.states.length c1,.slice A2 p.messages.length c2,.slice A3 p.values.length c3,.int .i64 p.fault,.slice A4 p.res.length c4,.slice A5 p.initial.length c5,.slice A6 p.leader.length c6,.slice A7 p.rules.length c7] #[.string r.name,.int .i64 r.kind,.int .i64 r.fr,.int .i64 r.to,.int .i64 r.pf,.int .i64 r.pt,.slice E1 r.resp.length f1,.slice E2 r.guards.length f2,.slice E3 r.ex.length f3,.slice E4 r.fa.length f4,.int .i64 r.rd,.int .i64 r.wr,.slice E5 r.send.length f5,.int .i64 r.at_,.slice E6 r.left.length f6,.slice E7 r.right.length f7,.slice E8 r.parent.length f8,.int .i64 r.dir] p r) (Z:Below w.heap.size w y)
  {u0 u1 u3 u4 u7 u8 u9 aM aN aO aP aQ aR aS aT aU aV aW aX aY aZ b0 b1 b3 b4 b6 b7 b8 b9 ba bb bc bd be bf bg bh bi bj bk bl bm bn bo bp bq br bs bt bu bv bw bx bz bA bB bC bD bE u64 bF bG bH bI bJ bK bL bM bN bO bP bQ bR bS bT bU bV bW bX bY bZ c0 c8 c9 ca cb cc cd ce cf cg ch ci cj ck cm cn co cp cq cr ct cu cv cw cx cy cz cA cB cD cE cF cG cH cJ cK cL cM cO cQ cR cS cT cU cV cW cX cY cZ d0 d1 d2 d3 d4 d5 d6 d7 d8 d9 da db dc de df dg dh di dj dk dl dm dn dp dq dr dt du dv dw dx dy dz dA dB dC dD dE dF dG dH dI dJ dK dL dM dN dO dP dQ dR dS dT:Value}
  {Q:Exit→Act→World→Prop} (hN:Reg.NoQ Q)
  (hQ:∀(tm:Array Value) (w':World),tm[4]?.getD undef=.int .i64 (Ah id [Aw r.pf (p.states.length:Int),Aw r.pt (p.states.length:Int),Ac (decide (r.dir<J)||decide (F<r.dir)) 1])→Below w.heap.size w w'→Q .normal ⟨tm,[]⟩ w'):
  (D0 Tryz.f48 24).wp Tryz.prog Q ⟨List.toArray (u0::u1::(.pointer (some ⟨g2,0,none⟩))::u3::u4::(.pointer (some ⟨g5,0,none⟩))::(.int .i64 (p.states.length:Int))::u7::u8::u9::(.int .i64 J)::(.int .i64 F)::aM::aN::aO::aP::aQ::aR::aS::aT::aU::aV::aW::
   aX::aY::aZ::b0::b1::b3::b4::b6::b7::b8::b9::ba::bb::bc::bd::be::bf::bg::bh::bi::bj::bk::bl::bm::bn::bo::bp::bq::br::bs::bt::bu::bv::bw::bx::bz::bA::
   bB::bC::bD::bE::u64::bF::bG::bH::bI::bJ::bK::bL::bM::bN::bO::bP::bQ::bR::bS::bT::bU::bV::bW::bX::bY::bZ::c0::c8::c9::ca::cb::cc::cd::ce::cf::cg::ch::
   ci::cj::ck::cm::cn::co::cp::cq::cr::ct::cu::cv::cw::cx::cy::cz::cA::cB::cD::cE::cF::cG::cH::cJ::cK::cL::cM::cO::cQ::cR::cS::cT::cU::
   cV::cW::cX::cY::cZ::d0::d1::d2::d3::d4::d5::d6::d7::d8::d9::da::db::dc::de::df::dg::dh::di::dj::dk::dl::dm::dn::dp::dq::dr::dt::du::
   dv::dw::dx::dy::dz::dA::dB::dC::dD::dE::dF::dG::dH::dI::dJ::dK::dL::dM::dN::dO::dP::dQ::dR::dS::dT::[]),[]⟩ y:=by
 conv=>arg 2; whnf
 have dU:=hide C
 have a4:=hide Z
 have dV:=C.b2.cell
 have dW:=C.b5.cell
 have dX:=C.load2 rfl
 have dY:=C.load5 rfl
 clear C Z
 have E:=dU.out.at (Ap y)
 have a5:=E.b2.cell
 have a6:=E.b5.cell
 have a7:=E.load2 rfl
 have a8:=E.load5 rfl
 have a9:=hide E
 have M:=hide (a4.out.trans ((Ap y).mono a4.out.size))
 clear E dV dW dX dY
 by_cases ha:r.dir<J
 ·
  refine Reg.region_cutI [0,1,0,7,0,16,0,127,0,256,0,1792,4095,8191,16383,8191,65535,131071,262143,524287,1048575,2097151] [0,1,2,4,5,6,8,9,10,11,3,7,12,13,14,15,16,17,18,19,20,21] (by kernel_rfl) hN ?_
  refine Reg.wI [0,1,2,4,5,6,8,9,10,11] [3,7,12,13,14,15,16,17,18,19,20,21] rfl fun Qf f=>?_
  go_wp2_with fail
  first | refine f _ _ ⟨rfl,?_⟩ | refine⟨rfl,?_⟩ | refine f _ _ ⟨by simp [Reg.fineT,Reg.intOp,Region.wanted,yielded,Reg.intFine,Reg.isInt,Act.eval],?_⟩
  try clear f
  refine Reg.aI 3 [7,12,13,14,15,16,17,18,19,20,21] [5,9] rfl fun Qf f=>?_
  simp only [gT,gS,gZ]
  go_wp2_with (go_at_call 52; refine(Cl _ _ _).mono ?_; rintro e w' ⟨rfl,rfl⟩)
  first | refine f _ _ ⟨Reg.same_below (Below.refl _ _) [5,9] rfl,?_⟩ | refine⟨Reg.same_below (Below.refl _ _) [5,9] rfl,?_⟩
  try clear f
  refine Reg.aI 7 [12,13,14,15,16,17,18,19,20,21] [9] rfl fun Qf f=>?_
  simp only [gT,gS,gZ]
  go_wp2_with (go_at_call 52; refine(Cl _ _ _).mono ?_; rintro e w' ⟨rfl,rfl⟩)
  first | refine f _ _ ⟨Reg.same_below (Below.refl _ _) [9] rfl,?_⟩ | refine⟨Reg.same_below (Below.refl _ _) [9] rfl,?_⟩
  try clear f
  refine Reg.wI [12,13,14,15,16,17] [18,19,20,21] rfl fun Qf f=>?_
  go_wp2_with fail
  first | refine f _ _ ⟨rfl,?_⟩ | refine⟨rfl,?_⟩ | refine f _ _ ⟨by simp [Reg.fineT,Reg.intOp,Region.wanted,yielded,Reg.intFine,Reg.isInt,Act.eval],?_⟩
  try clear f
  refine Reg.aI 18 [19,20,21] [] rfl fun Qf f=>?_
  simp only [gT,gS,gZ]
  go_wp2_with (go_at_call 27; refine(BZ _ _ _).mono ?_; rintro e w' ⟨rfl,rfl⟩)
  first | refine f _ _ ⟨Reg.nm,?_⟩ | refine⟨Reg.nm,?_⟩
  try clear f
  obtain⟨O,e0,G,I,U⟩:=Ag y.drew #[.int .i64 (Aw r.pf (p.states.length:Int)),.int .i64 (Aw r.pt (p.states.length:Int)),.int .i64 (Ac true 1)] 33
  have V:=hide (B0 (l:=[Aw r.pf (p.states.length:Int),Aw r.pt (p.states.length:Int),Ac true 1]) I (by simp))
  have z:Below y.drew.heap.size y.drew O:=G
  clear I U G
  have h:=a9.out.at z
  have e1:=h.b2.cell
  have e2:=h.b5.cell
  have e3:=h.load2 rfl
  have e4:=h.load5 rfl
  have e5:=hide h
  have W:=hide (M.out.trans (z.mono M.out.size))
  clear z h a5 a6 a7 a8
  refine Reg.wI [19] [20,21] rfl fun Qf f=>?_
  go_wp2_with fail
  first | refine f _ _ ⟨rfl,?_⟩ | refine⟨rfl,?_⟩ | refine f _ _ ⟨by simp [Reg.fineT,Reg.intOp,Region.wanted,yielded,Reg.intFine,Reg.isInt,Act.eval],?_⟩
  try clear f
  refine Reg.aI 20 [21] [] rfl fun Qf f=>?_
  simp only [gT,gS,gZ]
  go_wp2_with (go_at_call 26; refine(B7 (l:=[Aw r.pf (p.states.length:Int),Aw r.pt (p.states.length:Int),Ac true 1]) V.out).mono ?_; rintro e w' ⟨rfl,rfl⟩)
  first | refine f _ _ ⟨Reg.nm,?_⟩ | refine⟨Reg.nm,?_⟩
  try clear f
  refine Reg.wI [21] [] rfl fun Qf f=>?_
  go_wp2_with fail
  first | refine f _ _ ⟨rfl,?_⟩ | refine⟨rfl,?_⟩ | refine f _ _ ⟨by simp [Reg.fineT,Reg.intOp,Region.wanted,yielded,Reg.intFine,Reg.isInt,Act.eval],?_⟩
  try clear f
  first | refine Reg.restI_end ?_ | skip
  refine hQ _ _ ?_ W.out
  simp [ha]
 ·
  refine Reg.region_cutI [0,1,0,7,0,16,0,127,0,256,0,1792,4095,8191,16383,8191,65535,131071,262143,524287,1048575,2097151] [0,1,2,4,5,6,8,9,10,11,3,7,12,13,14,15,16,17,18,19,20,21] (by kernel_rfl) hN ?_
  refine Reg.wI [0,1,2,4,5,6,8,9,10,11] [3,7,12,13,14,15,16,17,18,19,20,21] rfl fun Qf f=>?_
  go_wp2_with fail
  first | refine f _ _ ⟨rfl,?_⟩ | refine⟨rfl,?_⟩ | refine f _ _ ⟨by simp [Reg.fineT,Reg.intOp,Region.wanted,yielded,Reg.intFine,Reg.isInt,Act.eval],?_⟩
  try clear f
  refine Reg.aI 3 [7,12,13,14,15,16,17,18,19,20,21] [5,9] rfl fun Qf f=>?_
  simp only [gT,gS,gZ]
  go_wp2_with (go_at_call 52; refine(Cl _ _ _).mono ?_; rintro e w' ⟨rfl,rfl⟩)
  first | refine f _ _ ⟨Reg.same_below (Below.refl _ _) [5,9] rfl,?_⟩ | refine⟨Reg.same_below (Below.refl _ _) [5,9] rfl,?_⟩
  try clear f
  refine Reg.aI 7 [12,13,14,15,16,17,18,19,20,21] [9] rfl fun Qf f=>?_
  simp only [gT,gS,gZ]
  go_wp2_with (go_at_call 52; refine(Cl _ _ _).mono ?_; rintro e w' ⟨rfl,rfl⟩)
  first | refine f _ _ ⟨Reg.same_below (Below.refl _ _) [9] rfl,?_⟩ | refine⟨Reg.same_below (Below.refl _ _) [9] rfl,?_⟩
  try clear f
  refine Reg.wI [12,13,14,15,16,17] [18,19,20,21] rfl fun Qf f=>?_
  go_wp2_with fail
  first | refine f _ _ ⟨rfl,?_⟩ | refine⟨rfl,?_⟩ | refine f _ _ ⟨by simp [Reg.fineT,Reg.intOp,Region.wanted,yielded,Reg.intFine,Reg.isInt,Act.eval],?_⟩
  try clear f
  refine Reg.aI 18 [19,20,21] [] rfl fun Qf f=>?_
  simp only [gT,gS,gZ]
  go_wp2_with (go_at_call 27; refine(BZ _ _ _).mono ?_; rintro e w' ⟨rfl,rfl⟩)
  first | refine f _ _ ⟨Reg.nm,?_⟩ | refine⟨Reg.nm,?_⟩
  try clear f
  obtain⟨O,e0,G,I,U⟩:=Ag y.drew #[.int .i64 (Aw r.pf (p.states.length:Int)),.int .i64 (Aw r.pt (p.states.length:Int)),.int .i64 (Ac (decide (F<r.dir)) 1)] 33
  have V:=hide (B0 (l:=[Aw r.pf (p.states.length:Int),Aw r.pt (p.states.length:Int),Ac (decide (F<r.dir)) 1]) I (by simp))
  have z:Below y.drew.heap.size y.drew O:=G
  clear I U G
  have h:=a9.out.at z
  have e1:=h.b2.cell
  have e2:=h.b5.cell
  have e3:=h.load2 rfl
  have e4:=h.load5 rfl
  have e5:=hide h
  have W:=hide (M.out.trans (z.mono M.out.size))
  clear z h a5 a6 a7 a8
  refine Reg.wI [19] [20,21] rfl fun Qf f=>?_
  go_wp2_with fail
  first | refine f _ _ ⟨rfl,?_⟩ | refine⟨rfl,?_⟩ | refine f _ _ ⟨by simp [Reg.fineT,Reg.intOp,Region.wanted,yielded,Reg.intFine,Reg.isInt,Act.eval],?_⟩
  try clear f
  refine Reg.aI 20 [21] [] rfl fun Qf f=>?_
  simp only [gT,gS,gZ]
  go_wp2_with (go_at_call 26; refine(B7 (l:=[Aw r.pf (p.states.length:Int),Aw r.pt (p.states.length:Int),Ac (decide (F<r.dir)) 1]) V.out).mono ?_; rintro e w' ⟨rfl,rfl⟩)
  first | refine f _ _ ⟨Reg.nm,?_⟩ | refine⟨Reg.nm,?_⟩
  try clear f
  refine Reg.wI [21] [] rfl fun Qf f=>?_
  go_wp2_with fail
  first | refine f _ _ ⟨rfl,?_⟩ | refine⟨rfl,?_⟩ | refine f _ _ ⟨by simp [Reg.fineT,Reg.intOp,Region.wanted,yielded,Reg.intFine,Reg.isInt,Act.eval],?_⟩
  try clear f
  first | refine Reg.restI_end ?_ | skip
  refine hQ _ _ ?_ W.out
  have hn:¬r.dir<J:=by omega
  rw [decide_eq_false hn,Bool.false_or]
  first | rfl | simp
end Go.Proofs.YtlakpndhhelliaaGreatDoor.K
