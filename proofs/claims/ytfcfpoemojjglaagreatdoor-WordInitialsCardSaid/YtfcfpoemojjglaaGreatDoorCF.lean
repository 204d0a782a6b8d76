/-
  Part CF of a proof.
-/
import Derived.Test.YtfcfpoemojjglaaGreatDoorPA
import Derived.Test.YtfcfpoemojjglaaGreatDoorCE
set_option maxHeartbeats 16000000
set_option maxRecDepth 100000
set_option linter.unusedVariables false
set_option linter.unusedSimpArgs false
namespace Go.Proofs.YtfcfpoemojjglaaGreatDoor.K
open Go.RowKit
attribute [-go_sem] loadCellsFrom storeCells
def CV:Code→List Code
 | .region i o d=>[.region i o d]
 | .seq a b=>CV a++CV b
 | .loop a=>CV a
 | .scope a=>CV a
 | .block _ a=>CV a
 | .cond _ a b=>CV a++CV b
 | _=>[]
def Ep (f:Func) (k:Nat):Code:=match f.body with
 | some c=>(CV c).getD k .skip
 | none=>.skip
theorem QQ {w y:World} {g2 g5:Nat} {p:Am} {r:Az} {I J M O U V W:Option Addr} {c1 c2 c3 c4 c5 c6 c7:Nat} {Z E2 E3 E4 E5 E6 E7 E8:Option Addr} {f1 f2 f3 f4 f5 f6 f7 f8:Nat}
  (z:Co y g2 g5 #[.string p.name,.int .i64 p.topo,.slice I p.states.length c1,.slice J p.messages.length c2,.slice M p.values.length c3,.int .i64 p.fault,.slice O p.res.length c4,.slice U p.initial.length c5,.slice V p.leader.length c6,.slice W p.rules.length c7] #[.string r.name,.int .i64 r.kind,.int .i64 r.fr,.int .i64 r.to,.int .i64 r.pf,.int .i64 r.pt,.slice Z r.resp.length f1,.slice E2 r.guards.length f2,.slice E3 r.ex.length f3,.slice E4 r.fa.length f4,.int .i64 r.rd,.int .i64 r.wr,.slice E5 r.send.length f5,.int .i64 r.at_,.slice E6 r.left.length f6,.slice E7 r.right.length f7,.slice E8 r.parent.length f8,.int .i64 r.dir] p r) (hb:Below w.heap.size w y)
  {u0 u1 u3 u4 u7 u8 u9 av aG aS b4 bh bs bE bP c0 cg ch ci cj ck cm cn co cp cq cr cu cv cw cx cy cz cA cB cD cE cG cH cJ cK cL cM cO dQ dR dS dT dU dV dW dX dY dZ cQ cR cS cT cU cV cW u64 cX cY cZ d0 d1 d3 d4 d5 d6 d7 d8 d9 da db dc de df dg dh di dj dk dl dm dn dq dr dt du dv dw dx dy dz dA aw ax ay az aA aB aC aD aE aF aH aJ aK aL aM aN aO aP aQ aR aT aU aV aW aX aY aZ b0 b1 b3 b6 b7 b8 b9 ba bb bd be bf bg bi bj bk bl bm bn bo bp bq br bt bu bv bw bx bz bA bB bC bD bF bG bH bI bJ bK bL bM bN bO bQ bR bS bT bU bV bW bX bY bZ c8 c9 ca cb cc cd ce cf:Value}
  {Q:Exit→Act→World→Prop} (hN:Reg.NoQ Q)
  (hQ:∀(e1 e2 e3 e4 e5 e6 e7 e8 e9 ea:Value) (w':World),Co w' g2 g5 #[.string p.name,.int .i64 p.topo,.slice I p.states.length c1,.slice J p.messages.length c2,.slice M p.values.length c3,.int .i64 p.fault,.slice O p.res.length c4,.slice U p.initial.length c5,.slice V p.leader.length c6,.slice W p.rules.length c7] #[.string r.name,.int .i64 r.kind,.int .i64 r.fr,.int .i64 r.to,.int .i64 r.pf,.int .i64 r.pt,.slice Z r.resp.length f1,.slice E2 r.guards.length f2,.slice E3 r.ex.length f3,.slice E4 r.fa.length f4,.int .i64 r.rd,.int .i64 r.wr,.slice E5 r.send.length f5,.int .i64 r.at_,.slice E6 r.left.length f6,.slice E7 r.right.length f7,.slice E8 r.parent.length f8,.int .i64 r.dir] p r→Below w.heap.size w w'→Q .normal ⟨List.toArray (u0::u1::(.pointer (some ⟨g2,0,none⟩))::u3::u4::(.pointer (some ⟨g5,0,none⟩))::(.int .i64 (p.states.length:Int))::u7::(.int .i64 (Ah id [AB r.fr (p.states.length:Int),AB r.to (p.states.length:Int)]))::u9::av::aG::aS::
   b4::bh::bs::bE::bP::c0::cg::ch::ci::cj::ck::cm::cn::co::cp::cq::cr::cu::cv::cw::cx::cy::cz::cA::cB::cD::cE::cG::cH::cJ::cK::cL::cM::cO::e1::e2::e3::
   e4::e5::e6::e7::e8::e9::ea::cQ::cR::cS::cT::cU::cV::cW::u64::cX::cY::cZ::d0::d1::d3::d4::d5::d6::d7::d8::d9::da::db::dc::de::df::dg::dh::di::dj::dk::
   dl::dm::dn::dq::dr::dt::du::dv::dw::dx::dy::dz::dA::aw::ax::ay::az::aA::aB::aC::aD::aE::aF::aH::aJ::aK::aL::aM::aN::aO::aP::aQ::aR::aT::
   aU::aV::aW::aX::aY::aZ::b0::b1::b3::b6::b7::b8::b9::ba::bb::bd::be::bf::bg::bi::bj::bk::bl::bm::bn::bo::bp::bq::br::bt::bu::bv::bw::
   bx::bz::bA::bB::bC::bD::bF::bG::bH::bI::bJ::bK::bL::bM::bN::bO::bQ::bR::bS::bT::bU::bV::bW::bX::bY::bZ::c8::c9::ca::cb::cc::cd::ce::
   cf::[]),[]⟩ w'):
  (Ep Tryz.f170 8).wp Tryz.prog Q ⟨List.toArray (u0::u1::(.pointer (some ⟨g2,0,none⟩))::u3::u4::(.pointer (some ⟨g5,0,none⟩))::(.int .i64 (p.states.length:Int))::u7::u8::u9::av::aG::aS::b4::bh::bs::bE::bP::c0::cg::ch::ci::cj::ck::cm::cn::
   co::cp::cq::cr::cu::cv::cw::cx::cy::cz::cA::cB::cD::cE::cG::cH::cJ::cK::cL::cM::cO::dQ::dR::dS::dT::dU::dV::dW::dX::dY::dZ::cQ::cR::cS::cT::cU::cV::
   cW::u64::cX::cY::cZ::d0::d1::d3::d4::d5::d6::d7::d8::d9::da::db::dc::de::df::dg::dh::di::dj::dk::dl::dm::dn::dq::dr::dt::du::dv::dw::dx::dy::dz::dA::
   aw::ax::ay::az::aA::aB::aC::aD::aE::aF::aH::aJ::aK::aL::aM::aN::aO::aP::aQ::aR::aT::aU::aV::aW::aX::aY::aZ::b0::b1::b3::b6::b7::b8::
   b9::ba::bb::bd::be::bf::bg::bi::bj::bk::bl::bm::bn::bo::bp::bq::br::bt::bu::bv::bw::bx::bz::bA::bB::bC::bD::bF::bG::bH::bI::bJ::bK::
   bL::bM::bN::bO::bQ::bR::bS::bT::bU::bV::bW::bX::bY::bZ::c8::c9::ca::cb::cc::cd::ce::cf::[]),[]⟩ y:=by
 conv=>arg 2; whnf
 have dD:=hide z
 have ao:=hide hb
 have dH:=z.b2.cell
 have dJ:=z.b5.cell
 have dM:=z.load2 rfl
 have dO:=z.load5 rfl
 clear z hb
 have C:=dD.out.at (As y)
 have dI:=C.b2.cell
 have dK:=C.b5.cell
 have dN:=C.load2 rfl
 have dP:=C.load5 rfl
 have dE:=hide C
 have ap:=hide (ao.out.trans ((As y).mono ao.out.size))
 clear C dH dJ dM dO
 refine Reg.region_cutI [0,1,0,7,0,16,0,127,255,511,1023] [0,1,2,4,5,6,3,7,8,9,10] (by kernel_rfl) hN ?_
 refine Reg.wI [0,1,2,4,5,6] [3,7,8,9,10] rfl fun Qf h=>?_
 go_wp2_with fail
 first | refine h _ _ ⟨rfl,?_⟩ | refine⟨rfl,?_⟩ | refine h _ _ ⟨by simp [Reg.fineT,Reg.intOp,Region.wanted,yielded,Reg.intFine,Reg.isInt,Act.eval],?_⟩
 try clear h
 refine Reg.aI 3 [7,8,9,10] [5] rfl fun Qf h=>?_
 simp only [gT,gS,gZ]
 go_wp2_with (go_at_call 173; refine(Cu _ _ _).mono ?_; rintro e w' ⟨rfl,rfl⟩)
 first | refine h _ _ ⟨Reg.same_below (Below.refl _ _) [5] rfl,?_⟩ | refine⟨Reg.same_below (Below.refl _ _) [5] rfl,?_⟩
 try clear h
 refine Reg.aI 7 [8,9,10] [] rfl fun Qf h=>?_
 simp only [gT,gS,gZ]
 go_wp2_with (go_at_call 173; refine(Cu _ _ _).mono ?_; rintro e w' ⟨rfl,rfl⟩)
 first | refine h _ _ ⟨Reg.nm,?_⟩ | refine⟨Reg.nm,?_⟩
 try clear h
 obtain⟨wz,ef,aq,am,dL⟩:=Ag y.drew #[.int .i64 (AB r.fr (p.states.length:Int)),.int .i64 (AB r.to (p.states.length:Int))] 36
 have dC:=hide (Cg (l:=[AB r.fr (p.states.length:Int),AB r.to (p.states.length:Int)]) am (by simp))
 have G:Below y.drew.heap.size y.drew wz:=aq
 clear am dL aq
 have E:=dE.out.at G
 have eb:=E.b2.cell
 have ec:=E.b5.cell
 have ed:=E.load2 rfl
 have ee:=E.load5 rfl
 have dF:=hide E
 have dG:=hide (ap.out.trans (G.mono ap.out.size))
 clear G E dI dK dN dP
 refine Reg.wI [8] [9,10] rfl fun Qf h=>?_
 go_wp2_with fail
 first | refine h _ _ ⟨rfl,?_⟩ | refine⟨rfl,?_⟩ | refine h _ _ ⟨by simp [Reg.fineT,Reg.intOp,Region.wanted,yielded,Reg.intFine,Reg.isInt,Act.eval],?_⟩
 try clear h
 refine Reg.aI 9 [10] [] rfl fun Qf h=>?_
 simp only [gT,gS,gZ]
 go_wp2_with (go_at_call 120; refine(Ch (l:=[AB r.fr (p.states.length:Int),AB r.to (p.states.length:Int)]) dC.out).mono ?_; rintro e w' ⟨rfl,rfl⟩)
 first | refine h _ _ ⟨Reg.nm,?_⟩ | refine⟨Reg.nm,?_⟩
 try clear h
 refine Reg.wI [10] [] rfl fun Qf h=>?_
 go_wp2_with fail
 first | refine h _ _ ⟨rfl,?_⟩ | refine⟨rfl,?_⟩ | refine h _ _ ⟨by simp [Reg.fineT,Reg.intOp,Region.wanted,yielded,Reg.intFine,Reg.isInt,Act.eval],?_⟩
 try clear h
 first | refine Reg.restI_end ?_ | skip
 refine hQ _ _ _ _ _ _ _ _ _ _ _ dF.out dG.out
theorem QN {w w5:World} {g2 g5:Nat} {p:Am} {r:Az} {A1 A2 A3 A4 A5 A6 A7:Option Addr} {c1 c2 c3 c4 c5 c6 c7:Nat} {E1 E2 E3 E4 E5 E6 E7 E8:Option Addr} {f1 f2 f3 f4 f5 f6 f7 f8:Nat}
  (y:Co w5 g2 g5 #[.string p.name,.int .i64 p.topo,.slice A1 p.states.length c1,.slice A2 p.messages.length c2,.slice A3 p.values.length c3,.int .i64 p.fault,.slice A4 p.res.length c4,.slice A5 p.initial.length c5,.slice A6 p.leader.length c6,.slice A7 p.rules.length c7] #[.string r.name,.int .i64 r.kind,.int .i64 r.fr,.int .i64 r.to,.int .i64 r.pf,.int .i64 r.pt,.slice E1 r.resp.length f1,.slice E2 r.guards.length f2,.slice E3 r.ex.length f3,.slice E4 r.fa.length f4,.int .i64 r.rd,.int .i64 r.wr,.slice E5 r.send.length f5,.int .i64 r.at_,.slice E6 r.left.length f6,.slice E7 r.right.length f7,.slice E8 r.parent.length f8,.int .i64 r.dir] p r) (hb:Below w.heap.size w w5)
  {u0 u1 u3 u4 u7 u8 u9 bB bM bX cf cr cE cS d3 df dp dq dr dt du dv dw dx dy dz dA dC dD dE dF dG dH dI dJ dK dL dN dO dP dQ dR dS dT dU dV dW dX dY dZ e0 e1 e2 e3 e4 e5 e6 e7 e8 e9 ea u64 eb ec ed ee ef eh ei ej ek el em en eo ep eq er et eu ev ew ey ez eA eB eD eF eG eH eI eJ eK eL eM eN eO bC bD bE bF bG bH bI bJ bK bL bN bO bP bQ bR bS bT bU bV bW bY bZ c0 c8 c9 ca cb cc cd ce cg ch ci cj ck cm cn co cp cq ct cu cv cw cx cy cz cA cB cD cF cG cH cJ cK cL cM cO cQ cR cT cU cV cW cX cY cZ d0 d1 d2 d4 d5 d6 d7 d8 d9 da db dc de dg dh di dj dk dl dm dn:Value}
  {Q:Exit→Act→World→Prop} (hN:Reg.NoQ Q)
  (hQ:∀(tm:Array Value) (w':World),tm[4]?.getD undef=.int .i64 (Ah id [Dv (p.messages.length:Int) r.guards,setE r.ex (p.states.length:Int),setE r.fa (p.states.length:Int),Bo r.rd (p.values.length:Int),Bo r.wr (p.values.length:Int),setE r.send (p.messages.length:Int)])→Below w.heap.size w w'→Q .normal ⟨tm,[]⟩ w'):
  (Ep Tryz.f170 13).wp Tryz.prog Q ⟨List.toArray (u0::u1::(.pointer (some ⟨g2,0,none⟩))::u3::u4::(.pointer (some ⟨g5,0,none⟩))::(.int .i64 (p.states.length:Int))::u7::u8::u9::bB::bM::bX::cf::cr::cE::cS::d3::df::dp::dq::dr::dt::du::dv::dw::
   dx::dy::dz::dA::dC::dD::dE::dF::dG::dH::dI::dJ::dK::dL::dN::dO::dP::dQ::dR::dS::dT::dU::dV::dW::dX::dY::dZ::e0::e1::e2::e3::e4::e5::e6::e7::e8::e9::
   ea::u64::eb::ec::ed::ee::ef::eh::ei::ej::ek::el::em::en::eo::ep::eq::er::et::eu::ev::ew::ey::ez::eA::eB::eD::eF::eG::eH::eI::eJ::eK::eL::eM::eN::eO::
   bC::bD::bE::bF::bG::bH::bI::bJ::bK::bL::bN::bO::bP::bQ::bR::bS::bT::bU::bV::bW::bY::bZ::c0::c8::c9::ca::cb::cc::cd::ce::cg::ch::ci::
   cj::ck::cm::cn::co::cp::cq::ct::cu::cv::cw::cx::cy::cz::cA::cB::cD::cF::cG::cH::cJ::cK::cL::cM::cO::cQ::cR::cT::cU::cV::cW::cX::cY::
   cZ::d0::d1::d2::d4::d5::d6::d7::d8::d9::da::db::dc::de::dg::dh::di::dj::dk::dl::dm::dn::[]),[]⟩ w5:=by
 conv=>arg 2; whnf
 have aV:=hide y
 have af:=hide hb
 have aY:=y.b2.cell
 have b8:=y.b5.cell
 have bi:=y.load2 rfl
 have bq:=y.load5 rfl
 clear y hb
 have z:=aV.out.at (As w5)
 have aZ:=z.b2.cell
 have b9:=z.b5.cell
 have bj:=z.load2 rfl
 have br:=z.load5 rfl
 have a4:=hide z
 have ag:=hide (af.out.trans ((As w5).mono af.out.size))
 clear z aY b8 bi bq
 refine Reg.region_cutI [0,0,2,7,0,16,0,127,0,256,0,2047,0,0,8192,32767,0,0,131072,524287,0,1048576,0,4194304,12582912,33554431,67108863,134217727,268435455] [0,1,2,4,5,6,8,9,10,12,13,14,16,17,18,20,21,22,23,24,3,7,11,15,19,25,26,27,28] (by kernel_rfl) hN ?_
 refine Reg.wI [0,1,2,4,5,6,8,9,10,12,13,14,16,17,18,20,21,22,23,24] [3,7,11,15,19,25,26,27,28] rfl fun Qf h=>?_
 go_wp2_with fail
 first | refine h _ _ ⟨rfl,?_⟩ | refine⟨rfl,?_⟩ | refine h _ _ ⟨by simp [Reg.fineT,Reg.intOp,Region.wanted,yielded,Reg.intFine,Reg.isInt,Act.eval],?_⟩
 try clear h
 refine Reg.aI 3 [7,11,15,19,25,26,27,28] [5,9,12,14,16,18,21,23] rfl fun Qf h=>?_
 simp only [gT,gS,gZ]
 go_wp2_with (go_at_call 210; refine Calls.ret (Pf a4.out.pr (Er a4.out.ru).2.1) ?_; rintro v w7 ⟨rfl,U⟩)
 first | refine h _ _ ⟨Reg.same_below (U) [5,9,12,14,16,18,21,23] rfl,?_⟩ | refine⟨Reg.same_below (U) [5,9,12,14,16,18,21,23] rfl,?_⟩
 try clear h
 have C:=a4.out.at U
 have b0:=C.b2.cell
 have ba:=C.b5.cell
 have bk:=C.load2 rfl
 have bs:=C.load5 rfl
 have a8:=hide C
 have ah:=hide (ag.out.trans (U.mono ag.out.size))
 clear U C aZ b9 bj br
 refine Reg.aI 7 [11,15,19,25,26,27,28] [9,12,14,16,18,21,23] rfl fun Qf h=>?_
 simp only [gT,gS,gZ]
 go_wp2_with (go_at_call 119; refine Calls.ret (DD (Er a8.out.ru).2.2.1) ?_; rintro v w8 ⟨rfl,V⟩)
 first | refine h _ _ ⟨Reg.same_below (V) [9,12,14,16,18,21,23] rfl,?_⟩ | refine⟨Reg.same_below (V) [9,12,14,16,18,21,23] rfl,?_⟩
 try clear h
 have E:=a8.out.at V
 have b1:=E.b2.cell
 have bb:=E.b5.cell
 have bl:=E.load2 rfl
 have bt:=E.load5 rfl
 have a9:=hide E
 have ai:=hide (ah.out.trans (V.mono ah.out.size))
 clear V E b0 ba bk bs
 refine Reg.aI 11 [15,19,25,26,27,28] [12,14,16,18,21,23] rfl fun Qf h=>?_
 simp only [gT,gS,gZ]
 go_wp2_with (go_at_call 119; refine Calls.ret (DD (Er a9.out.ru).2.2.2.1) ?_; rintro v w9 ⟨rfl,W⟩)
 first | refine h _ _ ⟨Reg.same_below (W) [12,14,16,18,21,23] rfl,?_⟩ | refine⟨Reg.same_below (W) [12,14,16,18,21,23] rfl,?_⟩
 try clear h
 have G:=a9.out.at W
 have b3:=G.b2.cell
 have bd:=G.b5.cell
 have bm:=G.load2 rfl
 have bu:=G.load5 rfl
 have aa:=hide G
 have aj:=hide (ai.out.trans (W.mono ai.out.size))
 clear W G b1 bb bl bt
 refine Reg.aI 15 [19,25,26,27,28] [16,18,21,23] rfl fun Qf h=>?_
 simp only [gT,gS,gZ]
 go_wp2_with (go_at_call 211; refine Calls.ret (FA aa.out.pr) ?_; rintro v wa ⟨rfl,Z⟩)
 first | refine h _ _ ⟨Reg.same_below (Z) [16,18,21,23] rfl,?_⟩ | refine⟨Reg.same_below (Z) [16,18,21,23] rfl,?_⟩
 try clear h
 have I:=aa.out.at Z
 have b4:=I.b2.cell
 have be:=I.b5.cell
 have bn:=I.load2 rfl
 have bv:=I.load5 rfl
 have ab:=hide I
 have ak:=hide (aj.out.trans (Z.mono aj.out.size))
 clear Z I b3 bd bm bu
 refine Reg.aI 19 [25,26,27,28] [21,23] rfl fun Qf h=>?_
 simp only [gT,gS,gZ]
 go_wp2_with (go_at_call 211; refine Calls.ret (FA ab.out.pr) ?_; rintro v wb ⟨rfl,a2⟩)
 first | refine h _ _ ⟨Reg.same_below (a2) [21,23] rfl,?_⟩ | refine⟨Reg.same_below (a2) [21,23] rfl,?_⟩
 try clear h
 have J:=ab.out.at a2
 have b6:=J.b2.cell
 have bf:=J.b5.cell
 have bo:=J.load2 rfl
 have bw:=J.load5 rfl
 have ad:=hide J
 have al:=hide (ak.out.trans (a2.mono ak.out.size))
 clear a2 J b4 be bn bv
 refine Reg.aI 25 [26,27,28] [] rfl fun Qf h=>?_
 simp only [gT,gS,gZ]
 go_wp2_with (go_at_call 119; refine Calls.ret (DD (Er ad.out.ru).2.2.2.2.1) ?_; rintro v wc ⟨rfl,a5⟩)
 first | refine h _ _ ⟨Reg.nm,?_⟩ | refine⟨Reg.nm,?_⟩
 try clear h
 have M:=ad.out.at a5
 have b7:=M.b2.cell
 have bg:=M.b5.cell
 have bp:=M.load2 rfl
 have bx:=M.load5 rfl
 have aW:=hide M
 have am:=hide (al.out.trans (a5.mono al.out.size))
 clear a5 M b6 bf bo bw
 obtain⟨wz,eV,an,a7,bh⟩:=Ag wc #[.int .i64 (Dv (p.messages.length:Int) r.guards),.int .i64 (setE r.ex (p.states.length:Int)),.int .i64 (setE r.fa (p.states.length:Int)),.int .i64 (Bo r.rd (p.values.length:Int)),.int .i64 (Bo r.wr (p.values.length:Int)),.int .i64 (setE r.send (p.messages.length:Int))] 36
 have aU:=hide (Cg (l:=[Dv (p.messages.length:Int) r.guards,setE r.ex (p.states.length:Int),setE r.fa (p.states.length:Int),Bo r.rd (p.values.length:Int),Bo r.wr (p.values.length:Int),setE r.send (p.messages.length:Int)]) a7 (by simp))
 have a6:=an
 clear a7 bh an
 have O:=aW.out.at a6
 have eR:=O.b2.cell
 have eS:=O.b5.cell
 have eT:=O.load2 rfl
 have eU:=O.load5 rfl
 have eQ:=hide O
 have aX:=hide (am.out.trans (a6.mono am.out.size))
 clear a6 O b7 bg bp bx
 refine Reg.wI [26] [27,28] rfl fun Qf h=>?_
 go_wp2_with fail
 first | refine h _ _ ⟨rfl,?_⟩ | refine⟨rfl,?_⟩ | refine h _ _ ⟨by simp [Reg.fineT,Reg.intOp,Region.wanted,yielded,Reg.intFine,Reg.isInt,Act.eval],?_⟩
 try clear h
 refine Reg.aI 27 [28] [] rfl fun Qf h=>?_
 simp only [gT,gS,gZ]
 go_wp2_with (go_at_call 120; refine(Ch (l:=[Dv (p.messages.length:Int) r.guards,setE r.ex (p.states.length:Int),setE r.fa (p.states.length:Int),Bo r.rd (p.values.length:Int),Bo r.wr (p.values.length:Int),setE r.send (p.messages.length:Int)]) aU.out).mono ?_; rintro e w' ⟨rfl,rfl⟩)
 first | refine h _ _ ⟨Reg.nm,?_⟩ | refine⟨Reg.nm,?_⟩
 try clear h
 refine Reg.wI [28] [] rfl fun Qf h=>?_
 go_wp2_with fail
 first | refine h _ _ ⟨rfl,?_⟩ | refine⟨rfl,?_⟩ | refine h _ _ ⟨by simp [Reg.fineT,Reg.intOp,Region.wanted,yielded,Reg.intFine,Reg.isInt,Act.eval],?_⟩
 try clear h
 first | refine Reg.restI_end ?_ | skip
 refine hQ _ _ (by first | rfl | simp) aX.out
theorem QO {w J:World} {g2 g5:Nat} {p:Am} {r:Az} {A1 A2 A3 A4 A5 A6 A7:Option Addr} {c1 c2 c3 c4 c5 c6 c7:Nat} {E1 E2 E3 E4 E5 E6 E7 E8:Option Addr} {f1 f2 f3 f4 f5 f6 f7 f8:Nat}
  (y:Co J g2 g5 #[.string p.name,.int .i64 p.topo,.slice A1 p.states.length c1,.slice A2 p.messages.length c2,.slice A3 p.values.length c3,.int .i64 p.fault,.slice A4 p.res.length c4,.slice A5 p.initial.length c5,.slice A6 p.leader.length c6,.slice A7 p.rules.length c7] #[.string r.name,.int .i64 r.kind,.int .i64 r.fr,.int .i64 r.to,.int .i64 r.pf,.int .i64 r.pt,.slice E1 r.resp.length f1,.slice E2 r.guards.length f2,.slice E3 r.ex.length f3,.slice E4 r.fa.length f4,.int .i64 r.rd,.int .i64 r.wr,.slice E5 r.send.length f5,.int .i64 r.at_,.slice E6 r.left.length f6,.slice E7 r.right.length f7,.slice E8 r.parent.length f8,.int .i64 r.dir] p r) (Z:Below w.heap.size w J)
  {u0 u1 u3 u4 u7 u8 u9 b1 bf bq bC bN bY cg ct cF cR cS cT cU cV cW cX cY cZ d0 d1 d3 d4 d5 d6 d7 d8 d9 da db dc df dg dh di dj dk dl dm dn dp dq dr dt du dv dw dx dy dz dA dB dC dD dE u64 dF dG dH dI dJ dL dM dN dO dP dQ dR dS dT dU dV dW dX dY dZ e0 e1 e2 e3 e4 e6 e7 e8 e9 ea eb ec ed ee ef b3 b4 b6 b7 b8 b9 ba bb bd be bg bh bi bj bk bl bm bn bo bp br bs bt bu bv bw bx bz bA bB bD bE bF bG bH bI bJ bK bL bM bO bP bQ bR bS bT bU bV bW bX bZ c0 c8 c9 ca cb cc cd ce cf ch ci cj ck cm cn co cp cq cr cu cv cw cx cy cz cA cB cD cE cG cH cJ cK cL cM cO cQ:Value}
  {Q:Exit→Act→World→Prop} (hN:Reg.NoQ Q)
  (hQ:∀(tm:Array Value) (w':World),tm[4]?.getD undef=.int .i64 (Ah id [AB r.pf (p.states.length:Int),AB r.pt (p.states.length:Int),Bo r.rd (p.values.length:Int),Bo r.wr (p.values.length:Int)])→Below w.heap.size w w'→Q .normal ⟨tm,[]⟩ w'):
  (Ep Tryz.f170 15).wp Tryz.prog Q ⟨List.toArray (u0::u1::(.pointer (some ⟨g2,0,none⟩))::u3::u4::(.pointer (some ⟨g5,0,none⟩))::(.int .i64 (p.states.length:Int))::u7::u8::u9::b1::bf::bq::bC::bN::bY::cg::ct::cF::cR::cS::cT::cU::cV::cW::cX::
   cY::cZ::d0::d1::d3::d4::d5::d6::d7::d8::d9::da::db::dc::df::dg::dh::di::dj::dk::dl::dm::dn::dp::dq::dr::dt::du::dv::dw::dx::dy::dz::dA::dB::dC::dD::
   dE::u64::dF::dG::dH::dI::dJ::dL::dM::dN::dO::dP::dQ::dR::dS::dT::dU::dV::dW::dX::dY::dZ::e0::e1::e2::e3::e4::e6::e7::e8::e9::ea::eb::ec::ed::ee::ef::
   b3::b4::b6::b7::b8::b9::ba::bb::bd::be::bg::bh::bi::bj::bk::bl::bm::bn::bo::bp::br::bs::bt::bu::bv::bw::bx::bz::bA::bB::bD::bE::bF::
   bG::bH::bI::bJ::bK::bL::bM::bO::bP::bQ::bR::bS::bT::bU::bV::bW::bX::bZ::c0::c8::c9::ca::cb::cc::cd::ce::cf::ch::ci::cj::ck::cm::cn::
   co::cp::cq::cr::cu::cv::cw::cx::cy::cz::cA::cB::cD::cE::cG::cH::cJ::cK::cL::cM::cO::cQ::[]),[]⟩ J:=by
 conv=>arg 2; whnf
 have aE:=hide y
 have a2:=hide Z
 have aH:=y.b2.cell
 have aM:=y.b5.cell
 have aR:=y.load2 rfl
 have aV:=y.load5 rfl
 clear y Z
 have z:=aE.out.at (As J)
 have aJ:=z.b2.cell
 have aN:=z.b5.cell
 have aS:=z.load2 rfl
 have aW:=z.load5 rfl
 have V:=hide z
 have a3:=hide (a2.out.trans ((As J).mono a2.out.size))
 clear z aH aM aR aV
 refine Reg.region_cutI [0,1,0,7,0,16,0,127,0,0,512,2047,0,0,8192,32767,65535,131071,262143] [0,1,2,4,5,6,8,9,10,12,13,14,3,7,11,15,16,17,18] (by kernel_rfl) hN ?_
 refine Reg.wI [0,1,2,4,5,6,8,9,10,12,13,14] [3,7,11,15,16,17,18] rfl fun Qf h=>?_
 go_wp2_with fail
 first | refine h _ _ ⟨rfl,?_⟩ | refine⟨rfl,?_⟩ | refine h _ _ ⟨by simp [Reg.fineT,Reg.intOp,Region.wanted,yielded,Reg.intFine,Reg.isInt,Act.eval],?_⟩
 try clear h
 refine Reg.aI 3 [7,11,15,16,17,18] [5,8,10,12,14] rfl fun Qf h=>?_
 simp only [gT,gS,gZ]
 go_wp2_with (go_at_call 173; refine(Cu _ _ _).mono ?_; rintro e w' ⟨rfl,rfl⟩)
 first | refine h _ _ ⟨Reg.same_below (Below.refl _ _) [5,8,10,12,14] rfl,?_⟩ | refine⟨Reg.same_below (Below.refl _ _) [5,8,10,12,14] rfl,?_⟩
 try clear h
 refine Reg.aI 7 [11,15,16,17,18] [8,10,12,14] rfl fun Qf h=>?_
 simp only [gT,gS,gZ]
 go_wp2_with (go_at_call 173; refine(Cu _ _ _).mono ?_; rintro e w' ⟨rfl,rfl⟩)
 first | refine h _ _ ⟨Reg.same_below (Below.refl _ _) [8,10,12,14] rfl,?_⟩ | refine⟨Reg.same_below (Below.refl _ _) [8,10,12,14] rfl,?_⟩
 try clear h
 refine Reg.aI 11 [15,16,17,18] [12,14] rfl fun Qf h=>?_
 simp only [gT,gS,gZ]
 go_wp2_with (go_at_call 211; refine Calls.ret (FA V.out.pr) ?_; rintro v wa ⟨rfl,I⟩)
 first | refine h _ _ ⟨Reg.same_below (I) [12,14] rfl,?_⟩ | refine⟨Reg.same_below (I) [12,14] rfl,?_⟩
 try clear h
 have C:=V.out.at I
 have aK:=C.b2.cell
 have aO:=C.b5.cell
 have aT:=C.load2 rfl
 have aX:=C.load5 rfl
 have W:=hide C
 have a4:=hide (a3.out.trans (I.mono a3.out.size))
 clear I C aJ aN aS aW
 refine Reg.aI 15 [16,17,18] [] rfl fun Qf h=>?_
 simp only [gT,gS,gZ]
 go_wp2_with (go_at_call 211; refine Calls.ret (FA W.out.pr) ?_; rintro v wb ⟨rfl,M⟩)
 first | refine h _ _ ⟨Reg.nm,?_⟩ | refine⟨Reg.nm,?_⟩
 try clear h
 have E:=W.out.at M
 have aL:=E.b2.cell
 have aP:=E.b5.cell
 have aU:=E.load2 rfl
 have aY:=E.load5 rfl
 have aF:=hide E
 have a5:=hide (a4.out.trans (M.mono a4.out.size))
 clear M E aK aO aT aX
 obtain⟨wz,em,a6,U,aQ⟩:=Ag wb #[.int .i64 (AB r.pf (p.states.length:Int)),.int .i64 (AB r.pt (p.states.length:Int)),.int .i64 (Bo r.rd (p.values.length:Int)),.int .i64 (Bo r.wr (p.values.length:Int))] 36
 have aD:=hide (Cg (l:=[AB r.pf (p.states.length:Int),AB r.pt (p.states.length:Int),Bo r.rd (p.values.length:Int),Bo r.wr (p.values.length:Int)]) U (by simp))
 have O:=a6
 clear U aQ a6
 have G:=aF.out.at O
 have ei:=G.b2.cell
 have ej:=G.b5.cell
 have ek:=G.load2 rfl
 have el:=G.load5 rfl
 have eh:=hide G
 have aG:=hide (a5.out.trans (O.mono a5.out.size))
 clear O G aL aP aU aY
 refine Reg.wI [16] [17,18] rfl fun Qf h=>?_
 go_wp2_with fail
 first | refine h _ _ ⟨rfl,?_⟩ | refine⟨rfl,?_⟩ | refine h _ _ ⟨by simp [Reg.fineT,Reg.intOp,Region.wanted,yielded,Reg.intFine,Reg.isInt,Act.eval],?_⟩
 try clear h
 refine Reg.aI 17 [18] [] rfl fun Qf h=>?_
 simp only [gT,gS,gZ]
 go_wp2_with (go_at_call 120; refine(Ch (l:=[AB r.pf (p.states.length:Int),AB r.pt (p.states.length:Int),Bo r.rd (p.values.length:Int),Bo r.wr (p.values.length:Int)]) aD.out).mono ?_; rintro e w' ⟨rfl,rfl⟩)
 first | refine h _ _ ⟨Reg.nm,?_⟩ | refine⟨Reg.nm,?_⟩
 try clear h
 refine Reg.wI [18] [] rfl fun Qf h=>?_
 go_wp2_with fail
 first | refine h _ _ ⟨rfl,?_⟩ | refine⟨rfl,?_⟩ | refine h _ _ ⟨by simp [Reg.fineT,Reg.intOp,Region.wanted,yielded,Reg.intFine,Reg.isInt,Act.eval],?_⟩
 try clear h
 first | refine Reg.restI_end ?_ | skip
 refine hQ _ _ (by first | rfl | simp) aG.out
theorem QP {w J:World} {g2 g5:Nat} {p:Am} {r:Az} {A1 A2 A3 A4 A5 A6 A7:Option Addr} {c1 c2 c3 c4 c5 c6 c7:Nat} {E1 E2 E3 E4 E5 E6 E7 E8:Option Addr} {f1 f2 f3 f4 f5 f6 f7 f8:Nat}
  (y:Co J g2 g5 #[.string p.name,.int .i64 p.topo,.slice A1 p.states.length c1,.slice A2 p.messages.length c2,.slice A3 p.values.length c3,.int .i64 p.fault,.slice A4 p.res.length c4,.slice A5 p.initial.length c5,.slice A6 p.leader.length c6,.slice A7 p.rules.length c7] #[.string r.name,.int .i64 r.kind,.int .i64 r.fr,.int .i64 r.to,.int .i64 r.pf,.int .i64 r.pt,.slice E1 r.resp.length f1,.slice E2 r.guards.length f2,.slice E3 r.ex.length f3,.slice E4 r.fa.length f4,.int .i64 r.rd,.int .i64 r.wr,.slice E5 r.send.length f5,.int .i64 r.at_,.slice E6 r.left.length f6,.slice E7 r.right.length f7,.slice E8 r.parent.length f8,.int .i64 r.dir] p r) (Z:Below w.heap.size w J)
  {u0 u1 u3 u4 u7 u8 u9 b1 bf bq bC bN bY cg ct cF cR cS cT cU cV cW cX cY cZ d0 d1 d3 d4 d5 d6 d7 d8 d9 da db dc df dg dh di dj dk dl dm dn dp dq dr dt du dv dw dx dy dz dA dB dC dD dE u64 dF dG dH dI dJ dL dM dN dO dP dQ dR dS dT dU dV dW dX dY dZ e0 e1 e2 e3 e4 e6 e7 e8 e9 ea eb ec ed ee ef b3 b4 b6 b7 b8 b9 ba bb bd be bg bh bi bj bk bl bm bn bo bp br bs bt bu bv bw bx bz bA bB bD bE bF bG bH bI bJ bK bL bM bO bP bQ bR bS bT bU bV bW bX bZ c0 c8 c9 ca cb cc cd ce cf ch ci cj ck cm cn co cp cq cr cu cv cw cx cy cz cA cB cD cE cG cH cJ cK cL cM cO cQ:Value}
  {Q:Exit→Act→World→Prop} (hN:Reg.NoQ Q)
  (hQ:∀(tm:Array Value) (w':World),tm[4]?.getD undef=.int .i64 (Ah id [C8 (p.states.length:Int) r.resp,Bo r.rd (p.values.length:Int),Bo r.wr (p.values.length:Int)])→Below w.heap.size w w'→Q .normal ⟨tm,[]⟩ w'):
  (Ep Tryz.f170 17).wp Tryz.prog Q ⟨List.toArray (u0::u1::(.pointer (some ⟨g2,0,none⟩))::u3::u4::(.pointer (some ⟨g5,0,none⟩))::(.int .i64 (p.states.length:Int))::u7::u8::u9::b1::bf::bq::bC::bN::bY::cg::ct::cF::cR::cS::cT::cU::cV::cW::cX::
   cY::cZ::d0::d1::d3::d4::d5::d6::d7::d8::d9::da::db::dc::df::dg::dh::di::dj::dk::dl::dm::dn::dp::dq::dr::dt::du::dv::dw::dx::dy::dz::dA::dB::dC::dD::
   dE::u64::dF::dG::dH::dI::dJ::dL::dM::dN::dO::dP::dQ::dR::dS::dT::dU::dV::dW::dX::dY::dZ::e0::e1::e2::e3::e4::e6::e7::e8::e9::ea::eb::ec::ed::ee::ef::
   b3::b4::b6::b7::b8::b9::ba::bb::bd::be::bg::bh::bi::bj::bk::bl::bm::bn::bo::bp::br::bs::bt::bu::bv::bw::bx::bz::bA::bB::bD::bE::bF::
   bG::bH::bI::bJ::bK::bL::bM::bO::bP::bQ::bR::bS::bT::bU::bV::bW::bX::bZ::c0::c8::c9::ca::cb::cc::cd::ce::cf::ch::ci::cj::ck::cm::cn::
   co::cp::cq::cr::cu::cv::cw::cx::cy::cz::cA::cB::cD::cE::cG::cH::cJ::cK::cL::cM::cO::cQ::[]),[]⟩ J:=by
 conv=>arg 2; whnf
 have aE:=hide y
 have a2:=hide Z
 have aH:=y.b2.cell
 have aM:=y.b5.cell
 have aR:=y.load2 rfl
 have aV:=y.load5 rfl
 clear y Z
 have z:=aE.out.at (As J)
 have aJ:=z.b2.cell
 have aN:=z.b5.cell
 have aS:=z.load2 rfl
 have aW:=z.load5 rfl
 have M:=hide z
 have a3:=hide (a2.out.trans ((As J).mono a2.out.size))
 clear z aH aM aR aV
 refine Reg.region_cutI [0,1,0,7,0,0,32,127,0,0,512,2047,4095,8191,16383] [0,1,2,4,5,6,8,9,10,3,7,11,12,13,14] (by kernel_rfl) hN ?_
 refine Reg.wI [0,1,2,4,5,6,8,9,10] [3,7,11,12,13,14] rfl fun Qf h=>?_
 go_wp2_with fail
 first | refine h _ _ ⟨rfl,?_⟩ | refine⟨rfl,?_⟩ | refine h _ _ ⟨by simp [Reg.fineT,Reg.intOp,Region.wanted,yielded,Reg.intFine,Reg.isInt,Act.eval],?_⟩
 try clear h
 refine Reg.aI 3 [7,11,12,13,14] [4,6,8,10] rfl fun Qf h=>?_
 simp only [gT,gS,gZ]
 go_wp2_with (go_at_call 212; refine(Rf (Er M.out.ru).1).mono ?_; rintro e w' ⟨rfl,rfl⟩)
 first | refine h _ _ ⟨Reg.same_below (Below.refl _ _) [4,6,8,10] rfl,?_⟩ | refine⟨Reg.same_below (Below.refl _ _) [4,6,8,10] rfl,?_⟩
 try clear h
 refine Reg.aI 7 [11,12,13,14] [8,10] rfl fun Qf h=>?_
 simp only [gT,gS,gZ]
 go_wp2_with (go_at_call 211; refine Calls.ret (FA M.out.pr) ?_; rintro v wa ⟨rfl,I⟩)
 first | refine h _ _ ⟨Reg.same_below (I) [8,10] rfl,?_⟩ | refine⟨Reg.same_below (I) [8,10] rfl,?_⟩
 try clear h
 have C:=M.out.at I
 have aK:=C.b2.cell
 have aO:=C.b5.cell
 have aT:=C.load2 rfl
 have aX:=C.load5 rfl
 have W:=hide C
 have a4:=hide (a3.out.trans (I.mono a3.out.size))
 clear I C aJ aN aS aW
 refine Reg.aI 11 [12,13,14] [] rfl fun Qf h=>?_
 simp only [gT,gS,gZ]
 go_wp2_with (go_at_call 211; refine Calls.ret (FA W.out.pr) ?_; rintro v wb ⟨rfl,O⟩)
 first | refine h _ _ ⟨Reg.nm,?_⟩ | refine⟨Reg.nm,?_⟩
 try clear h
 have E:=W.out.at O
 have aL:=E.b2.cell
 have aP:=E.b5.cell
 have aU:=E.load2 rfl
 have aY:=E.load5 rfl
 have aF:=hide E
 have a5:=hide (a4.out.trans (O.mono a4.out.size))
 clear O E aK aO aT aX
 obtain⟨wz,em,a6,V,aQ⟩:=Ag wb #[.int .i64 (C8 (p.states.length:Int) r.resp),.int .i64 (Bo r.rd (p.values.length:Int)),.int .i64 (Bo r.wr (p.values.length:Int))] 36
 have aD:=hide (Cg (l:=[C8 (p.states.length:Int) r.resp,Bo r.rd (p.values.length:Int),Bo r.wr (p.values.length:Int)]) V (by simp))
 have U:=a6
 clear V aQ a6
 have G:=aF.out.at U
 have ei:=G.b2.cell
 have ej:=G.b5.cell
 have ek:=G.load2 rfl
 have el:=G.load5 rfl
 have eh:=hide G
 have aG:=hide (a5.out.trans (U.mono a5.out.size))
 clear U G aL aP aU aY
 refine Reg.wI [12] [13,14] rfl fun Qf h=>?_
 go_wp2_with fail
 first | refine h _ _ ⟨rfl,?_⟩ | refine⟨rfl,?_⟩ | refine h _ _ ⟨by simp [Reg.fineT,Reg.intOp,Region.wanted,yielded,Reg.intFine,Reg.isInt,Act.eval],?_⟩
 try clear h
 refine Reg.aI 13 [14] [] rfl fun Qf h=>?_
 simp only [gT,gS,gZ]
 go_wp2_with (go_at_call 120; refine(Ch (l:=[C8 (p.states.length:Int) r.resp,Bo r.rd (p.values.length:Int),Bo r.wr (p.values.length:Int)]) aD.out).mono ?_; rintro e w' ⟨rfl,rfl⟩)
 first | refine h _ _ ⟨Reg.nm,?_⟩ | refine⟨Reg.nm,?_⟩
 try clear h
 refine Reg.wI [14] [] rfl fun Qf h=>?_
 go_wp2_with fail
 first | refine h _ _ ⟨rfl,?_⟩ | refine⟨rfl,?_⟩ | refine h _ _ ⟨by simp [Reg.fineT,Reg.intOp,Region.wanted,yielded,Reg.intFine,Reg.isInt,Act.eval],?_⟩
 try clear h
 first | refine Reg.restI_end ?_ | skip
 refine hQ _ _ (by first | rfl | simp) aG.out
theorem F0 {w O:World} {g2 g5:Nat} {p:Am} {r:Az} {A1 A2 A3 A4 A5 A6 A7:Option Addr} {c1 c2 c3 c4 c5 c6 c7:Nat} {E1 E2 E3 E4 E5 E6 E7 E8:Option Addr} {f1 f2 f3 f4 f5 f6 f7 f8:Nat} {m:Bool}
  (y:Co O g2 g5 #[.string p.name,.int .i64 p.topo,.slice A1 p.states.length c1,.slice A2 p.messages.length c2,.slice A3 p.values.length c3,.int .i64 p.fault,.slice A4 p.res.length c4,.slice A5 p.initial.length c5,.slice A6 p.leader.length c6,.slice A7 p.rules.length c7] #[.string r.name,.int .i64 r.kind,.int .i64 r.fr,.int .i64 r.to,.int .i64 r.pf,.int .i64 r.pt,.slice E1 r.resp.length f1,.slice E2 r.guards.length f2,.slice E3 r.ex.length f3,.slice E4 r.fa.length f4,.int .i64 r.rd,.int .i64 r.wr,.slice E5 r.send.length f5,.int .i64 r.at_,.slice E6 r.left.length f6,.slice E7 r.right.length f7,.slice E8 r.parent.length f8,.int .i64 r.dir] p r) (hb:Below w.heap.size w O)
  {u0 u1 u3 u4 u7 u8 bb bn bz bK bV cd cp cB cQ cZ d0 d1 d2 d3 d4 d5 d6 d7 d8 d9 db dc de df dg dh di dj dk dl dn dp dq dr dt du dv dw dx dy dz dA dB dC dD dE dF dG dH dI dJ dK dL dM u64 dN dO dP dQ dR dT dU dV dW dX dY dZ e0 e1 e2 e3 e4 e5 e6 e7 e8 e9 ea eb ec ed ee ef eg eh ei ej ek el em bd be bf bg bh bi bj bk bl bm bo bp bq br bs bt bu bv bw bx bA bB bC bD bE bF bG bH bI bJ bL bM bN bO bP bQ bR bS bT bU bW bX bY bZ c0 c8 c9 ca cb cc ce cf cg ch ci cj ck cm cn co cq cr ct cu cv cw cx cy cz cA cD cE cF cG cH cJ cK cL cM cO cR cS cT cU cV cW cX cY:Value}
  {Q:Exit→Act→World→Prop} (hN:Reg.NoQ Q)
  (hQ:∀(tm:Array Value) (w':World),tm[4]?.getD undef=.int .i64 (Ah id [setE r.left (p.states.length:Int),setE r.right (p.states.length:Int),setE r.parent (p.states.length:Int),Ad m 1])→Below w.heap.size w w'→Q .normal ⟨tm,[]⟩ w'):
  (Ep Tryz.f170 20).wp Tryz.prog Q ⟨List.toArray (u0::u1::(.pointer (some ⟨g2,0,none⟩))::u3::u4::(.pointer (some ⟨g5,0,none⟩))::(.int .i64 (p.states.length:Int))::u7::u8::(.bool m)::bb::bn::bz::bK::bV::cd::cp::cB::cQ::cZ::d0::d1::d2::d3::d4::
   d5::d6::d7::d8::d9::db::dc::de::df::dg::dh::di::dj::dk::dl::dn::dp::dq::dr::dt::du::dv::dw::dx::dy::dz::dA::dB::dC::dD::dE::dF::dG::dH::dI::dJ::dK::
   dL::dM::u64::dN::dO::dP::dQ::dR::dT::dU::dV::dW::dX::dY::dZ::e0::e1::e2::e3::e4::e5::e6::e7::e8::e9::ea::eb::ec::ed::ee::ef::eg::eh::ei::ej::ek::el::
   em::bd::be::bf::bg::bh::bi::bj::bk::bl::bm::bo::bp::bq::br::bs::bt::bu::bv::bw::bx::bA::bB::bC::bD::bE::bF::bG::bH::bI::bJ::bL::bM::
   bN::bO::bP::bQ::bR::bS::bT::bU::bW::bX::bY::bZ::c0::c8::c9::ca::cb::cc::ce::cf::cg::ch::ci::cj::ck::cm::cn::co::cq::cr::ct::cu::cv::
   cw::cx::cy::cz::cA::cD::cE::cF::cG::cH::cJ::cK::cL::cM::cO::cR::cS::cT::cU::cV::cW::cX::cY::[]),[]⟩ O:=by
 conv=>arg 2; whnf
 have aJ:=hide y
 have a5:=hide hb
 have aM:=y.b2.cell
 have aR:=y.b5.cell
 have aX:=y.load2 rfl
 have b3:=y.load5 rfl
 clear y hb
 have z:=aJ.out.at (As O)
 have aN:=z.b2.cell
 have aS:=z.b5.cell
 have aY:=z.load2 rfl
 have b4:=z.load5 rfl
 have Z:=hide z
 have a6:=hide (a5.out.trans ((As O).mono a5.out.size))
 clear z aM aR aX b3
 refine Reg.region_cutI [0,1,0,7,0,16,0,127,0,256,0,2047,0,8191,16383,32767,65535] [0,1,2,4,5,6,8,9,10,12,3,7,11,13,14,15,16] (by kernel_rfl) hN ?_
 refine Reg.wI [0,1,2,4,5,6,8,9,10,12] [3,7,11,13,14,15,16] rfl fun Qf h=>?_
 go_wp2_with fail
 first | refine h _ _ ⟨rfl,?_⟩ | refine⟨rfl,?_⟩ | refine h _ _ ⟨by simp [Reg.fineT,Reg.intOp,Region.wanted,yielded,Reg.intFine,Reg.isInt,Act.eval],?_⟩
 try clear h
 refine Reg.aI 3 [7,11,13,14,15,16] [5,9] rfl fun Qf h=>?_
 simp only [gT,gS,gZ]
 go_wp2_with (go_at_call 119; refine Calls.ret (DD (Er Z.out.ru).2.2.2.2.2.1) ?_; rintro v wa ⟨rfl,J⟩)
 first | refine h _ _ ⟨Reg.same_below (J) [5,9] rfl,?_⟩ | refine⟨Reg.same_below (J) [5,9] rfl,?_⟩
 try clear h
 have C:=Z.out.at J
 have aO:=C.b2.cell
 have aT:=C.b5.cell
 have aZ:=C.load2 rfl
 have b6:=C.load5 rfl
 have a2:=hide C
 have a7:=hide (a6.out.trans (J.mono a6.out.size))
 clear J C aN aS aY b4
 refine Reg.aI 7 [11,13,14,15,16] [9] rfl fun Qf h=>?_
 simp only [gT,gS,gZ]
 go_wp2_with (go_at_call 119; refine Calls.ret (DD (Er a2.out.ru).2.2.2.2.2.2.1) ?_; rintro v wb ⟨rfl,M⟩)
 first | refine h _ _ ⟨Reg.same_below (M) [9] rfl,?_⟩ | refine⟨Reg.same_below (M) [9] rfl,?_⟩
 try clear h
 have E:=a2.out.at M
 have aP:=E.b2.cell
 have aU:=E.b5.cell
 have b0:=E.load2 rfl
 have b7:=E.load5 rfl
 have a3:=hide E
 have a8:=hide (a7.out.trans (M.mono a7.out.size))
 clear M E aO aT aZ b6
 refine Reg.aI 11 [13,14,15,16] [] rfl fun Qf h=>?_
 simp only [gT,gS,gZ]
 go_wp2_with (go_at_call 119; refine Calls.ret (DD (Er a3.out.ru).2.2.2.2.2.2.2) ?_; rintro v wc ⟨rfl,U⟩)
 first | refine h _ _ ⟨Reg.nm,?_⟩ | refine⟨Reg.nm,?_⟩
 try clear h
 have G:=a3.out.at U
 have aQ:=G.b2.cell
 have aV:=G.b5.cell
 have b1:=G.load2 rfl
 have b8:=G.load5 rfl
 have aK:=hide G
 have a9:=hide (a8.out.trans (U.mono a8.out.size))
 clear U G aP aU b0 b7
 refine Reg.aI 13 [14,15,16] [] rfl fun Qf h=>?_
 simp only [gT,gS,gZ]
 go_wp2_with (go_at_call 121; refine(Cd _ _ _).mono ?_; rintro e w' ⟨rfl,rfl⟩)
 first | refine h _ _ ⟨Reg.nm,?_⟩ | refine⟨Reg.nm,?_⟩
 try clear h
 obtain⟨wz,eu,aa,W,aW⟩:=Ag wc #[.int .i64 (setE r.left (p.states.length:Int)),.int .i64 (setE r.right (p.states.length:Int)),.int .i64 (setE r.parent (p.states.length:Int)),.int .i64 (Ad m 1)] 36
 have aH:=hide (Cg (l:=[setE r.left (p.states.length:Int),setE r.right (p.states.length:Int),setE r.parent (p.states.length:Int),Ad m 1]) W (by simp))
 have V:=aa
 clear W aW aa
 have I:=aK.out.at V
 have ep:=I.b2.cell
 have eq:=I.b5.cell
 have er:=I.load2 rfl
 have et:=I.load5 rfl
 have eo:=hide I
 have aL:=hide (a9.out.trans (V.mono a9.out.size))
 clear V I aQ aV b1 b8
 refine Reg.wI [14] [15,16] rfl fun Qf h=>?_
 go_wp2_with fail
 first | refine h _ _ ⟨rfl,?_⟩ | refine⟨rfl,?_⟩ | refine h _ _ ⟨by simp [Reg.fineT,Reg.intOp,Region.wanted,yielded,Reg.intFine,Reg.isInt,Act.eval],?_⟩
 try clear h
 refine Reg.aI 15 [16] [] rfl fun Qf h=>?_
 simp only [gT,gS,gZ]
 go_wp2_with (go_at_call 120; refine(Ch (l:=[setE r.left (p.states.length:Int),setE r.right (p.states.length:Int),setE r.parent (p.states.length:Int),Ad m 1]) aH.out).mono ?_; rintro e w' ⟨rfl,rfl⟩)
 first | refine h _ _ ⟨Reg.nm,?_⟩ | refine⟨Reg.nm,?_⟩
 try clear h
 refine Reg.wI [16] [] rfl fun Qf h=>?_
 go_wp2_with fail
 first | refine h _ _ ⟨rfl,?_⟩ | refine⟨rfl,?_⟩ | refine h _ _ ⟨by simp [Reg.fineT,Reg.intOp,Region.wanted,yielded,Reg.intFine,Reg.isInt,Act.eval],?_⟩
 try clear h
 first | refine Reg.restI_end ?_ | skip
 refine hQ _ _ (by first | rfl | simp) aL.out
theorem Kd {w z:World} {g2 g5:Nat} {p:Am} {r:Az} {A1 A2 A3 A4 A5 A6 A7:Option Addr} {c1 c2 c3 c4 c5 c6 c7:Nat} {E1 E2 E3 E4 E5 E6 E7 E8:Option Addr} {f1 f2 f3 f4 f5 f6 f7 f8:Nat} {U M:Int}
  (E:Co z g2 g5 #[.string p.name,.int .i64 p.topo,.slice A1 p.states.length c1,.slice A2 p.messages.length c2,.slice A3 p.values.length c3,.int .i64 p.fault,.slice A4 p.res.length c4,.slice A5 p.initial.length c5,.slice A6 p.leader.length c6,.slice A7 p.rules.length c7] #[.string r.name,.int .i64 r.kind,.int .i64 r.fr,.int .i64 r.to,.int .i64 r.pf,.int .i64 r.pt,.slice E1 r.resp.length f1,.slice E2 r.guards.length f2,.slice E3 r.ex.length f3,.slice E4 r.fa.length f4,.int .i64 r.rd,.int .i64 r.wr,.slice E5 r.send.length f5,.int .i64 r.at_,.slice E6 r.left.length f6,.slice E7 r.right.length f7,.slice E8 r.parent.length f8,.int .i64 r.dir] p r) (hb:Below w.heap.size w z)
  {u0 u1 u3 u4 u7 u8 u9 bj bu bG bR c9 ck cx cH cJ cK cL cM cO cQ cR cS cT cU cW cX cY cZ d0 d1 d2 d3 d4 d5 d7 d8 d9 da db dc de df dg dh di dj dk dl dm dn dp dq dr dt du dv dw dx u64 dy dz dA dB dC dE dF dG dH dI dJ dK dL dM dN dO dP dQ dR dS dT dU dV dW dX dZ e0 e1 e2 e3 e4 e5 e6 e7 e8 aW aX aY aZ b0 b1 b3 b4 b6 b7 b8 b9 ba bb bd be bf bg bh bi bk bl bm bn bo bp bq br bs bt bv bw bx bz bA bB bC bD bE bF bH bI bJ bK bL bM bN bO bP bQ bS bT bU bV bW bX bY bZ c0 c8 ca cb cc cd ce cf cg ch ci cj cm cn co cp cq cr ct cu cv cw cy cz cA cB cD cE cF cG:Value}
  {Q:Exit→Act→World→Prop} (hN:Reg.NoQ Q)
  (hQ:∀(tm:Array Value) (w':World),tm[4]?.getD undef=.int .i64 (Ah id [AB r.pf (p.states.length:Int),AB r.pt (p.states.length:Int),Ad (decide (r.dir<U)||decide (M<r.dir)) 1])→Below w.heap.size w w'→Q .normal ⟨tm,[]⟩ w'):
  (Ep Tryz.f170 24).wp Tryz.prog Q ⟨List.toArray (u0::u1::(.pointer (some ⟨g2,0,none⟩))::u3::u4::(.pointer (some ⟨g5,0,none⟩))::(.int .i64 (p.states.length:Int))::u7::u8::u9::(.int .i64 U)::(.int .i64 M)::bj::bu::bG::bR::c9::ck::cx::cH::cJ::cK::cL::
   cM::cO::cQ::cR::cS::cT::cU::cW::cX::cY::cZ::d0::d1::d2::d3::d4::d5::d7::d8::d9::da::db::dc::de::df::dg::dh::di::dj::dk::dl::dm::dn::dp::dq::dr::dt::
   du::dv::dw::dx::u64::dy::dz::dA::dB::dC::dE::dF::dG::dH::dI::dJ::dK::dL::dM::dN::dO::dP::dQ::dR::dS::dT::dU::dV::dW::dX::dZ::e0::e1::e2::e3::e4::e5::
   e6::e7::e8::aW::aX::aY::aZ::b0::b1::b3::b4::b6::b7::b8::b9::ba::bb::bd::be::bf::bg::bh::bi::bk::bl::bm::bn::bo::bp::bq::br::bs::bt::
   bv::bw::bx::bz::bA::bB::bC::bD::bE::bF::bH::bI::bJ::bK::bL::bM::bN::bO::bP::bQ::bS::bT::bU::bV::bW::bX::bY::bZ::c0::c8::ca::cb::cc::
   cd::ce::cf::cg::ch::ci::cj::cm::cn::co::cp::cq::cr::ct::cu::cv::cw::cy::cz::cA::cB::cD::cE::cF::cG::[]),[]⟩ z:=by
 conv=>arg 2; whnf
 have aG:=hide E
 have a6:=hide hb
 have aK:=E.b2.cell
 have aM:=E.b5.cell
 have aO:=E.load2 rfl
 have aQ:=E.load5 rfl
 clear E hb
 have G:=aG.out.at (As z)
 have a7:=G.b2.cell
 have a8:=G.b5.cell
 have a9:=G.load2 rfl
 have aa:=G.load5 rfl
 have a4:=hide G
 have O:=hide (a6.out.trans ((As z).mono a6.out.size))
 clear G aK aM aO aQ
 by_cases ha:r.dir<U
 ·
  refine Reg.region_cutI [0,1,0,7,0,16,0,127,0,256,0,1792,4095,8191,16383,8191,65535,131071,262143,524287,1048575,2097151] [0,1,2,4,5,6,8,9,10,11,3,7,12,13,14,15,16,17,18,19,20,21] (by kernel_rfl) hN ?_
  refine Reg.wI [0,1,2,4,5,6,8,9,10,11] [3,7,12,13,14,15,16,17,18,19,20,21] rfl fun Qf h=>?_
  go_wp2_with fail
  first | refine h _ _ ⟨rfl,?_⟩ | refine⟨rfl,?_⟩ | refine h _ _ ⟨by simp [Reg.fineT,Reg.intOp,Region.wanted,yielded,Reg.intFine,Reg.isInt,Act.eval],?_⟩
  try clear h
  refine Reg.aI 3 [7,12,13,14,15,16,17,18,19,20,21] [5,9] rfl fun Qf h=>?_
  simp only [gT,gS,gZ]
  go_wp2_with (go_at_call 173; refine(Cu _ _ _).mono ?_; rintro e w' ⟨rfl,rfl⟩)
  first | refine h _ _ ⟨Reg.same_below (Below.refl _ _) [5,9] rfl,?_⟩ | refine⟨Reg.same_below (Below.refl _ _) [5,9] rfl,?_⟩
  try clear h
  refine Reg.aI 7 [12,13,14,15,16,17,18,19,20,21] [9] rfl fun Qf h=>?_
  simp only [gT,gS,gZ]
  go_wp2_with (go_at_call 173; refine(Cu _ _ _).mono ?_; rintro e w' ⟨rfl,rfl⟩)
  first | refine h _ _ ⟨Reg.same_below (Below.refl _ _) [9] rfl,?_⟩ | refine⟨Reg.same_below (Below.refl _ _) [9] rfl,?_⟩
  try clear h
  refine Reg.wI [12,13,14,15,16,17] [18,19,20,21] rfl fun Qf h=>?_
  go_wp2_with fail
  first | refine h _ _ ⟨rfl,?_⟩ | refine⟨rfl,?_⟩ | refine h _ _ ⟨by simp [Reg.fineT,Reg.intOp,Region.wanted,yielded,Reg.intFine,Reg.isInt,Act.eval],?_⟩
  try clear h
  refine Reg.aI 18 [19,20,21] [] rfl fun Qf h=>?_
  simp only [gT,gS,gZ]
  go_wp2_with (go_at_call 121; refine(Cd _ _ _).mono ?_; rintro e w' ⟨rfl,rfl⟩)
  first | refine h _ _ ⟨Reg.nm,?_⟩ | refine⟨Reg.nm,?_⟩
  try clear h
  obtain⟨wz,aT,J,I,Z⟩:=Ag z.drew #[.int .i64 (AB r.pf (p.states.length:Int)),.int .i64 (AB r.pt (p.states.length:Int)),.int .i64 (Ad true 1)] 36
  have V:=hide (Cg (l:=[AB r.pf (p.states.length:Int),AB r.pt (p.states.length:Int),Ad true 1]) I (by simp))
  have C:Below z.drew.heap.size z.drew wz:=J
  clear I Z J
  have y:=a4.out.at C
  have aL:=y.b2.cell
  have aN:=y.b5.cell
  have aP:=y.load2 rfl
  have aR:=y.load5 rfl
  have aH:=hide y
  have W:=hide (O.out.trans (C.mono O.out.size))
  clear C y a7 a8 a9 aa
  refine Reg.wI [19] [20,21] rfl fun Qf h=>?_
  go_wp2_with fail
  first | refine h _ _ ⟨rfl,?_⟩ | refine⟨rfl,?_⟩ | refine h _ _ ⟨by simp [Reg.fineT,Reg.intOp,Region.wanted,yielded,Reg.intFine,Reg.isInt,Act.eval],?_⟩
  try clear h
  refine Reg.aI 20 [21] [] rfl fun Qf h=>?_
  simp only [gT,gS,gZ]
  go_wp2_with (go_at_call 120; refine(Ch (l:=[AB r.pf (p.states.length:Int),AB r.pt (p.states.length:Int),Ad true 1]) V.out).mono ?_; rintro e w' ⟨rfl,rfl⟩)
  first | refine h _ _ ⟨Reg.nm,?_⟩ | refine⟨Reg.nm,?_⟩
  try clear h
  refine Reg.wI [21] [] rfl fun Qf h=>?_
  go_wp2_with fail
  first | refine h _ _ ⟨rfl,?_⟩ | refine⟨rfl,?_⟩ | refine h _ _ ⟨by simp [Reg.fineT,Reg.intOp,Region.wanted,yielded,Reg.intFine,Reg.isInt,Act.eval],?_⟩
  try clear h
  first | refine Reg.restI_end ?_ | skip
  refine hQ _ _ ?_ W.out
  simp [ha]
 ·
  refine Reg.region_cutI [0,1,0,7,0,16,0,127,0,256,0,1792,4095,8191,16383,8191,65535,131071,262143,524287,1048575,2097151] [0,1,2,4,5,6,8,9,10,11,3,7,12,13,14,15,16,17,18,19,20,21] (by kernel_rfl) hN ?_
  refine Reg.wI [0,1,2,4,5,6,8,9,10,11] [3,7,12,13,14,15,16,17,18,19,20,21] rfl fun Qf h=>?_
  go_wp2_with fail
  first | refine h _ _ ⟨rfl,?_⟩ | refine⟨rfl,?_⟩ | refine h _ _ ⟨by simp [Reg.fineT,Reg.intOp,Region.wanted,yielded,Reg.intFine,Reg.isInt,Act.eval],?_⟩
  try clear h
  refine Reg.aI 3 [7,12,13,14,15,16,17,18,19,20,21] [5,9] rfl fun Qf h=>?_
  simp only [gT,gS,gZ]
  go_wp2_with (go_at_call 173; refine(Cu _ _ _).mono ?_; rintro e w' ⟨rfl,rfl⟩)
  first | refine h _ _ ⟨Reg.same_below (Below.refl _ _) [5,9] rfl,?_⟩ | refine⟨Reg.same_below (Below.refl _ _) [5,9] rfl,?_⟩
  try clear h
  refine Reg.aI 7 [12,13,14,15,16,17,18,19,20,21] [9] rfl fun Qf h=>?_
  simp only [gT,gS,gZ]
  go_wp2_with (go_at_call 173; refine(Cu _ _ _).mono ?_; rintro e w' ⟨rfl,rfl⟩)
  first | refine h _ _ ⟨Reg.same_below (Below.refl _ _) [9] rfl,?_⟩ | refine⟨Reg.same_below (Below.refl _ _) [9] rfl,?_⟩
  try clear h
  refine Reg.wI [12,13,14,15,16,17] [18,19,20,21] rfl fun Qf h=>?_
  go_wp2_with fail
  first | refine h _ _ ⟨rfl,?_⟩ | refine⟨rfl,?_⟩ | refine h _ _ ⟨by simp [Reg.fineT,Reg.intOp,Region.wanted,yielded,Reg.intFine,Reg.isInt,Act.eval],?_⟩
  try clear h
  refine Reg.aI 18 [19,20,21] [] rfl fun Qf h=>?_
  simp only [gT,gS,gZ]
  go_wp2_with (go_at_call 121; refine(Cd _ _ _).mono ?_; rintro e w' ⟨rfl,rfl⟩)
  first | refine h _ _ ⟨Reg.nm,?_⟩ | refine⟨Reg.nm,?_⟩
  try clear h
  obtain⟨wz,aT,J,I,Z⟩:=Ag z.drew #[.int .i64 (AB r.pf (p.states.length:Int)),.int .i64 (AB r.pt (p.states.length:Int)),.int .i64 (Ad (decide (M<r.dir)) 1)] 36
  have V:=hide (Cg (l:=[AB r.pf (p.states.length:Int),AB r.pt (p.states.length:Int),Ad (decide (M<r.dir)) 1]) I (by simp))
  have C:Below z.drew.heap.size z.drew wz:=J
  clear I Z J
  have y:=a4.out.at C
  have aL:=y.b2.cell
  have aN:=y.b5.cell
  have aP:=y.load2 rfl
  have aR:=y.load5 rfl
  have aH:=hide y
  have W:=hide (O.out.trans (C.mono O.out.size))
  clear C y a7 a8 a9 aa
  refine Reg.wI [19] [20,21] rfl fun Qf h=>?_
  go_wp2_with fail
  first | refine h _ _ ⟨rfl,?_⟩ | refine⟨rfl,?_⟩ | refine h _ _ ⟨by simp [Reg.fineT,Reg.intOp,Region.wanted,yielded,Reg.intFine,Reg.isInt,Act.eval],?_⟩
  try clear h
  refine Reg.aI 20 [21] [] rfl fun Qf h=>?_
  simp only [gT,gS,gZ]
  go_wp2_with (go_at_call 120; refine(Ch (l:=[AB r.pf (p.states.length:Int),AB r.pt (p.states.length:Int),Ad (decide (M<r.dir)) 1]) V.out).mono ?_; rintro e w' ⟨rfl,rfl⟩)
  first | refine h _ _ ⟨Reg.nm,?_⟩ | refine⟨Reg.nm,?_⟩
  try clear h
  refine Reg.wI [21] [] rfl fun Qf h=>?_
  go_wp2_with fail
  first | refine h _ _ ⟨rfl,?_⟩ | refine⟨rfl,?_⟩ | refine h _ _ ⟨by simp [Reg.fineT,Reg.intOp,Region.wanted,yielded,Reg.intFine,Reg.isInt,Act.eval],?_⟩
  try clear h
  first | refine Reg.restI_end ?_ | skip
  refine hQ _ _ ?_ W.out
  have hn:¬r.dir<U:=by omega
  rw [decide_eq_false hn,Bool.false_or]
  first | rfl | simp
end Go.Proofs.YtfcfpoemojjglaaGreatDoor.K
