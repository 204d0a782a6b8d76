/-
  Part SG of a proof.
-/
import Derived.Test.YtfcfpoemojjglaaGreatDoorPA
import Derived.Test.YtfcfpoemojjglaaGreatDoorSF
set_option maxHeartbeats 16000000
set_option maxRecDepth 100000
set_option linter.unusedVariables false
set_option linter.unusedSimpArgs false
namespace Go.Proofs.YtfcfpoemojjglaaGreatDoor
open Go.RowKit
set_option maxHeartbeats 16000000
set_option maxRecDepth 100000
theorem aAe {w0 w:World} {gd gm g3 g5 g11 n L r:Nat} {d:Drw} {ls:Lst} {S:List (Nme×Nat)} {rc:Array Value} {left right:List Int} {f t:Int} (h:DrS w0 w gd gm d n ls S) (hL:d.L=L) (cq:L≤60) (hr:K4 w0 rc f t left right) (U:(g3,99,rc)∈ls)
  (V:(g5,161,#[.pointer (some ⟨gd,0,none⟩)])∈ls) (M:(g11,3,#[.int .i64 (r:Int)])∈ls) (hn:n≤10000)
  {u0 u1 u2 u4 u6 u7 u8 u9 a6 cM ap aC aO aP aQ aR aS aU aV aW aX aY aZ b0 b4 b5 b6 b7 b8 b9 ba bb bc bd be bf bg bi bj bk bl bm bn bo bp bq br bs bt bu bv bw bx bz bA bB bC bE bF bG bH u64 bI bJ bK bL bM bO bP bQ bR bS bT bU bV bW bX bY bZ c0 c4 c5 c6 c7 c8 c9 ca cc cd ce cf cg ch ci cj ck cl a7 a8 a9 cz cA cB cD cE cF cG cH cJ cK cL aa ab ac ad ae af ag ah ai aj ak al am an ao aq ar au av aw ax ay az aA aB aD aE aF aG aH aJ aK aL aM aN:Value}
  {Q:Exit→Act→World→Prop} (hN:Reg.NoQ Q)
  (hQ:∀(d2 cQ cR cS cT cU cV cW cX cY cZ d0 d1:Value) (w':World) (S':List (Nme×Nat)),DrS w0 w' gd gm (Lb d left r 2) (n+242) ls S'→(∀p∈S,p∈S')→(Lb d left r 2).L=L→Q (.exit 4) ⟨List.toArray (u0::u1::u2::(.pointer (some ⟨g3,0,none⟩))::u4::(.pointer (some ⟨g5,0,none⟩))::u6::u7::u8::u9::a6::(.pointer (some ⟨g11,0,none⟩))::d2::ap::aC::aO::aP::aQ::aR::aS::aU::aV::aW::aX::aY::aZ::
   b0::b4::b5::b6::b7::b8::b9::ba::bb::bc::bd::be::bf::bg::bi::bj::bk::bl::bm::bn::bo::bp::bq::br::bs::bt::bu::bv::bw::bx::bz::bA::bB::bC::bE::bF::bG::
   bH::u64::bI::bJ::bK::bL::bM::bO::bP::bQ::bR::bS::bT::bU::bV::bW::bX::bY::bZ::c0::c4::c5::c6::c7::c8::c9::ca::cc::cd::ce::cf::cg::ch::ci::cj::ck::cl::
   a7::a8::a9::cQ::cR::cS::cT::cU::cV::cW::cX::cY::cZ::d0::d1::aa::ab::ac::ad::ae::af::ag::ah::ai::aj::ak::al::am::an::ao::aq::ar::au::
   av::aw::ax::ay::az::aA::aB::aD::aE::aF::aG::aH::aJ::aK::aL::aM::aN::[]),[]⟩ w'):
  (Code.loop (CG Tryz.f104 2)).wp Tryz.prog Q ⟨List.toArray (u0::u1::u2::(.pointer (some ⟨g3,0,none⟩))::u4::(.pointer (some ⟨g5,0,none⟩))::u6::u7::u8::u9::a6::(.pointer (some ⟨g11,0,none⟩))::cM::ap::aC::aO::aP::aQ::aR::aS::aU::aV::aW::aX::aY::aZ::
   b0::b4::b5::b6::b7::b8::b9::ba::bb::bc::bd::be::bf::bg::bi::bj::bk::bl::bm::bn::bo::bp::bq::br::bs::bt::bu::bv::bw::bx::bz::bA::bB::bC::bE::bF::bG::
   bH::u64::bI::bJ::bK::bL::bM::bO::bP::bQ::bR::bS::bT::bU::bV::bW::bX::bY::bZ::c0::c4::c5::c6::c7::c8::c9::ca::cc::cd::ce::cf::cg::ch::ci::cj::ck::cl::
   a7::a8::a9::(.int .i64 0)::cz::cA::cB::cD::cE::cF::cG::cH::cJ::cK::cL::aa::ab::ac::ad::ae::af::ag::ah::ai::aj::ak::al::am::an::ao::aq::
   ar::au::av::aw::ax::ay::az::aA::aB::aD::aE::aF::aG::aH::aJ::aK::aL::aM::aN::[]),[]⟩ w:=by
 conv=>arg 2; arg 1; whnf
 have hH:=hide h
 have cw:=hide hr
 have cm:=hide U
 have y:=hide V
 have O:=hide M
 have cr:=hide hL
 clear h hr U V M hL
 go_loopw [103] (fun J wr=>∃(i:Nat) (S':List (Nme×Nat)),J=.int .i64 (i:Int)∧i≤2∧Hid (DrS w0 wr gd gm (Lb d left r i) (n+121*i) ls S')∧Hid (∀p∈S,p∈S')∧Hid ((Lb d left r i).L=L)) (fun J _=>2 - (intOf J).toNat)
 case atStart=>exact⟨0,S,rfl,Nat.zero_le _,hH,fun p G=>G,cr⟩
 case round=>
  obtain⟨i,S',rfl,hi,W,hS,E⟩:=hrel
  by_cases d6:i<2
  ·have hd:=W.out.keep (Ap wr)
   have cu:=hide hd
   have d4:=(hd.blk y.out).cell
   have d3:=(hd.blk O.out).cell
   have q5:=(((hd.push 3 #[.int .i64 1,.int .i64 (i:Int),.int .i64 (r:Int)]).blk (List.mem_cons_of_mem _ y.out)).cell 0)
   clear hd
   go_wp2_with fail
   refine Reg.cC [0,0,0,0,12,30,0,127] [0,1,2,3,6,4,5,7] ?_ (by kernel_rfl) (by repeat (first | exact hN | refine Reg.NoQ.then ?_ | refine Reg.NoQ.inBlock ?_))
   refine Reg.rest_walk' [0,1,2,3,6,4] [5,7] rfl (by kernel_rfl) ?_
   intro Qf x
   go_wp2_with fail
   first | refine x _ _ ?_ | skip
   try clear x
   refine Reg.rest_act' 5 [7] [0] rfl (by kernel_rfl) ?_
   intro Qf x
   try simp only [gT,gS,gZ]
   go_wp2_with fail
   refine Calls.ret (cu.out.state (1,i,r) (m:=3) (.inr (.inr rfl)) (by omega) rfl) ?_
   rintro v w2 ⟨e,rfl,C⟩
   have p5:=(C.blk y.out).cell 0
   have cn:=hide C
   clear C
   go_wp2_with fail
   first | refine x _ _ ⟨?_,?_⟩ | refine⟨?_,?_⟩
   ·intro z hz q I
    simp only [List.mem_cons,List.not_mem_nil,or_false] at hz
    subst hz
    injection I with I
    subst I
    exact Reg.same_load1 rfl rfl (q5) (p5) Tryz.underlying161 rfl
   try clear x
   refine Reg.rest_act' 7 [] [] rfl (by kernel_rfl) ?_
   intro Qf x
   try simp only [gT,gS,gZ]
   go_wp2_with fail
   refine Calls.ret (cn.out.keep_ (L:=L) (F:=154) (caps:=[.pointer (some ⟨g5,0,none⟩),.pointer (some ⟨g3,0,none⟩),.pointer (some ⟨g11,0,none⟩)]) (κ:=WG left r) (f:=(1,i,r)) (ef:=e) (S0:=[]) (by rw [Drw.add_L]; exact E.out) cq (by simp) (fun _ h=>by cases h) (fun _ _=>Yy cw.out cm.out y.out O.out) (.inr (.inr ⟨_,_,_,rfl,rfl⟩)) (by omega)) ?_
   rintro v w3 ⟨rfl,Z⟩
   have co:Hid (DrS w0 w3 gd gm (Lb d left r (i+1)) (n+121*(i+1)) ls (((1,i,r),e)::S')):=hide (Z.big (by omega))
   have cv:Hid ((Lb d left r (i+1)).L=L):=hide (show(((Lb d left r i).add (1,i,r)).kp (1,i,r) (WG left r)).L=L by rw [Drw.kp_L,Drw.add_L]; exact E.out)
   clear Z
   go_wp2_with fail
   first | refine x _ _ ⟨Reg.nm,?_⟩ | refine⟨Reg.nm,?_⟩
   try clear x
   first | refine Reg.rest_end ?_ | skip
   go_wp2_with fail
   exact⟨⟨i+1,_,by go_num,by omega,co,fun p G=>List.mem_cons_of_mem _ (hS.out p G),cv⟩,by simp [intOf]; omega⟩
  ·obtain rfl:i=2:=by omega
   go_wp2_with fail
   exact hQ _ _ _ _ _ _ _ _ _ _ _ _ _ _ S' W.out hS.out E.out
theorem Drw.ringM_L {d:Drw} {f t:Int} {left:List Int} {r L:Nat} (h:(Lb d left r 2).L=L):(QM d f t left r).L=L:=by
 unfold QM
 rw [Drw.mov_L,Drw.add_L,Drw.add_L]
 exact h
theorem aAg {w0 w:World} {gd gm g3 g5 g7 n L e7:Nat} {d:Drw} {ls:Lst} {S:List (Nme×Nat)} {rc:Array Value} {left right:List Int} {f t:Int} (h:DrS w0 w gd gm d n ls S) (hL:d.L=L) (af:L≤60) (hr:K4 w0 rc f t left right) (h3:(g3,99,rc)∈ls)
  (h5:(g5,161,#[.pointer (some ⟨gd,0,none⟩)])∈ls) (h7:(g7,3,#[.int .i64 (e7:Int)])∈ls) (hE:((5,0,0),e7)∈S) (hn:n≤5000)
  {u0 u1 u2 u4 u6 u8 u9 aV d7 dj dw aW aY aZ b0 b4 b5 b7 b8 b9 ba bb bc bd be bf bg bh bi bj bk bl bm bn bo bp bq bs bt bu bv bw bx bz bA bB bC bD bE bF bG bH bI bJ bK bL bM bO bP bQ bR u64 bS bT bU bV bW bX bY bZ c0 c4 c5 c6 c7 c8 c9 ca cb cc cd ce cf cg ch ci cj cl cm cn co cp cq cr ct cu cv cY cZ d0 d1 d2 d3 d4 d5 d6 d8 d9 da db dc de df dg dh di dk dl dm dn dp dq dr dt du dv dx dy dz dA dB dC dD dE dF dG dH dI dJ dK dL dM dN dO dP aX:Value}
  {Q:Exit→Act→World→Prop} (hN:Reg.NoQ Q)
  (hQ:∀(e2 eh et dS dT dU dV dW dX dY dZ e0 e1 e3 e4 e5 e6 e8 e9 ec ed ee eg ei ej ek el em en eo ep eq er eu ev ew ex ey ez eA eB eC eD eE eF eG eH eI eJ eK eL eM:Value) (w':World) (S':List (Nme×Nat)),DrS w0 w' gd gm (Sa d f t left right 2) (n+800) ls S'→Q (.exit 2) ⟨List.toArray (u0::u1::u2::(.pointer (some ⟨g3,0,none⟩))::u4::(.pointer (some ⟨g5,0,none⟩))::u6::(.pointer (some ⟨g7,0,none⟩))::u8::u9::aV::e2::eh::et::aW::aY::aZ::b0::b4::b5::b7::b8::b9::ba::bb::bc::
   bd::be::bf::bg::bh::bi::bj::bk::bl::bm::bn::bo::bp::bq::bs::bt::bu::bv::bw::bx::bz::bA::bB::bC::bD::bE::bF::bG::bH::bI::bJ::bK::bL::bM::bO::bP::bQ::
   bR::u64::bS::bT::bU::bV::bW::bX::bY::bZ::c0::c4::c5::c6::c7::c8::c9::ca::cb::cc::cd::ce::cf::cg::ch::ci::cj::cl::cm::cn::co::cp::cq::cr::ct::cu::cv::
   dS::dT::dU::dV::dW::dX::dY::dZ::e0::e1::e3::e4::e5::e6::e8::e9::ec::ed::ee::eg::ei::ej::ek::el::em::en::eo::ep::eq::er::eu::ev::ew::
   ex::ey::ez::eA::eB::eC::eD::eE::eF::eG::eH::eI::eJ::eK::eL::eM::aX::[]),[]⟩ w'):
  (Code.loop (CG Tryz.f104 1)).wp Tryz.prog Q ⟨List.toArray (u0::u1::u2::(.pointer (some ⟨g3,0,none⟩))::u4::(.pointer (some ⟨g5,0,none⟩))::u6::(.pointer (some ⟨g7,0,none⟩))::u8::u9::aV::d7::dj::dw::aW::aY::aZ::b0::b4::b5::b7::b8::b9::ba::bb::bc::
   bd::be::bf::bg::bh::bi::bj::bk::bl::bm::bn::bo::bp::bq::bs::bt::bu::bv::bw::bx::bz::bA::bB::bC::bD::bE::bF::bG::bH::bI::bJ::bK::bL::bM::bO::bP::bQ::
   bR::u64::bS::bT::bU::bV::bW::bX::bY::bZ::c0::c4::c5::c6::c7::c8::c9::ca::cb::cc::cd::ce::cf::cg::ch::ci::cj::cl::cm::cn::co::cp::cq::cr::ct::cu::cv::
   (.int .i64 0)::cY::cZ::d0::d1::d2::d3::d4::d5::d6::d8::d9::da::db::dc::de::df::dg::dh::di::dk::dl::dm::dn::dp::dq::dr::dt::du::dv::dx::
   dy::dz::dA::dB::dC::dD::dE::dF::dG::dH::dI::dJ::dK::dL::dM::dN::dO::dP::aX::[]),[]⟩ w:=by
 conv=>arg 2; arg 1; whnf
 have hH:=hide h
 have J:=hide hr
 have cy:=hide h3
 have cz:=hide h5
 have cB:=hide h7
 have cF:=hide hE
 have cJ:=hide hL
 clear h hr h3 h5 h7 hE hL
 go_loopw [100] (fun ii wr=>∃(i:Nat) (S':List (Nme×Nat)),ii=.int .i64 (i:Int)∧i≤2∧Hid (DrS w0 wr gd gm (Sa d f t left right i) (n+400*i) ls S')∧Hid (∀p∈S,p∈S')∧Hid ((Sa d f t left right i).L=L)) (fun ii _=>2 - (intOf ii).toNat)
 case atStart=>exact⟨0,S,rfl,Nat.zero_le _,hH,fun p C=>C,cJ⟩
 case round=>
  obtain⟨r,S',rfl,hi,hD,hS,cS⟩:=hrel
  by_cases eR:r<2
  ·obtain⟨w1,cX,av,eP⟩:=hD.out.pushE 3 #[.int .i64 (r:Int)]
   have cK:=(av.out.blk List.mem_cons_self).cell
   have M:=hide (List.mem_cons_of_mem (wr.heap.size,3,#[.int .i64 (r:Int)]) cy.out)
   have G:=hide (List.mem_cons_of_mem (wr.heap.size,3,#[.int .i64 (r:Int)]) cz.out)
   have m7:=hide (List.mem_cons_of_mem (wr.heap.size,3,#[.int .i64 (r:Int)]) cB.out)
   clear cK
   go_wp2_with fail
   refine aAe (g11:=wr.heap.size) av.out cS.out af J.out M.out G.out List.mem_cons_self (by omega) ?_ ?_
   ·repeat (first | exact hN | refine Reg.NoQ.then ?_ | refine Reg.NoQ.inBlock ?_)
   iterate 13 (intro _)
   intro w3 S3 a7 ai aD
   have cD:=hide a7
   have cH:=hide aD
   have aB:=hide (ai _ (hS.out _ cF.out))
   have aE:=hide (fun p C=>ai p (hS.out p C))
   have a2:=(a7.blk G.out).cell
   have a9:=(a7.blk List.mem_cons_self).cell
   clear a7 ai aD cX
   go_wp2_with fail
   refine Calls.ret (cD.out.state (2,r,0) (m:=2) (.inr (.inl ⟨rfl,rfl⟩)) (by omega) rfl) ?_
   rintro v w4 ⟨I,rfl,ax⟩
   have O:=ax.keep (Ap w4)
   have cR:=hide O
   clear a2 a9
   have a2:=(O.blk G.out).cell
   have a9:=(O.blk List.mem_cons_self).cell
   have cM:=((O.blk M.out).cell 2).trans J.out.fr
   have cO:=((O.blk M.out).cell 3).trans J.out.tt
   have aa:=O.push 3 #[.int .i64 1,.int .i64 1,.int .i64 (r:Int)]
   have q5:=(aa.blk (List.mem_cons_of_mem _ G.out)).cell 0
   have aS:=((aa.blk (List.mem_cons_of_mem _ M.out)).cell 2).trans J.out.fr
   have aT:=((aa.blk (List.mem_cons_of_mem _ M.out)).cell 3).trans J.out.tt
   clear ax O aa
   go_wp2_with fail
   refine Reg.cC [0,0,0,4,14,0,32,0,128,0,1023] [0,1,2,5,6,7,8,9,3,4,10] ?_ (by kernel_rfl) (by repeat (first | exact hN | refine Reg.NoQ.then ?_ | refine Reg.NoQ.inBlock ?_))
   refine Reg.rest_walk' [0,1,2,5,6,7,8,9,3] [4,10] rfl (by kernel_rfl) ?_
   intro Qf y
   go_wp2_with fail
   first | refine y _ _ ?_ | skip
   try clear y
   refine Reg.rest_act' 4 [10] [0,6,8] rfl (by kernel_rfl) ?_
   intro Qf y
   try simp only [gT,gS,gZ]
   go_wp2_with fail
   refine Calls.ret (cR.out.state (1,1,r) (m:=3) (.inr (.inr rfl)) (by omega) rfl) ?_
   rintro v w5 ⟨a5,rfl,U⟩
   have p5:=(U.blk G.out).cell 0
   have aQ:=((U.blk M.out).cell 2).trans J.out.fr
   have aR:=((U.blk M.out).cell 3).trans J.out.tt
   have cE:=hide U
   clear U
   go_wp2_with fail
   first | refine y _ _ ⟨?_,?_⟩ | refine⟨?_,?_⟩
   ·intro z hz q E
    simp only [List.mem_cons,List.not_mem_nil,or_false] at hz
    rcases hz with rfl | rfl | rfl
    ·injection E with E
     subst E
     exact Reg.same_load1 rfl rfl (q5) (p5) Tryz.underlying161 rfl
    ·injection E with E
     subst E
     exact Reg.same_load1 rfl rfl (aS) (aQ) Tryz.underlying3 rfl
    ·injection E with E
     subst E
     exact Reg.same_load1 rfl rfl (aT) (aR) Tryz.underlying3 rfl
   try clear y
   refine Reg.rest_act' 10 [] [] rfl (by kernel_rfl) ?_
   intro Qf y
   try simp only [gT,gS,gZ]
   go_wp2_with fail
   refine Calls.ret (cE.out.move (a:=(1,1,r)) (b:=(2,r,0)) (ea:=a5) (eb:=I) (by simp) (by simp) (by omega)) ?_
   rintro v w6 ⟨rfl,ay⟩
   have V:Hid (DrS w0 w6 gd gm (QM (Sa d f t left right r) f t left r) (n+400*r+245) ((wr.heap.size,3,#[.int .i64 (r:Int)])::ls) (((1,1,r),a5)::((2,r,0),I)::S3)):=hide (ay.big (by omega))
   have a8:=hide (Drw.ringM_L (f:=f) (t:=t) cH.out)
   clear ay a2 a9 cM cO q5 aS aT p5 aQ aR
   have a9:=(V.out.blk List.mem_cons_self).cell
   go_wp2_with fail
   first | refine y _ _ ⟨Reg.nm,?_⟩ | refine⟨Reg.nm,?_⟩
   try clear y
   first | refine Reg.rest_end ?_ | skip
   by_cases aj:r=1
   ·have cW:((r:Int)==1)=true:=by simp [aj]
    have a2:=(V.out.blk G.out).cell
    go_wp2_with fail
    have a3:=V.out.keep (Ap w6)
    have cT:=(a3.blk G.out).cell
    obtain⟨AA,mA,cA,⟨eW,eU,ar⟩,eS,ys,aK,aH⟩:=a3.app (a:=(2,r,0)) (e:=I) (by simp) (by omega)
    have cQ:=ar.cell
    have aN:=a3.below.size
    have q5:=(((a3.push 3 #[.int .i64 (I:Int)]).blk (List.mem_cons_of_mem _ G.out)).cell 0)
    have aJ:=hide aH
    clear a3 aH ar
    go_wp2_with fail
    refine Reg.cC [0,0,2,6,14,30,0,64,254,511,1023,2047,4095] [0,1,2,3,4,5,6,7,8,9,10,11,12] ?_ (by kernel_rfl) (by repeat (first | exact hN | refine Reg.NoQ.then ?_ | refine Reg.NoQ.inBlock ?_))
    refine Reg.rest_walk' [0,1,2,3,4,5,6,7] [8,9,10,11,12] rfl (by kernel_rfl) ?_
    intro Qf y
    go_wp2_with fail
    first | refine y _ _ ?_ | skip
    try clear y
    refine Reg.rest_act' 8 [9,10,11,12] [0] rfl (by kernel_rfl) ?_
    intro Qf y
    try simp only [gT,gS,gZ]
    refine BP (w:=w6.drew) C9 rfl _ _ rfl w0.heap.size (.slice AA mA cA) mA _ rfl aK [.int .i64 (I:Int)] 1 rfl rfl (by simp [Value.oneCell']) (by omega) aN ?_
    intro g cap wa aL hk aG hg
    obtain⟨⟨eX,eV,a6⟩,aF,aw⟩:=aJ.out g cap wa aL hk aG
    have p5:=(aF _ G.out).cell 0
    have az:=hide aw
    have cL:=a6.cell
    have cU:=a6.frozen 3
    have cV:=a6.lt
    clear aL hk aG a6 aF aw aK
    first | refine y _ _ ⟨?_,?_⟩ | refine⟨?_,?_⟩
    ·intro z hz q E
     simp only [List.mem_cons,List.not_mem_nil,or_false] at hz
     subst hz
     injection E with E
     subst E
     exact Reg.same_load1 rfl rfl (q5) (p5) Tryz.underlying161 rfl
    try clear y
    refine Reg.rest_walk' [9,10,11] [12] rfl (by kernel_rfl) ?_
    intro Qf y
    go_wp2_with fail
    first | refine y _ _ ?_ | skip
    try clear y
    refine Reg.rest_act' 12 [] [] rfl (by kernel_rfl) ?_
    intro Qf y
    try simp only [gT,gS,gZ]
    go_wp2_with fail
    first | refine y _ _ ⟨Reg.nm,?_⟩ | refine⟨Reg.nm,?_⟩
    try clear y
    first | refine Reg.rest_end ?_ | skip
    clear cT cQ aN aJ cL cU cV
    have eN:=(az.out.blk G.out).cell
    go_wp2_with fail
    refine Calls.ret (az.out.keep_ (L:=L) (F:=155) (caps:=[.pointer (some ⟨g3,0,none⟩),.pointer (some ⟨g7,0,none⟩)]) (κ:=B4 right) (f:=(2,r,0)) (ef:=I) (S0:=[((5,0,0),e7)]) (by rw [Drw.acc_L]; exact a8.out) af (by simp) (fun p C=>by rw [List.mem_singleton.1 C]; exact List.mem_cons_of_mem _ (List.mem_cons_of_mem _ aB.out)) (fun _ _=>XA J.out M.out m7.out) (.inr (.inl ⟨_,_,rfl,by simp⟩)) (by omega)) ?_
    rintro v w8 ⟨rfl,W⟩
    have Z:Hid (Sa d f t left right (r+1)=((QM (Sa d f t left right r) f t left r).acc (2,r,0)).kp (2,r,0) (B4 right)):=by show La _ _ _ _ _ _=_; unfold La; rw [if_pos aj]
    have ae:Hid (DrS w0 w8 gd gm (Sa d f t left right (r+1)) (n+400*(r+1)) ls (((1,1,r),a5)::((2,r,0),I)::S3)):=by
     show DrS _ _ _ _ _ _ _ _
     rw [Z.out]
     exact(W.sub (fun x hx=>List.mem_cons_of_mem _ hx) (fun p C=>C)).big (by omega)
    have ag:Hid ((Sa d f t left right (r+1)).L=L):=by
     show _=_
     rw [Z.out,Drw.kp_L]
     exact a8.out
    clear W
    go_wp2_with fail
    exact⟨⟨r+1,_,by go_num,by omega,ae,fun p C=>List.mem_cons_of_mem _ (List.mem_cons_of_mem _ (aE.out p C)),ag⟩,by simp [intOf]; omega⟩
   ·have cW:((r:Int)==1)=false:=by simp; omega
    have a2:=(V.out.blk G.out).cell
    go_wp2_with fail
    refine Calls.ret (V.out.keep_ (L:=L) (F:=155) (caps:=[.pointer (some ⟨g3,0,none⟩),.pointer (some ⟨g7,0,none⟩)]) (κ:=B4 right) (f:=(2,r,0)) (ef:=I) (S0:=[((5,0,0),e7)]) a8.out af (by simp) (fun p C=>by rw [List.mem_singleton.1 C]; exact List.mem_cons_of_mem _ (List.mem_cons_of_mem _ aB.out)) (fun _ _=>XA J.out M.out m7.out) (.inr (.inl ⟨_,_,rfl,by simp⟩)) (by omega)) ?_
    rintro v w8 ⟨rfl,W⟩
    have Z:Hid (Sa d f t left right (r+1)=(QM (Sa d f t left right r) f t left r).kp (2,r,0) (B4 right)):=by show La _ _ _ _ _ _=_; unfold La; rw [if_neg aj]
    have ae:Hid (DrS w0 w8 gd gm (Sa d f t left right (r+1)) (n+400*(r+1)) ls (((1,1,r),a5)::((2,r,0),I)::S3)):=by
     show DrS _ _ _ _ _ _ _ _
     rw [Z.out]
     exact(W.sub (fun x hx=>List.mem_cons_of_mem _ hx) (fun p C=>C)).big (by omega)
    have ag:Hid ((Sa d f t left right (r+1)).L=L):=by
     show _=_
     rw [Z.out,Drw.kp_L]
     exact a8.out
    clear W
    go_wp2_with fail
    exact⟨⟨r+1,_,by go_num,by omega,ae,fun p C=>List.mem_cons_of_mem _ (List.mem_cons_of_mem _ (aE.out p C)),ag⟩,by simp [intOf]; omega⟩
  ·obtain rfl:r=2:=by omega
   go_wp2_with fail
   exact hQ _ _ _ _ _ _ _ _ _ _ _ _ _ _ _ _ _ _ _ _ _ _ _ _ _ _ _ _ _ _ _ _ _ _ _ _ _ _ _ _ _ _ _ _ _ _ _ _ _ _ _ _ _ S' hD.out
end Go.Proofs.YtfcfpoemojjglaaGreatDoor
