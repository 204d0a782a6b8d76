/-
  Part SG of a proof.
-/
import Derived.Test.YtfcfpoemojjglaaGreatDoorPA
import Derived.Test.YtfcfpoemojjglaaGreatDoorSF
set_option maxHeartbeats 16000000
set_option maxRecDepth 100000
set_option linter.unusedVariables false
set_option linter.unusedSimpArgs false
namespace Go.Proofs.YtfcfpoemojjglaaGreatDoor
open Go.RowKit
set_option maxHeartbeats 16000000
set_option maxRecDepth 100000
theorem Yo {w0 w:World} {gd gm g3 g5 g11 n L r:Nat} {d:Drw} {ls:Lst} {S:List (Nme×Nat)} {rc:Array Value} {left right:List Int} {f t:Int} (h:DrS w0 w gd gm d n ls S) (hL:d.L=L) (cp:L≤60) (hr:MR w0 rc f t left right) (V:(g3,99,rc)∈ls)
  (W:(g5,161,#[.pointer (some ⟨gd,0,none⟩)])∈ls) (O:(g11,3,#[.int .i64 (r:Int)])∈ls) (hn:n≤10000)
  {u0 u1 u2 u4 u6 u7 u8 u9 a8 cL au aF aR aS aT aU aV aX aY aZ b0 b1 b2 b3 b4 b5 b6 b7 b8 b9 ba bb bc bd be bf bg bi bj bk bl bm bn bo bp bq br bs bt bu bv bw bx bz bA bB bC bE bF bG bH u64 bI bJ bK bL bM bO bP bQ bR bS bT bU bV bW bX bY bZ c0 c1 c3 c4 c5 c6 c7 c8 ca cb cc cd ce cf cg ch ci cj a9 aa ab cy cz cA cB cD cE cF cG cH cJ cK ad ae af ag ah ai aj ak al am an ao ap aq ar av aw ax ay az aA aB aC aD aE aG aH aJ aK aL aM aN aO aP aQ:Value}
  {Q:Exit→Act→World→Prop} (hN:Reg.NoQ Q)
  (hQ:∀(d1 cO cQ cR cS cT cU cV cW cX cY cZ d0:Value) (w':World) (S':List (Nme×Nat)),DrS w0 w' gd gm (Qg d left r 2) (n+242) ls S'→(∀p∈S,p∈S')→(Qg d left r 2).L=L→Q (.exit 4) ⟨List.toArray (u0::u1::u2::(.pointer (some ⟨g3,0,none⟩))::u4::(.pointer (some ⟨g5,0,none⟩))::u6::u7::u8::u9::a8::(.pointer (some ⟨g11,0,none⟩))::d1::au::aF::aR::aS::aT::aU::aV::aX::aY::aZ::b0::b1::b2::
   b3::b4::b5::b6::b7::b8::b9::ba::bb::bc::bd::be::bf::bg::bi::bj::bk::bl::bm::bn::bo::bp::bq::br::bs::bt::bu::bv::bw::bx::bz::bA::bB::bC::bE::bF::bG::
   bH::u64::bI::bJ::bK::bL::bM::bO::bP::bQ::bR::bS::bT::bU::bV::bW::bX::bY::bZ::c0::c1::c3::c4::c5::c6::c7::c8::ca::cb::cc::cd::ce::cf::cg::ch::ci::cj::
   a9::aa::ab::cO::cQ::cR::cS::cT::cU::cV::cW::cX::cY::cZ::d0::ad::ae::af::ag::ah::ai::aj::ak::al::am::an::ao::ap::aq::ar::av::aw::ax::
   ay::az::aA::aB::aC::aD::aE::aG::aH::aJ::aK::aL::aM::aN::aO::aP::aQ::[]),[]⟩ w'):
  (Code.loop (CG Tryz.f104 2)).wp Tryz.prog Q ⟨List.toArray (u0::u1::u2::(.pointer (some ⟨g3,0,none⟩))::u4::(.pointer (some ⟨g5,0,none⟩))::u6::u7::u8::u9::a8::(.pointer (some ⟨g11,0,none⟩))::cL::au::aF::aR::aS::aT::aU::aV::aX::aY::aZ::b0::b1::b2::
   b3::b4::b5::b6::b7::b8::b9::ba::bb::bc::bd::be::bf::bg::bi::bj::bk::bl::bm::bn::bo::bp::bq::br::bs::bt::bu::bv::bw::bx::bz::bA::bB::bC::bE::bF::bG::
   bH::u64::bI::bJ::bK::bL::bM::bO::bP::bQ::bR::bS::bT::bU::bV::bW::bX::bY::bZ::c0::c1::c3::c4::c5::c6::c7::c8::ca::cb::cc::cd::ce::cf::cg::ch::ci::cj::
   a9::aa::ab::(.int .i64 0)::cy::cz::cA::cB::cD::cE::cF::cG::cH::cJ::cK::ad::ae::af::ag::ah::ai::aj::ak::al::am::an::ao::ap::aq::ar::av::
   aw::ax::ay::az::aA::aB::aC::aD::aE::aG::aH::aJ::aK::aL::aM::aN::aO::aP::aQ::[]),[]⟩ w:=by
 conv=>arg 2; arg 1; whnf
 have hH:=hide h
 have cv:=hide hr
 have ck:=hide V
 have C:=hide W
 have U:=hide O
 have cq:=hide hL
 clear h hr V W O hL
 go_loopw [103] (fun M wr=>∃(i:Nat) (S':List (Nme×Nat)),M=.int .i64 (i:Int)∧i≤2∧Hid (DrS w0 wr gd gm (Qg d left r i) (n+121*i) ls S')∧Hid (∀p∈S,p∈S')∧Hid ((Qg d left r i).L=L)) (fun M _=>2 - (intOf M).toNat)
 case atStart=>exact⟨0,S,rfl,Nat.zero_le _,hH,fun p I=>I,cq⟩
 case round=>
  obtain⟨i,S',rfl,hi,Z,hS,G⟩:=hrel
  by_cases d5:i<2
  ·have hd:=Z.out.keep (Ap wr)
   have ct:=hide hd
   have d3:=(hd.blk C.out).cell
   have d2:=(hd.blk U.out).cell
   have q5:=(((hd.push 3 #[.int .i64 1,.int .i64 (i:Int),.int .i64 (r:Int)]).blk (List.mem_cons_of_mem _ C.out)).cell 0)
   clear hd
   go_wp2_with fail
   refine Reg.cC [0,0,0,0,12,30,0,127] [0,1,2,3,6,4,5,7] ?_ (by kernel_rfl) (by repeat (first | exact hN | refine Reg.NoQ.then ?_ | refine Reg.NoQ.inBlock ?_))
   refine Reg.rest_walk' [0,1,2,3,6,4] [5,7] rfl (by kernel_rfl) ?_
   intro Qf y
   go_wp2_with fail
   first | refine y _ _ ?_ | skip
   try clear y
   refine Reg.rest_act' 5 [7] [0] rfl (by kernel_rfl) ?_
   intro Qf y
   try simp only [gT,gS,gZ]
   go_wp2_with fail
   refine Calls.ret (ct.out.state (1,i,r) (m:=3) (.inr (.inr rfl)) (by omega) rfl) ?_
   rintro v w2 ⟨e,rfl,E⟩
   have p5:=(E.blk C.out).cell 0
   have cm:=hide E
   clear E
   go_wp2_with fail
   first | refine y _ _ ⟨?_,?_⟩ | refine⟨?_,?_⟩
   ·intro z hz q J
    simp only [List.mem_cons,List.not_mem_nil,or_false] at hz
    subst hz
    injection J with J
    subst J
    exact Reg.same_load1 rfl rfl (q5) (p5) Tryz.underlying161 rfl
   try clear y
   refine Reg.rest_act' 7 [] [] rfl (by kernel_rfl) ?_
   intro Qf y
   try simp only [gT,gS,gZ]
   go_wp2_with fail
   refine Calls.ret (cm.out.keep_ (L:=L) (F:=154) (caps:=[.pointer (some ⟨g5,0,none⟩),.pointer (some ⟨g3,0,none⟩),.pointer (some ⟨g11,0,none⟩)]) (κ:=Wt left r) (f:=(1,i,r)) (ef:=e) (S0:=[]) (by rw [Drw.add_L]; exact G.out) cp (by simp) (fun _ h=>by cases h) (fun _ _=>Xr cv.out ck.out C.out U.out) (.inr (.inr ⟨_,_,_,rfl,rfl⟩)) (by omega)) ?_
   rintro v w3 ⟨rfl,a2⟩
   have cn:Hid (DrS w0 w3 gd gm (Qg d left r (i+1)) (n+121*(i+1)) ls (((1,i,r),e)::S')):=hide (a2.big (by omega))
   have cu:Hid ((Qg d left r (i+1)).L=L):=hide (show(((Qg d left r i).add (1,i,r)).kp (1,i,r) (Wt left r)).L=L by rw [Drw.kp_L,Drw.add_L]; exact G.out)
   clear a2
   go_wp2_with fail
   first | refine y _ _ ⟨Reg.nm,?_⟩ | refine⟨Reg.nm,?_⟩
   try clear y
   first | refine Reg.rest_end ?_ | skip
   go_wp2_with fail
   exact⟨⟨i+1,_,by go_num,by omega,cn,fun p I=>List.mem_cons_of_mem _ (hS.out p I),cu⟩,by simp [intOf]; omega⟩
  ·obtain rfl:i=2:=by omega
   go_wp2_with fail
   exact hQ _ _ _ _ _ _ _ _ _ _ _ _ _ _ S' Z.out hS.out G.out
theorem Drw.ringM_L {d:Drw} {f t:Int} {left:List Int} {r L:Nat} (h:(Qg d left r 2).L=L):(Sb d f t left r).L=L:=by
 unfold Sb
 rw [Drw.mov_L,Drw.add_L,Drw.add_L]
 exact h
theorem Yq {w0 w:World} {gd gm g3 g5 g7 n L e7:Nat} {d:Drw} {ls:Lst} {S:List (Nme×Nat)} {rc:Array Value} {left right:List Int} {f t:Int} (h:DrS w0 w gd gm d n ls S) (hL:d.L=L) (ag:L≤60) (hr:MR w0 rc f t left right) (h3:(g3,99,rc)∈ls)
  (h5:(g5,161,#[.pointer (some ⟨gd,0,none⟩)])∈ls) (h7:(g7,3,#[.int .i64 (e7:Int)])∈ls) (hE:((5,0,0),e7)∈S) (hn:n≤5000)
  {u0 u1 u2 u4 u6 u8 u9 aX d6 di dv aY b0 b1 b2 b3 b4 b6 b7 b8 b9 ba bb bc bd be bf bg bh bi bj bk bl bm bn bo bp br bs bt bu bv bw bx bz bA bB bC bD bE bF bG bH bI bJ bK bL bN bO bP bQ u64 bR bS bT bU bV bW bX bY bZ c0 c1 c3 c4 c5 c6 c7 c8 c9 ca cb cc cd ce cf cg ci cj ck cm cn co cp cq cr ct cX cY cZ d0 d1 d2 d3 d4 d5 d7 d8 d9 da db dc de df dg dh dj dk dl dm dn dp dq dr dt du dw dx dy dz dA dB dC dD dE dF dG dH dI dJ dK dL dM dN dO aZ:Value}
  {Q:Exit→Act→World→Prop} (hN:Reg.NoQ Q)
  (hQ:∀(e1 eg er dR dS dT dU dV dW dX dY dZ e0 e2 e3 e4 e5 e6 e8 e9 ec ed ee eh ei ej ek el em en eo ep eq et eu ev ew ex ey ez eA eB eD eE eF eG eH eI eJ eK eL eM:Value) (w':World) (S':List (Nme×Nat)),DrS w0 w' gd gm (La d f t left right 2) (n+800) ls S'→Q (.exit 2) ⟨List.toArray (u0::u1::u2::(.pointer (some ⟨g3,0,none⟩))::u4::(.pointer (some ⟨g5,0,none⟩))::u6::(.pointer (some ⟨g7,0,none⟩))::u8::u9::aX::e1::eg::er::aY::b0::b1::b2::b3::b4::b6::b7::b8::b9::ba::bb::
   bc::bd::be::bf::bg::bh::bi::bj::bk::bl::bm::bn::bo::bp::br::bs::bt::bu::bv::bw::bx::bz::bA::bB::bC::bD::bE::bF::bG::bH::bI::bJ::bK::bL::bN::bO::bP::
   bQ::u64::bR::bS::bT::bU::bV::bW::bX::bY::bZ::c0::c1::c3::c4::c5::c6::c7::c8::c9::ca::cb::cc::cd::ce::cf::cg::ci::cj::ck::cm::cn::co::cp::cq::cr::ct::
   dR::dS::dT::dU::dV::dW::dX::dY::dZ::e0::e2::e3::e4::e5::e6::e8::e9::ec::ed::ee::eh::ei::ej::ek::el::em::en::eo::ep::eq::et::eu::ev::
   ew::ex::ey::ez::eA::eB::eD::eE::eF::eG::eH::eI::eJ::eK::eL::eM::aZ::[]),[]⟩ w'):
  (Code.loop (CG Tryz.f104 1)).wp Tryz.prog Q ⟨List.toArray (u0::u1::u2::(.pointer (some ⟨g3,0,none⟩))::u4::(.pointer (some ⟨g5,0,none⟩))::u6::(.pointer (some ⟨g7,0,none⟩))::u8::u9::aX::d6::di::dv::aY::b0::b1::b2::b3::b4::b6::b7::b8::b9::ba::bb::
   bc::bd::be::bf::bg::bh::bi::bj::bk::bl::bm::bn::bo::bp::br::bs::bt::bu::bv::bw::bx::bz::bA::bB::bC::bD::bE::bF::bG::bH::bI::bJ::bK::bL::bN::bO::bP::
   bQ::u64::bR::bS::bT::bU::bV::bW::bX::bY::bZ::c0::c1::c3::c4::c5::c6::c7::c8::c9::ca::cb::cc::cd::ce::cf::cg::ci::cj::ck::cm::cn::co::cp::cq::cr::ct::
   (.int .i64 0)::cX::cY::cZ::d0::d1::d2::d3::d4::d5::d7::d8::d9::da::db::dc::de::df::dg::dh::dj::dk::dl::dm::dn::dp::dq::dr::dt::du::dw::
   dx::dy::dz::dA::dB::dC::dD::dE::dF::dG::dH::dI::dJ::dK::dL::dM::dN::dO::aZ::[]),[]⟩ w:=by
 conv=>arg 2; arg 1; whnf
 have hH:=hide h
 have J:=hide hr
 have cx:=hide h3
 have cy:=hide h5
 have cz:=hide h7
 have cE:=hide hE
 have cH:=hide hL
 clear h hr h3 h5 h7 hE hL
 go_loopw [100] (fun ii wr=>∃(i:Nat) (S':List (Nme×Nat)),ii=.int .i64 (i:Int)∧i≤2∧Hid (DrS w0 wr gd gm (La d f t left right i) (n+400*i) ls S')∧Hid (∀p∈S,p∈S')∧Hid ((La d f t left right i).L=L)) (fun ii _=>2 - (intOf ii).toNat)
 case atStart=>exact⟨0,S,rfl,Nat.zero_le _,hH,fun p C=>C,cH⟩
 case round=>
  obtain⟨r,S',rfl,hi,hD,hS,cR⟩:=hrel
  by_cases eR:r<2
  ·obtain⟨w1,cW,aw,eP⟩:=hD.out.pushE 3 #[.int .i64 (r:Int)]
   have cJ:=(aw.out.blk List.mem_cons_self).cell
   have M:=hide (List.mem_cons_of_mem (wr.heap.size,3,#[.int .i64 (r:Int)]) cx.out)
   have G:=hide (List.mem_cons_of_mem (wr.heap.size,3,#[.int .i64 (r:Int)]) cy.out)
   have m7:=hide (List.mem_cons_of_mem (wr.heap.size,3,#[.int .i64 (r:Int)]) cz.out)
   clear cJ
   go_wp2_with fail
   refine Yo (g11:=wr.heap.size) aw.out cR.out ag J.out M.out G.out List.mem_cons_self (by omega) ?_ ?_
   ·repeat (first | exact hN | refine Reg.NoQ.then ?_ | refine Reg.NoQ.inBlock ?_)
   iterate 13 (intro _)
   intro w3 S3 a7 aj aE
   have cB:=hide a7
   have cG:=hide aE
   have aC:=hide (aj _ (hS.out _ cE.out))
   have aF:=hide (fun p C=>aj p (hS.out p C))
   have a2:=(a7.blk G.out).cell
   have a9:=(a7.blk List.mem_cons_self).cell
   clear a7 aj aE cW
   go_wp2_with fail
   refine Calls.ret (cB.out.state (2,r,0) (m:=2) (.inr (.inl ⟨rfl,rfl⟩)) (by omega) rfl) ?_
   rintro v w4 ⟨I,rfl,ay⟩
   have O:=ay.keep (Ap w4)
   have cQ:=hide O
   clear a2 a9
   have a2:=(O.blk G.out).cell
   have a9:=(O.blk List.mem_cons_self).cell
   have cL:=((O.blk M.out).cell 2).trans J.out.fr
   have cM:=((O.blk M.out).cell 3).trans J.out.tt
   have aa:=O.push 3 #[.int .i64 1,.int .i64 1,.int .i64 (r:Int)]
   have q5:=(aa.blk (List.mem_cons_of_mem _ G.out)).cell 0
   have aT:=((aa.blk (List.mem_cons_of_mem _ M.out)).cell 2).trans J.out.fr
   have aU:=((aa.blk (List.mem_cons_of_mem _ M.out)).cell 3).trans J.out.tt
   clear ay O aa
   go_wp2_with fail
   refine Reg.cC [0,0,0,4,14,0,32,0,128,0,1023] [0,1,2,5,6,7,8,9,3,4,10] ?_ (by kernel_rfl) (by repeat (first | exact hN | refine Reg.NoQ.then ?_ | refine Reg.NoQ.inBlock ?_))
   refine Reg.rest_walk' [0,1,2,5,6,7,8,9,3] [4,10] rfl (by kernel_rfl) ?_
   intro Qf y
   go_wp2_with fail
   first | refine y _ _ ?_ | skip
   try clear y
   refine Reg.rest_act' 4 [10] [0,6,8] rfl (by kernel_rfl) ?_
   intro Qf y
   try simp only [gT,gS,gZ]
   go_wp2_with fail
   refine Calls.ret (cQ.out.state (1,1,r) (m:=3) (.inr (.inr rfl)) (by omega) rfl) ?_
   rintro v w5 ⟨a5,rfl,U⟩
   have p5:=(U.blk G.out).cell 0
   have aR:=((U.blk M.out).cell 2).trans J.out.fr
   have aS:=((U.blk M.out).cell 3).trans J.out.tt
   have cD:=hide U
   clear U
   go_wp2_with fail
   first | refine y _ _ ⟨?_,?_⟩ | refine⟨?_,?_⟩
   ·intro z hz q E
    simp only [List.mem_cons,List.not_mem_nil,or_false] at hz
    rcases hz with rfl | rfl | rfl
    ·injection E with E
     subst E
     exact Reg.same_load1 rfl rfl (q5) (p5) Tryz.underlying161 rfl
    ·injection E with E
     subst E
     exact Reg.same_load1 rfl rfl (aT) (aR) Tryz.underlying3 rfl
    ·injection E with E
     subst E
     exact Reg.same_load1 rfl rfl (aU) (aS) Tryz.underlying3 rfl
   try clear y
   refine Reg.rest_act' 10 [] [] rfl (by kernel_rfl) ?_
   intro Qf y
   try simp only [gT,gS,gZ]
   go_wp2_with fail
   refine Calls.ret (cD.out.move (a:=(1,1,r)) (b:=(2,r,0)) (ea:=a5) (eb:=I) (by simp) (by simp) (by omega)) ?_
   rintro v w6 ⟨rfl,az⟩
   have V:Hid (DrS w0 w6 gd gm (Sb (La d f t left right r) f t left r) (n+400*r+245) ((wr.heap.size,3,#[.int .i64 (r:Int)])::ls) (((1,1,r),a5)::((2,r,0),I)::S3)):=hide (az.big (by omega))
   have a8:=hide (Drw.ringM_L (f:=f) (t:=t) cG.out)
   clear az a2 a9 cL cM q5 aT aU p5 aR aS
   have a9:=(V.out.blk List.mem_cons_self).cell
   go_wp2_with fail
   first | refine y _ _ ⟨Reg.nm,?_⟩ | refine⟨Reg.nm,?_⟩
   try clear y
   first | refine Reg.rest_end ?_ | skip
   by_cases ak:r=1
   ·have cV:((r:Int)==1)=true:=by simp [ak]
    have a2:=(V.out.blk G.out).cell
    go_wp2_with fail
    have a3:=V.out.keep (Ap w6)
    have cS:=(a3.blk G.out).cell
    obtain⟨AA,mA,cA,⟨eW,eU,au⟩,eS,ys,aL,aJ⟩:=a3.app (a:=(2,r,0)) (e:=I) (by simp) (by omega)
    have cO:=au.cell
    have aO:=a3.below.size
    have q5:=(((a3.push 3 #[.int .i64 (I:Int)]).blk (List.mem_cons_of_mem _ G.out)).cell 0)
    have aK:=hide aJ
    clear a3 aJ au
    go_wp2_with fail
    refine Reg.cC [0,0,2,6,14,30,0,64,254,511,1023,2047,4095] [0,1,2,3,4,5,6,7,8,9,10,11,12] ?_ (by kernel_rfl) (by repeat (first | exact hN | refine Reg.NoQ.then ?_ | refine Reg.NoQ.inBlock ?_))
    refine Reg.rest_walk' [0,1,2,3,4,5,6,7] [8,9,10,11,12] rfl (by kernel_rfl) ?_
    intro Qf y
    go_wp2_with fail
    first | refine y _ _ ?_ | skip
    try clear y
    refine Reg.rest_act' 8 [9,10,11,12] [0] rfl (by kernel_rfl) ?_
    intro Qf y
    try simp only [gT,gS,gZ]
    refine BP (w:=w6.drew) C9 rfl _ _ rfl w0.heap.size (.slice AA mA cA) mA _ rfl aL [.int .i64 (I:Int)] 1 rfl rfl (by simp [Value.oneCell']) (by omega) aO ?_
    intro g cw wa aM hk aH hg
    obtain⟨⟨eX,eV,a6⟩,aG,ax⟩:=aK.out g cw wa aM hk aH
    have p5:=(aG _ G.out).cell 0
    have aA:=hide ax
    have cK:=a6.cell
    have cT:=a6.frozen 3
    have cU:=a6.lt
    clear aM hk aH a6 aG ax aL
    first | refine y _ _ ⟨?_,?_⟩ | refine⟨?_,?_⟩
    ·intro z hz q E
     simp only [List.mem_cons,List.not_mem_nil,or_false] at hz
     subst hz
     injection E with E
     subst E
     exact Reg.same_load1 rfl rfl (q5) (p5) Tryz.underlying161 rfl
    try clear y
    refine Reg.rest_walk' [9,10,11] [12] rfl (by kernel_rfl) ?_
    intro Qf y
    go_wp2_with fail
    first | refine y _ _ ?_ | skip
    try clear y
    refine Reg.rest_act' 12 [] [] rfl (by kernel_rfl) ?_
    intro Qf y
    try simp only [gT,gS,gZ]
    go_wp2_with fail
    first | refine y _ _ ⟨Reg.nm,?_⟩ | refine⟨Reg.nm,?_⟩
    try clear y
    first | refine Reg.rest_end ?_ | skip
    clear cS cO aO aK cK cT cU
    have eN:=(aA.out.blk G.out).cell
    go_wp2_with fail
    refine Calls.ret (aA.out.keep_ (L:=L) (F:=155) (caps:=[.pointer (some ⟨g3,0,none⟩),.pointer (some ⟨g7,0,none⟩)]) (κ:=HH right) (f:=(2,r,0)) (ef:=I) (S0:=[((5,0,0),e7)]) (by rw [Drw.acc_L]; exact a8.out) ag (by simp) (fun p C=>by rw [List.mem_singleton.1 C]; exact List.mem_cons_of_mem _ (List.mem_cons_of_mem _ aC.out)) (fun _ _=>WW J.out M.out m7.out) (.inr (.inl ⟨_,_,rfl,by simp⟩)) (by omega)) ?_
    rintro v w8 ⟨rfl,W⟩
    have Z:Hid (La d f t left right (r+1)=((Sb (La d f t left right r) f t left r).acc (2,r,0)).kp (2,r,0) (HH right)):=by show Wp _ _ _ _ _ _=_; unfold Wp; rw [if_pos ak]
    have af:Hid (DrS w0 w8 gd gm (La d f t left right (r+1)) (n+400*(r+1)) ls (((1,1,r),a5)::((2,r,0),I)::S3)):=by
     show DrS _ _ _ _ _ _ _ _
     rw [Z.out]
     exact(W.sub (fun x hx=>List.mem_cons_of_mem _ hx) (fun p C=>C)).big (by omega)
    have ah:Hid ((La d f t left right (r+1)).L=L):=by
     show _=_
     rw [Z.out,Drw.kp_L]
     exact a8.out
    clear W
    go_wp2_with fail
    exact⟨⟨r+1,_,by go_num,by omega,af,fun p C=>List.mem_cons_of_mem _ (List.mem_cons_of_mem _ (aF.out p C)),ah⟩,by simp [intOf]; omega⟩
   ·have cV:((r:Int)==1)=false:=by simp; omega
    have a2:=(V.out.blk G.out).cell
    go_wp2_with fail
    refine Calls.ret (V.out.keep_ (L:=L) (F:=155) (caps:=[.pointer (some ⟨g3,0,none⟩),.pointer (some ⟨g7,0,none⟩)]) (κ:=HH right) (f:=(2,r,0)) (ef:=I) (S0:=[((5,0,0),e7)]) a8.out ag (by simp) (fun p C=>by rw [List.mem_singleton.1 C]; exact List.mem_cons_of_mem _ (List.mem_cons_of_mem _ aC.out)) (fun _ _=>WW J.out M.out m7.out) (.inr (.inl ⟨_,_,rfl,by simp⟩)) (by omega)) ?_
    rintro v w8 ⟨rfl,W⟩
    have Z:Hid (La d f t left right (r+1)=(Sb (La d f t left right r) f t left r).kp (2,r,0) (HH right)):=by show Wp _ _ _ _ _ _=_; unfold Wp; rw [if_neg ak]
    have af:Hid (DrS w0 w8 gd gm (La d f t left right (r+1)) (n+400*(r+1)) ls (((1,1,r),a5)::((2,r,0),I)::S3)):=by
     show DrS _ _ _ _ _ _ _ _
     rw [Z.out]
     exact(W.sub (fun x hx=>List.mem_cons_of_mem _ hx) (fun p C=>C)).big (by omega)
    have ah:Hid ((La d f t left right (r+1)).L=L):=by
     show _=_
     rw [Z.out,Drw.kp_L]
     exact a8.out
    clear W
    go_wp2_with fail
    exact⟨⟨r+1,_,by go_num,by omega,af,fun p C=>List.mem_cons_of_mem _ (List.mem_cons_of_mem _ (aF.out p C)),ah⟩,by simp [intOf]; omega⟩
  ·obtain rfl:r=2:=by omega
   go_wp2_with fail
   exact hQ _ _ _ _ _ _ _ _ _ _ _ _ _ _ _ _ _ _ _ _ _ _ _ _ _ _ _ _ _ _ _ _ _ _ _ _ _ _ _ _ _ _ _ _ _ _ _ _ _ _ _ _ _ S' hD.out
end Go.Proofs.YtfcfpoemojjglaaGreatDoor
