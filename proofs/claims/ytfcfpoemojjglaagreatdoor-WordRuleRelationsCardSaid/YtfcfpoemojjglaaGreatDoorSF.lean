/-
  Part SF of a proof.
-/
import Derived.Test.YtfcfpoemojjglaaGreatDoorSD
import Derived.Test.YtfcfpoemojjglaaGreatDoorPA
import Derived.Test.YtfcfpoemojjglaaGreatDoorPE
set_option maxHeartbeats 16000000
set_option maxRecDepth 100000
set_option linter.unusedVariables false
set_option linter.unusedSimpArgs false
namespace Go.Proofs.YtfcfpoemojjglaaGreatDoor
open Go.RowKit
set_option maxHeartbeats 16000000
set_option maxRecDepth 100000
theorem Ws {a b:Nat} (_:a<b):∃c,a=c:=⟨a,rfl⟩
theorem ZM {w0 w:World} {gd gm g5 n:Nat} {d:Drw} {ls:Lst} {S:List (Nme×Nat)} (h:DrS w0 w gd gm d n ls S) (h5:(g5,161,#[.pointer (some ⟨gd,0,none⟩)])∈ls) (hn:n≤1000)
    {u0 u1 u2 u3 u4 u6 u7 u8 u9 aa ai aj bQ bR bS bT bU bV ak am an ao ap aq ar au av aw ax az aA aB aC aD aE aF aG aH aJ aL aM aN aO aP aQ aR aS aT aU aV aW aX aY aZ b0 b4 b5 b6 b7 b8 b9 ba bb u64 bc bd be bf bg bh bi bj bk bl bm bn bo bp bq br bs bt bu bv bw bx bz bA bB bD bE bF bG bH bI bJ bK bL bM ab ac ad ae af ag ah:Value}
    {Q:Exit→Act→World→Prop} (hN:Reg.NoQ Q)
    (hQ:∀(bZ c0 c4 c5 c6 c7:Value) (w':World) (g7 M I:Nat),DrS w0 w' gd gm ((d.add (0,0,0)).add (5,0,0)) (n+2) ((g7,3,#[.int .i64 (I:Int)])::ls) (((5,0,0),I)::((0,0,0),M)::S)→
      Q .normal ⟨List.toArray (u0::u1::u2::u3::u4::(.pointer (some ⟨g5,0,none⟩))::(.int .i64 (M:Int))::(.pointer (some ⟨g7,0,none⟩))::u8::u9::aa::ai::aj::bZ::c0::c4::c5::c6::c7::ak::am::an::ao::ap::aq::ar::au::av::
      aw::ax::az::aA::aB::aC::aD::aE::aF::aG::aH::aJ::aL::aM::aN::aO::aP::aQ::aR::aS::aT::aU::aV::aW::aX::aY::aZ::b0::b4::b5::b6::b7::b8::b9::ba::bb::u64::
      bc::bd::be::bf::bg::bh::bi::bj::bk::bl::bm::bn::bo::bp::bq::br::bs::bt::bu::bv::bw::bx::bz::bA::bB::bD::bE::bF::bG::bH::bI::bJ::bK::bL::bM::ab::ac::
      ad::ae::af::ag::ah::[]),[]⟩ w'):
    (Eu Tryz.f105 2).wp Tryz.prog Q ⟨List.toArray (u0::u1::u2::u3::u4::(.pointer (some ⟨g5,0,none⟩))::u6::u7::u8::u9::aa::ai::aj::bQ::bR::bS::bT::bU::bV::ak::am::an::ao::ap::aq::ar::au::av::aw::ax::az::aA::aB::aC::aD::
      aE::aF::aG::aH::aJ::aL::aM::aN::aO::aP::aQ::aR::aS::aT::aU::aV::aW::aX::aY::aZ::b0::b4::b5::b6::b7::b8::b9::ba::bb::u64::bc::bd::be::bf::bg::bh::bi::
      bj::bk::bl::bm::bn::bo::bp::bq::br::bs::bt::bu::bv::bw::bx::bz::bA::bB::bD::bE::bF::bG::bH::bI::bJ::bK::bL::bM::ab::ac::ad::ae::af::ag::ah::[]),[]⟩ w:=by
  conv=>arg 2; whnf
  refine Reg.region_spl [0,0,3,0,0,31,0,127,255] (.node 1 4 (.node 1 6 (.node 2 4 (.node 2 6 (.node 4 6 (.node 5 6 (.leaf [0,3,1,2,4,5,6,7,8]) (.leaf [0,3,1,2,4,6,5,7,8])) (.leaf [0,3,1,2,6,4,5,7,8])) (.leaf [0,3,1,6,2,4,5,7,8])) (.node 2 6 (.node 5 6 (.leaf [0,3,1,4,2,5,6,7,8]) (.leaf [0,3,1,4,2,6,5,7,8])) (.node 4 6 (.leaf [0,3,1,4,6,2,5,7,8]) (.leaf [0,3,1,6,4,2,5,7,8])))) (.node 2 4 (.leaf [0,3,6,1,2,4,5,7,8]) (.leaf [0,3,6,1,4,2,5,7,8]))) (.node 1 6 (.node 2 6 (.node 5 6 (.leaf [0,3,4,1,2,5,6,7,8]) (.leaf [0,3,4,1,2,6,5,7,8])) (.leaf [0,3,4,1,6,2,5,7,8])) (.node 4 6 (.leaf [0,3,4,6,1,2,5,7,8]) (.leaf [0,3,6,4,1,2,5,7,8])))) (by kernel_rfl) hN ?_
  dsimp only [Reg.Spl.goal]
  have y:=hide (h.keep (Ap w))
  have a5:∀x∈ls,x.1<w.drew.heap.size:=fun x G=>((h.keep (Ap w)).blk (g:=x.1) (t:=x.2.1) (cs:=x.2.2) G).lt
  have cd:=y.out.below.size
  have cb:=hide a5
  generalize w.drew=wd at*
  clear h a5
  have bP:=(y.out.blk h5).cell
  have a3:=hide h5
  repeat' (with_reducible refine And.intro ?_ ?_)
  all_goals
    refine Reg.rest_walkE [0,3] _ rfl rfl (by kernel_rfl) ?_
    intro Qf C
    go_wp2_with fail
    refine C _ _ ?_
    clear C bP
    iterate 5
      first
      | (refine Reg.rest_walkE [1] _ rfl rfl (by kernel_rfl) ?_
         intro Qf C
         obtain⟨wn,J,E,V⟩:=y.out.pushE 3 #[.int .i64 0]
         go_wp2_with fail
         refine C _ _ ?_
         clear C y J
         have y:=E
         clear E)
      | (refine Reg.rest_walkE [4] _ rfl rfl (by kernel_rfl) ?_
         intro Qf C
         obtain⟨wn,J,E,V⟩:=y.out.pushE 3 #[.int .i64 5]
         go_wp2_with fail
         refine C _ _ ?_
         clear C y J
         have y:=E
         clear E)
      | (refine Reg.rest_walkE [6] _ rfl rfl (by kernel_rfl) ?_
         intro Qf C
         obtain⟨wn,J,E,V⟩:=y.out.pushE 3 #[.int .i64 0]
         have a6:=hide (fun x (G:x∈ls)=>Nat.ne_of_lt (y.out.blk (g:=x.1) (t:=x.2.1) (cs:=x.2.2) (by simp [G])).lt)
         have Z:=hide y.out.below.size
         obtain⟨g7,a4⟩:=Ws V
         rw [a4] at E a6 Z
         go_wp2_with fail
         refine C _ _ ?_
         clear C y J a4
         have y:=E
         clear E)
      | (refine Reg.rest_act' 2 _ [3] rfl (by kernel_rfl) ?_
         intro Qf C
         try simp only [gT,gS,gZ]
         go_wp2_with fail
         refine Calls.ret (y.out.state' (0,0,0) (cs:=#[.int .i64 0]) (by simp) (.inl ⟨rfl,rfl,rfl⟩) (by omega) rfl) ?_
         rintro v wm ⟨M,rfl,F⟩
         have q1:=(y.out.blk (g:=g5) (t:=161) (cs:=#[.pointer (some ⟨gd,0,none⟩)]) (by simp [a3.out])).cell 0
         have q2:=(F.blk (g:=g5) (t:=161) (cs:=#[.pointer (some ⟨gd,0,none⟩)]) (by simp [a3.out])).cell 0
         have E:=hide F
         clear y F
         go_wp2_with fail
         first | refine C _ _ ⟨fun z W q U=>?_,?_⟩ | refine⟨fun z W q U=>?_,?_⟩
         · simp only [List.mem_cons,List.not_mem_nil,or_false] at W
           subst W
           injection U with U
           subst U
           exact Reg.same_load1 rfl rfl q1 q2 Tryz.underlying161 rfl
         try clear C
         clear q1 q2
         have y:=E
         clear E)
      | (refine Reg.rest_act' 5 _ [] rfl (by kernel_rfl) ?_
         intro Qf C
         try simp only [gT,gS,gZ]
         go_wp2_with fail
         refine Calls.ret (y.out.state' (5,0,0) (cs:=#[.int .i64 5]) (by simp) (.inl ⟨rfl,rfl,rfl⟩) (by omega) rfl) ?_
         rintro v wm ⟨I,rfl,F⟩
         have E:=hide F
         clear y F
         go_wp2_with fail
         first | refine C _ _ ⟨Reg.nm,?_⟩ | refine⟨Reg.nm,?_⟩
         try clear C
         have y:=E
         clear E)
    refine Reg.rest_walkE [7,8] [] rfl rfl (by kernel_rfl) ?_
    intro Qf C
    have O:=y.out.blk (g:=g7) (t:=3) (cs:=#[.int .i64 0]) (by simp)
    have c8:=O.cell
    have c9:=O.frozen 0
    have ca:=O.lt
    have hF:=hide (y.out.setB (i:=0) (t:=3) (g:=g7) (cs:=#[.int .i64 0]) (ls':=ls) (by simp) (.int .i64 (I:Int)) (fun x G=>⟨by simp [G],a6.out x G⟩) Z.out)
    clear O y
    go_wp2_with fail
    first | refine C _ _ ?_ | skip
    try clear C
    refine Reg.rest_end ?_
    exact hQ _ _ _ _ _ _ _ g7 M I hF.out
theorem aAh {w0 w:World} {gd gm g5 n:Nat} {d:Drw} {ls:Lst} {S:List (Nme×Nat)} (h:DrS w0 w gd gm d n ls S) (h5:(g5,161,#[.pointer (some ⟨gd,0,none⟩)])∈ls) (hn:n≤1000)
    {u0 u1 u2 u3 u4 u6 u7 u8 u9 aa al ay aK aV b9 cB cD cE cF cG cH bb bc bd be bf bg bh bi bk bl bm bn bo bp bq br bs bt bv bw bx bz bA bB bC bD bE bF bG bH bI bJ bK bL bM bN bO bP bQ bR bS bT u64 bU bV bW bX bY bZ c0 c4 c5 c6 c7 c8 c9 ca cb cc cd ce cf cg ch ci cj ck cl cn co cp cq cr ct cu cv cw cx ab ac ad ae af ag ah ai aj ak am an ao ap aq ar au av aw ax az aA aB aC aD aE aF aG aH aJ aL aM aN aO aP aQ aR aS aT aU aW aX aY aZ b0 b4 b5 b6 b7 b8:Value}
    {Q:Exit→Act→World→Prop} (hN:Reg.NoQ Q)
    (hQ:∀(cM cO cQ cR cS cT:Value) (w':World) (g7 M I:Nat),DrS w0 w' gd gm ((d.add (0,0,0)).add (5,0,0)) (n+2) ((g7,3,#[.int .i64 (I:Int)])::ls) (((5,0,0),I)::((0,0,0),M)::S)→
      Q .normal ⟨List.toArray (u0::u1::u2::u3::u4::(.pointer (some ⟨g5,0,none⟩))::(.int .i64 (M:Int))::(.pointer (some ⟨g7,0,none⟩))::u8::u9::aa::al::ay::aK::aV::b9::cM::cO::cQ::cR::cS::cT::bb::bc::bd::be::bf::bg::
      bh::bi::bk::bl::bm::bn::bo::bp::bq::br::bs::bt::bv::bw::bx::bz::bA::bB::bC::bD::bE::bF::bG::bH::bI::bJ::bK::bL::bM::bN::bO::bP::bQ::bR::bS::bT::u64::
      bU::bV::bW::bX::bY::bZ::c0::c4::c5::c6::c7::c8::c9::ca::cb::cc::cd::ce::cf::cg::ch::ci::cj::ck::cl::cn::co::cp::cq::cr::ct::cu::cv::cw::cx::ab::ac::
      ad::ae::af::ag::ah::ai::aj::ak::am::an::ao::ap::aq::ar::au::av::aw::ax::az::aA::aB::aC::aD::aE::aF::aG::aH::aJ::aL::aM::aN::aO::aP::
      aQ::aR::aS::aT::aU::aW::aX::aY::aZ::b0::b4::b5::b6::b7::b8::[]),[]⟩ w'):
    (Eu Tryz.f104 2).wp Tryz.prog Q ⟨List.toArray (u0::u1::u2::u3::u4::(.pointer (some ⟨g5,0,none⟩))::u6::u7::u8::u9::aa::al::ay::aK::aV::b9::cB::cD::cE::cF::cG::cH::bb::bc::bd::be::bf::bg::bh::bi::bk::bl::bm::bn::bo::
      bp::bq::br::bs::bt::bv::bw::bx::bz::bA::bB::bC::bD::bE::bF::bG::bH::bI::bJ::bK::bL::bM::bN::bO::bP::bQ::bR::bS::bT::u64::bU::bV::bW::bX::bY::bZ::c0::
      c4::c5::c6::c7::c8::c9::ca::cb::cc::cd::ce::cf::cg::ch::ci::cj::ck::cl::cn::co::cp::cq::cr::ct::cu::cv::cw::cx::ab::ac::ad::ae::af::ag::ah::ai::
      aj::ak::am::an::ao::ap::aq::ar::au::av::aw::ax::az::aA::aB::aC::aD::aE::aF::aG::aH::aJ::aL::aM::aN::aO::aP::aQ::aR::aS::aT::aU::aW::
      aX::aY::aZ::b0::b4::b5::b6::b7::b8::[]),[]⟩ w:=by
  conv=>arg 2; whnf
  refine Reg.region_spl [0,0,3,0,0,31,0,127,255] (.node 1 4 (.node 1 6 (.node 2 4 (.node 2 6 (.node 4 6 (.node 5 6 (.leaf [0,3,1,2,4,5,6,7,8]) (.leaf [0,3,1,2,4,6,5,7,8])) (.leaf [0,3,1,2,6,4,5,7,8])) (.leaf [0,3,1,6,2,4,5,7,8])) (.node 2 6 (.node 5 6 (.leaf [0,3,1,4,2,5,6,7,8]) (.leaf [0,3,1,4,2,6,5,7,8])) (.node 4 6 (.leaf [0,3,1,4,6,2,5,7,8]) (.leaf [0,3,1,6,4,2,5,7,8])))) (.node 2 4 (.leaf [0,3,6,1,2,4,5,7,8]) (.leaf [0,3,6,1,4,2,5,7,8]))) (.node 1 6 (.node 2 6 (.node 5 6 (.leaf [0,3,4,1,2,5,6,7,8]) (.leaf [0,3,4,1,2,6,5,7,8])) (.leaf [0,3,4,1,6,2,5,7,8])) (.node 4 6 (.leaf [0,3,4,6,1,2,5,7,8]) (.leaf [0,3,6,4,1,2,5,7,8])))) (by kernel_rfl) hN ?_
  dsimp only [Reg.Spl.goal]
  have y:=hide (h.keep (Ap w))
  have a5:∀x∈ls,x.1<w.drew.heap.size:=fun x G=>((h.keep (Ap w)).blk (g:=x.1) (t:=x.2.1) (cs:=x.2.2) G).lt
  have cZ:=y.out.below.size
  have cX:=hide a5
  generalize w.drew=wd at*
  clear h a5
  have cA:=(y.out.blk h5).cell
  have a3:=hide h5
  repeat' (with_reducible refine And.intro ?_ ?_)
  all_goals
    refine Reg.rest_walkE [0,3] _ rfl rfl (by kernel_rfl) ?_
    intro Qf C
    go_wp2_with fail
    refine C _ _ ?_
    clear C cA
    iterate 5
      first
      | (refine Reg.rest_walkE [1] _ rfl rfl (by kernel_rfl) ?_
         intro Qf C
         obtain⟨wn,J,E,V⟩:=y.out.pushE 3 #[.int .i64 0]
         go_wp2_with fail
         refine C _ _ ?_
         clear C y J
         have y:=E
         clear E)
      | (refine Reg.rest_walkE [4] _ rfl rfl (by kernel_rfl) ?_
         intro Qf C
         obtain⟨wn,J,E,V⟩:=y.out.pushE 3 #[.int .i64 5]
         go_wp2_with fail
         refine C _ _ ?_
         clear C y J
         have y:=E
         clear E)
      | (refine Reg.rest_walkE [6] _ rfl rfl (by kernel_rfl) ?_
         intro Qf C
         obtain⟨wn,J,E,V⟩:=y.out.pushE 3 #[.int .i64 0]
         have a6:=hide (fun x (G:x∈ls)=>Nat.ne_of_lt (y.out.blk (g:=x.1) (t:=x.2.1) (cs:=x.2.2) (by simp [G])).lt)
         have Z:=hide y.out.below.size
         obtain⟨g7,a4⟩:=Ws V
         rw [a4] at E a6 Z
         go_wp2_with fail
         refine C _ _ ?_
         clear C y J a4
         have y:=E
         clear E)
      | (refine Reg.rest_act' 2 _ [3] rfl (by kernel_rfl) ?_
         intro Qf C
         try simp only [gT,gS,gZ]
         go_wp2_with fail
         refine Calls.ret (y.out.state' (0,0,0) (cs:=#[.int .i64 0]) (by simp) (.inl ⟨rfl,rfl,rfl⟩) (by omega) rfl) ?_
         rintro v wm ⟨M,rfl,F⟩
         have q1:=(y.out.blk (g:=g5) (t:=161) (cs:=#[.pointer (some ⟨gd,0,none⟩)]) (by simp [a3.out])).cell 0
         have q2:=(F.blk (g:=g5) (t:=161) (cs:=#[.pointer (some ⟨gd,0,none⟩)]) (by simp [a3.out])).cell 0
         have E:=hide F
         clear y F
         go_wp2_with fail
         first | refine C _ _ ⟨fun z W q U=>?_,?_⟩ | refine⟨fun z W q U=>?_,?_⟩
         · simp only [List.mem_cons,List.not_mem_nil,or_false] at W
           subst W
           injection U with U
           subst U
           exact Reg.same_load1 rfl rfl q1 q2 Tryz.underlying161 rfl
         try clear C
         clear q1 q2
         have y:=E
         clear E)
      | (refine Reg.rest_act' 5 _ [] rfl (by kernel_rfl) ?_
         intro Qf C
         try simp only [gT,gS,gZ]
         go_wp2_with fail
         refine Calls.ret (y.out.state' (5,0,0) (cs:=#[.int .i64 5]) (by simp) (.inl ⟨rfl,rfl,rfl⟩) (by omega) rfl) ?_
         rintro v wm ⟨I,rfl,F⟩
         have E:=hide F
         clear y F
         go_wp2_with fail
         first | refine C _ _ ⟨Reg.nm,?_⟩ | refine⟨Reg.nm,?_⟩
         try clear C
         have y:=E
         clear E)
    refine Reg.rest_walkE [7,8] [] rfl rfl (by kernel_rfl) ?_
    intro Qf C
    have O:=y.out.blk (g:=g7) (t:=3) (cs:=#[.int .i64 0]) (by simp)
    have cU:=O.cell
    have cV:=O.frozen 0
    have cW:=O.lt
    have hF:=hide (y.out.setB (i:=0) (t:=3) (g:=g7) (cs:=#[.int .i64 0]) (ls':=ls) (by simp) (.int .i64 (I:Int)) (fun x G=>⟨by simp [G],a6.out x G⟩) Z.out)
    clear O y
    go_wp2_with fail
    first | refine C _ _ ?_ | skip
    try clear C
    refine Reg.rest_end ?_
    exact hQ _ _ _ _ _ _ _ g7 M I hF.out
end Go.Proofs.YtfcfpoemojjglaaGreatDoor
namespace Go.Proofs.YtfcfpoemojjglaaGreatDoor
open Go.RowKit
set_option maxHeartbeats 16000000
set_option maxRecDepth 100000
theorem ZL {w0 w:World} {gd gm g3 g5 n L:Nat} {d:Drw} {ls:Lst} {S:List (Nme×Nat)} {rc:Array Value} {left right:List Int} {f t:Int} (h:DrS w0 w gd gm d n ls S) (W:d.L=L) (bG:L≤60) (Z:K4 w0 rc f t left right) (M:(g3,99,rc)∈ls)
  (O:(g5,161,#[.pointer (some ⟨gd,0,none⟩)])∈ls) (hn:n≤1000)
  {u0 u1 u2 u3 u4 u6 u7 u8 bO ab ac ad ae af ag ah ai aj al am an ao ap aq ar au av aw ay az aA aB aC aD aE aF aG aH aK aL aM aN aO aP aQ aR aS aT aU aV aW aX aY aZ b0 b4 b5 b6 b8 b9 ba bb u64 bc bd be bf bg bi bj bk bl bm bn bo bp bq br bs bt bu bv bw bP bQ bR bS bT bU bV bW bX bY bx bz bA bB a4 a5 a6 a7 a8 a9 aa:Value}
  {Q:Exit→Act→World→Prop} (hN:Reg.NoQ Q)
  (hQ:∀(c0 c4 c5 c6 c7 c8 c9 ca cb cc cd ce:Value) (w':World) (S':List (Nme×Nat)),DrS w0 w' gd gm (Qg d left 2) (n+242) ls S'→(∀p∈S,p∈S')→(Qg d left 2).L=L→Q (.exit 1) ⟨List.toArray (u0::u1::u2::u3::u4::(.pointer (some ⟨g5,0,none⟩))::u6::u7::u8::(.func (.func 157) #[] #[.pointer (some ⟨g5,0,none⟩),.pointer (some ⟨g3,0,none⟩)])::c0::ab::ac::ad::ae::af::ag::ah::ai::aj::al::am::
   an::ao::ap::aq::ar::au::av::aw::ay::az::aA::aB::aC::aD::aE::aF::aG::aH::aK::aL::aM::aN::aO::aP::aQ::aR::aS::aT::aU::aV::aW::aX::aY::aZ::b0::b4::b5::
   b6::b8::b9::ba::bb::u64::bc::bd::be::bf::bg::bi::bj::bk::bl::bm::bn::bo::bp::bq::br::bs::bt::bu::bv::bw::c4::c5::c6::c7::c8::c9::ca::cb::cc::cd::ce::
   bx::bz::bA::bB::a4::a5::a6::a7::a8::a9::aa::[]),[]⟩ w'):
  (Code.loop (CG Tryz.f105 0)).wp Tryz.prog Q ⟨List.toArray (u0::u1::u2::u3::u4::(.pointer (some ⟨g5,0,none⟩))::u6::u7::u8::(.func (.func 157) #[] #[.pointer (some ⟨g5,0,none⟩),.pointer (some ⟨g3,0,none⟩)])::bO::ab::ac::ad::ae::af::ag::ah::ai::aj::al::am::
   an::ao::ap::aq::ar::au::av::aw::ay::az::aA::aB::aC::aD::aE::aF::aG::aH::aK::aL::aM::aN::aO::aP::aQ::aR::aS::aT::aU::aV::aW::aX::aY::aZ::b0::b4::b5::
   b6::b8::b9::ba::bb::u64::bc::bd::be::bf::bg::bi::bj::bk::bl::bm::bn::bo::bp::bq::br::bs::bt::bu::bv::bw::(.int .i64 0)::bP::bQ::bR::bS::bT::bU::bV::bW::bX::
   bY::bx::bz::bA::bB::a4::a5::a6::a7::a8::a9::aa::[]),[]⟩ w:=by
 conv=>arg 2; arg 1; whnf
 have hH:=hide h
 have bL:=hide Z
 have bC:=hide M
 have y:=hide O
 have bH:=hide W
 clear h Z M O W
 go_loopw [85] (fun J wr=>∃(i:Nat) (S':List (Nme×Nat)),J=.int .i64 (i:Int)∧i≤2∧Hid (DrS w0 wr gd gm (Qg d left i) (n+121*i) ls S')∧Hid (∀p∈S,p∈S')∧Hid ((Qg d left i).L=L)) (fun J _=>2 - (intOf J).toNat)
 case atStart=>exact⟨0,S,rfl,Nat.zero_le _,hH,fun p G=>G,bH⟩
 case round=>
  obtain⟨i,S',rfl,hi,U,hS,E⟩:=hrel
  by_cases ch:i<2
  ·have hd:=U.out.keep (Ap wr)
   have bJ:=hide hd
   have cf:=(hd.blk y.out).cell
   have q5:=(((hd.push 3 #[.int .i64 1,.int .i64 (i:Int)]).blk (List.mem_cons_of_mem _ y.out)).cell 0)
   clear hd
   go_wp2_with fail
   refine Reg.cC [0,0,0,4,14,0,63] [0,1,2,5,3,4,6] ?_ (by kernel_rfl) (by repeat (first | exact hN | refine Reg.NoQ.then ?_ | refine Reg.NoQ.inBlock ?_))
   refine Reg.rest_walk' [0,1,2,5,3] [4,6] rfl (by kernel_rfl) ?_
   intro Qf x
   go_wp2_with fail
   first | refine x _ _ ?_ | skip
   try clear x
   refine Reg.rest_act' 4 [6] [0] rfl (by kernel_rfl) ?_
   intro Qf x
   try simp only [gT,gS,gZ]
   go_wp2_with fail
   refine Calls.ret (bJ.out.state (1,i,0) (m:=2) (.inr (.inl ⟨rfl,rfl⟩)) (by omega) rfl) ?_
   rintro v w2 ⟨e,rfl,C⟩
   have p5:=(C.blk y.out).cell 0
   have bD:=hide C
   clear C
   go_wp2_with fail
   first | refine x _ _ ⟨?_,?_⟩ | refine⟨?_,?_⟩
   ·intro z hz q I
    simp only [List.mem_cons,List.not_mem_nil,or_false] at hz
    subst hz
    injection I with I
    subst I
    exact Reg.same_load1 rfl rfl (q5) (p5) Tryz.underlying161 rfl
   try clear x
   refine Reg.rest_act' 6 [] [] rfl (by kernel_rfl) ?_
   intro Qf x
   try simp only [gT,gS,gZ]
   go_wp2_with fail
   refine Calls.ret (bD.out.keep_ (L:=L) (F:=157) (caps:=[.pointer (some ⟨g5,0,none⟩),.pointer (some ⟨g3,0,none⟩)]) (κ:=Wh left) (f:=(1,i,0)) (ef:=e) (S0:=[]) (by rw [Drw.add_L]; exact E.out) bG (by simp) (fun _ h=>by cases h) (fun _ _=>XB bL.out bC.out y.out) (.inr (.inl ⟨_,_,rfl,by simp⟩)) (by omega)) ?_
   rintro v w3 ⟨rfl,V⟩
   have bE:Hid (DrS w0 w3 gd gm (Qg d left (i+1)) (n+121*(i+1)) ls (((1,i,0),e)::S')):=hide (V.big (by omega))
   have bK:Hid ((Qg d left (i+1)).L=L):=hide (show(((Qg d left i).add (1,i,0)).kp (1,i,0) (Wh left)).L=L by rw [Drw.kp_L,Drw.add_L]; exact E.out)
   clear V
   go_wp2_with fail
   first | refine x _ _ ⟨Reg.nm,?_⟩ | refine⟨Reg.nm,?_⟩
   try clear x
   first | refine Reg.rest_end ?_ | skip
   go_wp2_with fail
   exact⟨⟨i+1,_,by go_num,by omega,bE,fun p G=>List.mem_cons_of_mem _ (hS.out p G),bK⟩,by simp [intOf]; omega⟩
  ·obtain rfl:i=2:=by omega
   go_wp2_with fail
   exact hQ _ _ _ _ _ _ _ _ _ _ _ _ _ S' U.out hS.out E.out
theorem aAf {w0 w:World} {gd gm g3 g5 n L:Nat} {d:Drw} {ls:Lst} {S:List (Nme×Nat)} {rc:Array Value} {left right:List Int} {f t:Int} {g9:Nat} (h:DrS w0 w gd gm d n ls S) (hL:d.L=L) (ct:L≤60) (hr:K4 w0 rc f t left right) (O:(g3,99,rc)∈ls)
  (U:(g5,161,#[.pointer (some ⟨gd,0,none⟩)])∈ls) (V:(g9,210,#[.func (.func 150) #[] #[.pointer (some ⟨g5,0,none⟩),.pointer (some ⟨g3,0,none⟩)]])∈ls) (hn:n≤1000)
  {u0 u1 u2 u3 u4 u6 u7 u8 cE ag ar aE aQ b4 b5 b6 b7 b8 ba bb bc bd be bf bg bh bi bj bl bm bn bo bp bq br bs bt bu bw bx bz bA bB bC bD bE bF bG bH bI bJ bK bL bM bN bO bP bQ bS bT bU bV u64 bW bX bY bZ c0 c5 cF cG cH cJ cK cL cM cO cQ cR c6 c7 c8 c9 ca cb cc cd ce cf cg ch ci cj ck cl cm cn a6 a7 a8 a9 aa ab ac ad ae af ah ai aj ak al am an ao ap aq au av aw ax ay az aA aB aC aD aF aG aH aJ aK aL aM aN aO aP aR aS aT aU aV aW aX aY aZ b0:Value}
  {Q:Exit→Act→World→Prop} (hN:Reg.NoQ Q)
  (hQ:∀(cT cU cV cW cX cY cZ d0 d1 d2 d3 d4:Value) (w':World) (S':List (Nme×Nat)),DrS w0 w' gd gm (MR d left 2) (n+242) ls S'→(∀p∈S,p∈S')→(MR d left 2).L=L→Q (.exit 0) ⟨List.toArray (u0::u1::u2::u3::u4::(.pointer (some ⟨g5,0,none⟩))::u6::u7::u8::(.pointer (some ⟨g9,0,none⟩))::cT::ag::ar::aE::aQ::b4::b5::b6::b7::b8::ba::bb::bc::bd::be::bf::bg::bh::bi::bj::
   bl::bm::bn::bo::bp::bq::br::bs::bt::bu::bw::bx::bz::bA::bB::bC::bD::bE::bF::bG::bH::bI::bJ::bK::bL::bM::bN::bO::bP::bQ::bS::bT::bU::bV::u64::bW::bX::
   bY::bZ::c0::c5::cU::cV::cW::cX::cY::cZ::d0::d1::d2::d3::d4::c6::c7::c8::c9::ca::cb::cc::cd::ce::cf::cg::ch::ci::cj::ck::cl::cm::cn::a6::a7::a8::a9::
   aa::ab::ac::ad::ae::af::ah::ai::aj::ak::al::am::an::ao::ap::aq::au::av::aw::ax::ay::az::aA::aB::aC::aD::aF::aG::aH::aJ::aK::aL::aM::
   aN::aO::aP::aR::aS::aT::aU::aV::aW::aX::aY::aZ::b0::[]),[]⟩ w'):
  (Code.loop (CG Tryz.f104 0)).wp Tryz.prog Q ⟨List.toArray (u0::u1::u2::u3::u4::(.pointer (some ⟨g5,0,none⟩))::u6::u7::u8::(.pointer (some ⟨g9,0,none⟩))::cE::ag::ar::aE::aQ::b4::b5::b6::b7::b8::ba::bb::bc::bd::be::bf::bg::bh::bi::bj::
   bl::bm::bn::bo::bp::bq::br::bs::bt::bu::bw::bx::bz::bA::bB::bC::bD::bE::bF::bG::bH::bI::bJ::bK::bL::bM::bN::bO::bP::bQ::bS::bT::bU::bV::u64::bW::bX::
   bY::bZ::c0::c5::(.int .i64 0)::cF::cG::cH::cJ::cK::cL::cM::cO::cQ::cR::c6::c7::c8::c9::ca::cb::cc::cd::ce::cf::cg::ch::ci::cj::ck::cl::cm::cn::a6::a7::
   a8::a9::aa::ab::ac::ad::ae::af::ah::ai::aj::ak::al::am::an::ao::ap::aq::au::av::aw::ax::ay::az::aA::aB::aC::aD::aF::aG::aH::aJ::aK::
   aL::aM::aN::aO::aP::aR::aS::aT::aU::aV::aW::aX::aY::aZ::b0::[]),[]⟩ w:=by
 conv=>arg 2; arg 1; whnf
 have hH:=hide h
 have cy:=hide hr
 have co:=hide O
 have C:=hide U
 have G:=hide V
 have cu:=hide hL
 clear h hr O U V hL
 go_loopw [71] (fun M wr=>∃(i:Nat) (S':List (Nme×Nat)),M=.int .i64 (i:Int)∧i≤2∧Hid (DrS w0 wr gd gm (MR d left i) (n+121*i) ls S')∧Hid (∀p∈S,p∈S')∧Hid ((MR d left i).L=L)) (fun M _=>2 - (intOf M).toNat)
 case atStart=>exact⟨0,S,rfl,Nat.zero_le _,hH,fun p J=>J,cu⟩
 case round=>
  obtain⟨i,S',rfl,hi,W,hS,I⟩:=hrel
  by_cases d8:i<2
  ·have hd:=W.out.keep (Ap wr)
   have cw:=hide hd
   have d5:=(hd.blk C.out).cell
   have d6:=(hd.blk G.out).cell
   have q5:=(((hd.push 3 #[.int .i64 4,.int .i64 (i:Int)]).blk (List.mem_cons_of_mem _ C.out)).cell 0)
   have q9:=(((hd.push 3 #[.int .i64 4,.int .i64 (i:Int)]).blk (List.mem_cons_of_mem _ G.out)).cell 0)
   clear hd
   go_wp2_with fail
   refine Reg.cC [0,0,0,4,14,0,63] [0,1,2,5,3,4,6] ?_ (by kernel_rfl) (by repeat (first | exact hN | refine Reg.NoQ.then ?_ | refine Reg.NoQ.inBlock ?_))
   refine Reg.rest_walk' [0,1,2,5,3] [4,6] rfl (by kernel_rfl) ?_
   intro Qf x
   go_wp2_with fail
   first | refine x _ _ ?_ | skip
   try clear x
   refine Reg.rest_act' 4 [6] [0,5] rfl (by kernel_rfl) ?_
   intro Qf x
   try simp only [gT,gS,gZ]
   go_wp2_with fail
   refine Calls.ret (cw.out.state (4,i,0) (m:=2) (.inr (.inl ⟨rfl,rfl⟩)) (by omega) rfl) ?_
   rintro v w2 ⟨e,rfl,E⟩
   have p5:=(E.blk C.out).cell 0
   have p9:=(E.blk G.out).cell 0
   have cp:=hide E
   clear E
   go_wp2_with fail
   first | refine x _ _ ⟨?_,?_⟩ | refine⟨?_,?_⟩
   ·intro z hz q y
    simp only [List.mem_cons,List.not_mem_nil,or_false] at hz
    rcases hz with rfl | rfl
    ·injection y with y
     subst y
     exact Reg.same_load1 rfl rfl (q5) (p5) Tryz.underlying161 rfl
    ·injection y with y
     subst y
     exact Reg.same_load1 rfl rfl (q9) (p9) Tryz.underlying210 rfl
   try clear x
   refine Reg.rest_act' 6 [] [] rfl (by kernel_rfl) ?_
   intro Qf x
   try simp only [gT,gS,gZ]
   go_wp2_with fail
   refine Calls.ret (cp.out.keep_ (L:=L) (F:=150) (caps:=[.pointer (some ⟨g5,0,none⟩),.pointer (some ⟨g3,0,none⟩)]) (κ:=Wt left) (f:=(4,i,0)) (ef:=e) (S0:=[]) (by rw [Drw.add_L]; exact I.out) ct (by simp) (fun _ h=>by cases h) (fun _ _=>XC cy.out co.out C.out) (.inr (.inl ⟨_,_,rfl,by simp⟩)) (by omega)) ?_
   rintro v w3 ⟨rfl,Z⟩
   have cq:Hid (DrS w0 w3 gd gm (MR d left (i+1)) (n+121*(i+1)) ls (((4,i,0),e)::S')):=hide (Z.big (by omega))
   have cx:Hid ((MR d left (i+1)).L=L):=hide (show(((MR d left i).add (4,i,0)).kp (4,i,0) (Wt left)).L=L by rw [Drw.kp_L,Drw.add_L]; exact I.out)
   clear Z
   go_wp2_with fail
   first | refine x _ _ ⟨Reg.nm,?_⟩ | refine⟨Reg.nm,?_⟩
   try clear x
   first | refine Reg.rest_end ?_ | skip
   go_wp2_with fail
   exact⟨⟨i+1,_,by go_num,by omega,cq,fun p J=>List.mem_cons_of_mem _ (hS.out p J),cx⟩,by simp [intOf]; omega⟩
  ·obtain rfl:i=2:=by omega
   go_wp2_with fail
   exact hQ _ _ _ _ _ _ _ _ _ _ _ _ _ S' W.out hS.out I.out
end Go.Proofs.YtfcfpoemojjglaaGreatDoor
