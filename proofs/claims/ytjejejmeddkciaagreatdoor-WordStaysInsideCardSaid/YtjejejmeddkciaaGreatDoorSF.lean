/-
  Part SF of a proof.
-/
import Derived.Test.YtjejejmeddkciaaGreatDoorSD
import Derived.Test.YtjejejmeddkciaaGreatDoorPA
import Derived.Test.YtjejejmeddkciaaGreatDoorPE
set_option maxHeartbeats 16000000
set_option maxRecDepth 100000
set_option linter.unusedVariables false
set_option linter.unusedSimpArgs false
namespace Go.Proofs.YtjejejmeddkciaaGreatDoor
open Go.RowKit
set_option maxHeartbeats 16000000
set_option maxRecDepth 100000
theorem Ws {a b:Nat} (_:a<b):∃c,a=c:=⟨a,rfl⟩
theorem ZM {w0 w:World} {gd gm g5 n:Nat} {d:Drw} {ls:Lst} {S:List (Nme×Nat)} (h:DrS w0 w gd gm d n ls S) (h5:(g5,128,#[.pointer (some ⟨gd,0,none⟩)])∈ls) (hn:n<=1000)
    {u0 u1 u2 u3 u4 u6 u7 u8 u9 ad al am bT bU bV bW bX bY an ap aq ar au av aw ax ay az aA aC aD aE aF aG aH aJ aK aL aM aO aP aQ aR aS aT aU aV aW aX aY aZ b0 b4 b5 b6 b7 b8 b9 ba bb bc bd be u64 bf bg bh bi bj bk bl bm bn bo bp bq br bs bt bu bv bw bx bz bA bB bC bD bE bG bH bI bJ bK bL bM bN bO bP ae af ag ah ai aj ak:Value}
    {Q:Exit->Act->World->Prop} (hN:Reg.NoQ Q)
    (hQ:∀(c5 c6 c7 c8 c9 ca:Value) (w':World) (g7 O J:Nat),DrS w0 w' gd gm ((d.add (0,0,0)).add (5,0,0)) (n+2) ((g7,3,#[.int .i64 (J:Int)])::ls) (((5,0,0),J)::((0,0,0),O)::S)->
      Q .normal ⟨List.toArray (u0::u1::u2::u3::u4::(.pointer (some ⟨g5,0,none⟩))::(.int .i64 (O:Int))::(.pointer (some ⟨g7,0,none⟩))::u8::u9::ad::al::am::c5::c6::c7::c8::c9::ca::an::ap::aq::ar::au::av::aw::ax::ay::
      az::aA::aC::aD::aE::aF::aG::aH::aJ::aK::aL::aM::aO::aP::aQ::aR::aS::aT::aU::aV::aW::aX::aY::aZ::b0::b4::b5::b6::b7::b8::b9::ba::bb::bc::bd::be::u64::
      bf::bg::bh::bi::bj::bk::bl::bm::bn::bo::bp::bq::br::bs::bt::bu::bv::bw::bx::bz::bA::bB::bC::bD::bE::bG::bH::bI::bJ::bK::bL::bM::bN::bO::bP::ae::af::
      ag::ah::ai::aj::ak::[]),[]⟩ w'):
    (Eu Tryz.f54 2).wp Tryz.prog Q ⟨List.toArray (u0::u1::u2::u3::u4::(.pointer (some ⟨g5,0,none⟩))::u6::u7::u8::u9::ad::al::am::bT::bU::bV::bW::bX::bY::an::ap::aq::ar::au::av::aw::ax::ay::az::aA::aC::aD::aE::aF::aG::
      aH::aJ::aK::aL::aM::aO::aP::aQ::aR::aS::aT::aU::aV::aW::aX::aY::aZ::b0::b4::b5::b6::b7::b8::b9::ba::bb::bc::bd::be::u64::bf::bg::bh::bi::bj::bk::bl::
      bm::bn::bo::bp::bq::br::bs::bt::bu::bv::bw::bx::bz::bA::bB::bC::bD::bE::bG::bH::bI::bJ::bK::bL::bM::bN::bO::bP::ae::af::ag::ah::ai::aj::ak::[]),[]⟩ w:=by
  conv=>arg 2;whnf
  refine Reg.region_spl [0,0,3,0,0,31,0,127,255] (.node 1 4 (.node 1 6 (.node 2 4 (.node 2 6 (.node 4 6 (.node 5 6 (.leaf [0,3,1,2,4,5,6,7,8]) (.leaf [0,3,1,2,4,6,5,7,8])) (.leaf [0,3,1,2,6,4,5,7,8])) (.leaf [0,3,1,6,2,4,5,7,8])) (.node 2 6 (.node 5 6 (.leaf [0,3,1,4,2,5,6,7,8]) (.leaf [0,3,1,4,2,6,5,7,8])) (.node 4 6 (.leaf [0,3,1,4,6,2,5,7,8]) (.leaf [0,3,1,6,4,2,5,7,8])))) (.node 2 4 (.leaf [0,3,6,1,2,4,5,7,8]) (.leaf [0,3,6,1,4,2,5,7,8]))) (.node 1 6 (.node 2 6 (.node 5 6 (.leaf [0,3,4,1,2,5,6,7,8]) (.leaf [0,3,4,1,2,6,5,7,8])) (.leaf [0,3,4,1,6,2,5,7,8])) (.node 4 6 (.leaf [0,3,4,6,1,2,5,7,8]) (.leaf [0,3,6,4,1,2,5,7,8])))) (by kernel_rfl) hN ?_;dsimp only [Reg.Spl.goal];have C:=hide (h.keep (Ap w));have a6:∀x∈ls,x.1<w.drew.heap.size:=fun x I=>((h.keep (Ap w)).blk (g:=x.1) (t:=x.2.1) (cs:=x.2.2) I).lt;have cg:=C.out.below.size;have ce:=hide a6;generalize w.drew=wd at*;clear h a6;have bS:=(C.out.blk h5).cell;have a4:=hide h5
  repeat' (with_reducible refine And.intro ?_ ?_)
  all_goals
    refine Reg.rest_walkE [0,3] _ rfl rfl (by kernel_rfl) ?_;intro Qf E;go_wp2_with fail;refine E _ _ ?_;clear E bS
    iterate 5
      first
      | (refine Reg.rest_walkE [1] _ rfl rfl (by kernel_rfl) ?_
         intro Qf E;obtain⟨wn,M,F,W⟩:=C.out.pushE 3 #[.int .i64 0];go_wp2_with fail;refine E _ _ ?_;clear E C M;have C:=F;clear F)
      | (refine Reg.rest_walkE [4] _ rfl rfl (by kernel_rfl) ?_
         intro Qf E;obtain⟨wn,M,F,W⟩:=C.out.pushE 3 #[.int .i64 5];go_wp2_with fail;refine E _ _ ?_;clear E C M;have C:=F;clear F)
      | (refine Reg.rest_walkE [6] _ rfl rfl (by kernel_rfl) ?_
         intro Qf E;obtain⟨wn,M,F,W⟩:=C.out.pushE 3 #[.int .i64 0];have a7:=hide (fun x (I:x∈ls)=>Nat.ne_of_lt (C.out.blk (g:=x.1) (t:=x.2.1) (cs:=x.2.2) (by simp [I])).lt);have a2:=hide C.out.below.size;obtain⟨g7,a5⟩:=Ws W;rw [a5] at F a7 a2;go_wp2_with fail;refine E _ _ ?_;clear E C M a5;have C:=F;clear F)
      | (refine Reg.rest_act' 2 _ [3] rfl (by kernel_rfl) ?_
         intro Qf E;try simp only [gT,gS,gZ]
         go_wp2_with fail;refine Calls.ret (C.out.state' (0,0,0) (cs:=#[.int .i64 0]) (by simp) (.inl ⟨rfl,rfl,rfl⟩) (by omega) rfl) ?_;rintro v wm ⟨O,rfl,G⟩;have q1:=(C.out.blk (g:=g5) (t:=128) (cs:=#[.pointer (some ⟨gd,0,none⟩)]) (by simp [a4.out])).cell 0;have q2:=(G.blk (g:=g5) (t:=128) (cs:=#[.pointer (some ⟨gd,0,none⟩)]) (by simp [a4.out])).cell 0;have F:=hide G;clear C G;go_wp2_with fail;first|refine E _ _ ⟨fun z Z q V=>?_,?_⟩|refine⟨fun z Z q V=>?_,?_⟩
         · simp only [List.mem_cons,List.not_mem_nil,or_false] at Z
           subst Z;injection V with V
           subst V;exact Reg.same_load1 rfl rfl q1 q2 Tryz.underlying128 rfl
         (try clear E);clear q1 q2;have C:=F;clear F)
      | (refine Reg.rest_act' 5 _ [] rfl (by kernel_rfl) ?_
         intro Qf E;try simp only [gT,gS,gZ]
         go_wp2_with fail;refine Calls.ret (C.out.state' (5,0,0) (cs:=#[.int .i64 5]) (by simp) (.inl ⟨rfl,rfl,rfl⟩) (by omega) rfl) ?_;rintro v wm ⟨J,rfl,G⟩;have F:=hide G;clear C G;go_wp2_with fail;first|refine E _ _ ⟨Reg.nm,?_⟩|refine⟨Reg.nm,?_⟩
         (try clear E);have C:=F;clear F)
    refine Reg.rest_walkE [7,8] [] rfl rfl (by kernel_rfl) ?_;intro Qf E;have U:=C.out.blk (g:=g7) (t:=3) (cs:=#[.int .i64 0]) (by simp);have cb:=U.cell;have cc:=U.frozen 0;have cd:=U.lt;have hF:=hide (C.out.setB (i:=0) (t:=3) (g:=g7) (cs:=#[.int .i64 0]) (ls':=ls) (by simp) (.int .i64 (J:Int)) (fun x I=>⟨by simp [I],a7.out x I⟩) a2.out);clear U C;go_wp2_with fail;first|refine E _ _ ?_|skip
    (try clear E);refine Reg.rest_end ?_;exact hQ _ _ _ _ _ _ _ g7 O J hF.out
theorem aAh {w0 w:World} {gd gm g5 n:Nat} {d:Drw} {ls:Lst} {S:List (Nme×Nat)} (h:DrS w0 w gd gm d n ls S) (h5:(g5,128,#[.pointer (some ⟨gd,0,none⟩)])∈ls) (hn:n<=1000)
    {u0 u1 u2 u3 u4 u6 u7 u8 u9 ad ao aB aN aY bc cG cH cJ cK cL cM be bf bg bh bi bj bk bl bn bo bp bq br bs bt bu bv bw bz bA bB bC bD bE bF bG bH bI bJ bK bL bM bN bO bP bQ bR bS bT bU bV bW u64 bX bY bZ c0 c4 c5 c6 c7 c8 c9 ca cb cc cd ce cf cg ch ci cj ck cm cn co cp cr ct cu cv cw cx cy cz cA cB ae af ag ah ai aj ak al am an ap aq ar au av aw ax ay az aA aC aD aE aF aG aH aJ aK aL aM aO aP aQ aR aS aT aU aV aW aX aZ b0 b4 b5 b6 b7 b8 b9 ba bb:Value}
    {Q:Exit->Act->World->Prop} (hN:Reg.NoQ Q)
    (hQ:∀(cS cT cU cV cW cX:Value) (w':World) (g7 O J:Nat),DrS w0 w' gd gm ((d.add (0,0,0)).add (5,0,0)) (n+2) ((g7,3,#[.int .i64 (J:Int)])::ls) (((5,0,0),J)::((0,0,0),O)::S)->
      Q .normal ⟨List.toArray (u0::u1::u2::u3::u4::(.pointer (some ⟨g5,0,none⟩))::(.int .i64 (O:Int))::(.pointer (some ⟨g7,0,none⟩))::u8::u9::ad::ao::aB::aN::aY::bc::cS::cT::cU::cV::cW::cX::be::bf::bg::bh::bi::bj::
      bk::bl::bn::bo::bp::bq::br::bs::bt::bu::bv::bw::bz::bA::bB::bC::bD::bE::bF::bG::bH::bI::bJ::bK::bL::bM::bN::bO::bP::bQ::bR::bS::bT::bU::bV::bW::u64::
      bX::bY::bZ::c0::c4::c5::c6::c7::c8::c9::ca::cb::cc::cd::ce::cf::cg::ch::ci::cj::ck::cm::cn::co::cp::cr::ct::cu::cv::cw::cx::cy::cz::cA::cB::ae::af::
      ag::ah::ai::aj::ak::al::am::an::ap::aq::ar::au::av::aw::ax::ay::az::aA::aC::aD::aE::aF::aG::aH::aJ::aK::aL::aM::aO::aP::aQ::aR::aS::
      aT::aU::aV::aW::aX::aZ::b0::b4::b5::b6::b7::b8::b9::ba::bb::[]),[]⟩ w'):
    (Eu Tryz.f53 2).wp Tryz.prog Q ⟨List.toArray (u0::u1::u2::u3::u4::(.pointer (some ⟨g5,0,none⟩))::u6::u7::u8::u9::ad::ao::aB::aN::aY::bc::cG::cH::cJ::cK::cL::cM::be::bf::bg::bh::bi::bj::bk::bl::bn::bo::bp::bq::br::
      bs::bt::bu::bv::bw::bz::bA::bB::bC::bD::bE::bF::bG::bH::bI::bJ::bK::bL::bM::bN::bO::bP::bQ::bR::bS::bT::bU::bV::bW::u64::bX::bY::bZ::c0::c4::c5::c6::
      c7::c8::c9::ca::cb::cc::cd::ce::cf::cg::ch::ci::cj::ck::cm::cn::co::cp::cr::ct::cu::cv::cw::cx::cy::cz::cA::cB::ae::af::ag::ah::ai::aj::ak::al::
      am::an::ap::aq::ar::au::av::aw::ax::ay::az::aA::aC::aD::aE::aF::aG::aH::aJ::aK::aL::aM::aO::aP::aQ::aR::aS::aT::aU::aV::aW::aX::aZ::
      b0::b4::b5::b6::b7::b8::b9::ba::bb::[]),[]⟩ w:=by
  conv=>arg 2;whnf
  refine Reg.region_spl [0,0,3,0,0,31,0,127,255] (.node 1 4 (.node 1 6 (.node 2 4 (.node 2 6 (.node 4 6 (.node 5 6 (.leaf [0,3,1,2,4,5,6,7,8]) (.leaf [0,3,1,2,4,6,5,7,8])) (.leaf [0,3,1,2,6,4,5,7,8])) (.leaf [0,3,1,6,2,4,5,7,8])) (.node 2 6 (.node 5 6 (.leaf [0,3,1,4,2,5,6,7,8]) (.leaf [0,3,1,4,2,6,5,7,8])) (.node 4 6 (.leaf [0,3,1,4,6,2,5,7,8]) (.leaf [0,3,1,6,4,2,5,7,8])))) (.node 2 4 (.leaf [0,3,6,1,2,4,5,7,8]) (.leaf [0,3,6,1,4,2,5,7,8]))) (.node 1 6 (.node 2 6 (.node 5 6 (.leaf [0,3,4,1,2,5,6,7,8]) (.leaf [0,3,4,1,2,6,5,7,8])) (.leaf [0,3,4,1,6,2,5,7,8])) (.node 4 6 (.leaf [0,3,4,6,1,2,5,7,8]) (.leaf [0,3,6,4,1,2,5,7,8])))) (by kernel_rfl) hN ?_;dsimp only [Reg.Spl.goal];have C:=hide (h.keep (Ap w));have a6:∀x∈ls,x.1<w.drew.heap.size:=fun x I=>((h.keep (Ap w)).blk (g:=x.1) (t:=x.2.1) (cs:=x.2.2) I).lt;have d3:=C.out.below.size;have d1:=hide a6;generalize w.drew=wd at*;clear h a6;have cF:=(C.out.blk h5).cell;have a4:=hide h5
  repeat' (with_reducible refine And.intro ?_ ?_)
  all_goals
    refine Reg.rest_walkE [0,3] _ rfl rfl (by kernel_rfl) ?_;intro Qf E;go_wp2_with fail;refine E _ _ ?_;clear E cF
    iterate 5
      first
      | (refine Reg.rest_walkE [1] _ rfl rfl (by kernel_rfl) ?_
         intro Qf E;obtain⟨wn,M,F,W⟩:=C.out.pushE 3 #[.int .i64 0];go_wp2_with fail;refine E _ _ ?_;clear E C M;have C:=F;clear F)
      | (refine Reg.rest_walkE [4] _ rfl rfl (by kernel_rfl) ?_
         intro Qf E;obtain⟨wn,M,F,W⟩:=C.out.pushE 3 #[.int .i64 5];go_wp2_with fail;refine E _ _ ?_;clear E C M;have C:=F;clear F)
      | (refine Reg.rest_walkE [6] _ rfl rfl (by kernel_rfl) ?_
         intro Qf E;obtain⟨wn,M,F,W⟩:=C.out.pushE 3 #[.int .i64 0];have a7:=hide (fun x (I:x∈ls)=>Nat.ne_of_lt (C.out.blk (g:=x.1) (t:=x.2.1) (cs:=x.2.2) (by simp [I])).lt);have a2:=hide C.out.below.size;obtain⟨g7,a5⟩:=Ws W;rw [a5] at F a7 a2;go_wp2_with fail;refine E _ _ ?_;clear E C M a5;have C:=F;clear F)
      | (refine Reg.rest_act' 2 _ [3] rfl (by kernel_rfl) ?_
         intro Qf E;try simp only [gT,gS,gZ]
         go_wp2_with fail;refine Calls.ret (C.out.state' (0,0,0) (cs:=#[.int .i64 0]) (by simp) (.inl ⟨rfl,rfl,rfl⟩) (by omega) rfl) ?_;rintro v wm ⟨O,rfl,G⟩;have q1:=(C.out.blk (g:=g5) (t:=128) (cs:=#[.pointer (some ⟨gd,0,none⟩)]) (by simp [a4.out])).cell 0;have q2:=(G.blk (g:=g5) (t:=128) (cs:=#[.pointer (some ⟨gd,0,none⟩)]) (by simp [a4.out])).cell 0;have F:=hide G;clear C G;go_wp2_with fail;first|refine E _ _ ⟨fun z Z q V=>?_,?_⟩|refine⟨fun z Z q V=>?_,?_⟩
         · simp only [List.mem_cons,List.not_mem_nil,or_false] at Z
           subst Z;injection V with V
           subst V;exact Reg.same_load1 rfl rfl q1 q2 Tryz.underlying128 rfl
         (try clear E);clear q1 q2;have C:=F;clear F)
      | (refine Reg.rest_act' 5 _ [] rfl (by kernel_rfl) ?_
         intro Qf E;try simp only [gT,gS,gZ]
         go_wp2_with fail;refine Calls.ret (C.out.state' (5,0,0) (cs:=#[.int .i64 5]) (by simp) (.inl ⟨rfl,rfl,rfl⟩) (by omega) rfl) ?_;rintro v wm ⟨J,rfl,G⟩;have F:=hide G;clear C G;go_wp2_with fail;first|refine E _ _ ⟨Reg.nm,?_⟩|refine⟨Reg.nm,?_⟩
         (try clear E);have C:=F;clear F)
    refine Reg.rest_walkE [7,8] [] rfl rfl (by kernel_rfl) ?_;intro Qf E;have U:=C.out.blk (g:=g7) (t:=3) (cs:=#[.int .i64 0]) (by simp);have cY:=U.cell;have cZ:=U.frozen 0;have d0:=U.lt;have hF:=hide (C.out.setB (i:=0) (t:=3) (g:=g7) (cs:=#[.int .i64 0]) (ls':=ls) (by simp) (.int .i64 (J:Int)) (fun x I=>⟨by simp [I],a7.out x I⟩) a2.out);clear U C;go_wp2_with fail;first|refine E _ _ ?_|skip
    (try clear E);refine Reg.rest_end ?_;exact hQ _ _ _ _ _ _ _ g7 O J hF.out
end Go.Proofs.YtjejejmeddkciaaGreatDoor
namespace Go.Proofs.YtjejejmeddkciaaGreatDoor
open Go.RowKit
set_option maxHeartbeats 16000000
set_option maxRecDepth 100000
theorem ZL {w0 w:World} {gd gm g3 g5 n L:Nat} {d:Drw} {ls:Lst} {S:List (Nme×Nat)} {rc:Array Value} {left right:List Int} {f t:Int} (h:DrS w0 w gd gm d n ls S) (hL:d.L=L) (bL:L<=60) (hr:K4 w0 rc f t left right) (V:(g3,109,rc)∈ls)
  (W:(g5,128,#[.pointer (some ⟨gd,0,none⟩)])∈ls) (hn:n<=1000)
  {u0 u1 u2 u3 u4 u6 u7 u8 bT ag ah ai aj ak al am an ao aq ar au av aw ax ay az aA aB aD aE aF aG aH aJ aK aL aM aN aP aQ aR aS aT aU aV aW aX aY aZ b0 b4 b5 b6 b7 b8 b9 ba bb bd be bf bg u64 bh bi bj bk bl bn bo bp bq br bs bt bu bv bw bx bz bA bB bC bU bV bW bX bY bZ c0 c4 c5 c6 bD bE bF bG a8 a9 aa ab ad ae af:Value}
  {Q:Exit->Act->World->Prop} (hN:Reg.NoQ Q)
  (hQ:∀(c8 c9 ca cb cc cd ce cf cg ch ci cj:Value) (w':World) (S':List (Nme×Nat)),DrS w0 w' gd gm (Qg d left 2) (n+242) ls S'->(∀p∈S,p∈S')->(Qg d left 2).L=L->Q (.exit 1) ⟨List.toArray (u0::u1::u2::u3::u4::(.pointer (some ⟨g5,0,none⟩))::u6::u7::u8::(.func (.func 115) #[] #[.pointer (some ⟨g5,0,none⟩),.pointer (some ⟨g3,0,none⟩)])::c8::ag::ah::ai::aj::ak::al::am::an::ao::aq::ar::
   au::av::aw::ax::ay::az::aA::aB::aD::aE::aF::aG::aH::aJ::aK::aL::aM::aN::aP::aQ::aR::aS::aT::aU::aV::aW::aX::aY::aZ::b0::b4::b5::b6::b7::b8::b9::ba::
   bb::bd::be::bf::bg::u64::bh::bi::bj::bk::bl::bn::bo::bp::bq::br::bs::bt::bu::bv::bw::bx::bz::bA::bB::bC::c9::ca::cb::cc::cd::ce::cf::cg::ch::ci::cj::
   bD::bE::bF::bG::a8::a9::aa::ab::ad::ae::af::[]),[]⟩ w'):
  (Code.loop (CG Tryz.f54 0)).wp Tryz.prog Q ⟨List.toArray (u0::u1::u2::u3::u4::(.pointer (some ⟨g5,0,none⟩))::u6::u7::u8::(.func (.func 115) #[] #[.pointer (some ⟨g5,0,none⟩),.pointer (some ⟨g3,0,none⟩)])::bT::ag::ah::ai::aj::ak::al::am::an::ao::aq::ar::
   au::av::aw::ax::ay::az::aA::aB::aD::aE::aF::aG::aH::aJ::aK::aL::aM::aN::aP::aQ::aR::aS::aT::aU::aV::aW::aX::aY::aZ::b0::b4::b5::b6::b7::b8::b9::ba::
   bb::bd::be::bf::bg::u64::bh::bi::bj::bk::bl::bn::bo::bp::bq::br::bs::bt::bu::bv::bw::bx::bz::bA::bB::bC::(.int .i64 0)::bU::bV::bW::bX::bY::bZ::c0::c4::c5::
   c6::bD::bE::bF::bG::a8::a9::aa::ab::ad::ae::af::[]),[]⟩ w:=by
 conv=>arg 2;arg 1;whnf
 have hH:=hide h;have bQ:=hide hr;have bH:=hide V;have E:=hide W;have bM:=hide hL;clear h hr V W hL;go_loopw [85] (fun U wr=>∃(i:Nat) (S':List (Nme×Nat)),U=.int .i64 (i:Int)/\i<=2/\Hid (DrS w0 wr gd gm (Qg d left i) (n+121*i) ls S')/\Hid (∀p∈S,p∈S')/\Hid ((Qg d left i).L=L)) (fun U _=>2 - (intOf U).toNat)
 case atStart=>exact⟨0,S,rfl,Nat.zero_le _,hH,fun p M=>M,bM⟩
 case round=>
  obtain⟨i,S',rfl,hi,Z,hS,J⟩:=hrel;by_cases cn:i<2
  ·have G:=Z.out.keep (Ap wr);have bO:=hide G;have ck:=(G.blk E.out).cell;have q5:=(((G.push 3 #[.int .i64 1,.int .i64 (i:Int)]).blk (List.mem_cons_of_mem _ E.out)).cell 0);clear G;go_wp2_with fail;refine Reg.cC [0,0,0,4,14,0,63] [0,1,2,5,3,4,6] ?_ (by kernel_rfl) (by repeat (first|exact hN|refine Reg.NoQ.then ?_|refine Reg.NoQ.inBlock ?_));refine Reg.rest_walk' [0,1,2,5,3] [4,6] rfl (by kernel_rfl) ?_;intro Qf C;go_wp2_with fail;first|refine C _ _ ?_|skip
   (try clear C);refine Reg.rest_act' 4 [6] [0] rfl (by kernel_rfl) ?_;intro Qf C;try simp only [gT,gS,gZ]
   go_wp2_with fail;refine Calls.ret (bO.out.state (1,i,0) (m:=2) (.inr (.inl ⟨rfl,rfl⟩)) (by omega) rfl) ?_;rintro v w2 ⟨e,rfl,I⟩;have p5:=(I.blk E.out).cell 0;have bI:=hide I;clear I;go_wp2_with fail;first|refine C _ _ ⟨?_,?_⟩|refine⟨?_,?_⟩
   ·intro z hz q O;simp only [List.mem_cons,List.not_mem_nil,or_false] at hz;subst hz;injection O with O
    subst O;exact Reg.same_load1 rfl rfl (q5) (p5) Tryz.underlying128 rfl
   (try clear C);refine Reg.rest_act' 6 [] [] rfl (by kernel_rfl) ?_;intro Qf C;try simp only [gT,gS,gZ]
   go_wp2_with fail;refine Calls.ret (bI.out.keep_ (L:=L) (F:=115) (caps:=[.pointer (some ⟨g5,0,none⟩),.pointer (some ⟨g3,0,none⟩)]) (κ:=Wh left) (f:=(1,i,0)) (ef:=e) (S0:=[]) (by rw [Drw.add_L];exact J.out) bL (by simp) (fun _ h=>by cases h) (fun _ _=>XB bQ.out bH.out E.out) (.inr (.inl ⟨_,_,rfl,by simp⟩)) (by omega)) ?_;rintro v w3 ⟨rfl,a2⟩;have bJ:Hid (DrS w0 w3 gd gm (Qg d left (i+1)) (n+121*(i+1)) ls (((1,i,0),e)::S')):=hide (a2.big (by omega));have bP:Hid ((Qg d left (i+1)).L=L):=hide (show(((Qg d left i).add (1,i,0)).kp (1,i,0) (Wh left)).L=L by rw [Drw.kp_L,Drw.add_L];exact J.out);clear a2;go_wp2_with fail;first|refine C _ _ ⟨Reg.nm,?_⟩|refine⟨Reg.nm,?_⟩
   (try clear C);first|refine Reg.rest_end ?_|skip
   go_wp2_with fail;exact⟨⟨i+1,_,by go_num,by omega,bJ,fun p M=>List.mem_cons_of_mem _ (hS.out p M),bP⟩,by simp [intOf];omega⟩
  ·obtain rfl:i=2:=by omega
   go_wp2_with fail;exact hQ _ _ _ _ _ _ _ _ _ _ _ _ _ S' Z.out hS.out J.out
theorem aAf {w0 w:World} {gd gm g3 g5 n L:Nat} {d:Drw} {ls:Lst} {S:List (Nme×Nat)} {rc:Array Value} {left right:List Int} {f t:Int} {g9:Nat} (h:DrS w0 w gd gm d n ls S) (hL:d.L=L) (cz:L<=60) (hr:K4 w0 rc f t left right) (W:(g3,109,rc)∈ls)
  (Z:(g5,128,#[.pointer (some ⟨gd,0,none⟩)])∈ls) (h9:(g9,187,#[.func (.func 108) #[] #[.pointer (some ⟨g5,0,none⟩),.pointer (some ⟨g3,0,none⟩)]])∈ls) (hn:n<=1000)
  {u0 u1 u2 u3 u4 u6 u7 u8 cL al ay aK aV b9 ba bb bc bd bf bg bh bi bj bk bl bm bn bo bq br bs bt bu bv bw bx bz bA bC bD bE bF bG bH bI bJ bK bL bM bN bO bP bQ bR bS bT bU bV bX bY bZ c0 u64 c4 c5 c6 c7 c8 ca cM cO cQ cR cS cT cU cV cW cX cb cc cd ce cf cg ch ci cj ck cm cn co cp cq cr ct cu aa ab ad ae af ag ah ai aj ak am an ao ap aq ar au av aw ax az aA aB aC aD aE aF aG aH aJ aL aM aN aO aP aQ aR aS aT aU aW aX aY aZ b0 b4 b5 b6 b7 b8:Value}
  {Q:Exit->Act->World->Prop} (hN:Reg.NoQ Q)
  (hQ:∀(cZ d0 d1 d2 d3 d4 d5 d6 d7 d8 d9 da:Value) (w':World) (S':List (Nme×Nat)),DrS w0 w' gd gm (MR d left 2) (n+242) ls S'->(∀p∈S,p∈S')->(MR d left 2).L=L->Q (.exit 0) ⟨List.toArray (u0::u1::u2::u3::u4::(.pointer (some ⟨g5,0,none⟩))::u6::u7::u8::(.pointer (some ⟨g9,0,none⟩))::cZ::al::ay::aK::aV::b9::ba::bb::bc::bd::bf::bg::bh::bi::bj::bk::bl::bm::bn::bo::
   bq::br::bs::bt::bu::bv::bw::bx::bz::bA::bC::bD::bE::bF::bG::bH::bI::bJ::bK::bL::bM::bN::bO::bP::bQ::bR::bS::bT::bU::bV::bX::bY::bZ::c0::u64::c4::c5::
   c6::c7::c8::ca::d0::d1::d2::d3::d4::d5::d6::d7::d8::d9::da::cb::cc::cd::ce::cf::cg::ch::ci::cj::ck::cm::cn::co::cp::cq::cr::ct::cu::aa::ab::ad::ae::
   af::ag::ah::ai::aj::ak::am::an::ao::ap::aq::ar::au::av::aw::ax::az::aA::aB::aC::aD::aE::aF::aG::aH::aJ::aL::aM::aN::aO::aP::aQ::aR::
   aS::aT::aU::aW::aX::aY::aZ::b0::b4::b5::b6::b7::b8::[]),[]⟩ w'):
  (Code.loop (CG Tryz.f53 0)).wp Tryz.prog Q ⟨List.toArray (u0::u1::u2::u3::u4::(.pointer (some ⟨g5,0,none⟩))::u6::u7::u8::(.pointer (some ⟨g9,0,none⟩))::cL::al::ay::aK::aV::b9::ba::bb::bc::bd::bf::bg::bh::bi::bj::bk::bl::bm::bn::bo::
   bq::br::bs::bt::bu::bv::bw::bx::bz::bA::bC::bD::bE::bF::bG::bH::bI::bJ::bK::bL::bM::bN::bO::bP::bQ::bR::bS::bT::bU::bV::bX::bY::bZ::c0::u64::c4::c5::
   c6::c7::c8::ca::(.int .i64 0)::cM::cO::cQ::cR::cS::cT::cU::cV::cW::cX::cb::cc::cd::ce::cf::cg::ch::ci::cj::ck::cm::cn::co::cp::cq::cr::ct::cu::aa::ab::
   ad::ae::af::ag::ah::ai::aj::ak::am::an::ao::ap::aq::ar::au::av::aw::ax::az::aA::aB::aC::aD::aE::aF::aG::aH::aJ::aL::aM::aN::aO::aP::
   aQ::aR::aS::aT::aU::aW::aX::aY::aZ::b0::b4::b5::b6::b7::b8::[]),[]⟩ w:=by
 conv=>arg 2;arg 1;whnf
 have hH:=hide h;have cF:=hide hr;have cv:=hide W;have I:=hide Z;have M:=hide h9;have cA:=hide hL;clear h hr W Z h9 hL;go_loopw [71] (fun V wr=>∃(i:Nat) (S':List (Nme×Nat)),V=.int .i64 (i:Int)/\i<=2/\Hid (DrS w0 wr gd gm (MR d left i) (n+121*i) ls S')/\Hid (∀p∈S,p∈S')/\Hid ((MR d left i).L=L)) (fun V _=>2 - (intOf V).toNat)
 case atStart=>exact⟨0,S,rfl,Nat.zero_le _,hH,fun p U=>U,cA⟩
 case round=>
  obtain⟨i,S',rfl,hi,hD,hS,O⟩:=hrel;by_cases df:i<2
  ·have E:=hD.out.keep (Ap wr);have cD:=hide E;have db:=(E.blk I.out).cell;have dc:=(E.blk M.out).cell;have q5:=(((E.push 3 #[.int .i64 4,.int .i64 (i:Int)]).blk (List.mem_cons_of_mem _ I.out)).cell 0);have q9:=(((E.push 3 #[.int .i64 4,.int .i64 (i:Int)]).blk (List.mem_cons_of_mem _ M.out)).cell 0);clear E;go_wp2_with fail;refine Reg.cC [0,0,0,4,14,0,63] [0,1,2,5,3,4,6] ?_ (by kernel_rfl) (by repeat (first|exact hN|refine Reg.NoQ.then ?_|refine Reg.NoQ.inBlock ?_));refine Reg.rest_walk' [0,1,2,5,3] [4,6] rfl (by kernel_rfl) ?_;intro Qf C;go_wp2_with fail;first|refine C _ _ ?_|skip
   (try clear C);refine Reg.rest_act' 4 [6] [0,5] rfl (by kernel_rfl) ?_;intro Qf C;try simp only [gT,gS,gZ]
   go_wp2_with fail;refine Calls.ret (cD.out.state (4,i,0) (m:=2) (.inr (.inl ⟨rfl,rfl⟩)) (by omega) rfl) ?_;rintro v w2 ⟨e,rfl,J⟩;have p5:=(J.blk I.out).cell 0;have p9:=(J.blk M.out).cell 0;have cw:=hide J;clear J;go_wp2_with fail;first|refine C _ _ ⟨?_,?_⟩|refine⟨?_,?_⟩
   ·intro z hz q G;simp only [List.mem_cons,List.not_mem_nil,or_false] at hz;rcases hz with rfl|rfl
    ·injection G with G
     subst G;exact Reg.same_load1 rfl rfl (q5) (p5) Tryz.underlying128 rfl
    ·injection G with G
     subst G;exact Reg.same_load1 rfl rfl (q9) (p9) Tryz.underlying187 rfl
   (try clear C);refine Reg.rest_act' 6 [] [] rfl (by kernel_rfl) ?_;intro Qf C;try simp only [gT,gS,gZ]
   go_wp2_with fail;refine Calls.ret (cw.out.keep_ (L:=L) (F:=108) (caps:=[.pointer (some ⟨g5,0,none⟩),.pointer (some ⟨g3,0,none⟩)]) (κ:=Wt left) (f:=(4,i,0)) (ef:=e) (S0:=[]) (by rw [Drw.add_L];exact O.out) cz (by simp) (fun _ h=>by cases h) (fun _ _=>XC cF.out cv.out I.out) (.inr (.inl ⟨_,_,rfl,by simp⟩)) (by omega)) ?_;rintro v w3 ⟨rfl,a4⟩;have cx:Hid (DrS w0 w3 gd gm (MR d left (i+1)) (n+121*(i+1)) ls (((4,i,0),e)::S')):=hide (a4.big (by omega));have cE:Hid ((MR d left (i+1)).L=L):=hide (show(((MR d left i).add (4,i,0)).kp (4,i,0) (Wt left)).L=L by rw [Drw.kp_L,Drw.add_L];exact O.out);clear a4;go_wp2_with fail;first|refine C _ _ ⟨Reg.nm,?_⟩|refine⟨Reg.nm,?_⟩
   (try clear C);first|refine Reg.rest_end ?_|skip
   go_wp2_with fail;exact⟨⟨i+1,_,by go_num,by omega,cx,fun p U=>List.mem_cons_of_mem _ (hS.out p U),cE⟩,by simp [intOf];omega⟩
  ·obtain rfl:i=2:=by omega
   go_wp2_with fail;exact hQ _ _ _ _ _ _ _ _ _ _ _ _ _ S' hD.out hS.out O.out
end Go.Proofs.YtjejejmeddkciaaGreatDoor
