/-
  Part YC of a proof.
-/
import Derived.Test.YtjejejmeddkciaaGreatDoorYA
import Derived.Test.YtjejejmeddkciaaGreatDoorPE
import Derived.Test.YtjejejmeddkciaaGreatDoorPA
set_option maxHeartbeats 16000000
set_option maxRecDepth 100000
set_option linter.unusedVariables false
set_option linter.unusedSimpArgs false
namespace Go.Proofs.YtjejejmeddkciaaGreatDoor
open Go.RowKit
set_option maxHeartbeats 16000000
set_option maxRecDepth 100000
theorem aCX {w0 w:World} {ge L n:Nat} {c3 B:Nat} {A3:Option Addr} {t:TR} (hM:BuM mC 119 74 4 w w L ge (fun _=>.slice none 0 0) (fun _=>[])) (h3:Sl w B 4 Wy A3 t.moves) (hB:B<=w0.heap.size) (h0:Below w0.heap.size w0 w) (dz:w0.heap.size<=ge) (hn:n=t.moves.length) (al:∀e∈t.moves,inN (L:Int) e.frm=true) (hL:L<=200000) (dC:n<=3000000)
  {u0 u1 u2 u3 u4 u6 u7 u8 u9 ay aK aV b9 ba bb bc bd be bf cR cS cT cU cV cW cX cY cZ d0 d1 d2 d3 d4 d5 d6 bi bk bm bn bo bp bq br bs bt bu bv bw bx bz bA bB bC bD bE bF bH bI bJ bK u64 bL bM bN bO bP bQ bR bS bT bU bV bW bX bY bZ c0 c4 c5 c6 c7 c8 c9 ca cb cc ce cf cg ch ci cj ck cm cn co az aA aB aC aD aE aF aG aH aJ aL aM aN aO aP aQ aR aS aT aU aW aX aY aZ b0 b4 b5 b6 b7 b8:Value}
  {Q:Exit->Act->World->Prop} (hN:Reg.NoQ Q)
  (hQ:∀(x7 d8 d9 da db dc de df dg dh di dj dk dl dm dn dp dq:Value) (w':World) (u:Nat->Value),BuM mC 119 74 4 w w' L ge u (t.from_ n)->Q (.exit 0) ⟨List.toArray (u0::u1::u2::u3::u4::(.slice (some ⟨ge,0,none⟩) L L)::u6::x7::u8::u9::ay::aK::aV::b9::ba::bb::bc::bd::be::bf::(.slice A3 n c3)::(.int .i64 (n:Int))::d8::d9::da::db::dc::de::df::dg::
   dh::di::dj::dk::dl::dm::dn::dp::dq::bi::bk::bm::bn::bo::bp::bq::br::bs::bt::bu::bv::bw::bx::bz::bA::bB::bC::bD::bE::bF::bH::bI::bJ::bK::u64::bL::bM::
   bN::bO::bP::bQ::bR::bS::bT::bU::bV::bW::bX::bY::bZ::c0::c4::c5::c6::c7::c8::c9::ca::cb::cc::ce::cf::cg::ch::ci::cj::ck::cm::cn::co::az::aA::aB::aC::
   aD::aE::aF::aG::aH::aJ::aL::aM::aN::aO::aP::aQ::aR::aS::aT::aU::aW::aX::aY::aZ::b0::b4::b5::b6::b7::b8::[]),[]⟩ w'):
  (Code.loop (CG Tryz.f20 0)).wp Tryz.prog Q ⟨List.toArray (u0::u1::u2::u3::u4::(.slice (some ⟨ge,0,none⟩) L L)::u6::u7::u8::u9::ay::aK::aV::b9::ba::bb::bc::bd::be::bf::(.slice A3 n c3)::(.int .i64 (n:Int))::(.int .i64 0)::cR::cS::cT::cU::cV::
   cW::cX::cY::cZ::d0::d1::d2::d3::d4::d5::d6::bi::bk::bm::bn::bo::bp::bq::br::bs::bt::bu::bv::bw::bx::bz::bA::bB::bC::bD::bE::bF::bH::bI::bJ::bK::u64::
   bL::bM::bN::bO::bP::bQ::bR::bS::bT::bU::bV::bW::bX::bY::bZ::c0::c4::c5::c6::c7::c8::c9::ca::cb::cc::ce::cf::cg::ch::ci::cj::ck::cm::cn::co::az::aA::
   aB::aC::aD::aE::aF::aG::aH::aJ::aL::aM::aN::aO::aP::aQ::aR::aS::aT::aU::aW::aX::aY::aZ::b0::b4::b5::b6::b7::b8::[]),[]⟩ w:=by
 conv=>arg 2;arg 1;whnf
 have cw:=hide hM;have cL:=hide hn;have cE:=hide al;have cH:=h3.1;rw [<-hn] at cH;clear hM hn al;go_loopw [22] (fun ii wr=>∃(k:Nat) (u:Nat->Value),ii=.int .i64 (k:Int)/\k<=n/\Hid (BuM mC 119 74 4 w wr L ge u (t.from_ k))) (fun ii _=>n - (intOf ii).toNat)
 case atStart=>exact⟨0,_,rfl,Nat.zero_le _,by rw [t.from_zero];exact cw⟩
 case round=>
  obtain⟨k,u,rfl,hk,hI⟩:=hrel;by_cases cJ:k<n
  ·obtain⟨bl,off,⟨f,x1,x2,tq⟩,rfl,dv,aa,hc⟩:=h3.at (k:=k) (by rw [<-cL.out];exact cJ);have cz:Below w0.heap.size w0 wr:=h0.trans (hI.out.kept.below h0.size fun b hb e=>by omega);have M:=fun j hj=>((hI.out.kept.below h0.size (fun b hb e=>by omega)).cell (show bl<w0.heap.size by omega)).trans (hc j hj);have e0:=M 0 (by omega);have e1:=M 1 (by omega);have e2:=M 2 (by omega);have e3:=M 3 (by omega);simp only [Nat.add_zero,Wy] at e0 e1 e2 e3;obtain⟨y,aq,C⟩:=CT (cE.out _ (List.mem_of_getElem? aa));dsimp only at aq C;subst aq;have C:y<L:=by simpa using C
   have cB:=hide (TR.from_succ t aa (y:=y) (by simp));have cA:=hide (TR.from_len t k y);obtain⟨F,dD,ah,a4,cG⟩:=Ae wr #[.int .i64 (y:Int),.int .i64 x1,.int .i64 x2,.int .i64 tq] 119;have J:=hI.out.keep ah;have cD:=a4.cell;have O:=J.own y C;obtain⟨G,I,U⟩:=AH O;have aj:F.cell? ⟨ge,y,none⟩=some (.slice G (t.from_ k y).length I):=by rw [J.top.cell,CV _ C,U]
   rw [U] at O;have a6:=hide J;have a5:=hide a4;have cM:=hide (show w.heap.size<=F.heap.size from J.kept.size);have ap:=hide U;have cK:(t.from_ k y).length<=3000000:=by have:=cA.out;omega
   obtain⟨m,hm⟩:∃m,m=(t.from_ k y).length:=⟨_,rfl⟩;rw [<-hm] at aj O cK;have W:=hide hm;have cQ:Hid (∀g,(Value.slice G m I).ownBlock=some g->g<wr.heap.size):=by
    intro g e;refine Cj (hI.out.own y C) (k:=g) ?_;rw [U,<-W.out];exact e
   clear hm hc M aa J a4 cG U ah cz;go_wp2_with fail;refine Reg.cC [0,0,2,0,0,16,56,120,0,256,1016,2047,4095] [0,1,2,3,4,5,6,7,8,9,10,11,12] ?_ (by kernel_rfl) (by repeat (first|exact hN|refine Reg.NoQ.then ?_|refine Reg.NoQ.inBlock ?_));refine Reg.rest_walk' [0,1,2,3,4,5,6,7,8,9] [10,11,12] rfl (by kernel_rfl) ?_;intro Qf h;go_wp2_with fail;first|refine h _ _ ?_|skip
   (try clear h);refine Reg.rest_act' 10 [11,12] [2] rfl (by kernel_rfl) ?_;intro Qf h;simp only [gT,gS,gZ];refine BP (w:=F.drew) Yb rfl _ _ rfl w.heap.size (.slice G m I) m _ rfl O [.int .i64 (y:Int),.int .i64 x1,.int .i64 x2,.int .i64 tq] 1 rfl rfl (by simp [Value.oneCell']) (by omega) cM.out ?_;intro g cap w6 ao E am dy;have V:Ac F w6 (fun k=>(Value.slice G m I).ownBlock=some k):=⟨E.os,E.tape,E.output,E.size,E.block⟩;have an:BJ F (.slice G m I) (.slice (some ⟨g,0,none⟩) (m+1) cap):=am;have cO:=hide (show BuM mC 119 74 4 w (w6.setCell ⟨ge,y,none⟩ (.slice (some ⟨g,0,none⟩) (m+1) cap)) L ge (up1 u y (.slice (some ⟨g,0,none⟩) (m+1) cap)) (t.from_ (k+1)) from by
    rw [cB.out];refine a6.out.step (by decide) C ?_ ?_ ?_
    ·rw [ap.out,<-W.out];exact V
    ·rw [<-W.out];exact ao
    ·rw [ap.out,<-W.out];exact an)
   have q5:w6.cell? ⟨wr.heap.size,0,none⟩=some (.int .i64 (y:Int)):=(V.cell (p:=⟨wr.heap.size,0,none⟩) a5.out.lt (fun e=>absurd (cQ.out _ e) (Nat.lt_irrefl _))).trans (a5.out.cell 0);have r5:=((a5.out.kept ((Ac.refl F (fun _=>False)).alloc (.cells #[.int .i64 (y:Int),.int .i64 x1,.int .i64 x2,.int .i64 tq] 119)).drew id)).cell;have Z:=a6.out.top.kept V (Aw O a6.out.top (by decide));have dx:=Z.frozen y;have dw:w6.cell? ⟨ge,y,none⟩=some (u y):=by rw [Z.cell,CV _ C]
   have dB:=Z.lt;refine h _ _ ⟨?_,?_⟩
   ·intro z hz q hq;simp only [List.mem_cons,List.not_mem_nil,or_false] at hz;subst hz;injection hq with hq
    subst hq;exact Reg.same_load1 rfl rfl (r5 0) q5 Tryz.underlying3 rfl
   ·clear h q5 r5 Z ao E V am an cD aj;refine Reg.rest_walk' [11,12] [] rfl (by kernel_rfl) ?_;intro Qf h;go_wp2_with fail;first|refine h _ _ ?_|skip
    (try clear h);refine Reg.rest_end ?_;go_wp2_with fail;exact⟨⟨k+1,_,by go_num,by omega,cO⟩,by simp [intOf];omega⟩
  ·obtain rfl:k=n:=by omega
   have ak:=hide hI.out;clear hI;go_wp2_with fail;first|exact ak.out|exact hQ _ _ _ _ _ _ _ _ _ _ _ _ _ _ _ _ _ _ wr u ak.out
theorem aCZ {w:World} {n c2 B:Nat} {C:Option Addr} {t:TR} (J:Sl w B 1 Ai C t.start) (hB:B<=w.heap.size) (E:n=t.start.length) (U:∀s∈t.start,0<=s) (cF:n<=3000000)
  {u0 u1 u2 u3 u4 u5 u6 u7 u8 u9 af cc aC aD aE aF aG aH aJ aL aM aN aO aP aQ aR aS aT aU aW aX aY aZ b0 b4 b5 b6 b7 b8 ba bb bc bd be bf cd ce cf cg ch ci cj ck cm bh bi bk bl bm bn u64 bo bp bq br bs bu bv bw bx bz bA bB bC bD bE bF bG bH bI bJ bK bL bM bN bO bQ bR bS bT bU bV bW bX bY bZ a4 a5 a6 a7 a8 a9 aa ab ad ae ag ah ai aj ak al am an ao ap aq ar au av aw ax ay az aA aB:Value}
  {Q:Exit->Act->World->Prop}
  (hQ:∀(cp cq cr ct cu cv cw cx cy cz cA:Value) (w':World) (v:Value),Ac w w' (fun _=>False)->QV aCr 124 3 w' w.heap.size (fun _=>True) v n (t.start.map fun s=>(s.toNat,0,0))->Q (.exit 2) ⟨List.toArray (u0::u1::u2::u3::u4::u5::u6::u7::u8::u9::v::af::cp::aC::aD::aE::aF::aG::aH::aJ::aL::aM::aN::aO::aP::aQ::aR::aS::aT::aU::aW::aX::aY::aZ::b0::b4::b5::b6::b7::
   b8::ba::bb::bc::bd::be::bf::(.slice C n c2)::(.int .i64 (n:Int))::cq::cr::ct::cu::cv::cw::cx::cy::cz::cA::bh::bi::bk::bl::bm::bn::u64::bo::bp::bq::br::bs::bu::bv::
   bw::bx::bz::bA::bB::bC::bD::bE::bF::bG::bH::bI::bJ::bK::bL::bM::bN::bO::bQ::bR::bS::bT::bU::bV::bW::bX::bY::bZ::a4::a5::a6::a7::a8::a9::aa::ab::
   ad::ae::ag::ah::ai::aj::ak::al::am::an::ao::ap::aq::ar::au::av::aw::ax::ay::az::aA::aB::[]),[]⟩ w'):
  (Code.loop (CG Tryz.f20 1)).wp Tryz.prog Q ⟨List.toArray (u0::u1::u2::u3::u4::u5::u6::u7::u8::u9::(.slice none 0 0)::af::cc::aC::aD::aE::aF::aG::aH::aJ::aL::aM::aN::aO::aP::aQ::aR::aS::aT::aU::aW::aX::aY::aZ::b0::b4::b5::
   b6::b7::b8::ba::bb::bc::bd::be::bf::(.slice C n c2)::(.int .i64 (n:Int))::(.int .i64 0)::cd::ce::cf::cg::ch::ci::cj::ck::cm::bh::bi::bk::bl::bm::bn::u64::bo::bp::bq::
   br::bs::bu::bv::bw::bx::bz::bA::bB::bC::bD::bE::bF::bG::bH::bI::bJ::bK::bL::bM::bN::bO::bQ::bR::bS::bT::bU::bV::bW::bX::bY::bZ::a4::a5::a6::a7::a8::
   a9::aa::ab::ad::ae::ag::ah::ai::aj::ak::al::am::an::ao::ap::aq::ar::au::av::aw::ax::ay::az::aA::aB::[]),[]⟩ w:=by
 conv=>arg 2;arg 1;whnf
 have F:=hide E;have c5:=hide U;have c6:=J.1;rw [<-E] at c6;clear E U;go_loopw [10,48] (fun qq I wr=>∃(k:Nat),I=.int .i64 (k:Int)/\k<=n/\Hid (Ac w wr (fun _=>False))/\Hid (QV aCr 124 3 wr w.heap.size (fun _=>True) qq k ((t.start.take k).map fun s=>(s.toNat,0,0)))) (fun _ I _=>n - (intOf I).toNat)
 case atStart=>exact⟨0,rfl,Nat.zero_le _,hide (Ac.refl _ _),hide (QV.nil w w.heap.size)⟩
 case round=>
  obtain⟨k,rfl,hk,h,W⟩:=hrel;by_cases c7:k<n
  ·obtain⟨b,off,s,rfl,hb,G,M⟩:=J.at (k:=k) (by rw [<-F.out];exact c7);have cD:=(h.out.cell (p:=⟨b,off+k,none⟩) (by show b<_;omega) id).trans (show w.cell? ⟨b,off+k,none⟩=some (.int .i64 s) from by have:=M 0 (by omega);simpa [Ai] using this);obtain⟨y,rfl⟩:∃y:Nat,s=(y:Int):=⟨s.toNat,by have:=c5.out s (List.mem_of_getElem? G);omega⟩;have ca:Hid (((t.start.take (k+1)).map fun s=>((s.toNat,0,0):T3))=((t.start.take k).map fun s=>(s.toNat,0,0))++[(y,0,0)]):=hide (by rw [B5 G,List.map_append];simp);have c9:=h.out.size;clear M G;go_wp2_with (at_builtin;refine aCF (x:=(y,0,0)) aCM aCz aCH rfl _ _ rfl rfl W.out 1 rfl (by omega) c9 (fun _ _=>trivial) ?_;intro v' w6 Z V cG;have c0:=hide (h.out.trans V fun b hb e=>by have:=e.1;omega);have c8:=hide (show QV aCr 124 3 w6 w.heap.size (fun _=>True) v' (k+1) ((t.start.take (k+1)).map fun s=>(s.toNat,0,0)) from by rw [ca.out];exact Z);clear Z V);exact⟨⟨k+1,by go_num,by omega,c0,c8⟩,by simp [intOf];omega⟩
  ·obtain rfl:k=n:=by omega
   have O:=hide W.out;rw [F.out,List.take_length] at O;go_wp2_with fail;exact hQ _ _ _ _ _ _ _ _ _ _ _ wr _ h.out (by rw [F.out];exact O.out)
end Go.Proofs.YtjejejmeddkciaaGreatDoor
namespace Go.Proofs.YtjejejmeddkciaaGreatDoor
open Go.RowKit
set_option maxHeartbeats 16000000
set_option maxRecDepth 100000
theorem aCD {w:World} {B:Nat} {A:Option Addr} {L:Nat} {tb:List (List Nat)} {ac:List Bool} (h:VSl R1n w B A tb) (V:DOK L tb ac) {q x:Nat} (W:q<ac.length) (hx:x<L):
  ∃b off C F b2 E,A=some ⟨b,off,none⟩/\b<B/\b2<B/\w.cell? ⟨b,off+q,none⟩=some (.slice C L F)/\C=some ⟨b2,E,none⟩/\w.cell? ⟨b2,E+x,none⟩=some (.int .i64 (dnx tb q x:Int)):=by
 obtain⟨r,Z,a2,a3,a6⟩:=V.at W hx;obtain⟨b,off,v,e,J,G,C,F,rfl,hs⟩:=h.at Z;obtain⟨b2,E,I,M,O⟩:=Ex hs a3;have U:(Ak r).length=L:=by unfold Ak;rw [List.length_map];exact a2
 rw [U] at G;exact⟨b,off,C,F,b2,E,e,J,M,G,I,O⟩
theorem aCY {w:World} {g3 h n c2 base a b c q L lt la k1 k2:Nat} {Am D1 D2:Option Addr} {ms:List Mv} {tb:List (List Nat)} {ac:List Bool} {qs:List T3} {qv:Value}
  (hb:base<=w.heap.size) (hl:Sl w base 4 Wy Am ms) (hn:n=ms.length) (hD:VSl R1n w base D1 tb) (a8:DOK L tb ac) (E:lt=tb.length) (h3:Blk w g3 70 #[.slice D1 lt k1,.slice D2 la k2]) (er:g3<base)
  (a3:Blk w h 124 #[.int .i64 (a:Int),.int .i64 (b:Int),.int .i64 (c:Int)]) (cM:b<ac.length) (cO:c<ac.length) (au:∀e∈ms,inN (L:Int) e.inn=true/\inN (L:Int) e.out=true/\0<=e.to)
  (hq:QV aCr 124 3 w base (fun g=>g≠h) qv q qs) (eA:q+n<=300000000000) (ez:n<=3000000)
  {u0 u1 u2 u4 u5 u6 u7 u8 u9 aN aO aP dG aQ aR aS aT aV aW aX aY aZ b0 b5 b6 b7 b8 b9 ba bb bc bd be bf bg bh bi bk bm bn bo bp bq br bs bt bu bw bx bz bA bB bC bD bE bF bG bI bJ bK bL u64 bM bN bO bP bQ bS bT bU bV bW bX bY bZ c0 c4 c5 c6 c7 c8 c9 ca cb cc cd ce cg ch ci cj ck cm cn d9 da db dc de df dg dh di dj dk dl dm dn dp dq dr dt du dv dw dx dy dz dA dB dC dD dE dF:Value}
  {Q:Exit->Act->World->Prop} (hN:Reg.NoQ Q)
  (hQ:∀(eg eh dI dJ dK dL dM dN dO dP dQ dR dS dT dU dV dW dX dY dZ e4 e5 e6 e7 e8 e9 ea eb ec ed ee ef:Value) (w':World) (v:Value),Ac w w' (fun k=>base<=k/\k≠h)->QV aCr 124 3 w' base (fun g=>g≠h) v (q+n) (qs++ms.map (aCs (dnx tb) (a,b,c)))->Q (.exit 6) ⟨List.toArray (u0::u1::u2::(.pointer (some ⟨g3,0,none⟩))::u4::u5::u6::u7::u8::u9::v::aN::aO::(.pointer (some ⟨h,0,none⟩))::aP::eg::aQ::aR::aS::aT::aV::aW::aX::aY::aZ::b0::b5::b6::b7::b8::b9::
   ba::bb::bc::bd::be::bf::bg::bh::bi::bk::bm::bn::bo::bp::bq::br::bs::bt::bu::bw::bx::bz::bA::bB::bC::bD::bE::bF::bG::bI::bJ::bK::bL::u64::bM::bN::bO::
   bP::bQ::bS::bT::bU::bV::bW::bX::bY::bZ::c0::c4::c5::c6::c7::c8::c9::ca::cb::cc::cd::ce::cg::ch::ci::cj::ck::cm::cn::(.slice Am n c2)::(.int .i64 (n:Int))::eh::dI::
   dJ::dK::dL::dM::dN::dO::dP::dQ::dR::dS::dT::dU::dV::dW::dX::dY::dZ::e4::e5::e6::e7::e8::e9::ea::eb::ec::ed::ee::ef::[]),[]⟩ w'):
  (Code.loop (CG Tryz.f20 3)).wp Tryz.prog Q ⟨List.toArray (u0::u1::u2::(.pointer (some ⟨g3,0,none⟩))::u4::u5::u6::u7::u8::u9::qv::aN::aO::(.pointer (some ⟨h,0,none⟩))::aP::dG::aQ::aR::aS::aT::aV::aW::aX::aY::aZ::b0::b5::b6::b7::b8::b9::
   ba::bb::bc::bd::be::bf::bg::bh::bi::bk::bm::bn::bo::bp::bq::br::bs::bt::bu::bw::bx::bz::bA::bB::bC::bD::bE::bF::bG::bI::bJ::bK::bL::u64::bM::bN::bO::
   bP::bQ::bS::bT::bU::bV::bW::bX::bY::bZ::c0::c4::c5::c6::c7::c8::c9::ca::cb::cc::cd::ce::cg::ch::ci::cj::ck::cm::cn::(.slice Am n c2)::(.int .i64 (n:Int))::
   (.int .i64 0)::d9::da::db::dc::de::df::dg::dh::di::dj::dk::dl::dm::dn::dp::dq::dr::dt::du::dv::dw::dx::dy::dz::dA::dB::dC::dD::dE::dF::[]),[]⟩ w:=by
 conv=>arg 2;arg 1;whnf
 have cS:=hide hl;have a7:=hide hn;have ag:=hide hD;have av:=hide a8;have cB:=hide h3;have cA:=hide a3;have cV:=hide au;have cZ:=hide hq;have ak:=hide cM;have an:=hide cO;have ey:=hide E;have ep:=a3.lt;have cT:=hl.1;rw [<-hn] at cT;have ah:ac.length=lt:=by rw [E,a8.len]
 have ai:=hide ah;have cU:=hD.1;rw [<-E] at cU;clear hl hn hD a8 h3 a3 au hq E ah;go_loopw [10,99] (fun qq ii wr=>∃(k:Nat),ii=.int .i64 (k:Int)/\k<=n/\Hid (Ac w wr (fun k=>base<=k/\k≠h))/\Hid (QV aCr 124 3 wr base (fun g=>g≠h) qq (q+k) (qs++(ms.take k).map (aCs (dnx tb) (a,b,c))))) (fun _ ii _=>n - (intOf ii).toNat)
 case atStart=>exact⟨0,rfl,Nat.zero_le _,hide (Ac.refl _ _),by simpa using cZ⟩
 case round=>
  obtain⟨k,rfl,hk,F,az⟩:=hrel;by_cases E:k<n
  ·have am:∀p:Addr,p.block<base->wr.cell? p=w.cell? p:=fun p hp=>F.out.cell (by omega) (fun e=>by have:=e.1;omega);obtain⟨bl,off,⟨f,x1,x2,tq⟩,rfl,cL,aa,hc⟩:=cS.out.at (k:=k) (by rw [<-a7.out];exact E);have I:=fun j hj=>(am ⟨bl,off+k*4+j,none⟩ cL).trans (hc j hj);have e0:=I 0 (by omega);have e1:=I 1 (by omega);have e2:=I 2 (by omega);have e3:=I 3 (by omega);simp only [Nat.add_zero,Wy] at e0 e1 e2 e3;obtain⟨i1,i2,i3⟩:=cV.out _ (List.mem_of_getElem? aa);obtain⟨O,aE,W⟩:=CT i1;obtain⟨U,aF,Z⟩:=CT i2;obtain⟨y3,d3⟩:∃y:Nat,tq=(y:Int):=⟨tq.toNat,by dsimp only at i3;omega⟩;dsimp only at aE aF W Z;subst aE aF d3;have W:O<L:=by simpa using W
   have Z:U<L:=by simpa using Z
   have a9:Hid (qs++(ms.take (k+1)).map (aCs (dnx tb) (a,b,c))=(qs++(ms.take k).map (aCs (dnx tb) (a,b,c)))++[(y3,dnx tb b O,dnx tb c U)]):=hide (by
    rw [B5 aa,List.map_append,List.append_assoc];simp [aCs])
   obtain⟨C,eD,V,af,-⟩:=Ae wr #[.int .i64 f,.int .i64 (O:Int),.int .i64 (U:Int),.int .i64 (y3:Int)] 119;have eB:=V.size;have G:Ac w C (fun k=>base<=k/\k≠h):=F.out.trans (Ac.of_below V (fun _=>False)) fun _ _ e=>e.elim;have J:∀p:Addr,p.block<base->C.cell? p=w.cell? p:=fun p hp=>G.cell (by omega) (fun e=>by have:=e.1;omega);have eu:=af.cell;have eq:=(cB.out.kept G (fun e=>by have:=e.1;omega)).cell;have en:=(cA.out.kept G (fun e=>e.2 rfl)).cell;obtain⟨b1,o1,A1,ek,b2,o2,rfl,aj,cJ,aA,rfl,aC⟩:=aCD ag.out av.out ak.out W;obtain⟨b3,o3,A3,el,b4,o4,M,es,cK,aB,rfl,aD⟩:=aCD ag.out av.out an.out Z;injection M with M
   injection M with M cQ _
   subst M cQ;have f1:=(J ⟨b1,o1+b,none⟩ aj).trans aA;have f2:=(J ⟨b2,o2+O,none⟩ cJ).trans aC;have f3:=(J ⟨b1,o1+c,none⟩ aj).trans aB;have f4:=(J ⟨b4,o4+U,none⟩ cK).trans aD;have ax:=az.out.keep (w':=C.drew) (((Ac.refl wr (fun _=>False)).trans (Ac.of_below V (fun _=>False)) fun _ _ e=>e.elim).drew) (fun _ _ _ e=>e);have cX:=hide ax;have cD:=hide G;have et:b<lt:=by rw [<-ai.out];exact ak.out
   have ev:c<lt:=by rw [<-ai.out];exact an.out
   have d0:base<=C.drew.heap.size:=by have:=(Ap C).size;have:=F.out.size;omega
   have eo:h<C.drew.heap.size:=by have:=(Ap C).size;have:=F.out.size;omega
   obtain⟨d1,ao⟩:∃x,x=dnx tb b O:=⟨_,rfl⟩;obtain⟨d2,ap⟩:∃x,x=dnx tb c U:=⟨_,rfl⟩;rw [<-ao] at f2 a9;rw [<-ap] at f4 a9;clear am J hc I aa i1 i2 i3 aA aC aB aD af V G ax ao ap;go_wp2_with fail;refine Reg.aCh [0,0,2,0,8,0,32,120,248,0,512,2040,4088,0,8192,0,32768,122880,253952,0,524288,2088960,4186112,8388606,16777214,33554431,67108863] (by kernel_rfl) (by repeat (first|exact hN|refine Reg.NoQ.then ?_|refine Reg.NoQ.inBlock ?_)) ?_;go_wp2_with (at_builtin;refine aCF (w:=C.drew) (x:=(y3,d1,d2)) aCM aCz aCH rfl _ _ rfl rfl cX.out 1 rfl (by omega) d0 (fun g hg e=>by omega) ?_;intro v' w6 ay ar eC;have cE:=hide (show Ac w w6 (fun k=>base<=k/\k≠h) from cD.out.drew.trans ar fun b hb e=>e);have cY:=hide (show QV aCr 124 3 w6 base (fun g=>g≠h) v' (q+(k+1)) (qs++(ms.take (k+1)).map (aCs (dnx tb) (a,b,c))) from by rw [a9.out];exact ay);clear ay ar);exact⟨⟨k+1,by go_num,by omega,cE,cY⟩,by simp [intOf];omega⟩
  ·obtain rfl:k=n:=by omega
   have aq:=hide az.out;rw [a7.out,List.take_length] at aq;have cF:=hide F.out;go_wp2_with fail;exact hQ _ _ _ _ _ _ _ _ _ _ _ _ _ _ _ _ _ _ _ _ _ _ _ _ _ _ _ _ _ _ _ _ wr _ cF.out (by rw [a7.out];exact aq.out)
end Go.Proofs.YtjejejmeddkciaaGreatDoor
