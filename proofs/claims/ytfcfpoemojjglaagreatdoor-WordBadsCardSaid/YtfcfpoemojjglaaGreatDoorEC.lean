/-
  Part EC of a proof.
-/
import Derived.Test.YtfcfpoemojjglaaGreatDoorPA
import Derived.Test.YtfcfpoemojjglaaGreatDoorEG
import Derived.Test.YtfcfpoemojjglaaGreatDoorPJ
set_option maxHeartbeats 16000000
set_option maxRecDepth 100000
set_option linter.unusedVariables false
set_option linter.unusedSimpArgs false
namespace Go.Proofs.YtfcfpoemojjglaaGreatDoor
open Go.RowKit
set_option maxHeartbeats 16000000
set_option maxRecDepth 100000
theorem PX {L:Nat} {row:List Nat} (h:row.length<L):Bm L (row++[0])=Bm L row:=by
 have d:=Fi h 0;rw [<-d];apply Array.ext_getElem?;intro j;rw [Array.getElem?_setIfInBounds];by_cases e:row.length=j
 ·subst e;rw [if_pos rfl,Fh h];have:row.length<(Bm L row).size:=by simp [Bm]; omega
  rw [if_pos this];rfl
 ·rw [if_neg e]
structure ClX (w:World) (g3 L n gc:Nat) (vN vA:Value) (t:List (List Nat)) (ac:List Bool) (cl:List Nat):Prop where
 t:Dp w L n vN vA t ac
 b:Blk w g3 139 #[vN,vA]
 c:Blk w gc 3 (Bm n cl)
 len:cl.length=n
theorem ClX.at {w w':World} {g3 L n gc:Nat} {vN vA:Value} {t:List (List Nat)} {ac:List Bool} {cl:List Nat} (h:ClX w g3 L n gc vN vA t ac cl) (d:Below w.heap.size w w'):ClX w' g3 L n gc vN vA t ac cl:=
 ⟨h.t.below d,h.b.below d,h.c.below d,h.len⟩
theorem ClX.alike {w:World} {g3 L n gc c a b:Nat} {vN vA:Value} {t:List (List Nat)} {ac:List Bool} {cl:List Nat} (h:ClX w g3 L n gc vN vA t ac cl) (y:n<=300000) (d:L<=8) (j:a<n) (l:b<n):
  Calls Tryz.prog 178 #[.agg #[vN,vA],.slice (some ⟨gc,0,none⟩) n c,.int .i64 (L:Int),.int .i64 (a:Int),.int .i64 (b:Int)] w (Ret fun v w'=>(∃r:Bool,v=.bool r/\(r=true↔Dw L (dnx t) cl a b))/\Below w.heap.size w w'):=
 L9 h.t (CQ.of_blk h.c h.len) j l y d
theorem MW {O w:World} {base g3 L n gc U C i:Nat} {A:Option Addr} {vN vA:Value} {t:List (List Nat)} {ac:List Bool} {cl F:List Nat} (y:ClX O g3 L n gc vN vA t ac cl) (hn:n<=300000) (hL:L<=8) (hi:i<n)
    (V:Below O.heap.size O w) (hF:w.ownsRow base 3 1 (.slice A F.length C) F.length (F.map CR)) (bl:∀f∈F,f<n) (cm:F.length<=300000)
    {u0 u2 u4 u5 u6 u7 u9 aa ab ad ae af ag ah aj ak al am an ao ap aq ar au av aw ax ay az aA aB aC aD aE aG aH aJ aK aL aM aN aO aP bw bx bz bB bC bD bE bF bG bH bI bJ bK bL bM u64 bO bP aS aT aU aW aX aY aZ b0 b4 b5 b6 b7 b8 b9 ba bd be bf bg bh:Value}
    {Q:Exit->Act->World->Prop} (W:Reg.NoQ Q)
    (hQ:∀(bR bS bT bU bV bW bX bY bZ c0 c5 c6 c7 c8 c9 ca cb cd:Value) (w':World) (k:Nat),Below w.heap.size w w'->k<=F.length->(∀p f,p<k->F[p]?=some f->¬Dw L (dnx t) cl f i)->(∀f,F[k]?=some f->Dw L (dnx t) cl f i)->
      Q (.exit 6) ⟨List.toArray (u0::(.int .i64 L)::u2::(.pointer (some ⟨g3,0,none⟩))::u4::u5::u6::u7::(.slice (some ⟨gc,0,none⟩) n U)::u9::aa::ab::(.slice A F.length C)::(.int .i64 i)::(.int .i64 k)::ad::ae::af::ag::ah::aj::ak::al::
      am::an::ao::ap::aq::ar::au::av::aw::ax::ay::az::aA::aB::aC::aD::aE::aG::aH::aJ::aK::aL::aM::aN::aO::aP::bR::bS::bT::bU::bV::bW::bX::bY::bZ::c0::c5::
      c6::c7::c8::c9::ca::cb::cd::aS::aT::aU::aW::aX::aY::aZ::b0::b4::b5::b6::b7::b8::b9::ba::bd::be::bf::bg::bh::[]),[]⟩ w'):
    (Code.loop (CG Tryz.f126 3)).wp Tryz.prog Q ⟨List.toArray (u0::(.int .i64 L)::u2::(.pointer (some ⟨g3,0,none⟩))::u4::u5::u6::u7::(.slice (some ⟨gc,0,none⟩) n U)::u9::aa::ab::(.slice A F.length C)::(.int .i64 i)::(.int .i64 0)::ad::ae::af::ag::ah::aj::ak::al::
      am::an::ao::ap::aq::ar::au::av::aw::ax::ay::az::aA::aB::aC::aD::aE::aG::aH::aJ::aK::aL::aM::aN::aO::aP::bw::bx::bz::bB::bC::bD::bE::bF::bG::bH::bI::
      bJ::bK::bL::bM::u64::bO::bP::aS::aT::aU::aW::aX::aY::aZ::b0::b4::b5::b6::b7::b8::b9::ba::bd::be::bf::bg::bh::[]),[]⟩ w:=by
  conv=>arg 2; arg 1; whnf
  go_loopw [14] (fun M wr=>∃(k:Nat),M=.int .i64 (k:Int)/\k<=F.length/\Below w.heap.size w wr/\Hid (∀(p f:Nat),p<k->F[p]?=some f->¬Dw L (dnx t) cl f i)) (fun M _=>F.length - (intOf M).toNat)
  case atStart=>exact⟨0,rfl,Nat.zero_le _,Below.refl _ _,fun p f h=>absurd h (by omega)⟩
  case round=>
    obtain⟨k,rfl,hk,j,G⟩:=hrel;have E:=hide (V.trans (j.mono V.size));have cn:=(y.at E.out).b.cell;have ck:=hide j;have I:=hide (j.trans ((Ap wr).mono j.size));obtain⟨vs,a8⟩:∃vs:Nat,vs=0:=⟨_,rfl⟩;obtain⟨bA,oA,cA,a6,-⟩:=y.t.mark;obtain⟨bN,oN,cN,a7,-⟩:=y.t.at
    by_cases bs:k<F.length
    · obtain⟨f,l⟩:=An bs
      have bp:=bl f (List.mem_of_getElem? l);obtain⟨gf,ci,J,bo⟩:=C7 ((Ac.of_below j (fun _=>False)).ownsRow hF (fun _ _=>id)) (AX (f:=CR) l);injection J with J bu bv
      subst J bv;simp only [CR] at bo;have a5:=hide l;have bn:=hide (y.at (E.out.trans ((Ap wr).mono E.out.size)));subst a6 a7;clear l j bu a8;go_wp2_with fail;refine Reg.cP [0,0,2,7,15,31,31,31,31,31,799,1823,31,8191,16383,32767] ?_ (by kernel_rfl) (by repeat (first | exact W | refine Reg.NoQ.then ?_ | refine Reg.NoQ.inBlock ?_));go_wp2_with (go_at_call 178; refine Calls.ret (bn.out.alike hn hL bp hi) ?_; rintro r w4 ⟨⟨b,rfl,Z⟩,a2⟩; have a4:=hide Z; have a3:=hide (I.out.trans (a2.mono I.out.size)); clear Z a2; cases b)
      · exact⟨⟨k+1,by go_num,by omega,a3.out,fun p g hp d=>by
          by_cases e:p=k
          · subst e
            rw [a5.out] at d;injection d with d
            subst d;exact fun h=>by have:=a4.out.2 h; cases this
          · exact G.out p g (by omega) d⟩,by simp [intOf]; omega⟩
      · exact hQ _ _ _ _ _ _ _ _ _ _ _ _ _ _ _ _ _ _ w4 k a3.out hk G.out (fun g d=>by
          rw [a5.out] at d;injection d with d
          subst d;exact a4.out.1 (by trivial))
    · obtain rfl:k=F.length:=by omega
      subst a6 a7;clear a8;go_wp2_with fail;refine Reg.cP [0,0,2,7,15,31,31,31,31,31,799,1823,31,8191,16383,32767] ?_ (by kernel_rfl) (by repeat (first | exact W | refine Reg.NoQ.then ?_ | refine Reg.NoQ.inBlock ?_));go_wp2_with fail;exact hQ _ _ _ _ _ _ _ _ _ _ _ _ _ _ _ _ _ _ _ F.length I.out (Nat.le_refl _) G.out (fun f l=>by have:=AP l; omega)
structure EA (wB wr:World) (E:Nat->Nat->Prop) (n gn i:Nat) (vf:Value) (F nx:List Nat):Prop where
 below:Below wB.heap.size wB wr
 next:Blk wr gn 3 (Bm n nx)
 first:wr.ownsRow (gn+1) 3 1 vf F.length (F.map CR)
 hgn:wB.heap.size<=gn
 rep:Hid (Dc E i F nx)
theorem EA.call {y wr l:World} {E:Nat->Nat->Prop} {n gn i:Nat} {j:Value} {F nx:List Nat} (h:EA y wr E n gn i j F nx) (d:Below wr.heap.size wr l):EA y l E n gn i j F nx:=
 ⟨h.below.trans (d.mono h.below.size),h.next.below d,(Ac.of_below d (fun _=>False)).ownsRow h.first (fun _ _=>id),h.hgn,h.rep⟩
theorem Dw.refl {L:Nat} {nx:Nat->Nat->Nat} {cl:List Nat} (i:Nat):Dw L nx cl i i:=⟨rfl,fun _ _=>rfl⟩
theorem MV {O w:World} {g3 L n gc cc gn:Nat} {vN vA:Value} {t:List (List Nat)} {ac:List Bool} {cl:List Nat} (hX:ClX O g3 L n gc vN vA t ac cl) (hn:n<=300000) (hL:L<=8)
    (hI:EA O w (Dw L (dnx t) cl) n gn 0 (.slice none 0 0) [] [])
    {u0 u2 u4 u5 u6 u9 af bk ag ah ai aj ak am an ao ap aq ar au av aw ax ay az aA aB aC aD aE aF aG aH aK aL aM aN bl bm bn bo bp bq br bs bt bu bv bw bx bz bA bB bC bD bE bF u64 bG bH bI bJ bK bL bM bN bO bP bQ bR bS bT aQ aR aS aT aU aV aW aX:Value}
    {Q:Exit->Act->World->Prop} (hN:Reg.NoQ Q)
    (hQ:∀(bV bW bX bY bZ c0 c5 c6 c7 c8 c9 ca cb cd ce cg ch ci cj ck cm cn co cp cq cr ct cu cv cw cx cy cz cA cB cD cE cF:Value) (w':World) (vf:Value) (F nx:List Nat),EA O w' (Dw L (dnx t) cl) n gn n vf F nx->
      Q (.exit 4) ⟨List.toArray (u0::(.int .i64 L)::u2::(.pointer (some ⟨g3,0,none⟩))::u4::u5::u6::(.int .i64 n)::(.slice (some ⟨gc,0,none⟩) n cc)::u9::af::(.slice (some ⟨gn,0,none⟩) n n)::bV::bW::bX::ag::ah::ai::aj::ak::am::an::ao::
      ap::aq::ar::au::av::aw::ax::ay::az::aA::aB::aC::aD::aE::aF::aG::aH::aK::aL::aM::aN::bY::bZ::c0::c5::c6::c7::c8::c9::ca::cb::cd::ce::cg::ch::ci::cj::
      ck::cm::cn::co::cp::cq::cr::ct::cu::cv::cw::cx::cy::cz::cA::cB::cD::cE::cF::aQ::aR::aS::aT::aU::aV::aW::aX::[]),[]⟩ w'):
    (Code.loop (CG Tryz.f126 2)).wp Tryz.prog Q ⟨List.toArray (u0::(.int .i64 L)::u2::(.pointer (some ⟨g3,0,none⟩))::u4::u5::u6::(.int .i64 n)::(.slice (some ⟨gc,0,none⟩) n cc)::u9::af::(.slice (some ⟨gn,0,none⟩) n n)::(.slice none 0 0)::(.int .i64 0)::bk::ag::ah::ai::aj::
      ak::am::an::ao::ap::aq::ar::au::av::aw::ax::ay::az::aA::aB::aC::aD::aE::aF::aG::aH::aK::aL::aM::aN::bl::bm::bn::bo::bp::bq::br::bs::bt::bu::bv::bw::
      bx::bz::bA::bB::bC::bD::bE::bF::u64::bG::bH::bI::bJ::bK::bL::bM::bN::bO::bP::bQ::bR::bS::bT::aQ::aR::aS::aT::aU::aV::aW::aX::[]),[]⟩ w:=by
  conv=>arg 2; arg 1; whnf
  go_loopw [12,13] (fun ff ii wr=>∃(i:Nat) (F nx:List Nat),ii=.int .i64 (i:Int)/\i<=n/\EA O wr (Dw L (dnx t) cl) n gn i ff F nx) (fun _ ii _=>n - (intOf ii).toNat)
  case atStart=>exact⟨0,[],[],rfl,Nat.zero_le _,hI⟩
  case round=>
    obtain⟨i,F,nx,rfl,hi,E⟩:=hrel;obtain⟨A,cf,rfl⟩:=AH E.first
    have l:=hide E;have cJ:=E.rep.out.le;clear E;by_cases be:i<n
    · have b4:=hide (fun(f:Nat) (G:f∈F)=>show f<n from by
        obtain⟨p,I⟩:=List.mem_iff_getElem?.1 G;have:=(l.out.rep.out.src p f I).1;omega)
      go_wp2_with fail;refine MW hX hn hL be l.out.below l.out.first b4.out (by omega) ?_ ?_
      · repeat (first | exact hN | refine Reg.NoQ.then ?_ | refine Reg.NoQ.inBlock ?_)
      · iterate 18 (intro _)
        intro J k b9 hk a9 ad;have d:=hide (l.out.call b9);have Z:=d.out.rep.out.len;have bh:=hide a9;have bj:=hide ad;have a6:=d.out.next.frozen i
        have W:=d.out.next.lt
        have a5:J.cell? ⟨gn,i,none⟩=some (.int .i64 0):=by
          rw [d.out.next.cell,<-Z];exact Fh (by omega)
        have h:=hide Z;clear a9 ad Z;by_cases bd:k<F.length
        · have cO:((k:Int)==(F.length:Int))=false:=by simp; omega
          go_wp2_with fail;obtain⟨f,G⟩:=An bd;have y:Ac J (J.setCell ⟨gn,i,none⟩ (.int .i64 (k:Int))) (fun b=>b=gn):=(Ac.refl J (fun b=>b=gn)).setCell (p:=⟨gn,i,none⟩) (fun _=>rfl) _;refine⟨⟨i+1,F,nx++[k],by go_num,by omega,⟨?_,?_,?_,d.out.hgn,d.out.rep.out.old G (bj.out f G)⟩⟩,by simp [intOf]; omega⟩
          · exact d.out.below.trans (y.below d.out.below.size fun b j e=>by have:=d.out.hgn; omega)
          · have:=d.out.next.set_ i (.int .i64 (k:Int))
            rw [<-h.out,Fi (by have:=h.out; omega)] at this;rw [<-h.out];exact this
          · exact y.ownsRow d.out.first fun b j e=>by have:=Bb d.out.first j; omega
        · obtain rfl:k=F.length:=by omega
          have cK:((F.length:Int)==(F.length:Int))=true:=by simp
          have U:=d.out.first
          have cQ:=W;clear a5 a6 W
          go_wp2_with (at_builtin; refine BP C9 rfl _ _ rfl (gn+1) (.slice A F.length cf) F.length _ rfl U [.int .i64 (i:Int)] 1 rfl rfl (by simp [Value.oneCell']) (by omega) (by omega) ?_; intro g5 cG M ab V bf ba
                       have a8:¬(Value.slice A F.length cf).ownBlock=some gn:=fun e=>by have:=Bb U e; omega
                       have C:=d.out.next.kept V a8
                       have a5:M.cell? ⟨gn,i,none⟩=some (.int .i64 0):=(by rw [C.cell,<-h.out]; exact Fh (by have:=h.out; omega));have a6:=C.frozen i;have W:=C.lt;have bi:=hide C;have a7:=hide V;have aa:=hide ab;clear C V ab bf ba a8)
          have y:Ac M (M.setCell ⟨gn,i,none⟩ (.int .i64 (F.length:Int))) (fun b=>b=gn):=(Ac.refl M (fun b=>b=gn)).setCell (p:=⟨gn,i,none⟩) (fun _=>rfl) _;refine⟨⟨i+1,F++[i],nx++[F.length],by go_num,by omega,⟨?_,?_,?_,d.out.hgn,d.out.rep.out.new (Dw.refl i) fun p f I=>bh.out p f (AP I) I⟩⟩,by simp [intOf]; omega⟩
          · have h1:=d.out.hgn
            have h2:=d.out.below.size;exact(d.out.below.trans (a7.out.below h2 fun b j e=>by have:=Bb U e; omega)).trans (y.below (by have:=a7.out.size; omega) fun b j e=>by omega)
          · have:=bi.out.set_ i (.int .i64 (F.length:Int))
            rw [<-h.out,Fi (by have:=h.out; omega)] at this;rw [<-h.out];exact this
          · have:=y.ownsRow aa.out fun b j e=>by have:=Bb aa.out j; omega
            simpa [CR] using this
    · obtain rfl:i=n:=by omega
      go_wp2_with fail;exact hQ _ _ _ _ _ _ _ _ _ _ _ _ _ _ _ _ _ _ _ _ _ _ _ _ _ _ _ _ _ _ _ _ _ _ _ _ _ _ wr _ F nx l.out
end Go.Proofs.YtfcfpoemojjglaaGreatDoor
namespace Go.Proofs.YtfcfpoemojjglaaGreatDoor
open Go.RowKit
set_option maxHeartbeats 16000000
set_option maxRecDepth 100000
theorem MU {w0 w:World} {g3 L n gc:Nat} {vN vA:Value} {t:List (List Nat)} {ac:List Bool} (y:Dp w0 L n vN vA t ac) (bj:Blk w0 g3 139 #[vN,vA]) (hn:n<=300000)
  (hB:Below w0.heap.size w0 w) (hC:Blk w gc 3 (Bm n [])) (bX:w0.heap.size<=gc)
  {W u1 u2 u4 u5 u6 Z a2 a3 a4 a5 a6 a7 a8 a9 aa bo bp bq br bs bt bu bv bw bx bz bB bC ad ae af ag ah ai aj al am an ao ap aq ar au av aw ay az aA aB aC aD aE aF aG aH aK aL aM aN u64 aO aP aQ aR aS aT aU aV aW aX aY aZ b0 b4 b5 b6 b7 b8 b9 ba bd be:Value}
  {Q:Exit->Act->World->Prop}
  (hQ:∀(x9 bD bE bF bG bH bI bJ bK bL bM bO bP bQ:Value) (w':World),Below w0.heap.size w0 w'->Blk w' gc 3 (Bm n (DO ac))->
   Q (.exit 0) ⟨List.toArray (W::u1::u2::(.pointer (some ⟨g3,0,none⟩))::u4::u5::u6::(.int .i64 n)::(.slice (some ⟨gc,0,none⟩) n n)::x9::Z::a2::a3::a4::a5::a6::a7::a8::a9::aa::bD::bE::bF::bG::bH::bI::bJ::bK::bL::
   bM::bO::bP::bQ::ad::ae::af::ag::ah::ai::aj::al::am::an::ao::ap::aq::ar::au::av::aw::ay::az::aA::aB::aC::aD::aE::aF::aG::aH::aK::aL::aM::aN::u64::aO::
   aP::aQ::aR::aS::aT::aU::aV::aW::aX::aY::aZ::b0::b4::b5::b6::b7::b8::b9::ba::bd::be::[]),[]⟩ w'):
  (Code.loop (CG Tryz.f126 0)).wp Tryz.prog Q ⟨List.toArray (W::u1::u2::(.pointer (some ⟨g3,0,none⟩))::u4::u5::u6::(.int .i64 n)::(.slice (some ⟨gc,0,none⟩) n n)::(.int .i64 0)::Z::a2::a3::a4::a5::a6::a7::a8::a9::aa::bo::bp::bq::br::bs::bt::bu::
   bv::bw::bx::bz::bB::bC::ad::ae::af::ag::ah::ai::aj::al::am::an::ao::ap::aq::ar::au::av::aw::ay::az::aA::aB::aC::aD::aE::aF::aG::aH::aK::aL::aM::aN::
   u64::aO::aP::aQ::aR::aS::aT::aU::aV::aW::aX::aY::aZ::b0::b4::b5::b6::b7::b8::b9::ba::bd::be::[]),[]⟩ w:=by
 conv=>arg 2; arg 1; whnf
 obtain⟨bN,oN,cN,rfl,-⟩:=y.at
 obtain⟨bA,oA,cA,rfl,bk,J⟩:=y.mark;have bi:=hide J;have M:=hide y.n;clear J y;go_loopw [9] (fun G wr=>∃(k:Nat) (row:List Nat),G=.int .i64 (k:Int)/\k<=n/\Below w0.heap.size w0 wr/\Blk wr gc 3 (Bm n row)/\Hid (row=(DO ac).take k)/\row.length<=k/\k<=row.length) (fun G _=>n - (intOf G).toNat)
 case atStart=>exact⟨0,[],rfl,Nat.zero_le _,hB,hC,by show _=_; simp,by simp,by simp⟩
 case round=>
  obtain⟨k,row,rfl,hk,h,d,E,c5,c6⟩:=hrel;obtain rfl:k=row.length:=by omega
  have bU:=(bj.below h).cell;by_cases j:row.length<n
  ·obtain⟨b,C⟩:=An (l:=ac) (i:=row.length) (by rw [M.out]; exact j);have bl:=(h.cell (p:=⟨bA,oA+row.length,none⟩) bk).trans (bi.out row.length j);have O:dac ac row.length=b:=getD_some C;rw [O] at bl;have bm:=hide (AX (f:=fun b:Bool=>if b=true then 1 else 0) C);have bV:wr.cell? ⟨gc,row.length,none⟩=some (.int .i64 0):=by rw [d.cell]; exact Fh j
   have bW:=d.frozen row.length;have bY:=d.lt;have V:=hide (B5 bm.out);clear C O;cases b
   ·go_wp2_with fail;refine⟨⟨row.length+1,row++[0],by simp,by omega,h,by rw [PX j]; exact d,?_,by simp,by simp⟩,by simp [intOf]; omega⟩;show _=_
    exact(congrArg (·++[0]) E.out).trans V.out.symm
   ·go_wp2_with fail;have U:=d.set_ row.length (.int .i64 (1:Nat));rw [Fi j] at U;refine⟨⟨row.length+1,row++[1],by simp,by omega,h.setCell (by simp; omega) _,U,?_,by simp,by simp⟩,by simp [intOf]; omega⟩;show _=_
    exact(congrArg (·++[1]) E.out).trans V.out.symm
  ·have e:row.length=n:=by omega
   have he:=hide e;clear e;go_wp2_with fail;refine hQ _ _ _ _ _ _ _ _ _ _ _ _ _ _ wr h ?_;have I:=E.out;rw [List.take_of_length_le (by have:=M.out; simp [DO]; omega)] at I;rw [<-I];exact d
theorem Gz {w:World} {g n c:Nat} {xs:List Nat} (j:xs.length=n) (h:Blk w g 3 (Bm n xs)) (d:n<=c) (l:n<=300000):
  Calls Tryz.prog 179 #[.slice (some ⟨g,0,none⟩) n c] w (Ret fun v w'=>v=.int .i64 ((dd xs).length:Int)/\Below w.heap.size w w'):=QN (CQ.of_blk h j) d l
theorem MX {w0 w:World} {g3 L n gc:Nat} {d:Int} {vN vA:Value} {t:List (List Nat)} {ac:List Bool} {cl:List Nat} (E:ClX w g3 L n gc vN vA t ac cl) (hn:n<=200000) (cf:1<=n) (hL:L<=8)
  (hB:Below w0.heap.size w0 w) (c8:w0.heap.size<=gc) (hC:CZ L n (dnx t) (dac ac) 0 cl) (cd:∀i,i<n->cl.getD i 0<=n) (hd:d<0\/0<=d)
  {u0 u4 u5 u6 u9 cp cq cr ct ai aj ak al am an ao ap aq ar au av aw ax ay az aA aB cu cv cw cx cy cz cA cB cD cE cF cG cH cJ cK cL cM cO cQ cR cS cT cU cV cW cX cY d0 d1 d2 d3 u64 d4 d5 d6 d7 d8 d9 da db dc de df dg dh di dj dk dl dm dn dp dq aE:Value}
  {Q:Exit->Act->World->Prop} (hN:Reg.NoQ Q)
  (hQ:∀(x6 aG aH aJ aK aL aM aN aO aP aQ aR aS aT aU aV aW aX aY aZ b0 b4 b5 b6 b7 b8 b9 ba bd be bf bg bh bi bj bk bl bm bn bo bp bq br bs bt bu bv bw bx bz bA bB bC bD bE bF bG bH bI:Value) (w':World) (g:Nat) (M:List Nat),Below w0.heap.size w0 w'->w0.heap.size<=g->Blk w' g 3 (Bm n M)->EB L n (dnx t) (dac ac) d M->
   Q (.exit 2) ⟨List.toArray (u0::(.int .i64 L)::(.int .i64 d)::(.pointer (some ⟨g3,0,none⟩))::u4::u5::x6::(.int .i64 n)::(.slice (some ⟨g,0,none⟩) n n)::u9::aG::aH::aJ::aK::aL::ai::aj::ak::al::am::an::ao::ap::aq::ar::au::
   av::aw::ax::ay::az::aA::aB::aM::aN::aO::aP::aQ::aR::aS::aT::aU::aV::aW::aX::aY::aZ::b0::b4::b5::b6::b7::b8::b9::ba::bd::be::bf::bg::bh::bi::bj::bk::
   bl::bm::bn::bo::bp::bq::br::bs::bt::bu::bv::bw::bx::bz::bA::bB::bC::bD::bE::bF::bG::bH::bI::aE::[]),[]⟩ w')
  (c0:∀(x8 aG aH aJ aK aL aM aN aO aP aQ aR aS aT aU aV aW aX aY aZ b0 b4 b5 b6 b7 b8 b9 ba bd be bf bg bh bi bj bk bl bm bn bo bp bq br bs bt bu bv bw bx bz bA bB bC bD bE bF bG bH bI:Value) (w':World) (g:Nat) (M:List Nat),Below w0.heap.size w0 w'->w0.heap.size<=g->Blk w' g 3 (Bm n M)->EB L n (dnx t) (dac ac) d M->
   Q .ret ⟨List.toArray (u0::(.int .i64 L)::(.int .i64 d)::(.pointer (some ⟨g3,0,none⟩))::u4::u5::(.slice (some ⟨g,0,none⟩) n n)::(.int .i64 n)::x8::u9::aG::aH::aJ::aK::aL::ai::aj::ak::al::am::an::ao::ap::aq::ar::au::
   av::aw::ax::ay::az::aA::aB::aM::aN::aO::aP::aQ::aR::aS::aT::aU::aV::aW::aX::aY::aZ::b0::b4::b5::b6::b7::b8::b9::ba::bd::be::bf::bg::bh::bi::bj::bk::
   bl::bm::bn::bo::bp::bq::br::bs::bt::bu::bv::bw::bx::bz::bA::bB::bC::bD::bE::bF::bG::bH::bI::aE::[]),[]⟩ w'):
  (Code.loop (CG Tryz.f126 1)).wp Tryz.prog Q ⟨List.toArray (u0::(.int .i64 L)::(.int .i64 d)::(.pointer (some ⟨g3,0,none⟩))::u4::u5::u6::(.int .i64 n)::(.slice (some ⟨gc,0,none⟩) n n)::u9::(.int .i64 0)::cp::cq::cr::ct::ai::aj::ak::al::am::an::ao::ap::aq::
   ar::au::av::aw::ax::ay::az::aA::aB::cu::cv::cw::cx::cy::cz::cA::cB::cD::cE::cF::cG::cH::cJ::cK::cL::cM::cO::cQ::cR::cS::cT::cU::cV::cW::cX::cY::d0::
   d1::d2::d3::u64::d4::d5::d6::d7::d8::d9::da::db::dc::de::df::dg::dh::di::dj::dk::dl::dm::dn::dp::dq::aE::[]),[]⟩ w:=by
 conv=>arg 2; arg 1; whnf
 have aa:=hide (fun q x (hq:q<n) (hx:x<L)=>show dnx t q x<n from by
  have:=E.t.ok.lt (q:=q) (by have:=E.t.n; omega) hx;have h2:=E.t.n;omega)
 go_loopw [8,10] (fun vv rr wr=>∃(r g:Nat) (l:List Nat),vv=.slice (some ⟨g,0,none⟩) n n/\rr=.int .i64 (r:Int)/\ClX wr g3 L n g vN vA t ac l/\Below w0.heap.size w0 wr/\w0.heap.size<=g/\
  Hid (CZ L n (dnx t) (dac ac) r l)/\Hid (∀i,i<n->l.getD i 0<=n)/\(d<0\/(r:Int)<=d)/\r+1<=(dd l).length/\(dd l).length<=n) (fun _ rr _=>n - (intOf rr).toNat)
 case atStart=>
  have ha:=hC.norm;exact⟨0,gc,cl,rfl,rfl,E,hB,c8,hC,cd,hd,by have:=ha.val (i:=0) cf; omega,ha.le⟩
 case round=>
  obtain⟨r,g,l,rfl,rfl,a3,h,c7,O,ce,af,dy,dz⟩:=hrel;by_cases bO:d<0\/(r:Int)<d
  ·obtain⟨gn,w1,dB,hR,bN,hgn⟩:=Et wr n (by omega);rw [Gw] at hR;have bX:=hide (show EA wr w1 (Dw L (dnx t) l) n gn 0 (.slice none 0 0) [] [] from⟨bN,hR,Cb,hgn,Dc.start _⟩);have a4:=hide a3;clear hR bN a3 E;have cg:d<0\/¬d<0/\(r:Int)<d:=by omega
   have ci:=hide af;clear bO af;rcases cg with h1 | ⟨h1,h2⟩
   all_goals
    go_wp2_with fail;refine MV a4.out (by omega) hL bX.out ?_ ?_
    ·repeat (first | exact hN | refine Reg.NoQ.then ?_ | refine Reg.NoQ.inBlock ?_)
    ·iterate 38 (intro _)
     intro w3 vf F nx U;have ag:Dc (EqW L (dnx t) (dac ac) (r+1)) n F nx:=by
      obtain⟨q1,q2,q3,q4⟩:=U.rep.out;have hF:∀(p f:Nat),F[p]?=some f->f<n:=fun p f hp=>(q4 p f hp).1;refine⟨q1,fun j v hj=>?_,fun p q f g' ch hp hq=>?_,q4⟩
      ·obtain⟨f,hf,he⟩:=q2 j v hj;exact⟨f,hf,(O.out.alike aa.out (hF v f hf) (by have:=AP hj; omega)).1 he⟩
      ·exact fun he=>q3 p q f g' ch hp hq ((O.out.alike aa.out (hF p f hp) (hF q g' hq)).2 he)
     have C:=hide (ag.cls (L:=L) (nx:=dnx t) (acc:=dac ac) (r:=r+1) fun i j _ _=>Iff.rfl);have a2:=hide U;have ad:=hide ag.len;have bR:=hide (a4.out.at U.below);have dD:=U.below.size;have c9:=hide (O.out.grow C.out.1);have cj:Hid (∀i,i<n->nx.getD i 0<=n):=fun i hi=>by
      have:=C.out.2 i hi;omega
     have dA:(dd nx).length<=n:=C.out.1.norm.le;clear ag U;by_cases a6:(dd nx).length=(dd l).length
     ·have cb:=hide a6;have cc:(((dd nx).length:Int)==((dd l).length:Int))=true:=by rw [a6]; simp
      clear a6;generalize W:(dd nx).length=K3 at*;generalize Z:(dd l).length=K4 at*;have I:=hide W;have a5:=hide Z;clear W Z
      go_wp2_with (go_at_call 179; first
       | (with_reducible refine Calls.ret (Gz ad.out a2.out.next (Nat.le_refl _) (by omega)) ?_; rintro v w4 ⟨rfl,y⟩; rw [I.out]; have a9:=hide (a2.out.call y); have J:=hide (bR.out.at y); clear y)
       | (with_reducible refine Calls.ret (Gz J.out.len J.out.c (Nat.le_refl _) (by omega)) ?_; rintro v w5 ⟨rfl,G⟩; rw [a5.out]; have V:=hide (a9.out.call G); clear G))
      have e:=cb.out;exact c0 _ _ _ _ _ _ _ _ _ _ _ _ _ _ _ _ _ _ _ _ _ _ _ _ _ _ _ _ _ _ _ _ _ _ _ _ _ _ _ _ _ _ _ _ _ _ _ _ _ _ _ _ _ _ _ _ _ _ _ w5 gn nx (h.trans (V.out.below.mono h.size)) (by have:=h.size; omega) V.out.next (O.out.atRest aa.out C.out.1 C.out.2 (by rw [I.out,a5.out]; exact e) ci.out)
     ·have dx:(dd l).length<(dd nx).length:=by have:=c9.out; omega
      have cc:(((dd nx).length:Int)==((dd l).length:Int))=false:=by simp; omega
      clear a6;generalize W:(dd nx).length=K3 at*;generalize Z:(dd l).length=K4 at*;have I:=hide W;have a5:=hide Z;clear W Z
      go_wp2_with (go_at_call 179; first
       | (with_reducible refine Calls.ret (Gz ad.out a2.out.next (Nat.le_refl _) (by omega)) ?_; rintro v w4 ⟨rfl,y⟩; rw [I.out]; have a9:=hide (a2.out.call y); have J:=hide (bR.out.at y); clear y)
       | (with_reducible refine Calls.ret (Gz J.out.len J.out.c (Nat.le_refl _) (by omega)) ?_; rintro v w5 ⟨rfl,G⟩; rw [a5.out]; have V:=hide (a9.out.call G); have bS:=hide (J.out.at G); clear G))
      refine⟨⟨r+1,gn,nx,rfl,by go_num,⟨bS.out.t,bS.out.b,V.out.next,ad.out⟩,h.trans (V.out.below.mono h.size),by have:=h.size; omega,C.out.1,cj.out,by omega,by rw [I.out]; omega,by rw [I.out]; omega⟩,by simp [intOf]; omega⟩
  ·have h0:¬d<0:=by omega
   have e:(r:Int)=d:=by omega
   have c5:=hide (O.out.atDepth ce.out e);have h1:¬(r:Int)<d:=by omega
   have a4:=hide a3;clear e bO a3 E af;go_wp2_with fail;exact hQ _ _ _ _ _ _ _ _ _ _ _ _ _ _ _ _ _ _ _ _ _ _ _ _ _ _ _ _ _ _ _ _ _ _ _ _ _ _ _ _ _ _ _ _ _ _ _ _ _ _ _ _ _ _ _ _ _ _ _ wr g l h c7 a4.out.c c5.out
theorem RW {w:World} {L n:Nat} {d:Int} {vN vA:Value} {t:List (List Nat)} {ac:List Bool} (j:Dp w L n vN vA t ac) (hn:n<=200000) (hL:L<=8):
  Calls Tryz.prog 126 #[.agg #[vN,vA],.int .i64 (L:Int),.int .i64 d] w (Ret fun v w'=>Below w.heap.size w w'/\∃(g:Nat) (cl:List Nat),v=.slice (some ⟨g,0,none⟩) n n/\w.heap.size<=g/\Blk w' g 3 (Bm n cl)/\EB L n (dnx t) (dac ac) d cl):=by
 obtain⟨bN,oN,cN,rfl,-⟩:=j.at
 obtain⟨Z,oA,cA,rfl,-⟩:=j.mark;have a9:1<=n:=by have:=j.ok.pos; have:=j.n; omega
 have a7:=hide j.n;obtain⟨w1,ar,E,J,an⟩:=Ae w #[.slice (some ⟨bN,oN,none⟩) n cN,.slice (some ⟨Z,oA,none⟩) n cA] 139;obtain⟨gc,w2,ao,U,V,a8⟩:=Et w1 n (by omega);rw [Gw] at U;have aa:=E.size;have aq:=V.size;have a5:=hide (j.below E);have af:=hide U;have ah:=hide V;have aj:=J.cell;clear j U V;go_enter Tryz.func126,Tryz.ntmps126;go_wp2_with fail;refine MU a5.out J (by omega) ah.out af.out a8 ?_;iterate 14 (intro _)
 intro w3 G a4;have a6:ClX w3 w.heap.size L n gc (.slice (some ⟨bN,oN,none⟩) n cN) (.slice (some ⟨Z,oA,none⟩) n cA) t ac (DO ac):=⟨a5.out.below G,J.below G,a4,by rw [<-a7.out]; simp [DO]⟩;have ag:=hide a6;have ai:=hide G;clear a6 G a4 aj;go_wp2_with fail;refine MX ag.out (by omega) a9 hL ai.out a8 (by rw [<-a7.out]; exact MZ ac) (fun i _=>Nat.le_trans (M0 ac i) a9) (by omega) ?_ ?_ ?_
 ·repeat (first | exact Reg.NoQ.body (fun _ _ h=>h) (fun _ h=>h) | refine Reg.NoQ.then ?_ | refine Reg.NoQ.inBlock ?_)
 ·iterate 59 (intro _)
  intro w4 g I C hg l y;have W:=hide C;have M:=hide l;have O:=hide y;clear C l y;go_wp2_with fail;go_ret;exact⟨E.trans (W.out.mono aa),g,I,rfl,by omega,M.out,O.out⟩
 ·iterate 59 (intro _)
  intro w4 g I C hg l y;have W:=hide C;have M:=hide l;have O:=hide y;clear C l y;go_wp2_with fail;go_ret;exact⟨E.trans (W.out.mono aa),g,I,rfl,by omega,M.out,O.out⟩
end Go.Proofs.YtfcfpoemojjglaaGreatDoor
namespace Go.Proofs.YtfcfpoemojjglaaGreatDoor
open Go.RowKit
set_option maxHeartbeats 16000000
set_option maxRecDepth 100000
structure CnM (w0 wr:World) (g6 gs L:Nat) (vO vC vE:Value) (st:List Nat) (as':List Int) (es:List Edg):Prop where
 below:Below w0.heap.size w0 wr
 b6:Blk wr g6 35 #[.int .i64 (L:Int),.int .i64 0,.slice (some ⟨gs,0,none⟩) 1 1,vC,vE]
 start:Blk wr gs 3 #[.int .i64 0]
 ord:wr.ownsRow w0.heap.size 3 1 vO st.length ((Ak st).map (Value.int .i64))
 acc:wr.ownsRow w0.heap.size 3 1 vC as'.length (as'.map (Value.int .i64))
 eds:wr.ownsRow w0.heap.size 83 3 vE es.length (es.flatMap eC)
 sepC:vC.ownBlock≠some gs
 sepO:vO.ownBlock≠some gs
 sep:∀g,vO.ownBlock=some g->vC.ownBlock≠some g
 ge:w0.heap.size<=g6/\w0.heap.size<=gs
section
variable {w0 wr w':World} {g6 gs L:Nat} {vO vC vE:Value} {st:List Nat} {as':List Int} {es:List Edg}
theorem CnM.keep (h:CnM w0 wr g6 gs L vO vC vE st as' es) (d:Below wr.heap.size wr w'):CnM w0 w' g6 gs L vO vC vE st as' es:=
 ⟨h.below.trans (d.mono h.below.size),h.b6.below d,h.start.below d,Bt h.ord d,Bt h.acc d,Bt h.eds d,h.sepC,h.sepO,h.sep,h.ge⟩
theorem GD {v j:Value} {g:Nat} (l:BJ wr v j) (C:g<wr.heap.size) (h:v.ownBlock≠some g):j.ownBlock≠some g:=fun e=>by
 rcases l with d | ⟨y,d,E⟩
 ·exact h (by rw [<-d]; exact e)
 ·rw [e] at d;have:=Option.some.inj d;omega
theorem CnM.addO {s:Nat} {vO':Value} {w1:World} (h:CnM w0 wr g6 gs L vO vC vE st as' es) (d:Ac wr w1 (fun k=>vO.ownBlock=some k)) (M:w1.ownsRow w0.heap.size 3 1 vO' (st.length+1) ((Ak st).map (Value.int .i64)++[.int .i64 (s:Int)])) (y:BJ wr vO vO'):
  CnM w0 w1 g6 gs L vO' vC vE (st++[s]) as' es:=by
 have C:∀{e:TypeId},e≠3->∀g cs,vO.ownBlock=some g->¬Blk wr g e cs:=fun G g cs E I=>Aw h.ord I (fun J=>G J.symm) E;refine⟨h.below.trans (d.below h.below.size fun b O e=>by have:=Bb h.ord e; omega),h.b6.kept d fun x=>C (by decide) _ _ x h.b6,h.start.kept d h.sepO,?_,d.ownsRow h.acc fun g j e=>h.sep g e j,AK d h.eds (C (by decide)),h.sepC,GD y h.start.lt h.sepO,fun g j l=>?_,h.ge⟩
 ·rw [List.length_append,EM,List.map_append];exact M
 ·exact GD y (Cj h.acc l) (fun e=>h.sep g e l) j
theorem CnM.addA {q:Int} {vC':Value} {w1:World} (h:CnM w0 wr g6 gs L vO vC vE st as' es) (C:Ac wr w1 (fun k=>vC.ownBlock=some k)) (W:w1.ownsRow w0.heap.size 3 1 vC' (as'.length+1) (as'.map (Value.int .i64)++[.int .i64 q])) (G:BJ wr vC vC'):
  CnM w0 (w1.setCell ⟨g6,3,none⟩ vC') g6 gs L vO vC' vE st (as'++[q]) es:=by
 have I:=h.b6.kept C (Aw h.acc h.b6 (by decide));have E:=(Ac.refl w1 (fun k=>k=g6)).setCell (p:=⟨g6,3,none⟩) (fun _=>rfl) vC';have l:Ac wr (w1.setCell ⟨g6,3,none⟩ vC') (fun k=>vC.ownBlock=some k\/k=g6):=(C.mono fun _ _ e=>.inl e).trans E fun _ _ e=>.inr e;have Z:∀{e:TypeId},e≠3->e≠35->∀g cs,(vC.ownBlock=some g\/g=g6)->¬Blk wr g e cs:=by
  rintro e J M g cs (y | y) j
  ·exact Aw h.acc j (fun V=>J V.symm) y
  ·exact j.ne_ h.b6 M y
 have O:∀g,vO.ownBlock=some g->g≠g6:=fun g d e=>Aw h.ord h.b6 (by decide) (by rw [d,e]);refine⟨h.below.trans (l.below h.below.size ?_),I.set_ 3 vC',h.start.kept l ?_,l.ownsRow h.ord ?_,?_,AK l h.eds (Z (by decide) (by decide)),GD G h.start.lt h.sepC,h.sepO,fun g d U=>?_,h.ge⟩
 ·rintro b hb (e | e)
  ·have:=Bb h.acc e; omega
  ·have:=h.ge; omega
 ·rintro(e | e)
  ·exact h.sepC e
  ·exact h.start.ne_ h.b6 (by decide) e
 ·rintro g d (e | e)
  ·exact h.sep g d e
  ·exact O g d e
 ·rw [List.length_append,List.map_append];exact AK E W (fun g cs e j=>by subst e; exact j.ne_ I (by decide) rfl)
 ·exact GD G (Cj h.ord d) (h.sep g d) U
theorem CnM.addE {d:Edg} {vE':Value} {w1:World} (h:CnM w0 wr g6 gs L vO vC vE st as' es) (E:Ac wr w1 (fun k=>vE.ownBlock=some k)) (U:w1.ownsRow w0.heap.size 83 3 vE' (es.length+1) (es.flatMap eC++eC d)):
  CnM w0 (w1.setCell ⟨g6,4,none⟩ vE') g6 gs L vO vC vE' st as' (es++[d]):=by
 have I:=h.b6.kept E (Aw h.eds h.b6 (by decide));have G:=(Ac.refl w1 (fun k=>k=g6)).setCell (p:=⟨g6,4,none⟩) (fun _=>rfl) vE';have l:Ac wr (w1.setCell ⟨g6,4,none⟩ vE') (fun k=>vE.ownBlock=some k\/k=g6):=(E.mono fun _ _ e=>.inl e).trans G fun _ _ e=>.inr e;have C:∀{e:TypeId},e≠83->e≠35->∀g cs,(vE.ownBlock=some g\/g=g6)->¬Blk wr g e cs:=by
  rintro e J M g cs (y | y) j
  ·exact Aw h.eds j (fun O=>J O.symm) y
  ·exact j.ne_ h.b6 M y
 refine⟨h.below.trans (l.below h.below.size ?_),I.set_ 4 vE',h.start.kept l fun x=>C (by decide) (by decide) _ _ x h.start,AK l h.ord (C (by decide) (by decide)),AK l h.acc (C (by decide) (by decide)),?_,h.sepC,h.sepO,h.sep,h.ge⟩
 ·rintro b V (e | e)
  ·have:=Bb h.eds e; omega
  ·have:=h.ge; omega
 ·rw [List.length_append,List.flatMap_append];refine AK G ?_ (fun g cs e j=>by subst e; exact j.ne_ I (by decide) rfl);simpa using U
theorem CnM.fin {wF:World} {N:Nat} (h:CnM w0 wr g6 gs L vO vC vE st as' es) (y:Ac wr wF (fun k=>k=g6\/k<w0.heap.size)) (V:as'.length<=4000000) (he:es.length<=4000000):
  Bj wF wF.heap.size (.agg #[.int .i64 (L:Int),.int .i64 (N:Int),.slice (some ⟨gs,0,none⟩) 1 1,vC,vE]) ⟨(L:Int),(N:Int),[0],as',es⟩:=by
 have W:=h.ge;have M:=y.ownsRow h.acc fun g d e=>by
  rcases e with e | e
  ·exact Aw h.acc h.b6 (by decide) (by rw [d,e])
  ·have:=Bb h.acc d; omega
 have O:=y.ownsRow h.eds fun g d e=>by
  rcases e with e | e
  ·exact Aw h.eds h.b6 (by decide) (by rw [d,e])
  ·have:=Bb h.eds d; omega
 have hS:=h.start.kept y fun e=>by
  rcases e with e | e
  ·exact h.start.ne_ h.b6 (by decide) e
  ·omega
 obtain⟨A2,c2,C,I⟩:=B8 (B:=wF.heap.size) M rfl (Nat.le_refl _) (by omega);obtain⟨A3,c3,E,J⟩:=HU (B:=wF.heap.size) O rfl (Nat.le_refl _) (by omega);obtain⟨A1,c1,j,G⟩:=B8 (B:=wF.heap.size) (l:=[0]) (base:=0) (DD (n:=1) hS (Nat.zero_le _) rfl (by omega)) rfl (Nat.le_refl _) (by omega);injection j with j _ U
 subst j;exact⟨_,1,A2,c2,A3,c3,by rw [C,E]; rfl,G,I,J,Nat.le_refl _⟩
end
theorem MK {wB w:World} {n gc U to base:Nat} {O:Option Addr} {cl st:List Nat} (C:CQ wB gc n cl) (hB:Below wB.heap.size wB w) (hO:w.ownsRow base 3 1 (.slice O st.length U) st.length ((Ak st).map (Value.int .i64))) (bF:∀s∈st,s<n) (bG:to<n) (hn:n<=200000) (hl:st.length<=200000)
  {u0 u1 u2 u3 u4 u6 u8 u9 ai aj ak al am an ao ap ar au av aw ax ay az aA aB aC aE aF aG aH aJ aK aL aM aN aO aQ aR aS aT aU aV aW aX aY aZ b0 b4 b5 b6 b7 bJ bK bL bM bN bO bP bQ bR u64 bS bT bU bV bW bX bY bZ c0 c5 b9 ba bd be bf bg bh bi bj bk bl bm bn bo bp br bs bt bu bv bw:Value}
  {Q:Exit->Act->World->Prop}
  (hQ:∀(c6 c7 c8 c9 ca cb cc cd ce cf cg ch ci cj ck cm cn cp cq cr:Value) (w':World) (k:Nat),Below w.heap.size w w'->k<=st.length->(∀p s,p<k->st[p]?=some s->cl.getD s 0≠cl.getD to 0)->(∀s,st[k]?=some s->cl.getD s 0=cl.getD to 0)->
   Q (.exit 4) ⟨List.toArray (u0::u1::u2::u3::u4::(.slice (some ⟨gc,0,none⟩) n n)::u6::(.slice O st.length U)::u8::u9::(.int .i64 to)::(.int .i64 k)::ai::aj::ak::al::am::an::ao::ap::ar::au::av::aw::ax::ay::az::aA::
   aB::aC::aE::aF::aG::aH::aJ::aK::aL::aM::aN::aO::aQ::aR::aS::aT::aU::aV::aW::aX::aY::aZ::b0::b4::b5::b6::b7::c6::c7::c8::c9::ca::cb::cc::cd::ce::cf::
   cg::ch::ci::cj::ck::cm::cn::cp::cq::cr::b9::ba::bd::be::bf::bg::bh::bi::bj::bk::bl::bm::bn::bo::bp::br::bs::bt::bu::bv::bw::[]),[]⟩ w'):
  (Code.loop (CG Tryz.f82 2)).wp Tryz.prog Q ⟨List.toArray (u0::u1::u2::u3::u4::(.slice (some ⟨gc,0,none⟩) n n)::u6::(.slice O st.length U)::u8::u9::(.int .i64 to)::(.int .i64 0)::ai::aj::ak::al::am::an::ao::ap::ar::au::av::aw::ax::ay::az::aA::
   aB::aC::aE::aF::aG::aH::aJ::aK::aL::aM::aN::aO::aQ::aR::aS::aT::aU::aV::aW::aX::aY::aZ::b0::b4::b5::b6::b7::bJ::bK::bL::bM::bN::bO::bP::bQ::bR::u64::
   bS::bT::bU::bV::bW::bX::bY::bZ::c0::c5::b9::ba::bd::be::bf::bg::bh::bi::bj::bk::bl::bm::bn::bo::bp::br::bs::bt::bu::bv::bw::[]),[]⟩ w:=by
 conv=>arg 2; arg 1; whnf
 obtain⟨z,hz⟩:=An (l:=cl) (i:=to) (by rw [C.1]; exact bG);have ag:Hid (cl.getD to 0=z):=getD_some hz;have E:=hide C;have bA:=hide (C.2.2 to z hz);have bz:=hide hO;obtain⟨m,G⟩:∃m,m=st.length:=⟨_,rfl⟩;have ad:=hide G;have aa:=hide hB;rw [<-G] at hl ⊢;simp only [<-G] at hQ;clear C hz hO hB G;go_loopw [11] (fun kk wr=>∃(k:Nat),kk=.int .i64 (k:Int)/\k<=m/\Below w.heap.size w wr/\Hid (∀(p s:Nat),p<k->st[p]?=some s->cl.getD s 0≠cl.getD to 0)) (fun kk _=>m - (intOf kk).toNat)
 case atStart=>exact⟨0,rfl,Nat.zero_le _,Below.refl _ _,fun p f h=>absurd h (by omega)⟩
 case round=>
  obtain⟨k,rfl,hk,j,V⟩:=hrel;have Z:=hide (fun M=>j.trans (((Ac.refl wr (fun _=>False)).drewN M).below j.size (fun _ _ h=>h.elim)));by_cases bD:k<m
  ·obtain⟨s,I⟩:=An (l:=st) (i:=k) (by rw [<-ad.out]; exact bD);have bE:=bF s (List.mem_of_getElem? I);obtain⟨gf,ct,hv,cv⟩:=C7 (Bt bz.out j) (AX (f:=Value.int .i64) (AX (f:=fun x:Nat=>(x:Int)) I));injection hv with hv bH bI
   subst hv bI;obtain⟨y,hy⟩:=An (l:=cl) (i:=s) (by rw [E.out.1]; exact bE);have W:=aa.out.trans (j.mono aa.out.size);have cw:wr.cell? ⟨gc,s,none⟩=some (.int .i64 (y:Int)):=(W.cell (p:=⟨gc,s,none⟩) E.out.2.1).trans (E.out.2.2 s y hy);have cx:wr.cell? ⟨gc,to,none⟩=some (.int .i64 (z:Int)):=(W.cell (p:=⟨gc,to,none⟩) E.out.2.1).trans bA.out;have af:Hid (cl.getD s 0=y):=getD_some hy;have ae:=hide I;clear I hy W j bH;by_cases J:y=z
   ·have hI:(y:Int)=(z:Int):=by omega
    have a4:=hide J;clear J;go_wp2_with fail;go_quiet (fail);go_wp2_with fail;refine hQ _ _ _ _ _ _ _ _ _ _ _ _ _ _ _ _ _ _ _ _ _ k (Z.out _) hk V.out (fun s' d=>?_);rw [ae.out] at d;injection d with d
    subst d;rw [af.out,ag.out,a4.out]
   ·have hI:¬(y:Int)=(z:Int):=by omega
    have a4:=hide J;clear J;go_wp2_with fail;go_quiet (fail);go_wp2_with fail;refine⟨⟨k+1,by go_num,by omega,Z.out _,fun p s' hp d=>?_⟩,by simp [intOf]; omega⟩;by_cases e:p=k
    ·subst e;rw [ae.out] at d;injection d with d
     subst d;rw [af.out,ag.out];exact a4.out
    ·exact V.out p s' (by omega) d
  ·obtain rfl:k=m:=by omega
   clear j;go_wp2_with fail;go_quiet (fail);go_wp2_with fail;refine hQ _ _ _ _ _ _ _ _ _ _ _ _ _ _ _ _ _ _ _ _ _ k (Z.out _) (Nat.le_refl _) V.out (fun s' d=>?_);have:=AP d;have:=ad.out;omega
end Go.Proofs.YtfcfpoemojjglaaGreatDoor
namespace Go.Proofs.YtfcfpoemojjglaaGreatDoor
open Go.RowKit
set_option maxHeartbeats 16000000
set_option maxRecDepth 100000
def kOf (cl st:List Nat):List Nat:=st.map fun s=>cl.getD s 0
theorem JL (cl st:List Nat) (s:Nat):kOf cl (st++[s])=kOf cl st++[cl.getD s 0]:=by simp [kOf]
theorem Hv {cl st:List Nat} {k s:Nat} (h:st[k]?=some s):(kOf cl st)[k]?=some (cl.getD s 0):=AX (f:=fun s=>cl.getD s 0) h
theorem QD {cl st st':List Nat} (h:st<+:st'):kOf cl st<+:kOf cl st':=by
 obtain⟨u,rfl⟩:=h;unfold kOf;rw [List.map_append];exact List.prefix_append _ _
theorem QB {cl st:List Nat} {k s z:Nat} (G:st[k]?=some s) (I:cl.getD s 0=z) (E:∀p h,p<k->st[p]?=some h->cl.getD h 0≠z):Ax (kOf cl st) z=k/\z∈kOf cl st:=by
 have l:=Hv (cl:=cl) G;rw [I] at l;refine⟨HV l fun j C d=>?_,List.mem_of_getElem? l⟩;unfold kOf at d;rw [List.getElem?_map] at d;rcases y:st[j]? with _ | h
 ·rw [y] at d; cases d
 ·rw [y] at d;exact E j h C y (by simpa using d)
theorem QA {cl st:List Nat} {z:Nat} (y:∀p d,p<st.length->st[p]?=some d->cl.getD d 0≠z):z∉kOf cl st:=fun l=>by
 obtain⟨d,C,e⟩:=List.mem_map.1 l;obtain⟨j,h⟩:=List.mem_iff_getElem?.1 C;exact y j d (AP h) h e
structure CnX (w0:World) (g2 gc L n:Nat) (vN vA:Value) (t:List (List Nat)) (ac:List Bool) (cl:List Nat):Prop where
 tab:Dp w0 L n vN vA t ac
 b:Blk w0 g2 139 #[vN,vA]
 c:CQ w0 gc n cl
 w:Ck L n (dnx t) (dac ac) cl
theorem CnX.lt {w0:World} {g2 gc L n q x:Nat} {vN vA:Value} {t:List (List Nat)} {ac:List Bool} {cl:List Nat} (h:CnX w0 g2 gc L n vN vA t ac cl) (l:q<n) (d:x<L):dnx t q x<n:=by
 have j:=h.tab.n;have:=h.tab.ok.lt (q:=q) (by omega) d;omega
theorem CnX.st_len {w0:World} {g2 gc L n:Nat} {vN vA:Value} {t:List (List Nat)} {ac:List Bool} {cl st:List Nat} (h:CnX w0 g2 gc L n vN vA t ac cl) (j:(kOf cl st).Nodup) (d:∀s∈st,s<n):st.length<=n:=by
 have:=D6 _ (List.range n) j fun v y=>by
  obtain⟨s,l,rfl⟩:=List.mem_map.1 y;exact List.mem_range.2 (h.w.lt s (d s l))
 simpa [kOf] using this
theorem MM {w0 w:World} {g2 gc g6 gs L n i q co:Nat} {Ao:Option Addr} {vN vA vC vE:Value} {t:List (List Nat)} {ac:List Bool} {cl st:List Nat} {as':List Int} {es:List Edg} (hX:CnX w0 g2 gc L n vN vA t ac cl) (hn:n<=200000) (hL:L<=8)
    (hM:CnM w0 w g6 gs L (.slice Ao st.length co) vC vE st as' es) (hE:Exp L (AF (dnx t) cl) (cl.getD 0 0) i (kOf cl st)) (hq:st[i]?=some q) (aV:∀s∈st,s<n) (el:es.length<=2000000)
    {u0 u3 u4 cc cd b0 b4 b5 b7 b8 b9 ba bd be bf bg bh bi bj bk bl bm bn bp bq br bs bt bu bv bw bx ce cf cg ch ci cj ck cm cn cp cq cr ct cu cv cw cx cy cz cB cD cF cG cH cJ u64 cK cL cM cO cQ cR cS cT cU cV cW cX cY cZ d0 d1 d2 d3 d4 d5 d6 d7 d8 d9 da db dc bB bC bD bE:Value}
    {Q:Exit->Act->World->Prop} (hN:Reg.NoQ Q)
    (hQ:∀(x9 dh di dj dk dl dm dn dp dq dr dt du dv dw dx dy dz dA dB dC dD dE dF dG dH dI dJ dK dL dM dN dO dP dQ dR dS dT dU dV dW dX dY dZ e0 e1 e2 e3 e4 e5 e6 e7 e8 e9 eb ec:Value) (w':World) (vO' vE':Value) (st':List Nat),CnM w0 w' g6 gs L vO' vC vE' st' as' (es++CI (AF (dnx t) cl) (kOf cl st') (cl.getD q 0) i L)->kOf cl st'=AZ (AF (dnx t) cl) (cl.getD q 0) (kOf cl st) L->st<+:st'->(∀s∈st',s<n)->
      Q (.exit 2) ⟨List.toArray (u0::(.int .i64 L)::(.pointer (some ⟨g2,0,none⟩))::u3::u4::(.slice (some ⟨gc,0,none⟩) n n)::(.pointer (some ⟨g6,0,none⟩))::vO'::(.int .i64 i)::x9::dh::di::b0::b4::b5::b7::b8::b9::ba::bd::be::bf::bg::
      bh::bi::bj::bk::bl::bm::bn::bp::bq::br::bs::bt::bu::bv::bw::bx::dj::dk::dl::dm::dn::dp::dq::dr::dt::du::dv::dw::dx::dy::dz::dA::dB::dC::dD::dE::dF::
      dG::dH::dI::dJ::dK::dL::dM::dN::dO::dP::dQ::dR::dS::dT::dU::dV::dW::dX::dY::dZ::e0::e1::e2::e3::e4::e5::e6::e7::e8::e9::eb::ec::bB::bC::bD::bE::[]),[]⟩ w'):
    (Code.loop (CG Tryz.f82 1)).wp Tryz.prog Q ⟨List.toArray (u0::(.int .i64 L)::(.pointer (some ⟨g2,0,none⟩))::u3::u4::(.slice (some ⟨gc,0,none⟩) n n)::(.pointer (some ⟨g6,0,none⟩))::(.slice Ao st.length co)::(.int .i64 i)::(.int .i64 0)::cc::cd::b0::b4::b5::b7::b8::b9::
      ba::bd::be::bf::bg::bh::bi::bj::bk::bl::bm::bn::bp::bq::br::bs::bt::bu::bv::bw::bx::ce::cf::cg::ch::ci::cj::ck::cm::cn::cp::cq::cr::ct::cu::cv::cw::
      cx::cy::cz::cB::cD::cF::cG::cH::cJ::u64::cK::cL::cM::cO::cQ::cR::cS::cT::cU::cV::cW::cX::cY::cZ::d0::d1::d2::d3::d4::d5::d6::d7::d8::d9::da::db::dc::
      bB::bC::bD::bE::[]),[]⟩ w:=by
  conv=>arg 2; arg 1; whnf
  obtain⟨bN,oN,cN,rfl,bP,aS⟩:=hX.tab.at
  obtain⟨bA,oA,cA,rfl,-⟩:=hX.tab.mark;have c0:=hide aS;have bL:=hide hM;have bK:=hide hE;have a2:=hide hX;have aO:=aV q (List.mem_of_getElem? hq);have bZ:=hide hq;clear aS hM hE hX hq;go_loopw [7,9] (fun vv xx wr=>∃(x:Nat) (st':List Nat) (vE':Value),xx=.int .i64 (x:Int)/\x<=L/\Hid (CnM w0 wr g6 gs L vv vC vE' st' as' (es++CI (AF (dnx t) cl) (kOf cl st') (cl.getD q 0) i x))/\Hid (kOf cl st'=AZ (AF (dnx t) cl) (cl.getD q 0) (kOf cl st) x)/\Hid (st<+:st')/\Hid (∀s∈st',s<n)) (fun _ xx _=>L - (intOf xx).toNat)
  case atStart=>exact⟨0,st,vE,rfl,Nat.zero_le _,by rw [Sr,List.append_nil]; exact bL,hide rfl,hide (List.prefix_refl _),hide aV⟩
  case round=>
    obtain⟨x,st',vE',rfl,hx,C,M,hp,hl⟩:=hrel;obtain⟨ed,bI,rfl⟩:=AH C.out.ord;have aJ:(kOf cl st').Nodup:=by rw [M.out]; exact GN _ bK.out.inv.nodup _
    have aT:=a2.out.st_len aJ hl.out;clear aJ;by_cases aX:x<L
    · obtain⟨A,c',aP,aQ⟩:=c0.out q aO
      obtain⟨b2,o2,rfl,bO,an,ap⟩:=aQ x aX;have ad:=hide (a2.out.w.nxE (fun q x hq hx=>a2.out.lt hq hx) aO aX);obtain⟨to,aq⟩:∃to,to=dnx t q x:=⟨_,rfl⟩;rw [<-aq] at an ap;have ae:=hide aq;have bR:=(a2.out.b.below C.out.below).cell;have am:=Ds hp.out bZ.out;obtain⟨gf,eh,hv,ej⟩:=C7 C.out.ord (AX (f:=Value.int .i64) (AX (f:=fun x:Nat=>(x:Int)) am));injection hv with hv c7 c8
      subst hv c8;have bV:=AP am;have c1:=(C.out.below.cell (p:=⟨bN,oN+q,none⟩) bP).trans aP;have c2:=(C.out.below.cell (p:=⟨b2,o2+x,none⟩) bO).trans an;obtain⟨m,hm⟩:∃m,m=st'.length:=⟨_,rfl⟩;rw [<-hm] at aT bV C ⊢;have j:=hide hm;have aA:=hide (C.out.keep (Ap wr));clear aP aQ an aq am hm c7;go_wp2_with fail;refine Reg.cP [0,1,0,0,12,28,63,127,0,511,1023,2047] ?_ (by kernel_rfl) (by repeat (first | exact hN | refine Reg.NoQ.then ?_ | refine Reg.NoQ.inBlock ?_));go_wp2_with fail;rw [j.out];have aa:=aA;rw [j.out] at aa;refine MK a2.out.c (C.out.below.trans ((Ap wr).mono C.out.below.size)) aa.out.ord hl.out ap hn (by rw [<-j.out]; omega) ?_;iterate 20 (intro _)
      intro w3 k aC aF aK aY;have y:=hide (aa.out.keep aC);have aL:=hide aK;have c9:=hide aY;have em:k<=m:=by rw [j.out]; exact aF
      obtain⟨AE,cE,rfl⟩:=AH y.out.eds;have aD:Hid ((es++CI (AF (dnx t) cl) (kOf cl st') (cl.getD q 0) i x).length=es.length+x):=by show _=_; rw [List.length_append,Sq]
      clear aK aY aF aC aA aa c1 c2 bR;by_cases bW:k<m
      · obtain⟨s,I⟩:=An (l:=st') (i:=k) (by rw [<-j.out]; exact bW)
        obtain⟨a8,aG⟩:=QB I (c9.out s I) aL.out;have en:((k:Int)==(m:Int))=false:=by simp; omega
        have aR:Hid (kOf cl st'=AZ (AF (dnx t) cl) (cl.getD q 0) (kOf cl st) (x+1)):=by
          show _=_
          rw [Cr,<-M.out,ad.out,<-ae.out];unfold Bs;rw [if_pos aG]
        have ah:Hid (es++CI (AF (dnx t) cl) (kOf cl st') (cl.getD q 0) i (x+1)=(es++CI (AF (dnx t) cl) (kOf cl st') (cl.getD q 0) i x)++[⟨(i:Int),(x:Int),(k:Int)⟩]):=by
          show _=_
          have Z:=KQ (δ:=AF (dnx t) cl) (kOf cl st) (cl.getD q 0) i x;rw [<-aR.out,<-M.out,ad.out,<-ae.out,a8] at Z;rw [Z,List.append_assoc]
        have ag:=y.out.b6.cell;have a3:=y.out.eds;obtain⟨h,O⟩:∃h,h=(es++CI (AF (dnx t) cl) (kOf cl st') (cl.getD q 0) i x).length:=⟨_,rfl⟩;have aj:h+1<=4000000:=by have:=aD.out; omega
        rw [<-O] at ag a3;have ao:=y.out.below.size;have U:=hide O;rw [<-j.out];clear O I a8 aG
        go_wp2_with (
          at_builtin;refine BP (w:=w3) Ga rfl _ _ rfl w0.heap.size (.slice AE h cE) h _ rfl a3 [.int .i64 (i:Int),.int .i64 (x:Int),.int .i64 (k:Int)] 1 rfl rfl (by simp [Value.oneCell']) aj ao ?_;intro W V w7 a6 a4 ak bU;have G:=a4;rw [U.out] at G;have E:=y.out.b6.kept G (Aw y.out.eds y.out.b6 (by decide));have bQ:=E.cell;have bS:=E.frozen 4;have bX:=E.lt;have af:=hide (y.out.addE (d:=⟨(i:Int),(x:Int),(k:Int)⟩) (vE':=.slice (some ⟨W,0,none⟩) (h+1) V) G (by rw [<-U.out]; exact a6));clear a6 a4 G ak E)
        refine⟨⟨x+1,st',.slice (some ⟨W,0,none⟩) (h+1) V,by go_num,by omega,?_,aR,hp,hl⟩,by simp [intOf]; omega⟩;rw [ah.out];have:=af.out;rw [<-j.out] at this;exact this
      · obtain rfl:k=m:=by omega
        have al:=QA (cl:=cl) (st:=st') (z:=cl.getD to 0) fun p s' hp c5=>aL.out p s' (by have:=j.out; omega) c5;have ek:((k:Int)==(k:Int))=true:=by simp
        have aU:Hid (kOf cl (st'++[to])=AZ (AF (dnx t) cl) (cl.getD q 0) (kOf cl st) (x+1)):=by
          show _=_
          rw [Cr,<-M.out,ad.out,<-ae.out,JL];unfold Bs;rw [if_neg al]
        have a8:Ax (kOf cl (st'++[to])) (cl.getD to 0)=k:=by
          rw [JL,ES al];have:=j.out;simp [kOf];omega
        have ah:Hid (es++CI (AF (dnx t) cl) (kOf cl (st'++[to])) (cl.getD q 0) i (x+1)=(es++CI (AF (dnx t) cl) (kOf cl st') (cl.getD q 0) i x)++[⟨(i:Int),(x:Int),(k:Int)⟩]):=by
          show _=_
          have Z:=KQ (δ:=AF (dnx t) cl) (kOf cl st) (cl.getD q 0) i x;rw [<-aU.out,<-M.out,ad.out,<-ae.out,a8] at Z;rw [Z,List.append_assoc]
        have aM:=y.out.ord;obtain⟨h,O⟩:∃h,h=(es++CI (AF (dnx t) cl) (kOf cl st') (cl.getD q 0) i x).length:=⟨_,rfl⟩;have aj:h+1<=4000000:=by have:=aD.out; omega
        have U:=hide O;rw [<-j.out] at aM;have ao:=y.out.below.size;rw [<-j.out];clear O al a8
        go_wp2_with (
          at_builtin;first
          | (refine BP (w:=w3) C9 rfl _ _ rfl w0.heap.size (.slice (some ⟨gf,0,none⟩) k bI) k _ rfl aM [.int .i64 (to:Int)] 1 rfl rfl (by simp [Value.oneCell']) (by omega) ao ?_
             intro g5 bH w5 aN aE aH bT;have J:=hide (y.out.addO (s:=to) (vO':=.slice (some ⟨g5,0,none⟩) (k+1) bH) (by rw [<-j.out]; exact aE) (by rw [<-j.out]; exact aN) (by rw [<-j.out]; exact aH));have ag:=J.out.b6.cell;have a3:=J.out.eds;rw [<-U.out] at ag a3;have c6:=J.out.below.size;clear aN aE aH bT)
          | (refine BP (w:=w5) Ga rfl _ _ rfl w0.heap.size (.slice AE h cE) h _ rfl a3 [.int .i64 (i:Int),.int .i64 (x:Int),.int .i64 (k:Int)] 1 rfl rfl (by simp [Value.oneCell']) aj c6 ?_
             intro W V w7 a6 a4 ak bU;have G:=a4;rw [U.out] at G;have E:=J.out.b6.kept G (Aw J.out.eds J.out.b6 (by decide));have bQ:=E.cell;have bS:=E.frozen 4;have bX:=E.lt;have af:=hide (J.out.addE (d:=⟨(i:Int),(x:Int),(k:Int)⟩) (vE':=.slice (some ⟨W,0,none⟩) (h+1) V) G (by rw [<-U.out]; exact a6));clear a6 a4 G ak E))
        refine⟨⟨x+1,st'++[to],.slice (some ⟨W,0,none⟩) (h+1) V,by go_num,by omega,?_,aU,hide (hp.out.trans (List.prefix_append _ _)),hide fun s I=>?_⟩,by simp [intOf]; omega⟩
        · rw [ah.out]
          exact af.out
        · rcases List.mem_append.1 I with I | I
          · exact hl.out s I
          · rw [List.mem_singleton.1 I]; exact ap
    · obtain rfl:x=L:=by omega
      clear aT;go_wp2_with fail;exact hQ _ _ _ _ _ _ _ _ _ _ _ _ _ _ _ _ _ _ _ _ _ _ _ _ _ _ _ _ _ _ _ _ _ _ _ _ _ _ _ _ _ _ _ _ _ _ _ _ _ _ _ _ _ _ _ _ wr _ vE' st' C.out M.out hp.out hl.out
end Go.Proofs.YtfcfpoemojjglaaGreatDoor
