/-
  Part EC of a proof.
-/
import Derived.Test.YtfcfpoemojjglaaGreatDoorPA
import Derived.Test.YtfcfpoemojjglaaGreatDoorEA
import Derived.Test.YtfcfpoemojjglaaGreatDoorPK
set_option maxHeartbeats 16000000
set_option maxRecDepth 100000
set_option linter.unusedVariables false
set_option linter.unusedSimpArgs false
namespace Go.Proofs.YtfcfpoemojjglaaGreatDoor
open Go.RowKit
set_option maxHeartbeats 16000000
set_option maxRecDepth 100000
theorem O7 {L:Nat} {row:List Nat} (h:row.length<L):Bn L (row++[0])=Bn L row:=by
 have y:=Ff h 0
 rw [←y]
 apply Array.ext_getElem?
 intro j
 rw [Array.getElem?_setIfInBounds]
 by_cases e:row.length=j
 ·subst e
  rw [if_pos rfl,Fe h]
  have:row.length<(Bn L row).size:=by simp [Bn]; omega
  rw [if_pos this]
  rfl
 ·rw [if_neg e]
structure ClX (w:World) (g3 L n gc:Nat) (vN vA:Value) (t:List (List Nat)) (ac:List Bool) (cl:List Nat):Prop where
 t:Dm w L n vN vA t ac
 b:Blk w g3 139 #[vN,vA]
 c:Blk w gc 3 (Bn n cl)
 len:cl.length=n
theorem ClX.at {w w':World} {z L n gc:Nat} {vN vA:Value} {t:List (List Nat)} {ac:List Bool} {cl:List Nat} (h:ClX w z L n gc vN vA t ac cl) (y:Below w.heap.size w w'):ClX w' z L n gc vN vA t ac cl:=
 ⟨h.t.below y,h.b.below y,h.c.below y,h.len⟩
theorem ClX.alike {w:World} {y L n gc c a b:Nat} {vN vA:Value} {t:List (List Nat)} {ac:List Bool} {cl:List Nat} (h:ClX w y L n gc vN vA t ac cl) (G:n≤300000) (z:L≤8) (C:a<n) (E:b<n):
  Calls Tryz.prog 178 #[.agg #[vN,vA],.slice (some ⟨gc,0,none⟩) n c,.int .i64 (L:Int),.int .i64 (a:Int),.int .i64 (b:Int)] w (Ret fun v w'=>(∃r:Bool,v=.bool r∧(r=true↔Dt L (dnx t) cl a b))∧Below w.heap.size w w'):=
 Lz h.t (CP.of_blk h.c h.len) C E G z
theorem Mj {W w:World} {base I L n gc Z G i:Nat} {A:Option Addr} {vN vA:Value} {t:List (List Nat)} {ac:List Bool} {cl F:List Nat} (E:ClX W I L n gc vN vA t ac cl) (hn:n≤300000) (hL:L≤8) (hi:i<n)
    (hB:Below W.heap.size W w) (hF:w.ownsRow base 3 1 (.slice A F.length G) F.length (F.map CQ)) (bj:∀f∈F,f<n) (cd:F.length≤300000)
    {u0 u2 u4 u5 u6 u7 u9 ae af ag ah ai aj ak am an ao ap aq ar au av aw ax ay az aA aB aC aD aE aF aG aH aK aL aM aN aO aP aQ aR aS bt bu bv bw bx bz bB bC bD bE bF bG bH bI bJ u64 bK bL aV aW aX aZ b0 b1 b2 b3 b4 b5 b6 b7 b8 b9 ba bb bd be bf bg:Value}
    {Q:Exit→Act→World→Prop} (hN:Reg.NoQ Q)
    (hQ:∀(bO bP bQ bR bS bT bU bV bW bX bY bZ c0 c1 c3 c4 c5 c6:Value) (w':World) (k:Nat),Below w.heap.size w w'→k≤F.length→(∀p f,p<k→F[p]?=some f→¬Dt L (dnx t) cl f i)→(∀f,F[k]?=some f→Dt L (dnx t) cl f i)→
      Q (.exit 6) ⟨List.toArray (u0::(.int .i64 L)::u2::(.pointer (some ⟨I,0,none⟩))::u4::u5::u6::u7::(.slice (some ⟨gc,0,none⟩) n Z)::u9::ae::af::(.slice A F.length G)::(.int .i64 i)::(.int .i64 k)::ag::ah::ai::aj::ak::am::an::ao::
      ap::aq::ar::au::av::aw::ax::ay::az::aA::aB::aC::aD::aE::aF::aG::aH::aK::aL::aM::aN::aO::aP::aQ::aR::aS::bO::bP::bQ::bR::bS::bT::bU::bV::bW::bX::bY::
      bZ::c0::c1::c3::c4::c5::c6::aV::aW::aX::aZ::b0::b1::b2::b3::b4::b5::b6::b7::b8::b9::ba::bb::bd::be::bf::bg::[]),[]⟩ w'):
    (Code.loop (CS Tryz.f126 3)).wp Tryz.prog Q ⟨List.toArray (u0::(.int .i64 L)::u2::(.pointer (some ⟨I,0,none⟩))::u4::u5::u6::u7::(.slice (some ⟨gc,0,none⟩) n Z)::u9::ae::af::(.slice A F.length G)::(.int .i64 i)::(.int .i64 0)::ag::ah::ai::aj::ak::am::an::ao::
      ap::aq::ar::au::av::aw::ax::ay::az::aA::aB::aC::aD::aE::aF::aG::aH::aK::aL::aM::aN::aO::aP::aQ::aR::aS::bt::bu::bv::bw::bx::bz::bB::bC::bD::bE::bF::
      bG::bH::bI::bJ::u64::bK::bL::aV::aW::aX::aZ::b0::b1::b2::b3::b4::b5::b6::b7::b8::b9::ba::bb::bd::be::bf::bg::[]),[]⟩ w:=by
  conv=>arg 2; arg 1; whnf
  go_loopw [14] (fun V wr=>∃(k:Nat),V=.int .i64 (k:Int)∧k≤F.length∧Below w.heap.size w wr∧Hid (∀(p f:Nat),p<k→F[p]?=some f→¬Dt L (dnx t) cl f i)) (fun V _=>F.length - (intOf V).toNat)
  case atStart=>exact⟨0,rfl,Nat.zero_le _,Below.refl _ _,fun p f h=>absurd h (by omega)⟩
  case round=>
    obtain⟨k,rfl,hk,z,M⟩:=hrel
    have J:=hide (hB.trans (z.mono hB.size))
    have ce:=(E.at J.out).b.cell
    have cb:=hide z
    have O:=hide (z.trans ((As wr).mono z.size))
    obtain⟨vs,ab⟩:∃vs:Nat,vs=0:=⟨_,rfl⟩
    obtain⟨bA,oA,cA,a9,-⟩:=E.t.mark
    obtain⟨bN,oN,cN,aa,-⟩:=E.t.at
    by_cases bp:k<F.length
    · obtain⟨f,C⟩:=Ap bp
      have bn:=bj f (List.mem_of_getElem? C)
      obtain⟨gf,ca,U,bm⟩:=C7 ((Ac.of_below z (fun _=>False)).ownsRow hF (fun _ _=>id)) (AX (f:=CQ) C)
      injection U with U br bs
      subst U bs
      simp only [CQ] at bm
      have a8:=hide C
      have bl:=hide (E.at (J.out.trans ((As wr).mono J.out.size)))
      subst a9 aa
      clear C z br ab
      go_wp2_with fail
      refine Reg.cP [0,0,2,7,15,31,31,31,31,31,799,1823,31,8191,16383,32767] ?_ (by kernel_rfl) (by repeat (first | exact hN | refine Reg.NoQ.then ?_ | refine Reg.NoQ.inBlock ?_))
      go_wp2_with (go_at_call 178; refine Calls.ret (bl.out.alike hn hL bn hi) ?_; rintro r w4 ⟨⟨b,rfl,hb⟩,a5⟩; have a7:=hide hb; have a6:=hide (O.out.trans (a5.mono O.out.size)); clear hb a5; cases b)
      · exact⟨⟨k+1,by go_num,by omega,a6.out,fun p g hp y=>by
          by_cases e:p=k
          · subst e
            rw [a8.out] at y
            injection y with y
            subst y
            exact fun h=>by have:=a7.out.2 h; cases this
          · exact M.out p g (by omega) y⟩,by simp [intOf]; omega⟩
      · exact hQ _ _ _ _ _ _ _ _ _ _ _ _ _ _ _ _ _ _ w4 k a6.out hk M.out (fun g y=>by
          rw [a8.out] at y
          injection y with y
          subst y
          exact a7.out.1 (by trivial))
    · obtain rfl:k=F.length:=by omega
      subst a9 aa
      clear ab
      go_wp2_with fail
      refine Reg.cP [0,0,2,7,15,31,31,31,31,31,799,1823,31,8191,16383,32767] ?_ (by kernel_rfl) (by repeat (first | exact hN | refine Reg.NoQ.then ?_ | refine Reg.NoQ.inBlock ?_))
      go_wp2_with fail
      exact hQ _ _ _ _ _ _ _ _ _ _ _ _ _ _ _ _ _ _ _ F.length O.out (Nat.le_refl _) M.out (fun f C=>by have:=AM C; omega)
structure Ex (wB wr:World) (E:Nat→Nat→Prop) (n gn i:Nat) (vf:Value) (F nx:List Nat):Prop where
 below:Below wB.heap.size wB wr
 next:Blk wr gn 3 (Bn n nx)
 first:wr.ownsRow (gn+1) 3 1 vf F.length (F.map CQ)
 hgn:wB.heap.size≤gn
 rep:Hid (Dc E i F nx)
theorem Ex.call {I wr G:World} {E:Nat→Nat→Prop} {n z i:Nat} {C:Value} {F nx:List Nat} (h:Ex I wr E n z i C F nx) (y:Below wr.heap.size wr G):Ex I G E n z i C F nx:=
 ⟨h.below.trans (y.mono h.below.size),h.next.below y,(Ac.of_below y (fun _=>False)).ownsRow h.first (fun _ _=>id),h.hgn,h.rep⟩
theorem Dt.refl {L:Nat} {nx:Nat→Nat→Nat} {cl:List Nat} (i:Nat):Dt L nx cl i i:=⟨rfl,fun _ _=>rfl⟩
theorem Mi {W w:World} {Z L n gc cc y:Nat} {vN vA:Value} {t:List (List Nat)} {ac:List Bool} {cl:List Nat} (hX:ClX W Z L n gc vN vA t ac cl) (hn:n≤300000) (hL:L≤8)
    (hI:Ex W w (Dt L (dnx t) cl) n y 0 (.slice none 0 0) [] [])
    {u0 u2 u4 u5 u6 u9 aj bj ak al am an ao aq ar au av aw ax ay az aA aB aC aD aE aF aG aH aJ aK aL aM aO aP aQ aR bk bl bm bn bo bp bq br bs bt bu bv bw bx bz bA bB bC bD bE u64 bF bG bH bI bJ bK bL bM bN bO bP bQ bR bS aU aV aW aX aY aZ b0 b1:Value}
    {Q:Exit→Act→World→Prop} (hN:Reg.NoQ Q)
    (hQ:∀(bU bV bW bX bY bZ c0 c1 c3 c4 c5 c6 c7 c8 c9 ca cb cd ce cg ch ci cj ck cm cn co cp cq cr ct cu cv cw cx cy cz cA:Value) (w':World) (vf:Value) (F nx:List Nat),Ex W w' (Dt L (dnx t) cl) n y n vf F nx→
      Q (.exit 4) ⟨List.toArray (u0::(.int .i64 L)::u2::(.pointer (some ⟨Z,0,none⟩))::u4::u5::u6::(.int .i64 n)::(.slice (some ⟨gc,0,none⟩) n cc)::u9::aj::(.slice (some ⟨y,0,none⟩) n n)::bU::bV::bW::ak::al::am::an::ao::aq::ar::au::
      av::aw::ax::ay::az::aA::aB::aC::aD::aE::aF::aG::aH::aJ::aK::aL::aM::aO::aP::aQ::aR::bX::bY::bZ::c0::c1::c3::c4::c5::c6::c7::c8::c9::ca::cb::cd::ce::
      cg::ch::ci::cj::ck::cm::cn::co::cp::cq::cr::ct::cu::cv::cw::cx::cy::cz::cA::aU::aV::aW::aX::aY::aZ::b0::b1::[]),[]⟩ w'):
    (Code.loop (CS Tryz.f126 2)).wp Tryz.prog Q ⟨List.toArray (u0::(.int .i64 L)::u2::(.pointer (some ⟨Z,0,none⟩))::u4::u5::u6::(.int .i64 n)::(.slice (some ⟨gc,0,none⟩) n cc)::u9::aj::(.slice (some ⟨y,0,none⟩) n n)::(.slice none 0 0)::(.int .i64 0)::bj::ak::al::am::an::
      ao::aq::ar::au::av::aw::ax::ay::az::aA::aB::aC::aD::aE::aF::aG::aH::aJ::aK::aL::aM::aO::aP::aQ::aR::bk::bl::bm::bn::bo::bp::bq::br::bs::bt::bu::bv::
      bw::bx::bz::bA::bB::bC::bD::bE::u64::bF::bG::bH::bI::bJ::bK::bL::bM::bN::bO::bP::bQ::bR::bS::aU::aV::aW::aX::aY::aZ::b0::b1::[]),[]⟩ w:=by
  conv=>arg 2; arg 1; whnf
  go_loopw [12,13] (fun ff ii wr=>∃(i:Nat) (F nx:List Nat),ii=.int .i64 (i:Int)∧i≤n∧Ex W wr (Dt L (dnx t) cl) n y i ff F nx) (fun _ ii _=>n - (intOf ii).toNat)
  case atStart=>exact⟨0,[],[],rfl,Nat.zero_le _,hI⟩
  case round=>
    obtain⟨i,F,nx,rfl,hi,J⟩:=hrel
    obtain⟨A,cf,rfl⟩:=AG J.first
    have E:=hide J
    have cE:=J.rep.out.le
    clear J
    by_cases bd:i<n
    · have b5:=hide (fun(f:Nat) (M:f∈F)=>show f<n from by
        obtain⟨p,O⟩:=List.mem_iff_getElem?.1 M
        have:=(E.out.rep.out.src p f O).1
        omega)
      go_wp2_with fail
      refine Mj hX hn hL bd E.out.below E.out.first b5.out (by omega) ?_ ?_
      · repeat (first | exact hN | refine Reg.NoQ.then ?_ | refine Reg.NoQ.inBlock ?_)
      · iterate 18 (intro _)
        intro U k b9 hk ae ah
        have h:=hide (E.out.call b9)
        have a5:=h.out.rep.out.len
        have bg:=hide ae
        have bi:=hide ah
        have aa:=h.out.next.frozen i
        have a4:=h.out.next.lt
        have a9:U.cell? ⟨y,i,none⟩=some (.int .i64 0):=by
          rw [h.out.next.cell,←a5]
          exact Fe (by omega)
        have z:=hide a5
        clear ae ah a5
        by_cases bb:k<F.length
        · have cH:((k:Int)==(F.length:Int))=false:=by simp; omega
          go_wp2_with fail
          obtain⟨f,M⟩:=Ap bb
          have G:Ac U (U.setCell ⟨y,i,none⟩ (.int .i64 (k:Int))) (fun b=>b=y):=(Ac.refl U (fun b=>b=y)).setCell (p:=⟨y,i,none⟩) (fun _=>rfl) _
          refine⟨⟨i+1,F,nx++[k],by go_num,by omega,⟨?_,?_,?_,h.out.hgn,h.out.rep.out.old M (bi.out f M)⟩⟩,by simp [intOf]; omega⟩
          · exact h.out.below.trans (G.below h.out.below.size fun b C e=>by have:=h.out.hgn; omega)
          · have:=h.out.next.set_ i (.int .i64 (k:Int))
            rw [←z.out,Ff (by have:=z.out; omega)] at this
            rw [←z.out]
            exact this
          · exact G.ownsRow h.out.first fun b C e=>by have:=AY h.out.first C; omega
        · obtain rfl:k=F.length:=by omega
          have cF:((F.length:Int)==(F.length:Int))=true:=by simp
          have a2:=h.out.first
          have cJ:=a4
          clear a9 aa a4
          go_wp2_with (at_builtin; refine BO C9 rfl _ _ rfl (y+1) (.slice A F.length cf) F.length _ rfl a2 [.int .i64 (i:Int)] 1 rfl rfl (by simp [Value.oneCell']) (by omega) (by omega) ?_; intro g5 cB V ag a3 be ba
                       have ad:¬(Value.slice A F.length cf).ownBlock=some y:=fun e=>by have:=AY a2 e; omega
                       have I:=h.out.next.kept a3 ad
                       have a9:V.cell? ⟨y,i,none⟩=some (.int .i64 0):=(by rw [I.cell,←z.out]; exact Fe (by have:=z.out; omega))
                       have aa:=I.frozen i
                       have a4:=I.lt
                       have bh:=hide I
                       have ab:=hide a3
                       have af:=hide ag
                       clear I a3 ag be ba ad)
          have G:Ac V (V.setCell ⟨y,i,none⟩ (.int .i64 (F.length:Int))) (fun b=>b=y):=(Ac.refl V (fun b=>b=y)).setCell (p:=⟨y,i,none⟩) (fun _=>rfl) _
          refine⟨⟨i+1,F++[i],nx++[F.length],by go_num,by omega,⟨?_,?_,?_,h.out.hgn,h.out.rep.out.new (Dt.refl i) fun p f O=>bg.out p f (AM O) O⟩⟩,by simp [intOf]; omega⟩
          · have h1:=h.out.hgn
            have h2:=h.out.below.size
            exact(h.out.below.trans (ab.out.below h2 fun b C e=>by have:=AY a2 e; omega)).trans (G.below (by have:=ab.out.size; omega) fun b C e=>by omega)
          · have:=bh.out.set_ i (.int .i64 (F.length:Int))
            rw [←z.out,Ff (by have:=z.out; omega)] at this
            rw [←z.out]
            exact this
          · have:=G.ownsRow af.out fun b C e=>by have:=AY af.out C; omega
            simpa [CQ] using this
    · obtain rfl:i=n:=by omega
      go_wp2_with fail
      exact hQ _ _ _ _ _ _ _ _ _ _ _ _ _ _ _ _ _ _ _ _ _ _ _ _ _ _ _ _ _ _ _ _ _ _ _ _ _ _ wr _ F nx E.out
end Go.Proofs.YtfcfpoemojjglaaGreatDoor
namespace Go.Proofs.YtfcfpoemojjglaaGreatDoor
open Go.RowKit
set_option maxHeartbeats 16000000
set_option maxRecDepth 100000
theorem Mh {w0 w:World} {E L n gc:Nat} {vN vA:Value} {t:List (List Nat)} {ac:List Bool} (C:Dm w0 L n vN vA t ac) (bi:Blk w0 E 139 #[vN,vA]) (hn:n≤300000)
  (hB:Below w0.heap.size w0 w) (hC:Blk w gc 3 (Bn n [])) (bX:w0.heap.size≤gc)
  {u0 u1 u2 u4 u5 u6 a4 a5 a6 a7 a8 a9 aa ab ad ae bn bo bp bq br bs bt bu bv bw bx bz bB ag ah ai aj ak al am ao ap aq ar au av aw ax ay az aB aC aD aE aF aG aH aJ aK aL aN aO aP aQ u64 aR aS aT aU aV aW aX aY aZ b0 b1 b2 b3 b4 b5 b6 b7 b8 b9 ba bb bd:Value}
  {Q:Exit→Act→World→Prop}
  (hQ:∀(x9 bC bD bE bF bG bH bI bJ bK bL bM bO bP:Value) (w':World),Below w0.heap.size w0 w'→Blk w' gc 3 (Bn n (DN ac))→
   Q (.exit 0) ⟨List.toArray (u0::u1::u2::(.pointer (some ⟨E,0,none⟩))::u4::u5::u6::(.int .i64 n)::(.slice (some ⟨gc,0,none⟩) n n)::x9::a4::a5::a6::a7::a8::a9::aa::ab::ad::ae::bC::bD::bE::bF::bG::bH::bI::bJ::bK::
   bL::bM::bO::bP::ag::ah::ai::aj::ak::al::am::ao::ap::aq::ar::au::av::aw::ax::ay::az::aB::aC::aD::aE::aF::aG::aH::aJ::aK::aL::aN::aO::aP::aQ::u64::aR::
   aS::aT::aU::aV::aW::aX::aY::aZ::b0::b1::b2::b3::b4::b5::b6::b7::b8::b9::ba::bb::bd::[]),[]⟩ w'):
  (Code.loop (CS Tryz.f126 0)).wp Tryz.prog Q ⟨List.toArray (u0::u1::u2::(.pointer (some ⟨E,0,none⟩))::u4::u5::u6::(.int .i64 n)::(.slice (some ⟨gc,0,none⟩) n n)::(.int .i64 0)::a4::a5::a6::a7::a8::a9::aa::ab::ad::ae::bn::bo::bp::bq::br::bs::bt::
   bu::bv::bw::bx::bz::bB::ag::ah::ai::aj::ak::al::am::ao::ap::aq::ar::au::av::aw::ax::ay::az::aB::aC::aD::aE::aF::aG::aH::aJ::aK::aL::aN::aO::aP::aQ::
   u64::aR::aS::aT::aU::aV::aW::aX::aY::aZ::b0::b1::b2::b3::b4::b5::b6::b7::b8::b9::ba::bb::bd::[]),[]⟩ w:=by
 conv=>arg 2; arg 1; whnf
 obtain⟨bN,oN,cN,rfl,-⟩:=C.at
 obtain⟨bA,oA,cA,rfl,bj,O⟩:=C.mark
 have bh:=hide O
 have U:=hide C.n
 clear O C
 go_loopw [9] (fun J wr=>∃(k:Nat) (row:List Nat),J=.int .i64 (k:Int)∧k≤n∧Below w0.heap.size w0 wr∧Blk wr gc 3 (Bn n row)∧Hid (row=(DN ac).take k)∧row.length≤k∧k≤row.length) (fun J _=>n - (intOf J).toNat)
 case atStart=>exact⟨0,[],rfl,Nat.zero_le _,hB,hC,by show _=_; simp,by simp,by simp⟩
 case round=>
  obtain⟨k,row,rfl,hk,y,h,I,c0,c1⟩:=hrel
  obtain rfl:k=row.length:=by omega
  have bT:=(bi.below y).cell
  by_cases z:row.length<n
  ·obtain⟨b,G⟩:=Ap (l:=ac) (i:=row.length) (by rw [U.out]; exact z)
   have bk:=(y.cell (p:=⟨bA,oA+row.length,none⟩) bj).trans (bh.out row.length z)
   have V:dac ac row.length=b:=getD_some G
   rw [V] at bk
   have bl:=hide (AX (f:=fun b:Bool=>if b=true then 1 else 0) G)
   have bU:wr.cell? ⟨gc,row.length,none⟩=some (.int .i64 0):=by rw [h.cell]; exact Fe z
   have bW:=h.frozen row.length
   have bY:=h.lt
   have Z:=hide (B6 bl.out)
   clear G V
   cases b
   ·go_wp2_with fail
    refine⟨⟨row.length+1,row++[0],by simp,by omega,y,by rw [O7 z]; exact h,?_,by simp,by simp⟩,by simp [intOf]; omega⟩
    show _=_
    exact(congrArg (·++[0]) I.out).trans Z.out.symm
   ·go_wp2_with fail
    have W:=h.set_ row.length (.int .i64 (1:Nat))
    rw [Ff z] at W
    refine⟨⟨row.length+1,row++[1],by simp,by omega,y.setCell (by simp; omega) _,W,?_,by simp,by simp⟩,by simp [intOf]; omega⟩
    show _=_
    exact(congrArg (·++[1]) I.out).trans Z.out.symm
  ·have e:row.length=n:=by omega
   have he:=hide e
   clear e
   go_wp2_with fail
   refine hQ _ _ _ _ _ _ _ _ _ _ _ _ _ _ wr y ?_
   have M:=I.out
   rw [List.take_of_length_le (by have:=U.out; simp [DN]; omega)] at M
   rw [←M]
   exact h
theorem Gs {w:World} {g n c:Nat} {xs:List Nat} (z:xs.length=n) (h:Blk w g 3 (Bn n xs)) (y:n≤c) (C:n≤300000):
  Calls Tryz.prog 179 #[.slice (some ⟨g,0,none⟩) n c] w (Ret fun v w'=>v=.int .i64 ((dd xs).length:Int)∧Below w.heap.size w w'):=PP (CP.of_blk h z) y C
theorem Mk {w0 w:World} {M L n gc:Nat} {d:Int} {vN vA:Value} {t:List (List Nat)} {ac:List Bool} {cl:List Nat} (C:ClX w M L n gc vN vA t ac cl) (hn:n≤200000) (ca:1≤n) (hL:L≤8)
  (hB:Below w0.heap.size w0 w) (c3:w0.heap.size≤gc) (hC:CZ L n (dnx t) (dac ac) 0 cl) (c8:∀i,i<n→cl.getD i 0≤n) (hd:d<0∨0≤d)
  {u0 u4 u5 u6 u9 cj ck cm cn al am an ao ap aq ar au av aw ax ay az aA aB aC aD aE co cp cq cr ct cu cv cw cx cy cz cA cB cD cE cF cG cH cJ cK cL cM cO cQ cR cS cT cV cW cX cY u64 cZ d0 d1 d2 d3 d4 d5 d6 d7 d8 d9 da db dc de df dg dh di dj dk aH:Value}
  {Q:Exit→Act→World→Prop} (hN:Reg.NoQ Q)
  (hQ:∀(x6 aK aL aM aN aO aP aQ aR aS aT aU aV aW aX aY aZ b0 b1 b2 b3 b4 b5 b6 b7 b8 b9 ba bb bd be bf bg bh bi bj bk bl bm bn bo bp bq br bs bt bu bv bw bx bz bA bB bC bD bE bF bG bH:Value) (w':World) (g:Nat) (J:List Nat),Below w0.heap.size w0 w'→w0.heap.size≤g→Blk w' g 3 (Bn n J)→Ey L n (dnx t) (dac ac) d J→
   Q (.exit 2) ⟨List.toArray (u0::(.int .i64 L)::(.int .i64 d)::(.pointer (some ⟨M,0,none⟩))::u4::u5::x6::(.int .i64 n)::(.slice (some ⟨g,0,none⟩) n n)::u9::aK::aL::aM::aN::aO::al::am::an::ao::ap::aq::ar::au::av::aw::ax::
   ay::az::aA::aB::aC::aD::aE::aP::aQ::aR::aS::aT::aU::aV::aW::aX::aY::aZ::b0::b1::b2::b3::b4::b5::b6::b7::b8::b9::ba::bb::bd::be::bf::bg::bh::bi::bj::
   bk::bl::bm::bn::bo::bp::bq::br::bs::bt::bu::bv::bw::bx::bz::bA::bB::bC::bD::bE::bF::bG::bH::aH::[]),[]⟩ w')
  (bZ:∀(x8 aK aL aM aN aO aP aQ aR aS aT aU aV aW aX aY aZ b0 b1 b2 b3 b4 b5 b6 b7 b8 b9 ba bb bd be bf bg bh bi bj bk bl bm bn bo bp bq br bs bt bu bv bw bx bz bA bB bC bD bE bF bG bH:Value) (w':World) (g:Nat) (J:List Nat),Below w0.heap.size w0 w'→w0.heap.size≤g→Blk w' g 3 (Bn n J)→Ey L n (dnx t) (dac ac) d J→
   Q .ret ⟨List.toArray (u0::(.int .i64 L)::(.int .i64 d)::(.pointer (some ⟨M,0,none⟩))::u4::u5::(.slice (some ⟨g,0,none⟩) n n)::(.int .i64 n)::x8::u9::aK::aL::aM::aN::aO::al::am::an::ao::ap::aq::ar::au::av::aw::ax::
   ay::az::aA::aB::aC::aD::aE::aP::aQ::aR::aS::aT::aU::aV::aW::aX::aY::aZ::b0::b1::b2::b3::b4::b5::b6::b7::b8::b9::ba::bb::bd::be::bf::bg::bh::bi::bj::
   bk::bl::bm::bn::bo::bp::bq::br::bs::bt::bu::bv::bw::bx::bz::bA::bB::bC::bD::bE::bF::bG::bH::aH::[]),[]⟩ w'):
  (Code.loop (CS Tryz.f126 1)).wp Tryz.prog Q ⟨List.toArray (u0::(.int .i64 L)::(.int .i64 d)::(.pointer (some ⟨M,0,none⟩))::u4::u5::u6::(.int .i64 n)::(.slice (some ⟨gc,0,none⟩) n n)::u9::(.int .i64 0)::cj::ck::cm::cn::al::am::an::ao::ap::aq::ar::au::av::
   aw::ax::ay::az::aA::aB::aC::aD::aE::co::cp::cq::cr::ct::cu::cv::cw::cx::cy::cz::cA::cB::cD::cE::cF::cG::cH::cJ::cK::cL::cM::cO::cQ::cR::cS::cT::cV::
   cW::cX::cY::u64::cZ::d0::d1::d2::d3::d4::d5::d6::d7::d8::d9::da::db::dc::de::df::dg::dh::di::dj::dk::aH::[]),[]⟩ w:=by
 conv=>arg 2; arg 1; whnf
 have ab:=hide (fun q x (hq:q<n) (hx:x<L)=>show dnx t q x<n from by
  have:=C.t.ok.lt (q:=q) (by have:=C.t.n; omega) hx
  have h2:=C.t.n
  omega)
 go_loopw [8,10] (fun vv rr wr=>∃(r g:Nat) (l:List Nat),vv=.slice (some ⟨g,0,none⟩) n n∧rr=.int .i64 (r:Int)∧ClX wr M L n g vN vA t ac l∧Below w0.heap.size w0 wr∧w0.heap.size≤g∧
  Hid (CZ L n (dnx t) (dac ac) r l)∧Hid (∀i,i<n→l.getD i 0≤n)∧(d<0∨(r:Int)≤d)∧r+1≤(dd l).length∧(dd l).length≤n) (fun _ rr _=>n - (intOf rr).toNat)
 case atStart=>
  have ha:=hC.norm
  exact⟨0,gc,cl,rfl,rfl,C,hB,c3,hC,c8,hd,by have:=ha.val (i:=0) ca; omega,ha.le⟩
 case round=>
  obtain⟨r,g,l,rfl,rfl,a3,h,c1,O,c9,ah,dt,du⟩:=hrel
  by_cases bN:d<0∨(r:Int)<d
  ·obtain⟨gn,w1,dw,hR,bM,hgn⟩:=Eo wr n (by omega)
   rw [Gp] at hR
   have bW:=hide (show Ex wr w1 (Dt L (dnx t) l) n gn 0 (.slice none 0 0) [] [] from⟨bM,hR,Ca,hgn,Dc.start _⟩)
   have a4:=hide a3
   clear hR bM a3 C
   have cb:d<0∨¬d<0∧(r:Int)<d:=by omega
   have cd:=hide ah
   clear bN ah
   rcases cb with h1 | ⟨h1,h2⟩
   all_goals
    go_wp2_with fail
    refine Mi a4.out (by omega) hL bW.out ?_ ?_
    ·repeat (first | exact hN | refine Reg.NoQ.then ?_ | refine Reg.NoQ.inBlock ?_)
    ·iterate 38 (intro _)
     intro w3 vf F nx U
     have ai:Dc (EqW L (dnx t) (dac ac) (r+1)) n F nx:=by
      obtain⟨q1,q2,q3,q4⟩:=U.rep.out
      have hF:∀(p f:Nat),F[p]?=some f→f<n:=fun p f hp=>(q4 p f hp).1
      refine⟨q1,fun j v hj=>?_,fun p q f g' cc hp hq=>?_,q4⟩
      ·obtain⟨f,hf,he⟩:=q2 j v hj
       exact⟨f,hf,(O.out.alike ab.out (hF v f hf) (by have:=AM hj; omega)).1 he⟩
      ·exact fun he=>q3 p q f g' cc hp hq ((O.out.alike ab.out (hF p f hp) (hF q g' hq)).2 he)
     have z:=hide (ai.cls (L:=L) (nx:=dnx t) (acc:=dac ac) (r:=r+1) fun i j _ _=>Iff.rfl)
     have a2:=hide U
     have af:=hide ai.len
     have bQ:=hide (a4.out.at U.below)
     have dy:=U.below.size
     have c4:=hide (O.out.grow z.out.1)
     have ce:Hid (∀i,i<n→nx.getD i 0≤n):=fun i hi=>by
      have:=z.out.2 i hi
      omega
     have dv:(dd nx).length≤n:=z.out.1.norm.le
     clear ai U
     by_cases a6:(dd nx).length=(dd l).length
     ·have c6:=hide a6
      have c7:(((dd nx).length:Int)==((dd l).length:Int))=true:=by rw [a6]; simp
      clear a6
      generalize W:(dd nx).length=K3 at*
      generalize Z:(dd l).length=K4 at*
      have G:=hide W
      have a5:=hide Z
      clear W Z
      go_wp2_with (go_at_call 179; first
       | (with_reducible refine Calls.ret (Gs af.out a2.out.next (Nat.le_refl _) (by omega)) ?_; rintro v w4 ⟨rfl,y⟩; rw [G.out]; have aa:=hide (a2.out.call y); have I:=hide (bQ.out.at y); clear y)
       | (with_reducible refine Calls.ret (Gs I.out.len I.out.c (Nat.le_refl _) (by omega)) ?_; rintro v w5 ⟨rfl,E⟩; rw [a5.out]; have V:=hide (aa.out.call E); clear E))
      have e:=c6.out
      exact bZ _ _ _ _ _ _ _ _ _ _ _ _ _ _ _ _ _ _ _ _ _ _ _ _ _ _ _ _ _ _ _ _ _ _ _ _ _ _ _ _ _ _ _ _ _ _ _ _ _ _ _ _ _ _ _ _ _ _ _ w5 gn nx (h.trans (V.out.below.mono h.size)) (by have:=h.size; omega) V.out.next (O.out.atRest ab.out z.out.1 z.out.2 (by rw [G.out,a5.out]; exact e) cd.out)
     ·have dr:(dd l).length<(dd nx).length:=by have:=c4.out; omega
      have c7:(((dd nx).length:Int)==((dd l).length:Int))=false:=by simp; omega
      clear a6
      generalize W:(dd nx).length=K3 at*
      generalize Z:(dd l).length=K4 at*
      have G:=hide W
      have a5:=hide Z
      clear W Z
      go_wp2_with (go_at_call 179; first
       | (with_reducible refine Calls.ret (Gs af.out a2.out.next (Nat.le_refl _) (by omega)) ?_; rintro v w4 ⟨rfl,y⟩; rw [G.out]; have aa:=hide (a2.out.call y); have I:=hide (bQ.out.at y); clear y)
       | (with_reducible refine Calls.ret (Gs I.out.len I.out.c (Nat.le_refl _) (by omega)) ?_; rintro v w5 ⟨rfl,E⟩; rw [a5.out]; have V:=hide (aa.out.call E); have bR:=hide (I.out.at E); clear E))
      refine⟨⟨r+1,gn,nx,rfl,by go_num,⟨bR.out.t,bR.out.b,V.out.next,af.out⟩,h.trans (V.out.below.mono h.size),by have:=h.size; omega,z.out.1,ce.out,by omega,by rw [G.out]; omega,by rw [G.out]; omega⟩,by simp [intOf]; omega⟩
  ·have h0:¬d<0:=by omega
   have e:(r:Int)=d:=by omega
   have c0:=hide (O.out.atDepth c9.out e)
   have h1:¬(r:Int)<d:=by omega
   have a4:=hide a3
   clear e bN a3 C ah
   go_wp2_with fail
   exact hQ _ _ _ _ _ _ _ _ _ _ _ _ _ _ _ _ _ _ _ _ _ _ _ _ _ _ _ _ _ _ _ _ _ _ _ _ _ _ _ _ _ _ _ _ _ _ _ _ _ _ _ _ _ _ _ _ _ _ _ wr g l h c1 a4.out.c c0.out
theorem Q5 {w:World} {L n:Nat} {d:Int} {vN vA:Value} {t:List (List Nat)} {ac:List Bool} (y:Dm w L n vN vA t ac) (hn:n≤200000) (hL:L≤8):
  Calls Tryz.prog 126 #[.agg #[vN,vA],.int .i64 (L:Int),.int .i64 d] w (Ret fun v w'=>Below w.heap.size w w'∧∃(g:Nat) (cl:List Nat),v=.slice (some ⟨g,0,none⟩) n n∧w.heap.size≤g∧Blk w' g 3 (Bn n cl)∧Ey L n (dnx t) (dac ac) d cl):=by
 obtain⟨bN,oN,cN,rfl,-⟩:=y.at
 obtain⟨bA,oA,cA,rfl,-⟩:=y.mark
 have aa:1≤n:=by have:=y.ok.pos; have:=y.n; omega
 have a8:=hide y.n
 obtain⟨w1,au,G,M,ao⟩:=Ag w #[.slice (some ⟨bN,oN,none⟩) n cN,.slice (some ⟨bA,oA,none⟩) n cA] 139
 obtain⟨gc,w2,ap,V,W,a9⟩:=Eo w1 n (by omega)
 rw [Gp] at V
 have ab:=G.size
 have ar:=W.size
 have a6:=hide (y.below G)
 have ag:=hide V
 have ai:=hide W
 have ak:=M.cell
 clear y V W
 go_enter Tryz.func126,Tryz.ntmps126
 go_wp2_with fail
 refine Mh a6.out M (by omega) ai.out ag.out a9 ?_
 iterate 14 (intro _)
 intro w3 I a5
 have a7:ClX w3 w.heap.size L n gc (.slice (some ⟨bN,oN,none⟩) n cN) (.slice (some ⟨bA,oA,none⟩) n cA) t ac (DN ac):=⟨a6.out.below I,M.below I,a5,by rw [←a8.out]; simp [DN]⟩
 have ah:=hide a7
 have aj:=hide I
 clear a7 I a5 ak
 go_wp2_with fail
 refine Mk ah.out (by omega) aa hL aj.out a9 (by rw [←a8.out]; exact Mm ac) (fun i _=>Nat.le_trans (Mn ac i) aa) (by omega) ?_ ?_ ?_
 ·repeat (first | exact Reg.NoQ.body (fun _ _ h=>h) (fun _ h=>h) | refine Reg.NoQ.then ?_ | refine Reg.NoQ.inBlock ?_)
 ·iterate 59 (intro _)
  intro w4 g J E hg z C
  have Z:=hide E
  have O:=hide z
  have U:=hide C
  clear E z C
  go_wp2_with fail
  go_ret
  exact⟨G.trans (Z.out.mono ab),g,J,rfl,by omega,O.out,U.out⟩
 ·iterate 59 (intro _)
  intro w4 g J E hg z C
  have Z:=hide E
  have O:=hide z
  have U:=hide C
  clear E z C
  go_wp2_with fail
  go_ret
  exact⟨G.trans (Z.out.mono ab),g,J,rfl,by omega,O.out,U.out⟩
end Go.Proofs.YtfcfpoemojjglaaGreatDoor
namespace Go.Proofs.YtfcfpoemojjglaaGreatDoor
open Go.RowKit
set_option maxHeartbeats 16000000
set_option maxRecDepth 100000
structure CnM (w0 wr:World) (g6 gs L:Nat) (vO vC vE:Value) (st:List Nat) (as':List Int) (es:List Edg):Prop where
 below:Below w0.heap.size w0 wr
 b6:Blk wr g6 35 #[.int .i64 (L:Int),.int .i64 0,.slice (some ⟨gs,0,none⟩) 1 1,vC,vE]
 start:Blk wr gs 3 #[.int .i64 0]
 ord:wr.ownsRow w0.heap.size 3 1 vO st.length ((Ak st).map (Value.int .i64))
 acc:wr.ownsRow w0.heap.size 3 1 vC as'.length (as'.map (Value.int .i64))
 eds:wr.ownsRow w0.heap.size 83 3 vE es.length (es.flatMap eC)
 sepC:vC.ownBlock≠some gs
 sepO:vO.ownBlock≠some gs
 sep:∀g,vO.ownBlock=some g→vC.ownBlock≠some g
 ge:w0.heap.size≤g6∧w0.heap.size≤gs
section
variable {w0 wr w':World} {g6 gs L:Nat} {vO vC vE:Value} {st:List Nat} {as':List Int} {es:List Edg}
theorem CnM.keep (h:CnM w0 wr g6 gs L vO vC vE st as' es) (y:Below wr.heap.size wr w'):CnM w0 w' g6 gs L vO vC vE st as' es:=
 ⟨h.below.trans (y.mono h.below.size),h.b6.below y,h.start.below y,Bu h.ord y,Bu h.acc y,Bu h.eds y,h.sepC,h.sepO,h.sep,h.ge⟩
theorem Gv {v z:Value} {g:Nat} (C:BJ wr v z) (G:g<wr.heap.size) (h:v.ownBlock≠some g):z.ownBlock≠some g:=fun e=>by
 rcases C with y | ⟨E,y,I⟩
 ·exact h (by rw [←y]; exact e)
 ·rw [e] at y
  have:=Option.some.inj y
  omega
theorem CnM.addO {s:Nat} {vO':Value} {w1:World} (h:CnM w0 wr g6 gs L vO vC vE st as' es) (y:Ac wr w1 (fun k=>vO.ownBlock=some k)) (U:w1.ownsRow w0.heap.size 3 1 vO' (st.length+1) ((Ak st).map (Value.int .i64)++[.int .i64 (s:Int)])) (E:BJ wr vO vO'):
  CnM w0 w1 g6 gs L vO' vC vE (st++[s]) as' es:=by
 have G:∀{e:TypeId},e≠3→∀g cs,vO.ownBlock=some g→¬Blk wr g e cs:=fun J g cs I M=>Aw h.ord M (fun O=>J O.symm) I
 refine⟨h.below.trans (y.below h.below.size fun b V e=>by have:=AY h.ord e; omega),h.b6.kept y fun x=>G (by decide) _ _ x h.b6,h.start.kept y h.sepO,?_,y.ownsRow h.acc fun g z e=>h.sep g e z,AH y h.eds (G (by decide)),h.sepC,Gv E h.start.lt h.sepO,fun g z C=>?_,h.ge⟩
 ·rw [List.length_append,EK,List.map_append]
  exact U
 ·exact Gv E (Ci h.acc C) (fun e=>h.sep g e C) z
theorem CnM.addA {q:Int} {vC':Value} {w1:World} (h:CnM w0 wr g6 gs L vO vC vE st as' es) (G:Ac wr w1 (fun k=>vC.ownBlock=some k)) (ho:w1.ownsRow w0.heap.size 3 1 vC' (as'.length+1) (as'.map (Value.int .i64)++[.int .i64 q])) (J:BJ wr vC vC'):
  CnM w0 (w1.setCell ⟨g6,3,none⟩ vC') g6 gs L vO vC' vE st (as'++[q]) es:=by
 have M:=h.b6.kept G (Aw h.acc h.b6 (by decide))
 have I:=(Ac.refl w1 (fun k=>k=g6)).setCell (p:=⟨g6,3,none⟩) (fun _=>rfl) vC'
 have C:Ac wr (w1.setCell ⟨g6,3,none⟩ vC') (fun k=>vC.ownBlock=some k∨k=g6):=(G.mono fun _ _ e=>.inl e).trans I fun _ _ e=>.inr e
 have a3:∀{e:TypeId},e≠3→e≠35→∀g cs,(vC.ownBlock=some g∨g=g6)→¬Blk wr g e cs:=by
  rintro e O U g cs (E | E) z
  ·exact Aw h.acc z (fun Z=>O Z.symm) E
  ·exact z.ne_ h.b6 U E
 have V:∀g,vO.ownBlock=some g→g≠g6:=fun g y e=>Aw h.ord h.b6 (by decide) (by rw [y,e])
 refine⟨h.below.trans (C.below h.below.size ?_),M.set_ 3 vC',h.start.kept C ?_,C.ownsRow h.ord ?_,?_,AH C h.eds (a3 (by decide) (by decide)),Gv J h.start.lt h.sepC,h.sepO,fun g y W=>?_,h.ge⟩
 ·rintro b hb (e | e)
  ·have:=AY h.acc e; omega
  ·have:=h.ge; omega
 ·rintro(e | e)
  ·exact h.sepC e
  ·exact h.start.ne_ h.b6 (by decide) e
 ·rintro g y (e | e)
  ·exact h.sep g y e
  ·exact V g y e
 ·rw [List.length_append,List.map_append]
  exact AH I ho (fun g cs e z=>by subst e; exact z.ne_ M (by decide) rfl)
 ·exact Gv J (Ci h.ord y) (h.sep g y) W
theorem CnM.addE {d:Edg} {vE':Value} {w1:World} (h:CnM w0 wr g6 gs L vO vC vE st as' es) (G:Ac wr w1 (fun k=>vE.ownBlock=some k)) (V:w1.ownsRow w0.heap.size 83 3 vE' (es.length+1) (es.flatMap eC++eC d)):
  CnM w0 (w1.setCell ⟨g6,4,none⟩ vE') g6 gs L vO vC vE' st as' (es++[d]):=by
 have J:=h.b6.kept G (Aw h.eds h.b6 (by decide))
 have I:=(Ac.refl w1 (fun k=>k=g6)).setCell (p:=⟨g6,4,none⟩) (fun _=>rfl) vE'
 have z:Ac wr (w1.setCell ⟨g6,4,none⟩ vE') (fun k=>vE.ownBlock=some k∨k=g6):=(G.mono fun _ _ e=>.inl e).trans I fun _ _ e=>.inr e
 have E:∀{e:TypeId},e≠83→e≠35→∀g cs,(vE.ownBlock=some g∨g=g6)→¬Blk wr g e cs:=by
  rintro e M O g cs (C | C) y
  ·exact Aw h.eds y (fun U=>M U.symm) C
  ·exact y.ne_ h.b6 O C
 refine⟨h.below.trans (z.below h.below.size ?_),J.set_ 4 vE',h.start.kept z fun x=>E (by decide) (by decide) _ _ x h.start,AH z h.ord (E (by decide) (by decide)),AH z h.acc (E (by decide) (by decide)),?_,h.sepC,h.sepO,h.sep,h.ge⟩
 ·rintro b W (e | e)
  ·have:=AY h.eds e; omega
  ·have:=h.ge; omega
 ·rw [List.length_append,List.flatMap_append]
  refine AH I ?_ (fun g cs e y=>by subst e; exact y.ne_ J (by decide) rfl)
  simpa using V
theorem CnM.fin {wF:World} {N:Nat} (h:CnM w0 wr g6 gs L vO vC vE st as' es) (hk:Ac wr wF (fun k=>k=g6∨k<w0.heap.size)) (ha:as'.length≤4000000) (he:es.length≤4000000):
  Bk wF wF.heap.size (.agg #[.int .i64 (L:Int),.int .i64 (N:Int),.slice (some ⟨gs,0,none⟩) 1 1,vC,vE]) ⟨(L:Int),(N:Int),[0],as',es⟩:=by
 have a5:=h.ge
 have V:=hk.ownsRow h.acc fun g y e=>by
  rcases e with e | e
  ·exact Aw h.acc h.b6 (by decide) (by rw [y,e])
  ·have:=AY h.acc y; omega
 have W:=hk.ownsRow h.eds fun g y e=>by
  rcases e with e | e
  ·exact Aw h.eds h.b6 (by decide) (by rw [y,e])
  ·have:=AY h.eds y; omega
 have hS:=h.start.kept hk fun e=>by
  rcases e with e | e
  ·exact h.start.ne_ h.b6 (by decide) e
  ·omega
 obtain⟨C,c2,I,O⟩:=Cz (B:=wF.heap.size) V rfl (Nat.le_refl _) (by omega)
 obtain⟨E,G,J,U⟩:=HF (B:=wF.heap.size) W rfl (Nat.le_refl _) (by omega)
 obtain⟨Z,c1,z,M⟩:=Cz (B:=wF.heap.size) (l:=[0]) (base:=0) (DC (n:=1) hS (Nat.zero_le _) rfl (by omega)) rfl (Nat.le_refl _) (by omega)
 injection z with z _ e4
 subst z
 exact⟨_,1,C,c2,E,G,by rw [I,J]; rfl,M,O,U,Nat.le_refl _⟩
end
theorem L9 {wB w:World} {n gc W to base:Nat} {V:Option Addr} {cl st:List Nat} (G:CP wB gc n cl) (hB:Below wB.heap.size wB w) (hO:w.ownsRow base 3 1 (.slice V st.length W) st.length ((Ak st).map (Value.int .i64))) (bC:∀s∈st,s<n) (bD:to<n) (hn:n≤200000) (hl:st.length≤200000)
  {u0 u1 u2 u3 u4 u6 u8 u9 al am an ao ap aq ar au aw ax ay az aA aB aC aD aE aF aH aJ aK aL aM aN aO aP aQ aR aT aU aV aW aX aY aZ b0 b1 b2 b3 b4 b5 b6 b7 bG bH bI bJ bK bL bM bN bO u64 bP bQ bR bS bT bU bV bW bX bY b9 ba bb bd be bf bg bh bi bj bk bl bm bn bo bq br bs bt bu bv:Value}
  {Q:Exit→Act→World→Prop}
  (hQ:∀(bZ c0 c1 c3 c4 c5 c6 c7 c8 c9 ca cb cc cd ce cf cg ch ci cj:Value) (w':World) (k:Nat),Below w.heap.size w w'→k≤st.length→(∀p s,p<k→st[p]?=some s→cl.getD s 0≠cl.getD to 0)→(∀s,st[k]?=some s→cl.getD s 0=cl.getD to 0)→
   Q (.exit 4) ⟨List.toArray (u0::u1::u2::u3::u4::(.slice (some ⟨gc,0,none⟩) n n)::u6::(.slice V st.length W)::u8::u9::(.int .i64 to)::(.int .i64 k)::al::am::an::ao::ap::aq::ar::au::aw::ax::ay::az::aA::aB::aC::aD::
   aE::aF::aH::aJ::aK::aL::aM::aN::aO::aP::aQ::aR::aT::aU::aV::aW::aX::aY::aZ::b0::b1::b2::b3::b4::b5::b6::b7::bZ::c0::c1::c3::c4::c5::c6::c7::c8::c9::
   ca::cb::cc::cd::ce::cf::cg::ch::ci::cj::b9::ba::bb::bd::be::bf::bg::bh::bi::bj::bk::bl::bm::bn::bo::bq::br::bs::bt::bu::bv::[]),[]⟩ w'):
  (Code.loop (CS Tryz.f82 2)).wp Tryz.prog Q ⟨List.toArray (u0::u1::u2::u3::u4::(.slice (some ⟨gc,0,none⟩) n n)::u6::(.slice V st.length W)::u8::u9::(.int .i64 to)::(.int .i64 0)::al::am::an::ao::ap::aq::ar::au::aw::ax::ay::az::aA::aB::aC::aD::
   aE::aF::aH::aJ::aK::aL::aM::aN::aO::aP::aQ::aR::aT::aU::aV::aW::aX::aY::aZ::b0::b1::b2::b3::b4::b5::b6::b7::bG::bH::bI::bJ::bK::bL::bM::bN::bO::u64::
   bP::bQ::bR::bS::bT::bU::bV::bW::bX::bY::b9::ba::bb::bd::be::bf::bg::bh::bi::bj::bk::bl::bm::bn::bo::bq::br::bs::bt::bu::bv::[]),[]⟩ w:=by
 conv=>arg 2; arg 1; whnf
 obtain⟨z,hz⟩:=Ap (l:=cl) (i:=to) (by rw [G.1]; exact bD)
 have ai:Hid (cl.getD to 0=z):=getD_some hz
 have I:=hide G
 have bx:=hide (G.2.2 to z hz)
 have bw:=hide hO
 obtain⟨m,J⟩:∃m,m=st.length:=⟨_,rfl⟩
 have af:=hide J
 have ad:=hide hB
 rw [←J] at hl ⊢
 simp only [←J] at hQ
 clear G hz hO hB J
 go_loopw [11] (fun kk wr=>∃(k:Nat),kk=.int .i64 (k:Int)∧k≤m∧Below w.heap.size w wr∧Hid (∀(p s:Nat),p<k→st[p]?=some s→cl.getD s 0≠cl.getD to 0)) (fun kk _=>m - (intOf kk).toNat)
 case atStart=>exact⟨0,rfl,Nat.zero_le _,Below.refl _ _,fun p f h=>absurd h (by omega)⟩
 case round=>
  obtain⟨k,rfl,hk,E,Z⟩:=hrel
  have a3:=hide (fun M=>E.trans (((Ac.refl wr (fun _=>False)).drewN M).below E.size (fun _ _ h=>h.elim)))
  by_cases bA:k<m
  ·obtain⟨s,O⟩:=Ap (l:=st) (i:=k) (by rw [←af.out]; exact bA)
   have bB:=bC s (List.mem_of_getElem? O)
   obtain⟨gf,ck,hv,cm⟩:=C7 (Bu bw.out E) (AX (f:=Value.int .i64) (AX (f:=fun x:Nat=>(x:Int)) O))
   injection hv with hv bE bF
   subst hv bF
   obtain⟨y,hy⟩:=Ap (l:=cl) (i:=s) (by rw [I.out.1]; exact bB)
   have a2:=ad.out.trans (E.mono ad.out.size)
   have cn:wr.cell? ⟨gc,s,none⟩=some (.int .i64 (y:Int)):=(a2.cell (p:=⟨gc,s,none⟩) I.out.2.1).trans (I.out.2.2 s y hy)
   have cp:wr.cell? ⟨gc,to,none⟩=some (.int .i64 (z:Int)):=(a2.cell (p:=⟨gc,to,none⟩) I.out.2.1).trans bx.out
   have ah:Hid (cl.getD s 0=y):=getD_some hy
   have ag:=hide O
   clear O hy a2 E bE
   by_cases U:y=z
   ·have hI:(y:Int)=(z:Int):=by omega
    have a6:=hide U
    clear U
    go_wp2_with fail
    go_quiet (fail)
    go_wp2_with fail
    refine hQ _ _ _ _ _ _ _ _ _ _ _ _ _ _ _ _ _ _ _ _ _ k (a3.out _) hk Z.out (fun s' C=>?_)
    rw [ag.out] at C
    injection C with C
    subst C
    rw [ah.out,ai.out,a6.out]
   ·have hI:¬(y:Int)=(z:Int):=by omega
    have a6:=hide U
    clear U
    go_wp2_with fail
    go_quiet (fail)
    go_wp2_with fail
    refine⟨⟨k+1,by go_num,by omega,a3.out _,fun p s' hp C=>?_⟩,by simp [intOf]; omega⟩
    by_cases e:p=k
    ·subst e
     rw [ag.out] at C
     injection C with C
     subst C
     rw [ah.out,ai.out]
     exact a6.out
    ·exact Z.out p s' (by omega) C
  ·obtain rfl:k=m:=by omega
   clear E
   go_wp2_with fail
   go_quiet (fail)
   go_wp2_with fail
   refine hQ _ _ _ _ _ _ _ _ _ _ _ _ _ _ _ _ _ _ _ _ _ k (a3.out _) (Nat.le_refl _) Z.out (fun s' C=>?_)
   have:=AM C
   have:=af.out
   omega
end Go.Proofs.YtfcfpoemojjglaaGreatDoor
namespace Go.Proofs.YtfcfpoemojjglaaGreatDoor
open Go.RowKit
set_option maxHeartbeats 16000000
set_option maxRecDepth 100000
def kOf (cl st:List Nat):List Nat:=st.map fun s=>cl.getD s 0
theorem Jt (cl st:List Nat) (s:Nat):kOf cl (st++[s])=kOf cl st++[cl.getD s 0]:=by simp [kOf]
theorem Hj {cl st:List Nat} {k s:Nat} (h:st[k]?=some s):(kOf cl st)[k]?=some (cl.getD s 0):=AX (f:=fun s=>cl.getD s 0) h
theorem PG {cl st st':List Nat} (h:st<+:st'):kOf cl st<+:kOf cl st':=by
 obtain⟨u,rfl⟩:=h
 unfold kOf
 rw [List.map_append]
 exact List.prefix_append _ _
theorem PF {cl st:List Nat} {k s z:Nat} (J:st[k]?=some s) (M:cl.getD s 0=z) (I:∀p y,p<k→st[p]?=some y→cl.getD y 0≠z):Ax (kOf cl st) z=k∧z∈kOf cl st:=by
 have C:=Hj (cl:=cl) J
 rw [M] at C
 refine⟨HG C fun j G h=>?_,List.mem_of_getElem? C⟩
 unfold kOf at h
 rw [List.getElem?_map] at h
 rcases E:st[j]? with _ | y
 ·rw [E] at h; cases h
 ·rw [E] at h
  exact I j y G E (by simpa using h)
theorem PE {cl st:List Nat} {z:Nat} (E:∀p h,p<st.length→st[p]?=some h→cl.getD h 0≠z):z∉kOf cl st:=fun C=>by
 obtain⟨h,G,e⟩:=List.mem_map.1 C
 obtain⟨j,y⟩:=List.mem_iff_getElem?.1 G
 exact E j h (AM y) y e
structure CnX (w0:World) (g2 gc L n:Nat) (vN vA:Value) (t:List (List Nat)) (ac:List Bool) (cl:List Nat):Prop where
 tab:Dm w0 L n vN vA t ac
 b:Blk w0 g2 139 #[vN,vA]
 c:CP w0 gc n cl
 w:Cj L n (dnx t) (dac ac) cl
theorem CnX.lt {w0:World} {g2 gc L n q x:Nat} {vN vA:Value} {t:List (List Nat)} {ac:List Bool} {cl:List Nat} (h:CnX w0 g2 gc L n vN vA t ac cl) (C:q<n) (y:x<L):dnx t q x<n:=by
 have z:=h.tab.n
 have:=h.tab.ok.lt (q:=q) (by omega) y
 omega
theorem CnX.st_len {w0:World} {g2 gc L n:Nat} {vN vA:Value} {t:List (List Nat)} {ac:List Bool} {cl st:List Nat} (h:CnX w0 g2 gc L n vN vA t ac cl) (z:(kOf cl st).Nodup) (y:∀s∈st,s<n):st.length≤n:=by
 have:=D3 _ (List.range n) z fun v E=>by
  obtain⟨s,C,rfl⟩:=List.mem_map.1 E
  exact List.mem_range.2 (h.w.lt s (y s C))
 simpa [kOf] using this
theorem Mb {w0 w:World} {g2 gc g6 gs L n i q co:Nat} {Ao:Option Addr} {vN vA vC vE:Value} {t:List (List Nat)} {ac:List Bool} {cl st:List Nat} {as':List Int} {es:List Edg} (hX:CnX w0 g2 gc L n vN vA t ac cl) (hn:n≤200000) (hL:L≤8)
    (hM:CnM w0 w g6 gs L (.slice Ao st.length co) vC vE st as' es) (hE:Exp L (AF (dnx t) cl) (cl.getD 0 0) i (kOf cl st)) (hq:st[i]?=some q) (aU:∀s∈st,s<n) (ef:es.length≤2000000)
    {u0 u3 u4 c6 c7 aZ b0 b1 b3 b4 b5 b7 b8 b9 ba bb bd be bf bg bh bi bj bl bm bn bo bp bq br bs bt c8 c9 ca cb cc cd ce cf cg ch ci cj ck cm cn cp cq cr ct cu cv cw cx cy cz u64 cB cD cF cG cH cJ cK cL cM cO cQ cR cS cT cU cV cW cX cY cZ d0 d1 d2 d3 d4 d5 d6 bv bw bx bz:Value}
    {Q:Exit→Act→World→Prop} (hN:Reg.NoQ Q)
    (hQ:∀(x9 da db dc de df dg dh di dj dk dl dm dn dp dq dr dt du dv dw dx dy dz dA dB dC dD dE dF dG dH dI dJ dK dL dM dN dO dP dQ dR dS dT dU dV dW dX dY dZ e0 e1 e2 e3 e5 e6:Value) (w':World) (vO' vE':Value) (st':List Nat),CnM w0 w' g6 gs L vO' vC vE' st' as' (es++CI (AF (dnx t) cl) (kOf cl st') (cl.getD q 0) i L)→kOf cl st'=AW (AF (dnx t) cl) (cl.getD q 0) (kOf cl st) L→st<+:st'→(∀s∈st',s<n)→
      Q (.exit 2) ⟨List.toArray (u0::(.int .i64 L)::(.pointer (some ⟨g2,0,none⟩))::u3::u4::(.slice (some ⟨gc,0,none⟩) n n)::(.pointer (some ⟨g6,0,none⟩))::vO'::(.int .i64 i)::x9::da::db::aZ::b0::b1::b3::b4::b5::b7::b8::b9::ba::bb::
      bd::be::bf::bg::bh::bi::bj::bl::bm::bn::bo::bp::bq::br::bs::bt::dc::de::df::dg::dh::di::dj::dk::dl::dm::dn::dp::dq::dr::dt::du::dv::dw::dx::dy::dz::
      dA::dB::dC::dD::dE::dF::dG::dH::dI::dJ::dK::dL::dM::dN::dO::dP::dQ::dR::dS::dT::dU::dV::dW::dX::dY::dZ::e0::e1::e2::e3::e5::e6::bv::bw::bx::bz::[]),[]⟩ w'):
    (Code.loop (CS Tryz.f82 1)).wp Tryz.prog Q ⟨List.toArray (u0::(.int .i64 L)::(.pointer (some ⟨g2,0,none⟩))::u3::u4::(.slice (some ⟨gc,0,none⟩) n n)::(.pointer (some ⟨g6,0,none⟩))::(.slice Ao st.length co)::(.int .i64 i)::(.int .i64 0)::c6::c7::aZ::b0::b1::b3::b4::b5::
      b7::b8::b9::ba::bb::bd::be::bf::bg::bh::bi::bj::bl::bm::bn::bo::bp::bq::br::bs::bt::c8::c9::ca::cb::cc::cd::ce::cf::cg::ch::ci::cj::ck::cm::cn::cp::
      cq::cr::ct::cu::cv::cw::cx::cy::cz::u64::cB::cD::cF::cG::cH::cJ::cK::cL::cM::cO::cQ::cR::cS::cT::cU::cV::cW::cX::cY::cZ::d0::d1::d2::d3::d4::d5::d6::
      bv::bw::bx::bz::[]),[]⟩ w:=by
  conv=>arg 2; arg 1; whnf
  obtain⟨bN,oN,cN,rfl,bJ,aR⟩:=hX.tab.at
  obtain⟨bA,oA,cA,rfl,-⟩:=hX.tab.mark
  have bV:=hide aR
  have bG:=hide hM
  have bF:=hide hE
  have Z:=hide hX
  have aN:=aU q (List.mem_of_getElem? hq)
  have bU:=hide hq
  clear aR hM hE hX hq
  go_loopw [7,9] (fun vv xx wr=>∃(x:Nat) (st':List Nat) (vE':Value),xx=.int .i64 (x:Int)∧x≤L∧Hid (CnM w0 wr g6 gs L vv vC vE' st' as' (es++CI (AF (dnx t) cl) (kOf cl st') (cl.getD q 0) i x))∧Hid (kOf cl st'=AW (AF (dnx t) cl) (cl.getD q 0) (kOf cl st) x)∧Hid (st<+:st')∧Hid (∀s∈st',s<n)) (fun _ xx _=>L - (intOf xx).toNat)
  case atStart=>exact⟨0,st,vE,rfl,Nat.zero_le _,by rw [Rw,List.append_nil]; exact bG,hide rfl,hide (List.prefix_refl _),hide aU⟩
  case round=>
    obtain⟨x,st',vE',rfl,hx,hI,hk,hp,hl⟩:=hrel
    obtain⟨e7,bE,rfl⟩:=AG hI.out.ord
    have aH:(kOf cl st').Nodup:=by rw [hk.out]; exact GD _ bF.out.inv.nodup _
    have aS:=Z.out.st_len aH hl.out
    clear aH
    by_cases aW:x<L
    · obtain⟨A,c',aO,aP⟩:=bV.out q aN
      obtain⟨b2,o2,rfl,bI,am,ao⟩:=aP x aW
      have ab:=hide (Z.out.w.nxE (fun q x hq hx=>Z.out.lt hq hx) aN aW)
      obtain⟨to,ap⟩:∃to,to=dnx t q x:=⟨_,rfl⟩
      rw [←ap] at am ao
      have ad:=hide ap
      have bL:=(Z.out.b.below hI.out.below).cell
      have al:=Dp hp.out bU.out
      obtain⟨gf,eb,hv,ed⟩:=C7 hI.out.ord (AX (f:=Value.int .i64) (AX (f:=fun x:Nat=>(x:Int)) al))
      injection hv with hv bY bZ
      subst hv bZ
      have bQ:=AM al
      have c1:=(hI.out.below.cell (p:=⟨bN,oN+q,none⟩) bJ).trans aO
      have c2:=(hI.out.below.cell (p:=⟨b2,o2+x,none⟩) bI).trans am
      obtain⟨m,hm⟩:∃m,m=st'.length:=⟨_,rfl⟩
      rw [←hm] at aS bQ hI ⊢
      have y:=hide hm
      have az:=hide (hI.out.keep (As wr))
      clear aO aP am ap al hm bY
      go_wp2_with fail
      refine Reg.cP [0,1,0,0,12,28,63,127,0,511,1023,2047] ?_ (by kernel_rfl) (by repeat (first | exact hN | refine Reg.NoQ.then ?_ | refine Reg.NoQ.inBlock ?_))
      go_wp2_with fail
      rw [y.out]
      have a9:=az
      rw [y.out] at a9
      refine L9 Z.out.c (hI.out.below.trans ((As wr).mono hI.out.below.size)) a9.out.ord hl.out ao hn (by rw [←y.out]; omega) ?_
      iterate 20 (intro _)
      intro w3 k aB aE aJ aX
      have C:=hide (a9.out.keep aB)
      have aK:=hide aJ
      have c0:=hide aX
      have eg:k≤m:=by rw [y.out]; exact aE
      obtain⟨AE,cE,rfl⟩:=AG C.out.eds
      have aC:Hid ((es++CI (AF (dnx t) cl) (kOf cl st') (cl.getD q 0) i x).length=es.length+x):=by show _=_; rw [List.length_append,Rv]
      clear aJ aX aE aB az a9 c1 c2 bL
      by_cases bR:k<m
      · obtain⟨s,I⟩:=Ap (l:=st') (i:=k) (by rw [←y.out]; exact bR)
        obtain⟨a7,aF⟩:=PF I (c0.out s I) aK.out
        have eh:((k:Int)==(m:Int))=false:=by simp; omega
        have aQ:Hid (kOf cl st'=AW (AF (dnx t) cl) (cl.getD q 0) (kOf cl st) (x+1)):=by
          show _=_
          rw [Cr,←hk.out,ab.out,←ad.out]
          unfold Bt
          rw [if_pos aF]
        have ag:Hid (es++CI (AF (dnx t) cl) (kOf cl st') (cl.getD q 0) i (x+1)=(es++CI (AF (dnx t) cl) (kOf cl st') (cl.getD q 0) i x)++[⟨(i:Int),(x:Int),(k:Int)⟩]):=by
          show _=_
          have W:=Kr (δ:=AF (dnx t) cl) (kOf cl st) (cl.getD q 0) i x
          rw [←aQ.out,←hk.out,ab.out,←ad.out,a7] at W
          rw [W,List.append_assoc]
        have af:=C.out.b6.cell
        have a2:=C.out.eds
        obtain⟨h,M⟩:∃h,h=(es++CI (AF (dnx t) cl) (kOf cl st') (cl.getD q 0) i x).length:=⟨_,rfl⟩
        have ai:h+1≤4000000:=by have:=aC.out; omega
        rw [←M] at af a2
        have an:=C.out.below.size
        have O:=hide M
        rw [←y.out]
        clear M I a7 aF
        go_wp2_with (
          at_builtin
          refine BO (w:=w3) F3 rfl _ _ rfl w0.heap.size (.slice AE h cE) h _ rfl a2 [.int .i64 (i:Int),.int .i64 (x:Int),.int .i64 (k:Int)] 1 rfl rfl (by simp [Value.oneCell']) ai an ?_
          intro V U w7 a5 a3 aj bP
          have G:=a3
          rw [O.out] at G
          have E:=C.out.b6.kept G (Aw C.out.eds C.out.b6 (by decide))
          have bK:=E.cell
          have bM:=E.frozen 4
          have bS:=E.lt
          have ae:=hide (C.out.addE (d:=⟨(i:Int),(x:Int),(k:Int)⟩) (vE':=.slice (some ⟨V,0,none⟩) (h+1) U) G (by rw [←O.out]; exact a5))
          clear a5 a3 G aj E)
        refine⟨⟨x+1,st',.slice (some ⟨V,0,none⟩) (h+1) U,by go_num,by omega,?_,aQ,hp,hl⟩,by simp [intOf]; omega⟩
        rw [ag.out]
        have:=ae.out
        rw [←y.out] at this
        exact this
      · obtain rfl:k=m:=by omega
        have ak:=PE (cl:=cl) (st:=st') (z:=cl.getD to 0) fun p s' hp bW=>aK.out p s' (by have:=y.out; omega) bW
        have ee:((k:Int)==(k:Int))=true:=by simp
        have aT:Hid (kOf cl (st'++[to])=AW (AF (dnx t) cl) (cl.getD q 0) (kOf cl st) (x+1)):=by
          show _=_
          rw [Cr,←hk.out,ab.out,←ad.out,Jt]
          unfold Bt
          rw [if_neg ak]
        have a7:Ax (kOf cl (st'++[to])) (cl.getD to 0)=k:=by
          rw [Jt,EQ ak]
          have:=y.out
          simp [kOf]
          omega
        have ag:Hid (es++CI (AF (dnx t) cl) (kOf cl (st'++[to])) (cl.getD q 0) i (x+1)=(es++CI (AF (dnx t) cl) (kOf cl st') (cl.getD q 0) i x)++[⟨(i:Int),(x:Int),(k:Int)⟩]):=by
          show _=_
          have W:=Kr (δ:=AF (dnx t) cl) (kOf cl st) (cl.getD q 0) i x
          rw [←aT.out,←hk.out,ab.out,←ad.out,a7] at W
          rw [W,List.append_assoc]
        have aL:=C.out.ord
        obtain⟨h,M⟩:∃h,h=(es++CI (AF (dnx t) cl) (kOf cl st') (cl.getD q 0) i x).length:=⟨_,rfl⟩
        have ai:h+1≤4000000:=by have:=aC.out; omega
        have O:=hide M
        rw [←y.out] at aL
        have an:=C.out.below.size
        rw [←y.out]
        clear M ak a7
        go_wp2_with (
          at_builtin
          first
          | (refine BO (w:=w3) C9 rfl _ _ rfl w0.heap.size (.slice (some ⟨gf,0,none⟩) k bE) k _ rfl aL [.int .i64 (to:Int)] 1 rfl rfl (by simp [Value.oneCell']) (by omega) an ?_
             intro g5 bD w5 aM aD aG bO
             have J:=hide (C.out.addO (s:=to) (vO':=.slice (some ⟨g5,0,none⟩) (k+1) bD) (by rw [←y.out]; exact aD) (by rw [←y.out]; exact aM) (by rw [←y.out]; exact aG))
             have af:=J.out.b6.cell
             have a2:=J.out.eds
             rw [←O.out] at af a2
             have bX:=J.out.below.size
             clear aM aD aG bO)
          | (refine BO (w:=w5) F3 rfl _ _ rfl w0.heap.size (.slice AE h cE) h _ rfl a2 [.int .i64 (i:Int),.int .i64 (x:Int),.int .i64 (k:Int)] 1 rfl rfl (by simp [Value.oneCell']) ai bX ?_
             intro V U w7 a5 a3 aj bP
             have G:=a3
             rw [O.out] at G
             have E:=J.out.b6.kept G (Aw J.out.eds J.out.b6 (by decide))
             have bK:=E.cell
             have bM:=E.frozen 4
             have bS:=E.lt
             have ae:=hide (J.out.addE (d:=⟨(i:Int),(x:Int),(k:Int)⟩) (vE':=.slice (some ⟨V,0,none⟩) (h+1) U) G (by rw [←O.out]; exact a5))
             clear a5 a3 G aj E))
        refine⟨⟨x+1,st'++[to],.slice (some ⟨V,0,none⟩) (h+1) U,by go_num,by omega,?_,aT,hide (hp.out.trans (List.prefix_append _ _)),hide fun s I=>?_⟩,by simp [intOf]; omega⟩
        · rw [ag.out]
          exact ae.out
        · rcases List.mem_append.1 I with I | I
          · exact hl.out s I
          · rw [List.mem_singleton.1 I]; exact ao
    · obtain rfl:x=L:=by omega
      clear aS
      go_wp2_with fail
      exact hQ _ _ _ _ _ _ _ _ _ _ _ _ _ _ _ _ _ _ _ _ _ _ _ _ _ _ _ _ _ _ _ _ _ _ _ _ _ _ _ _ _ _ _ _ _ _ _ _ _ _ _ _ _ _ _ _ wr _ vE' st' hI.out hk.out hp.out hl.out
end Go.Proofs.YtfcfpoemojjglaaGreatDoor
