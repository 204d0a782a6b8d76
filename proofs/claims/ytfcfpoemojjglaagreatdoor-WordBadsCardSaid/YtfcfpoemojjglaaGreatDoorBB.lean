/-
  Part BB of a proof.
-/
import Derived.Test.YtfcfpoemojjglaaGreatDoorPA
import Derived.Test.YtfcfpoemojjglaaGreatDoorBA
set_option maxHeartbeats 16000000
set_option maxRecDepth 100000
set_option linter.unusedVariables false
set_option linter.unusedSimpArgs false
namespace Go.Proofs.YtfcfpoemojjglaaGreatDoor
open Go.RowKit
set_option maxHeartbeats 16000000
set_option maxRecDepth 100000
theorem aBp:(Tryz.prog.info? 139).map (fun i=>(i.zero,i.size,i.bytes))=some (some (.agg #[.slice none 0 0,.slice none 0 0]),2,48):=by kernel_rfl
theorem Do.below' {w w':World} {base:Nat} {v:Value} {t:List (List Nat)} {ac:List Bool} (h:Do w base v t ac) (d:Below w.heap.size w w'):Do w' base v t ac:=h.kept (Ac.of_below d (fun _=>False)) (fun _ x=>x.elim) (Nat.le_refl _)
theorem Do.set {w w':World} {base g:Nat} {cs:Array Value} {v:Value} {t:List (List Nat)} {ac:List Bool} (h:Do w base v t ac) (E:Blk w g 139 cs) (O:Ac w w' (fun k=>k=g)):Do w' base v t ac:=by
 obtain⟨vN,vA,ws,e,C,G,I⟩:=h;have j:∀{e:TypeId} {v:Value} {n:Nat} {xs:List Value},e≠139->w.ownsRow base e 1 v n xs->w'.ownsRow base e 1 v n xs:=fun he l=>O.ownsRow l fun U J y=>Aw l E he (by rw [J,y]);exact⟨vN,vA,ws,e,j (by decide) C,j (by decide) G,I.imp fun v d M=>⟨j (by decide) M.1,fun _ _=>trivial⟩⟩
theorem aA4 {w:World} {base L:Nat} {vN vA:Value} {t:List (List Nat)} {ac:List Bool} (h:Do w base (.agg #[vN,vA]) t ac) (d:DOK L t ac) (y:ac.length<=200000) (l:L<=8):Dp w L ac.length vN vA t ac:=
 ⟨h.read (fun r j=>by have:=(d.row r j).1; omega) (by have:=d.len; omega) (by omega),d,rfl⟩
theorem Do.agg {w:World} {base:Nat} {v:Value} {t:List (List Nat)} {ac:List Bool} (h:Do w base v t ac):∃A1 c1 A2 c2,v=.agg #[.slice A1 t.length c1,.slice A2 ac.length c2]:=by
 obtain⟨vN,vA,ws,e,d,j,-⟩:=h;obtain⟨A1,c1,rfl⟩:=AH j;obtain⟨A2,c2,rfl⟩:=AH d;exact⟨A1,c1,A2,c2,e⟩
theorem aBk {w:World} {g:Nat} (h:Blk w g 139 (Value.agg #[.slice none 0 0,.slice none 0 0]).cells):Blk w g 139 #[.slice none 0 0,.slice none 0 0]:=by simpa [Value.cells] using h
theorem aB5 {w:World} {g3 g4 L:Nat} {x1 x2 x3 x4 x5 y1 y2 y3 y4 y5:Value} {t u:List (List Nat)} {ac bc:List Bool}
    (hA:Bj w w.heap.size (.agg #[x1,x2,x3,x4,x5]) (AG L t ac)) (C:Bj w w.heap.size (.agg #[y1,y2,y3,y4,y5]) (AG L u bc)) (aj:DOK L t ac) (ak:DOK L u bc) (hn:ac.length<=400) (dv:bc.length<=400) (ah:1<=L) (hL:L<=8)
    (h3:Blk w g3 35 #[x1,x2,x3,x4,x5]) (h4:Blk w g4 35 #[y1,y2,y3,y4,y5])
    {u0 u1 u2 u5 u6 u7 u8 u9 ao aB aN aY aZ b4 b5 b6 d9 da db dc b8 b9 ba bd be bf bg bh bi bj bk bl bm bn bo bp bq br bs bt bu bv bw bx bz bA bB bC bE bF bH bI bJ bK bL bM bN bO bQ bR bS bT u64 bU bV bW bX bY bZ c0 c5 c6 c7 c8 c9 ca cb cc cd ce cf cg ch ci cj ck cm cn cp cq cr ct cu cv cw cx cy cz ap aq ar au av aw ax ay az aA aC aD aE aF aG aH aJ aK aL aM aO aP aQ aR aS aT aU aV aW aX:Value}
    {Q:Exit->Act->World->Prop} (hN:Reg.NoQ Q)
    (hQ:∀(dg dh di dj:Value) (w':World) (g7 g8:Nat) (v7 a7 v8 a8:Value),Below w.heap.size w w'->Dp w' L ac.length v7 a7 t ac->Dp w' L bc.length v8 a8 u bc->Blk w' g7 139 #[v7,a7]->Blk w' g8 139 #[v8,a8]->w.heap.size<=g7/\w.heap.size<=g8->
      Q .normal ⟨List.toArray (u0::u1::u2::(.pointer (some ⟨g3,0,none⟩))::(.pointer (some ⟨g4,0,none⟩))::u5::u6::(.pointer (some ⟨g7,0,none⟩))::(.pointer (some ⟨g8,0,none⟩))::u9::ao::aB::aN::aY::aZ::b4::b5::b6::dg::dh::di::dj::
      b8::b9::ba::bd::be::bf::bg::bh::bi::bj::bk::bl::bm::bn::bo::bp::bq::br::bs::bt::bu::bv::bw::bx::bz::bA::bB::bC::bE::bF::bH::bI::bJ::bK::bL::bM::bN::
      bO::bQ::bR::bS::bT::u64::bU::bV::bW::bX::bY::bZ::c0::c5::c6::c7::c8::c9::ca::cb::cc::cd::ce::cf::cg::ch::ci::cj::ck::cm::cn::cp::cq::cr::ct::cu::cv::
      cw::cx::cy::cz::ap::aq::ar::au::av::aw::ax::ay::az::aA::aC::aD::aE::aF::aG::aH::aJ::aK::aL::aM::aO::aP::aQ::aR::aS::aT::aU::aV::aW::
      aX::[]),[]⟩ w'):
    (Eu Tryz.f83 1).wp Tryz.prog Q ⟨List.toArray (u0::u1::u2::(.pointer (some ⟨g3,0,none⟩))::(.pointer (some ⟨g4,0,none⟩))::u5::u6::u7::u8::u9::ao::aB::aN::aY::aZ::b4::b5::b6::d9::da::db::dc::b8::b9::ba::bd::be::bf::bg::bh::
      bi::bj::bk::bl::bm::bn::bo::bp::bq::br::bs::bt::bu::bv::bw::bx::bz::bA::bB::bC::bE::bF::bH::bI::bJ::bK::bL::bM::bN::bO::bQ::bR::bS::bT::u64::bU::bV::
      bW::bX::bY::bZ::c0::c5::c6::c7::c8::c9::ca::cb::cc::cd::ce::cf::cg::ch::ci::cj::ck::cm::cn::cp::cq::cr::ct::cu::cv::cw::cx::cy::cz::ap::aq::ar::au::
      av::aw::ax::ay::az::aA::aC::aD::aE::aF::aG::aH::aJ::aK::aL::aM::aO::aP::aQ::aR::aS::aT::aU::aV::aW::aX::[]),[]⟩ w:=by
  conv=>arg 2; whnf
  refine Reg.region_spl [0,1,0,7,0,0,63,127] (.node 1 4 (.node 1 5 (.node 3 4 (.node 3 5 (.node 4 5 (.leaf [0,2,1,3,4,5,6,7]) (.leaf [0,2,1,3,5,4,6,7])) (.leaf [0,2,1,5,3,4,6,7])) (.node 3 5 (.leaf [0,2,1,4,3,5,6,7]) (.node 4 5 (.leaf [0,2,1,4,5,3,6,7]) (.leaf [0,2,1,5,4,3,6,7])))) (.node 3 4 (.leaf [0,2,5,1,3,4,6,7]) (.leaf [0,2,5,1,4,3,6,7]))) (.node 1 5 (.node 3 5 (.leaf [0,2,4,1,3,5,6,7]) (.leaf [0,2,4,1,5,3,6,7])) (.node 4 5 (.leaf [0,2,4,5,1,3,6,7]) (.leaf [0,2,5,4,1,3,6,7])))) (by kernel_rfl) hN ?_;dsimp only [Reg.Spl.goal];have h:=hide (Ap w);have dk:=h3.cell;have dl:=h4.cell;have ad:=hide hA;have ag:=hide C;have al:=hide aj;have am:=hide ak;clear hA C aj ak h3 h4
  repeat' (with_reducible refine And.intro ?_ ?_)
  all_goals
    refine Reg.rest_walkE [0,2] _ rfl rfl (by kernel_rfl) ?_;intro Qf j;go_wp2_with fail;refine j _ _ ?_;clear j
    iterate 4
      first
      | (refine Reg.rest_act' 1 _ [2] rfl (by kernel_rfl) ?_
         intro Qf j;simp only [gT,gS,gZ];have V:=aBt (ad.out.keep (fun p hp=>h.out.cell hp) h.out.size) al.out (by omega) ah hL;go_wp2_with fail;refine Calls.ret V ?_;rintro r1 w1 ⟨d,G⟩;obtain⟨T1,d1,T2,d2,rfl⟩:=G.agg;have E:=hide G;replace h:=hide (h.out.trans (d.mono h.out.size));try replace l:=hide (l.out.below d)
         try replace y:=hide (y.out.below d)
         clear V G;go_wp2_with fail;first | refine j _ _ ⟨Reg.same_below d [2] rfl,?_⟩ | refine⟨Reg.same_below d [2] rfl,?_⟩
         (try clear j);clear d)
      | (refine Reg.rest_act' 3 _ [] rfl (by kernel_rfl) ?_
         intro Qf j;simp only [gT,gS,gZ];have V:=aBt (ag.out.keep (fun p hp=>h.out.cell hp) h.out.size) am.out (by omega) ah hL;go_wp2_with fail;refine Calls.ret V ?_;rintro r2 w2 ⟨d,G⟩;obtain⟨U1,k1,U2,k2,rfl⟩:=G.agg;have O:=hide G;replace E:=hide (E.out.below' d);replace h:=hide (h.out.trans (d.mono h.out.size));try replace l:=hide (l.out.below d)
         try replace y:=hide (y.out.below d)
         clear V G;go_wp2_with fail;first | refine j _ _ ⟨Reg.nm,?_⟩ | refine⟨Reg.nm,?_⟩
         (try clear j);clear d)
      | (refine Reg.rest_walkE [4] _ rfl rfl (by kernel_rfl) ?_
         intro Qf j;refine Ul aBp rfl rfl ?_;intro g7 w7 C d W;refine j _ _ ?_;have d4:=Nat.le_trans h.out.size W;replace h:=hide (h.out.trans (d.mono h.out.size));try replace E:=hide (E.out.below' d)
         try replace O:=hide (O.out.below' d)
         have Z:True:=trivial;try (have a3:=y.out.lt; replace Z:g7≠g8:=by omega)
         try replace y:=hide (y.out.below d)
         have l:=hide C;(try clear j);(try clear a3);clear C d W)
      | (refine Reg.rest_walkE [5] _ rfl rfl (by kernel_rfl) ?_
         intro Qf j;refine Ul aBp rfl rfl ?_;intro g8 w8 C d W;refine j _ _ ?_;have d5:=Nat.le_trans h.out.size W;replace h:=hide (h.out.trans (d.mono h.out.size));try replace E:=hide (E.out.below' d)
         try replace O:=hide (O.out.below' d)
         have Z:True:=trivial;try (have a3:=l.out.lt; replace Z:g7≠g8:=by omega)
         try replace l:=hide (l.out.below d)
         have y:=hide C;(try clear j);(try clear a3);clear C d W)
  all_goals
    have I:=aBk l.out;have ai:=aBk y.out;obtain⟨wF,d6,ae,M⟩:=Dm I (.slice T1 t.length d1) (.slice T2 ac.length d2);have J:=ai.kept M (fun e=>Z e.symm);obtain⟨wG,d7,af,U⟩:=Dm J (.slice U1 u.length k1) (.slice U2 bc.length k2);have dp:=I.frozen;have dr:=I.lt;have dm:=I.cell;have dq:=J.frozen;have dt:=J.lt;have dn:=J.cell;have cZ:=hide (ae.kept U Z);have d0:=hide af;have cX:=hide (aA4 ((E.out.set I M).set J U) al.out (by omega) hL);have cY:=hide (aA4 ((O.out.set I M).set J U) am.out (by omega) hL);have s0:=h.out.size;have sF:=M.size;have bG:=hide ((h.out.trans (M.below s0 fun b d e=>by omega)).trans (U.below (Nat.le_trans s0 sF) fun b d e=>by omega));unfold CY at d6 d7;clear I ai ae af M U J E O l y h ad ag;refine Reg.rest_walkE [6] _ rfl rfl (by kernel_rfl) ?_;intro Qf j;go_wp2_with fail;first | refine j _ _ ?_ | skip
    (try clear j);refine Reg.rest_walkE [7] _ rfl rfl (by kernel_rfl) ?_;intro Qf j;go_wp2_with fail;first | refine j _ _ ?_ | skip
    (try clear j);refine Reg.rest_end ?_;refine hQ _ _ _ _ wG g7 g8 _ _ _ _ bG.out cX.out cY.out cZ.out d0.out ⟨d4,d5⟩
end Go.Proofs.YtfcfpoemojjglaaGreatDoor
namespace Go.Proofs.YtfcfpoemojjglaaGreatDoor
open Go.RowKit
set_option maxHeartbeats 16000000
set_option maxRecDepth 100000
def AL (o:Int) (x y:Bool):Bool:=if o=1 then x&&y else if o=2 then x||y else if o=3 then x&&!y else x != y
theorem aB0 {w:World} (o:Int) (x y:Bool):Calls Tryz.prog 128 #[.int .i64 o,.bool x,.bool y] w (Ret fun r w'=>r=.bool (AL o x y)/\w'=w):=by
 by_cases d:o=1
 ·subst d;cases x <;> cases y <;> (go_enter Tryz.func128,Tryz.ntmps128; go_wp2_with fail; exact bodyPost_ret (by simp [results,Tryz.results128,go_sem,AL]) rfl ⟨rfl,rfl⟩)
 ·by_cases h:o=2
  ·subst h;cases x <;> cases y <;> (go_enter Tryz.func128,Tryz.ntmps128; go_wp2_with fail; exact bodyPost_ret (by simp [results,Tryz.results128,go_sem,AL]) rfl ⟨rfl,rfl⟩)
  ·by_cases j:o=3
   ·subst j;cases x <;> cases y <;> (go_enter Tryz.func128,Tryz.ntmps128; go_wp2_with fail; exact bodyPost_ret (by simp [results,Tryz.results128,go_sem,AL]) rfl ⟨rfl,rfl⟩)
   ·have C:(o==1)=false:=by simp [d]
    have E:(o==2)=false:=by simp [h]
    have G:(o==3)=false:=by simp [j]
    have l:AL o x y=(x != y):=by unfold AL; rw [if_neg d,if_neg h,if_neg j]
    rw [l];cases x <;> cases y <;> (go_enter Tryz.func128,Tryz.ntmps128; go_wp2_with fail; exact bodyPost_ret (by simp [results,Tryz.results128,go_sem]) rfl ⟨rfl,rfl⟩)
end Go.Proofs.YtfcfpoemojjglaaGreatDoor
namespace Go.Proofs.YtfcfpoemojjglaaGreatDoor
open Go.RowKit
set_option maxHeartbeats 16000000
set_option maxRecDepth 100000
theorem JnM.toX {w0 wr:World} {g9:Nat} {vN vA vF vG:Value} {all:List (Nat×Nat)} {t:List (List Nat)} {as':List Bool} {ws:List Value} {N:Nat->Prop} (h:JnM w0 wr g9 vN vA vF vG all t as' ws N) (d:∀k,N k->k<wr.heap.size):JnX w0 wr g9 vN vA vF vG all t as' ws N (.slice none 0 0):=
 ⟨h,d,fun _ _ e=>by simp [Value.ownBlock] at e,fun _ _ e=>by simp [Value.ownBlock] at e,fun _ _ e=>by simp [Value.ownBlock] at e⟩
theorem JnM.fin {w0 wr wF:World} {g9 g6:Nat} {cs:Array Value} {vN vA vF vG:Value} {all:List (Nat×Nat)} {t:List (List Nat)} {as':List Bool} {ws:List Value} {N:Nat->Prop} (h:JnM w0 wr g9 vN vA vF vG all t as' ws N) (d:Blk wr g6 139 cs) (l:Ac wr wF (fun k=>k=g6)):Do wF w0.heap.size (.agg #[vN,vA]) t as':=
 Do.set ⟨vN,vA,ws,rfl,h.acc,h.nxt,h.nxtR.imp fun _ _ j=>⟨j.1,fun _ _=>trivial⟩⟩ d l
theorem aB4 (w:World) (h j:Array Value):∃w1 w2 d,w.alloc (.cells h 35)=w1/\w1.alloc (.cells j 35)=w2/\w2.alloc (.cells #[sn0,sn0] 139)=d/\Below w.heap.size w d/\Blk d w.heap.size 35 h/\Blk d w1.heap.size 35 j/\Blk d w2.heap.size 139 #[sn0,sn0]/\w.heap.size<w1.heap.size/\w1.heap.size<w2.heap.size/\w2.heap.size<d.heap.size:=by
 obtain⟨w1,I,O,y,-⟩:=Ae w h 35;obtain⟨w2,J,G,C,-⟩:=Ae w1 j 35;obtain⟨d,M,l,E,-⟩:=Ae w2 #[sn0,sn0] 139;have l1:=y.lt;have l2:=C.lt;have l3:=E.lt;exact⟨w1,w2,d,I,J,M,O.trans ((G.mono (by omega)).trans (l.mono (by omega))),(y.below G).below l,C.below l,E,l1,l2,l3⟩
end Go.Proofs.YtfcfpoemojjglaaGreatDoor
