/-
  Part BF of a proof.
-/
import Derived.Test.YtfcfpoemojjglaaGreatDoorPA
import Derived.Test.YtfcfpoemojjglaaGreatDoorBD
import Derived.Test.YtfcfpoemojjglaaGreatDoorBE
import Derived.Test.YtfcfpoemojjglaaGreatDoorBC
import Derived.Test.YtfcfpoemojjglaaGreatDoorEF
import Derived.Test.YtfcfpoemojjglaaGreatDoorED
import Derived.Test.YtfcfpoemojjglaaGreatDoorCE
import Derived.Test.YtfcfpoemojjglaaGreatDoorCJ
import Derived.Test.YtfcfpoemojjglaaGreatDoorCA
import Derived.Test.YtfcfpoemojjglaaGreatDoorHF
import Derived.Test.YtfcfpoemojjglaaGreatDoorCY
set_option maxHeartbeats 16000000
set_option maxRecDepth 100000
set_option linter.unusedVariables false
set_option linter.unusedSimpArgs false
namespace Go.Proofs.YtfcfpoemojjglaaGreatDoor
open Go.RowKit
open K (Ah Dv)
set_option maxHeartbeats 16000000
set_option maxRecDepth 100000
def Z3 (m:Nat):List Edg:=(List.range m).map fun z:Nat=>⟨0,(z:Int),0⟩
theorem aBC (m:Nat):Z3 (m+1)=Z3 m++[⟨0,(m:Int),0⟩]:=by
 unfold Z3;rw [List.range_succ,List.map_append];rfl
theorem aBe (m:Nat):(Z3 m).length=m:=by simp [Z3]
theorem aBE (L:Nat):(⟨(L:Int),1,[0],[0],Z3 L⟩:WA)=AG L [List.replicate L 0] [true]:=by
 have d:∀x,dnx [List.replicate L 0] 0 x=0:=fun x=>by
  unfold dnx;simp only [List.getD_eq_getElem?_getD,List.getElem?_cons_zero,Option.getD_some,List.getElem?_replicate];split <;> rfl
 unfold AG Z3;simp only [List.length_cons,List.length_nil,Nat.zero_add,List.range_one,List.flatMap_cons,List.flatMap_nil,List.append_nil,d];rfl
theorem aBI {w aT:World} {g4 g5 L:Nat} {c4:Array Value} {v0 v1 vS vA:Value} {ls:List (Nat×TypeId×Array Value)}
  (I:EbM w aT g4 g5 c4 v0 v1 vS vA (.slice none 0 0) [] ls) (hL:L<=8)
  {V u1 u2 u3 u4 u8 u9 W Z a2 a3 a4 a5 b9 ba bd be bf bg bh bi bj bk bl bm a7 a8 aa ab ad ae af ag ah ai aj ak am an ao ap aq ar au av aw ax ay az aA aB aC aD aE aF aG aH aJ aK aL aM u64 aN aO aP aQ aR:Value}
  {Q:Exit->Act->World->Prop}
  (hQ:∀(bn bo bp bq br bs bt bu bv bw bx bz:Value) (w':World) (vE':Value),EbM w w' g4 g5 c4 v0 v1 vS vA vE' (Z3 L) ls->
   Q (.exit 0) ⟨List.toArray (V::u1::u2::u3::u4::(.int .i64 (L:Int))::(.pointer (some ⟨g5,0,none⟩))::(.int .i64 (L:Int))::u8::u9::W::Z::a2::a3::a4::a5::bn::bo::bp::bq::br::bs::bt::bu::bv::bw::bx::bz::a7::
   a8::aa::ab::ad::ae::af::ag::ah::ai::aj::ak::am::an::ao::ap::aq::ar::au::av::aw::ax::ay::az::aA::aB::aC::aD::aE::aF::aG::aH::aJ::aK::aL::aM::u64::aN::
   aO::aP::aQ::aR::[]),[]⟩ w'):
  (Code.loop (CG Tryz.f38 0)).wp Tryz.prog Q ⟨List.toArray (V::u1::u2::u3::u4::(.int .i64 (L:Int))::(.pointer (some ⟨g5,0,none⟩))::(.int .i64 0)::u8::u9::W::Z::a2::a3::a4::a5::b9::ba::bd::be::bf::bg::bh::bi::bj::bk::bl::bm::a7::a8::
   aa::ab::ad::ae::af::ag::ah::ai::aj::ak::am::an::ao::ap::aq::ar::au::av::aw::ax::ay::az::aA::aB::aC::aD::aE::aF::aG::aH::aJ::aK::aL::aM::u64::aN::aO::
   aP::aQ::aR::[]),[]⟩ aT:=by
 conv=>arg 2;arg 1;whnf
 have aX:=hide I;have aY:=hide hQ;clear I hQ;go_loopw [7] (fun C wr=>∃(x:Nat) (vE:Value),C=.int .i64 (x:Int)/\x<=L/\Hid (EbM w wr g4 g5 c4 v0 v1 vS vA vE (Z3 x) ls)) (fun C _=>L - (intOf C).toNat)
 case atStart=>exact⟨0,_,rfl,Nat.zero_le _,by simpa [Z3] using aX⟩
 case round=>
  obtain⟨x,vE,rfl,hx,h⟩:=hrel;by_cases bF:x<L
  ·obtain⟨AE,cE,rfl⟩:=AH h.out.eds;obtain⟨m,l⟩:∃m,(Z3 x).length=m:=⟨_,rfl⟩;have b6:m+1<=1000000:=by rw [<-l,aBe];omega
   have aZ:=h.out.b5.cell;have J:=h.out.eds;rw [l] at aZ J;have b8:=h.out.below.size;have O:=hide l;clear l;rw [O.out] at h
   go_wp2_with (
    at_builtin;refine aAY (w:=wr) Ga rfl _ _ rfl w.heap.size (.slice AE m cE) m _ rfl J [.int .i64 0,.int .i64 (x:Int),.int .i64 0] 1 1 rfl rfl (by simp [Value.oneCell']) (by decide) b6 b8 ?_;intro G E w7 U M bD;have y:=M;have j:=h.out.b5.kept y (Aw h.out.eds h.out.b5 (by decide));have bB:=j.cell;have bC:=j.frozen 4;have bE:=j.lt;have b4:=hide y;have b7:=hide U;clear U M y j)
   have aW:=h.out.addE (d:=[⟨0,(x:Int),0⟩]) (vE':=.slice (some ⟨G,0,none⟩) (m+1) E) b4.out (by rw [O.out];have:=b7.out;simpa [eC] using this);refine⟨⟨x+1,.slice (some ⟨G,0,none⟩) (m+1) E,by go_num,by omega,?_⟩,by simp [intOf];omega⟩;rw [aBC];exact hide aW
  ·obtain rfl:x=L:=by omega
   have b0:=hide h.out;clear h;go_wp2_with fail;exact aY.out _ _ _ _ _ _ _ _ _ _ _ _ _ vE b0.out
end Go.Proofs.YtfcfpoemojjglaaGreatDoor
namespace Go.Proofs.YtfcfpoemojjglaaGreatDoor
open Go.RowKit
open K (Ah Dv)
attribute [-go_sem] loadCellsFrom storeCells
set_option maxHeartbeats 16000000
set_option maxRecDepth 100000
theorem aBY {w w':World} {v:Value} {L k:Nat} {l:List Int} (h:IC w (AG L (Wf L l k) (We k)) (k+1) v w'):Below w.heap.size w w'/\∃u bc,BH L u bc (fun z=>decide (k<=UB l z))/\bc.length<=k+1/\∀w'',Ac w' w'' (fun k=>k<w.heap.size)->Bj w'' w''.heap.size v (AG L u bc):=by
 obtain⟨y,u,bc,d,C,j⟩:=h;have e:(AG L (Wf L l k) (We k)).L=L:=GF;rw [e] at d j;exact⟨y,u,bc,d.congr fun z E=>(aBK E).symm,C,j⟩
theorem aBX {w w':World} {v:Value} {L:Nat} {a b:Int} {ring:Bool} (l:inN L a=true) (C:inN L b=true) (h:IC w (Wd L a b ring) 16 v w'):Below w.heap.size w w'/\∃u bc,BH L u bc (adW a b ring)/\bc.length<=16/\∀w'',Ac w' w'' (fun k=>k<w.heap.size)->Bj w'' w''.heap.size v (AG L u bc):=by
 obtain⟨y,u,bc,d,E,j⟩:=h;have e:(Wd L a b ring).L=L:=by simp [WA.L,Wd]
 rw [e] at d j;exact⟨y,u,bc,d.congr fun z G=>(aBv l C G).symm,E,j⟩
structure BdM (wb wr:World) (g4 g6:Nat) (cs:Array Value) (L:Nat) (t:List (List Nat)) (ac:List Bool):Prop where
 below:Below wb.heap.size wb wr
 b4:Blk wr g4 35 BQ
 b6:Blk wr g6 35 cs
 is:∀w'',Ac wr w'' (fun k=>k=g4\/k<wb.heap.size)->Bj w'' w''.heap.size (.agg cs) (AG L t ac)
 ge:wb.heap.size<=g4/\wb.heap.size<=g6/\g4≠g6
theorem BdM.next {C wr J y wF:World} {g4 g6 L:Nat} {cs d:Array Value} {t I:List (List Nat)} {ac E:List Bool} (h:BdM C wr g4 g6 cs L t ac) (j:Below wr.heap.size wr y) (l:Ac y wF (fun k=>k=g6)) (M:Blk wF g6 35 d) (V:wr.heap.size<=J.heap.size)
  (O:∀w'',Ac y w'' (fun k=>k<J.heap.size)->Bj w'' w''.heap.size (.agg d) (AG L I E)):BdM C wF g4 g6 d L I E:=by
 have G:=h.ge;have W:=h.b6.lt;have b1:=h.below.trans (j.mono h.below.size);exact⟨b1.trans (l.below b1.size fun b j (e:b=g6)=>by omega),(h.b4.below j).kept l G.2.2,M,fun w'' U=>O w'' ((l.mono fun b _ (e:b=g6)=>by omega).trans U fun b _ (e:b=g4\/b<C.heap.size)=>by have:=h.b4.lt;have:=h.below.size;omega),G⟩
theorem aBj {w w':World} {v:Value} {L:Nat} {t u:List (List Nat)} {ac bc:List Bool} {all:List (Nat×Nat)} {Λ Γ:List Nat->Bool} (h:BH L t ac Λ) (y:BH L u bc Γ) (E:Bf L (dPr t u) (0,0) all) (I:all.length<=ac.length*bc.length)
  (M:LQ w L (all.map (Us (AL 1) ac bc)).length (AM L (dPr t u) all all.length) (all.map (Us (AL 1) ac bc)) v w'):
  Below w.heap.size w w'/\∃j d,BH L j d (fun z=>Λ z&&Γ z)/\d.length<=ac.length*bc.length/\∀w'',Ac w' w'' (fun k=>k<w.heap.size)->Bj w'' w''.heap.size v (AG L j d):=by
 obtain⟨J,j,d,C,l,G⟩:=M;rw [List.length_map] at l;exact⟨J,j,d,C.congr fun z O=>(aB3 h y E O).symm,Nat.le_trans l I,G⟩
end Go.Proofs.YtfcfpoemojjglaaGreatDoor
namespace Go.Proofs.YtfcfpoemojjglaaGreatDoor
open Go.RowKit
open K (Am AB D9 At Ba Db PQX Ah Dv)
attribute [-go_sem] loadCellsFrom storeCells
set_option maxHeartbeats 16000000
set_option maxRecDepth 100000
theorem aBJ {W bS:World} {g2 g3 g4 g6 L l:Nat} {pc qc bW:Array Value} {p:Am} {q:AB} (hX:PQX W g2 g3 pc qc p q) (hM:BdM W bS g4 g6 bW L [List.replicate L 0] [true]) (aj:UJ p q) (ai:l=q.bad.length) (c8:1<=L) (I:L<=8)
  {u0 u1 u2 u4 u7 u9 b7 b8 b9 ba bd be bf bg bh bi bk bl bm bn bo bp bq br cK cL cM cO cQ cR cS cT cU cV cW cX cY cZ d0 d5 d6 d7 d8 bt bu bv bw bx bz bA bB bC bD bE bF bG bH bI bJ bK u64 bL bM bN bO bP:Value}
  {Q:Exit->Act->World->Prop} (hN:Reg.NoQ Q)
  (hQ:∀(d9 da db dc de df dg dh di dj dk dl dm dn dp dq dr dt du:Value) (w':World) (cs:Array Value) (t:List (List Nat)) (ac:List Bool),BdM W w' g4 g6 cs L t ac->BH L t ac (Z4 q l)->ac.length<=64->
   Q (.exit 2) ⟨List.toArray (u0::u1::u2::(.pointer (some ⟨g3,0,none⟩))::u4::(.int .i64 (L:Int))::(.pointer (some ⟨g6,0,none⟩))::u7::(.int .i64 (l:Int))::u9::b7::b8::b9::ba::bd::be::bf::bg::bh::bi::bk::bl::bm::bn::bo::
   bp::bq::br::d9::da::db::dc::de::df::dg::dh::di::dj::dk::dl::dm::dn::dp::dq::dr::dt::du::bt::bu::bv::bw::bx::bz::bA::bB::bC::bD::bE::bF::bG::bH::bI::
   bJ::bK::u64::bL::bM::bN::bO::bP::[]),[]⟩ w'):
  (Code.loop (CG Tryz.f38 1)).wp Tryz.prog Q ⟨List.toArray (u0::u1::u2::(.pointer (some ⟨g3,0,none⟩))::u4::(.int .i64 (L:Int))::(.pointer (some ⟨g6,0,none⟩))::u7::(.int .i64 0)::u9::b7::b8::b9::ba::bd::be::bf::bg::bh::bi::bk::bl::bm::bn::bo::bp::
   bq::br::cK::cL::cM::cO::cQ::cR::cS::cT::cU::cV::cW::cX::cY::cZ::d0::d5::d6::d7::d8::bt::bu::bv::bw::bx::bz::bA::bB::bC::bD::bE::bF::bG::bH::bI::bJ::
   bK::u64::bL::bM::bN::bO::bP::[]),[]⟩ bS:=by
 conv=>arg 2;arg 1;whnf
 have cd:=hide hX;have c9:=hide hM;have cr:=hide aj;have aV:=hide ai;have dK:l<=3:=by rw [ai];exact aj.b3
 have cb:=hide hQ;clear hX hM aj ai hQ;go_loopw [8] (fun ii wr=>∃(i:Nat) (cs:Array Value) (t:List (List Nat)) (ac:List Bool),ii=.int .i64 (i:Int)/\i<=l/\Hid (BdM W wr g4 g6 cs L t ac)/\Hid (BH L t ac (Z4 q i))/\Hid (ac.length<=4 ^ i)) (fun ii _=>l - (intOf ii).toNat)
 case atStart=>exact⟨0,_,_,_,rfl,Nat.zero_le _,c9,hide ((aBD L).congr fun z _=>by simp [Z4]),hide (by simp)⟩
 case round=>
  obtain⟨i,a5,t,ac,rfl,hi,h,hC,ag⟩:=hrel;have aJ:=hide (cd.out.at h.out.below);obtain⟨B1,d1,B2,d2,B3,d3,B4,d4,cA,cv,cw,cx,ak,cy,cz,k1,k2,k3,k4⟩:=aJ.out.qr.cells;replace ak:qc[3]?=some (.slice B2 q.bad.length d2):=ak;rw [<-aV.out] at ak;have c3:=aJ.out.b3.cell;have aQ:Hid (a5.size=5):=hide (by
   obtain⟨A1,c1,A2,c2,A3,c3,e,-⟩:=h.out.is _ (Ac.refl _ _);injection e with e
   rw [e];rfl)
  have cH:=hide k2;clear k1 k2 k3 k4 cv cw cx cy cz cA;by_cases cp:i<l
  ·obtain⟨b,b0,c,ce,hA,dG,he,cE,V,hR⟩:=cH.out.at (show i<q.bad.length by rw [<-aV.out];exact cp);obtain⟨E1,f1,rfl,aG⟩:=hR;subst hA;have co:=cr.out.le c (List.mem_of_getElem? he);obtain⟨k,hk⟩:∃k:Nat,c.least=(k:Int):=⟨c.least.toNat,by omega⟩;have cj:k<=3:=by omega
   rw [hk] at V;obtain⟨ns,aW⟩:∃n,n=c.states.length:=⟨_,rfl⟩;have a4:=hide (Ap wr);have aP:=hide (fun(wx:World) (hx:Below wr.heap.size wr wx)=>aBM (L:=L) (k:=k) (c:=f1) (aG.keep (w':=wx) (B':=wx.heap.size) (fun p hp=>hx.cell hp) hx.size) I (by omega));rw [<-aW] at V aP;have dJ:(loadCellsFrom ⟨b,b0+i*2,none⟩ 0 2 #[]).run Tryz.prog wr.drew=.ok #[.slice E1 ns f1,.int .i64 (k:Int)] wr.drew:=by
    have:=run_loadCells_list (P:=Tryz.prog) wr.drew ⟨b,b0+i*2,none⟩ [.slice E1 ns f1,.int .i64 (k:Int)] (fun j v hv=>by rw [Addr.add_mid];exact V j v hv);simpa [loadCells] using this
   have dI:=Ah (h.out.b6.below (Ap wr)) aQ.out;have G:ac.length<=64:=Nat.le_trans ag.out (Nat.pow_le_pow_right (by decide) (show i<=3 by omega));have cD:=hide (aBF (q:=q) he);have cm:=hide hk;have ck:=hide cj;clear V aG cE he co hk aW;go_wp2_with fail;refine Reg.cC [0,0,0,4,0,28,60,126,254,511,0,2047,4095] [0,1,2,3,4,5,6,10,7,8,9,11,12] ?_ (by kernel_rfl) (by repeat (first|exact hN|refine Reg.NoQ.then ?_|refine Reg.NoQ.inBlock ?_));refine Reg.rest_walk' [0,1,2,3,4,5,6,10] [7,8,9,11,12] rfl (by kernel_rfl) ?_;intro Qf d;go_wp2_with fail;first|refine d _ _ ?_|skip
   (try clear d);refine Reg.rest_act' 7 [8,9,11,12] [0] rfl (by kernel_rfl) ?_;intro Qf d;simp only [gT,gS,gZ];go_wp2_with fail;refine Calls.ret (aP.out _ a4.out) ?_;rintro v1 y1 ⟨O,aC⟩;go_wp2_with fail;first|refine d _ _ ⟨Reg.same_below (O) [0] rfl,?_⟩|refine⟨Reg.same_below (O) [0] rfl,?_⟩
   (try clear d);have au:=hide (a4.out.trans (O.mono a4.out.size));have aR:=KE (k:=k+1) (by omega) (aCa (aA5 L c.states k) (by simp [We])) aC (aB9 (aA5 L c.states k)) ⟨by show(0:Int)<=((We k).length:Int);omega,by show((We k).length:Int)<=200000;simp [We];omega⟩ ⟨by show(0:Int)<=(L:Int);omega,by show(L:Int)<=8;omega⟩;clear O aC;refine Reg.rest_act' 8 [9,11,12] [0] rfl (by kernel_rfl) ?_;intro Qf d;simp only [gT,gS,gZ];go_wp2_with fail;refine Calls.ret aR ?_;intro v2 y2 aX;obtain⟨U,u,bc,a8,aT,aD⟩:=aBY aX;go_wp2_with fail;first|refine d _ _ ⟨Reg.same_below (U) [0] rfl,?_⟩|refine⟨Reg.same_below (U) [0] rfl,?_⟩
   (try clear d);have a2:=hide (au.out.trans (U.mono au.out.size));have aN:bc.length<=400:=by omega
   have aS:=aBq (o:=1) (h.out.is y2 (Ac.of_below a2.out _)) (aD y2 (Ac.refl _ _)) hC.out.ok a8.ok (by omega) aN c8 I;have c6:=hide a8;have aU:=hide aT;clear aX U a8 aT aD aR aN;refine Reg.rest_act' 9 [11,12] [] rfl (by kernel_rfl) ?_;intro Qf d;simp only [gT,gS,gZ];go_wp2_with fail;refine Calls.ret aS ?_;rintro v3 y3 ⟨aL,all,hD,aK,J⟩;have ae:DOK L (AM L (dPr t u) all all.length) (all.map (Us (AL 1) ac bc)):=Fq hD (by simp);have ad:(all.map (Us (AL 1) ac bc)).length=all.length:=List.length_map _;obtain⟨tt,am⟩:∃tt,tt=AM L (dPr t u) all all.length:=⟨_,rfl⟩;obtain⟨Z,M⟩:∃Z,Z=all.map (Us (AL 1) ac bc):=⟨_,rfl⟩;rw [<-am,<-M] at J ae;rw [<-M] at ad;have cF:=hide am;have cg:=hide M;have cf:=hide ad;clear am M ad;obtain⟨J1,j1,J2,j2,rfl⟩:=J.agg;go_wp2_with fail;first|refine d _ _ ⟨Reg.nm,?_⟩|refine⟨Reg.nm,?_⟩
   (try clear d);have a3:=hide (a2.out.trans (aL.mono a2.out.size));have cu:ac.length*bc.length<=200000:=Nat.le_trans (Nat.mul_le_mul (show ac.length<=400 by omega) (show bc.length<=400 by have:=aU.out;omega)) (by decide);have ah:Z.length<=200000:=by rw [cf.out];omega
   have aO:=hide (RV (aA4 J ae ah I) ah I);have c7:=hide hD;have ch:=hide aK;clear aL hD aK J aS cu ae ah;refine Reg.rest_act' 11 [12] [] rfl (by kernel_rfl) ?_;intro Qf d;simp only [gT,gS,gZ];go_wp2_with fail;refine Calls.ret aO.out ?_;intro v4 y4 al;rw [cF.out,cg.out] at al;obtain⟨aM,E,C,aB,G,ab⟩:=aBj hC.out c6.out c7.out ch.out al;obtain⟨ao,aw,ap,ax,aq,ay,rfl,-,-,-,-⟩:=ab y4 (Ac.refl _ _);go_wp2_with fail;first|refine d _ _ ⟨Reg.nm,?_⟩|refine⟨Reg.nm,?_⟩
   (try clear d);have av:=hide (a3.out.trans (aM.mono a3.out.size));have c5:=hide aB;have cn:=hide G;have y:=hide ab;have cB:=hide a3.out.size;have az:=h.out.b6.below av.out;clear al aM aB G ab aO;generalize (AG L E C).letters=x0 at y ⊢;generalize (AG L E C).states=x1 at y ⊢;generalize (AG L E C).start.length=n1 at y ⊢;generalize (AG L E C).accept.length=n2 at y ⊢;generalize (AG L E C).edges.length=n3 at y ⊢;obtain⟨wF,aY,aA,aE⟩:=Wn az #[.int .i64 x0,.int .i64 x1,.slice ao n1 aw,.slice ap n2 ax,.slice aq n3 ay] (by show 5=a5.size;rw [aQ.out]) (by simp [Value.oneCell']);have dL:(storeCells ⟨g6,0,none⟩ [.int .i64 x0,.int .i64 x1,.slice ao n1 aw,.slice ap n2 ax,.slice aq n3 ay] 0).run Tryz.prog y4=.ok () wF:=aY;have cq:=hide (h.out.next av.out aE aA cB.out y.out);clear aY aA aE az y;refine Reg.rest_act' 12 [] [] rfl (by kernel_rfl) ?_;intro Qf d;simp only [gT,gS,gZ];go_wp2_with fail;first|refine d _ _ ⟨Reg.nm,?_⟩|refine⟨Reg.nm,?_⟩
   (try clear d);refine Reg.rest_end ?_;go_wp2_with fail;refine⟨⟨i+1,_,E,C,by go_num,by omega,cq,hide (c5.out.congr fun z _=>?_),hide ?_⟩,by simp [intOf];omega⟩
   ·rw [cD.out z,cm.out];rfl
   ·have h1:=cn.out;have h2:=ag.out;have h3:=aU.out;have h4:=ck.out;rw [Nat.pow_succ];exact Nat.le_trans h1 (Nat.mul_le_mul h2 (by omega))
  ·obtain rfl:i=l:=by omega
   have ci:=hide h.out;have G:=hide (show ac.length<=64 from Nat.le_trans ag.out (Nat.pow_le_pow_right (by decide) (show i<=3 by omega)));clear h;go_wp2_with fail;exact cb.out _ _ _ _ _ _ _ _ _ _ _ _ _ _ _ _ _ _ _ _ a5 t ac ci.out hC.out G.out
end Go.Proofs.YtfcfpoemojjglaaGreatDoor
namespace Go.Proofs.YtfcfpoemojjglaaGreatDoor
open Go.RowKit
open K (Am AB D9 At Ba Db PQX Ah Dv)
attribute [-go_sem] loadCellsFrom storeCells
set_option maxHeartbeats 16000000
set_option maxRecDepth 100000
theorem aBy (L:Nat) (a b:Int) (d:Bool):0<=(Wd L a b d).states/\(Wd L a b d).states<=200000:=by
 cases d <;> simp [Wd]
theorem aBG {p:Am} {q:AB} (j:UJ p q) (h:q.adj=[]) (z:List Nat):UL p q z=Z4 q q.bad.length z:=by
 have y:Uy q=none:=by unfold Uy;rw [h]
 unfold UL;rw [aBh (fun _=>?_),y,aBi]
 ·simp [UZ]
 ·rcases d:q.bad with _|⟨c,l⟩
  ·exact absurd d (j.ne h)
  ·have:=j.le c (by rw [d];exact List.mem_cons_self);exact⟨(c.states,c.least.toNat),by simp [Uw,d],by show 1<=c.least.toNat;omega⟩
theorem aBH {p:Am} {q:AB} {a b:Int} {j:Bool} (h:q.adj=[a,b]) (l:j=decide (p.topo=3)) (z:List Nat):UL p q z=(Z4 q q.bad.length z&&adW a b j z):=by
 have d:Uy q=some (a,b):=by unfold Uy;rw [h]
 unfold UL;rw [aBh (fun e=>by rw [d] at e;cases e),d,aBi,l];rfl
theorem aCe {w:World} {cs ds:List Value} {p:Am} {q:AB} (h:At w w.heap.size cs p) (h':Ba w w.heap.size ds q) (bg:UJ p q) (hT:K.SpOK w):
  Calls Tryz.prog 38 #[.agg cs.toArray,.agg ds.toArray] w (Ret fun r w'=>Below w.heap.size w w'/\∃t ac,BH p.states.length t ac (UL p q)/\ac.length<=1024/\∀w'',Ac w' w'' (fun k=>k<w.heap.size)->Bj w'' w''.heap.size r (AG p.states.length t ac)):=by
 obtain⟨B1,d1,B2,d2,B3,d3,B4,d4,bY,cM,cQ,cS,bX,cV,cW,k1,k2,k3,k4⟩:=h'.cells;obtain⟨A1,c1,A2,c2,A3,c3,A4,c4,A5,c5,A6,c6,A7,c7,cL,cG,bV,cH,-⟩:=h.cells;obtain⟨w1,dR,U,ap,-⟩:=Ae w cs.toArray 27;obtain⟨w2,dS,l,bs,-⟩:=Ae w1 ds.toArray 30;obtain⟨w3,dT,V,aK,-⟩:=Ae w2 BQ 35;obtain⟨w4,dU,W,aL,-⟩:=Ae w3 #[.int .i64 0] 3;obtain⟨w5,dV,ad,aM,-⟩:=Ae w4 #[.int .i64 0] 3;obtain⟨L,hL⟩:∃L,L=p.states.length:=⟨_,rfl⟩;obtain⟨w6,c9,ae,bt,-⟩:=Ae w5 #[.int .i64 (L:Int),.int .i64 1,.slice (some ⟨w3.heap.size,0,none⟩) 1 1,.slice (some ⟨w4.heap.size,0,none⟩) 1 1,.slice none 0 0] 35;have dP:∀c:Array Value,c.size=5->(storeCells ⟨w5.heap.size,0,none⟩ [.int .i64 (L:Int),.int .i64 1,.slice (some ⟨w3.heap.size,0,none⟩) 1 1,.slice (some ⟨w4.heap.size,0,none⟩) 1 1,.slice none 0 0] 0).run Tryz.prog (w5.alloc (.cells c 35))=.ok () w6:=fun c hc=>by
  rw [<-c9];exact Dv w5 35 5 (by kernel_rfl) (rc:=#[.int .i64 (L:Int),.int .i64 1,.slice (some ⟨w3.heap.size,0,none⟩) 1 1,.slice (some ⟨w4.heap.size,0,none⟩) 1 1,.slice none 0 0]) rfl (by simp [Value.oneCell']) c hc
 have y:=hide (U.trans (l.mono U.size));have aV:=hide (show PQX w2 w.heap.size w1.heap.size cs.toArray ds.toArray p q from⟨h.keep (fun _ hp=>y.out.cell hp) y.out.size,h'.keep (fun _ hp=>y.out.cell hp) y.out.size,ap.below l,bs,hT.below y.out⟩);have s2:=l.size;have s3:=V.size;have s4:=W.size;have s5:=ad.size;have l3:=aK.lt;have l4:=aL.lt;have l5:=aM.lt;have aE:=V.trans (W.mono s3);have aF:=aE.trans (ad.mono aE.size);have bo:=aF.trans (ae.mono aF.size)
 have aU:=hide (show EbM w2 w6 w2.heap.size w5.heap.size BQ (.int .i64 (L:Int)) (.int .i64 1) (.slice (some ⟨w3.heap.size,0,none⟩) 1 1) (.slice (some ⟨w4.heap.size,0,none⟩) 1 1) (.slice none 0 0) []
   [(w3.heap.size,3,#[.int .i64 0]),(w4.heap.size,3,#[.int .i64 0])] from
  ⟨bo,((aK.below W).below ad).below ae,bt,fun x hx=>by
   simp only [List.mem_cons,List.not_mem_nil,or_false] at hx;rcases hx with rfl|rfl
   ·exact⟨(aL.below ad).below ae,show(3:Nat)≠35 by decide,show(3:Nat)≠83 by decide⟩
   ·exact⟨aM.below ae,show(3:Nat)≠35 by decide,show(3:Nat)≠83 by decide⟩,World.ownsRow_nil _ _ _ _,by omega,⟨Nat.le_refl _,by omega⟩⟩)
 have aT:=bg.L;rw [<-hL] at aT cH;have bD:=aT.1;have a9:L<=8:=by omega
 have ci:=(((((ap.below l).below V).below W).below ad).below ae).cell;have bp:=(ap.below l).below V;have f3:=bp.cell;generalize cK:cs.toArray=pc at*;generalize cY:ds.toArray=qc at*;have aw:=hide bg;have ab:=hide hL;have dK:w.heap.size<=w2.heap.size:=y.out.size;have dN:=hide bX;have bW:=hide bV;have dO:=hide bY;clear h h' bg hT U l V W ad ae ap bs aK aL aM bt aE aF bo bp cK cY cL bY cG bV cM cQ cS cW k1 k2 k3 k4 c9 hL aT bX cV;go_enter Tryz.func38,Tryz.ntmps38;go_wp2_with fail;refine aBI aU.out a9 ?_;iterate 12 (intro _)
 intro w7 vE O;obtain⟨AE,cE,rfl⟩:=AH O.eds;have BS:=(O.oth (w3.heap.size,3,#[.int .i64 0]) List.mem_cons_self).1;have BA:=(O.oth (w4.heap.size,3,#[.int .i64 0]) (List.mem_cons_of_mem _ List.mem_cons_self)).1;have hS:w7.ownsRow w2.heap.size 3 1 (.slice (some ⟨w3.heap.size,0,none⟩) 1 1) ([0]:List Int).length (([0]:List Int).map (Value.int .i64)):=DD (base:=w2.heap.size) (n:=1) BS (by omega) rfl (by omega);have hA:w7.ownsRow w2.heap.size 3 1 (.slice (some ⟨w4.heap.size,0,none⟩) 1 1) ([0]:List Int).length (([0]:List Int).map (Value.int .i64)):=DD (base:=w2.heap.size) (n:=1) BA (by omega) rfl (by omega);have bO:=fun(w'':World) (hk:Ac w7 w'' (fun k=>k=w2.heap.size\/k<w2.heap.size))=>O.fin (n:=1) hk hS hA (fun A n c e=>by cases e;simp) (by simp) (by simp) (by rw [aBe];omega)
 have bw:=hide (show BdM w2 w7 w2.heap.size w5.heap.size _ L [List.replicate L 0] [true] from⟨O.below,O.b4,O.b5,fun w'' hk=>by rw [<-aBE];exact bO w'' hk,⟨Nat.le_refl _,by omega,by omega⟩⟩);have bF:=hide (aV.out.at O.below);have cj:=bF.out.b3.cell;have ct:=aU;clear ct O BS BA hS hA bO aU ci f3;obtain⟨nb,bU⟩:∃nb,nb=q.bad.length:=⟨_,rfl⟩;have bf:=hide bU;clear bU;go_wp2_with fail;refine aBJ aV.out bw.out aw.out bf.out bD a9 (by repeat (first|exact Reg.NoQ.body (fun _ _ h=>h) (fun _ h=>h)|refine Reg.NoQ.then ?_|refine Reg.NoQ.inBlock ?_)) ?_;iterate 19 (intro _)
 intro w8 bq t ac aq aN cB;have j:=hide aq;have hC:=hide aN;have aj:=hide (aV.out.at aq.below);have dx:=aj.out.b3.cell;have dw:=aj.out.b2.cell;obtain⟨dl,dD,dn,dF,az,aG,dr,dI,cZ,cO,cR,cT,cU,Z,cX,d8,d9,ax,db⟩:=aj.out.qr.cells;replace Z:qc[4]?=some (.slice az q.adj.length aG):=Z;clear cO cR cT cU cX cZ d8 d9 db cj bw bF;rcases aw.out.adj with bH|⟨a,b,aY,ha,hb⟩
 ·rw [bH] at Z;replace Z:qc[4]?=some (.slice az 0 aG):=Z;have ak:=hide (aBG (p:=p) aw.out bH);obtain⟨C,I,E,J,G,M,he,-⟩:=j.out.is _ (Ac.refl _ _);generalize (AG L t ac).letters=x0 at he;generalize (AG L t ac).states=x1 at he;generalize (AG L t ac).start.length=n1 at he;generalize (AG L t ac).accept.length=n2 at he;generalize (AG L t ac).edges.length=n3 at he;injection he with he
  subst he;obtain⟨wZ,al,ah,a6⟩:=Wn j.out.b4 #[.int .i64 x0,.int .i64 x1,.slice C n1 I,.slice E n2 J,.slice G n3 M] rfl (by simp [Value.oneCell']);have d5:(storeCells ⟨w2.heap.size,0,none⟩ [.int .i64 x0,.int .i64 x1,.slice C n1 I,.slice E n2 J,.slice G n3 M] 0).run Tryz.prog w8=.ok () wZ:=al;have cD:=Ah j.out.b6 (n:=5) rfl;have bd:=hide (Ah ah (n:=5) rfl);have aR:=hide (fun w'' (hk:Ac wZ w'' (fun k=>k<w.heap.size))=>j.out.is w'' ((a6.mono (fun b _ (e:b=w2.heap.size)=>.inl e)).trans hk (fun b _ (e:b<w.heap.size)=>.inr (by omega))));have aZ:=hide ((y.out.trans (j.out.below.mono y.out.size)).trans (a6.below (by have:=j.out.below.size;omega) fun b hb (e:b=w2.heap.size)=>by omega));have cp:=hide (hC.out.congr (Λ':=UL p q) fun z _=>by rw [ak.out z,bf.out]);have ba:=hide (show ac.length<=1024 by omega);clear al ah a6 j hC aq aN aj ak;go_wp2_with fail;have hl:=bd.out;refine bodyPost_ret (v:=.agg #[.int .i64 x0,.int .i64 x1,.slice C n1 I,.slice E n2 J,.slice G n3 M]) (by simp [results,Tryz.results38,go_sem,hl]) rfl ⟨aZ.out,t,ac,by rw [<-ab.out];exact cp.out,ba.out,by rw [<-ab.out];exact aR.out⟩
 ·rw [aY] at Z ax;replace Z:qc[4]?=some (.slice az 2 aG):=Z;obtain⟨bb,ob,y0,co,b7,cb,bJ⟩:=ax.at (show 0< [a,b].length by simp);obtain⟨dv,e0,y1,aJ,-,cc,bK⟩:=ax.at (show 1< [a,b].length by simp);subst co;injection aJ with aJ
  injection aJ with e1 e2 e3
  subst e1 e2;simp only [List.getElem?_cons_zero,Option.some.injEq] at cb;simp only [List.getElem?_cons_succ,List.getElem?_cons_zero,Option.some.injEq] at cc;subst cb cc;have cz:=bJ 0 (by omega);have cA:=bK 0 (by omega);simp only [Ai,Nat.mul_one,Nat.add_zero] at cz cA;have aW:=hide (show inN (L:Int) a=true by rw [ab.out];exact ha);have b0:=hide (show inN (L:Int) b=true by rw [ab.out];exact hb);obtain⟨rg,tp,c0,dM,d6⟩:∃(rg:Bool) (tp:Int),Hid (rg=decide (p.topo=3))/\pc[1]?=some (.int .i64 tp)/\((rg=false/\tp=2)\/(rg=true/\tp=3)):=by
   rcases aw.out.tp with e|e
   ·exact⟨false,2,hide (by rw [e];rfl),by rw [<-e];exact bW.out,.inl ⟨rfl,rfl⟩⟩
   ·exact⟨true,3,hide (by rw [e];rfl),by rw [<-e];exact bW.out,.inr ⟨rfl,rfl⟩⟩
  have ak:=hide (aBH (p:=p) aY c0.out);have bM:Hid (bq.size=5):=hide (by
   obtain⟨A1,c1,A2,c2,A3,c3,e,-⟩:=j.out.is _ (Ac.refl _ _);injection e with e
   rw [e];rfl)
  have aD:=hide (Ap w8);have cw:=hide (fun(wx:World) (_:Below w8.heap.size w8 wx)=>L6 (w:=wx) (L:=L) (a:=a) (b:=b) rg a9);have dL:=Ah (j.out.b6.below (Ap w8)) bM.out;clear aq aN bJ bK ax ha hb c0 aY aj;rcases d6 with⟨rfl,rfl⟩|⟨rfl,rfl⟩
  all_goals
   go_wp2_with fail;refine Reg.cI [0,0,0,4,12,28,0,64,192,448,0,1024,3072,8190,16382,32767,0,131071,262143] [0,1,2,3,4,5,6,7,8,9,10,11,12,16,13,14,15,17,18] ?_;refine Reg.wI [0,1,2,3,4,5,6,7,8,9,10,11,12,16] [13,14,15,17,18] rfl fun Qf d=>?_;go_wp2_with fail;first|refine d _ _ ⟨rfl,?_⟩|refine⟨rfl,?_⟩|refine d _ _ ⟨by simp [Reg.fineT,Reg.intOp,Region.wanted,yielded,Reg.intFine,Reg.isInt,Act.eval],?_⟩
   (try clear d);refine Reg.aI 13 [14,15,17,18] [0] rfl fun Qf d=>?_;simp only [gT,gS,gZ];go_wp2_with fail;refine Calls.ret (cw.out _ aD.out) ?_;rintro v1 y1 ⟨U,bA⟩;go_wp2_with fail;first|refine d _ _ ⟨Reg.same_below (U) [0] rfl,?_⟩|refine⟨Reg.same_below (U) [0] rfl,?_⟩
   (try clear d);have bm:=hide (aD.out.trans (U.mono aD.out.size));have bN:=KE (k:=16) (by decide) (aBx aW.out b0.out) bA (aA9 aW.out b0.out) (aBy _ _ _ _) ⟨by show(0:Int)<=(L:Int);omega,by show(L:Int)<=8;omega⟩;clear U bA;refine Reg.aI 14 [15,17,18] [0] rfl fun Qf d=>?_;simp only [gT,gS,gZ];go_wp2_with fail;refine Calls.ret bN ?_;intro v2 y2 bZ;obtain⟨l,u,bc,aO,bS,bB⟩:=aBX aW.out b0.out bZ;go_wp2_with fail;first|refine d _ _ ⟨Reg.same_below (l) [0] rfl,?_⟩|refine⟨Reg.same_below (l) [0] rfl,?_⟩
   (try clear d);have aB:=hide (bm.out.trans (l.mono bm.out.size));have b7:bc.length<=400:=by omega
   have bP:=aBq (o:=1) (j.out.is y2 (Ac.of_below aB.out _)) (bB y2 (Ac.refl _ _)) hC.out.ok aO.ok (by omega) b7 bD a9;have cq:=hide aO;have bT:=hide bS;clear bZ l aO bS bB bN b7;refine Reg.aI 15 [17,18] [] rfl fun Qf d=>?_;simp only [gT,gS,gZ];go_wp2_with fail;refine Calls.ret bP ?_;rintro v3 y3 ⟨V,all,hD,bI,hO⟩;have b8:DOK L (AM L (dPr t u) all all.length) (all.map (Us (AL 1) ac bc)):=Fq hD (by simp);have aX:(all.map (Us (AL 1) ac bc)).length=all.length:=List.length_map _;obtain⟨tt,bj⟩:∃tt,tt=AM L (dPr t u) all all.length:=⟨_,rfl⟩;obtain⟨aa,au⟩:∃aa,aa=all.map (Us (AL 1) ac bc):=⟨_,rfl⟩;rw [<-bj,<-au] at hO b8;rw [<-au] at aX;have d7:=hide bj;have cv:=hide au;have cu:=hide aX;clear bj au aX;obtain⟨J1,j1,J2,j2,rfl⟩:=hO.agg;go_wp2_with fail;first|refine d _ _ ⟨Reg.nm,?_⟩|refine⟨Reg.nm,?_⟩
   (try clear d);have aC:=hide (aB.out.trans (V.mono aB.out.size));have cJ:ac.length*bc.length<=200000:=Nat.le_trans (Nat.mul_le_mul (show ac.length<=400 by omega) (show bc.length<=400 by have:=bT.out;omega)) (by decide);have be:aa.length<=200000:=by rw [cu.out];omega
   have bL:=hide (RV (aA4 hO b8 be a9) be a9);have cr:=hide hD;have cx:=hide bI;clear V hD bI hO bP cJ b8 be;refine Reg.aI 17 [18] [] rfl fun Qf d=>?_;simp only [gT,gS,gZ];go_wp2_with fail;refine Calls.ret bL.out ?_;intro v4 y4 bi;rw [d7.out,cv.out] at bi;obtain⟨W,t',a4,bx,bQ,aQ⟩:=aBj hC.out cq.out cr.out cx.out bi;obtain⟨C,I,E,J,G,M,rfl,-,-,-,-⟩:=aQ y4 (Ac.refl _ _);go_wp2_with fail;first|refine d _ _ ⟨Reg.nm,?_⟩|refine⟨Reg.nm,?_⟩
   (try clear d);have bn:=hide (aC.out.trans (W.mono aC.out.size));have bz:=hide bx;have bR:=hide bQ;have a5:=hide aQ;have d0:=hide aC.out.size;have bu:=j.out.b6.below bn.out;clear bi W bx bQ aQ bL;generalize (AG L t' a4).letters=x0 at a5 ⊢;generalize (AG L t' a4).states=x1 at a5 ⊢;generalize (AG L t' a4).start.length=n1 at a5 ⊢;generalize (AG L t' a4).accept.length=n2 at a5 ⊢;generalize (AG L t' a4).edges.length=n3 at a5 ⊢;obtain⟨wF,c8,bv,bC⟩:=Wn bu #[.int .i64 x0,.int .i64 x1,.slice C n1 I,.slice E n2 J,.slice G n3 M] (by show 5=bq.size;rw [bM.out]) (by simp [Value.oneCell']);have dQ:(storeCells ⟨w5.heap.size,0,none⟩ [.int .i64 x0,.int .i64 x1,.slice C n1 I,.slice E n2 J,.slice G n3 M] 0).run Tryz.prog y4=.ok () wF:=c8;have af:=hide (j.out.next bn.out bC bv d0.out a5.out);clear c8 bv bC bu a5;refine Reg.aI 18 [] [] rfl fun Qf d=>?_;simp only [gT,gS,gZ];go_wp2_with fail;first|refine d _ _ ⟨Reg.nm,?_⟩|refine⟨Reg.nm,?_⟩
   (try clear d);refine Reg.restI_end ?_;have cF:=hide (bz.out.congr (Λ':=UL p q) fun z _=>by rw [ak.out z,bf.out]);obtain⟨wZ,al,ah,a6⟩:=Wn af.out.b4 #[.int .i64 x0,.int .i64 x1,.slice C n1 I,.slice E n2 J,.slice G n3 M] rfl (by simp [Value.oneCell']);have d5:(storeCells ⟨w2.heap.size,0,none⟩ [.int .i64 x0,.int .i64 x1,.slice C n1 I,.slice E n2 J,.slice G n3 M] 0).run Tryz.prog wF=.ok () wZ:=al;have cD:=Ah af.out.b6 (n:=5) rfl;have bd:=hide (Ah ah (n:=5) rfl);have aR:=hide (fun w'' (hk:Ac wZ w'' (fun k=>k<w.heap.size))=>af.out.is w'' ((a6.mono (fun b _ (e:b=w2.heap.size)=>.inl e)).trans hk (fun b _ (e:b<w.heap.size)=>.inr (by omega))));have aZ:=hide ((y.out.trans (af.out.below.mono y.out.size)).trans (a6.below (by have:=af.out.below.size;omega) fun b hb (e:b=w2.heap.size)=>by omega));have ba:=hide (show a4.length<=1024 from Nat.le_trans bR.out (Nat.mul_le_mul cB bT.out));clear al ah a6 j hC af ak bz bR;go_wp2_with fail;have hl:=bd.out;refine bodyPost_ret (v:=.agg #[.int .i64 x0,.int .i64 x1,.slice C n1 I,.slice E n2 J,.slice G n3 M]) (by simp [results,Tryz.results38,go_sem,hl]) rfl ⟨aZ.out,t',a4,by rw [<-ab.out];exact cF.out,ba.out,by rw [<-ab.out];exact aR.out⟩
end Go.Proofs.YtfcfpoemojjglaaGreatDoor
namespace Go.Proofs.YtfcfpoemojjglaaGreatDoor
open Go.RowKit
open K (Am AB At Ba PQX Ah)
attribute [-go_sem] loadCellsFrom
set_option maxHeartbeats 16000000
set_option maxRecDepth 100000
theorem aCd {w:World} {cs ds:List Value} {p:Am} {q:AB} (h:At w w.heap.size cs p) (h':Ba w w.heap.size ds q) (aw:p.Small) (ax:q.Small) (hT:K.SpOK w) (hP:BV w):
  Calls Tryz.prog 15 #[.agg cs.toArray,.agg ds.toArray] w (Ret fun r w'=>Ej w (K.checkW K.nameOK p q) p.states.length (UL p q) r w'):=by
 obtain⟨B1,d1,B2,d2,B3,d3,B4,d4,af,-⟩:=h'.cells;obtain⟨A1,c1,A2,c2,A3,c3,A4,c4,A5,c5,A6,c6,A7,c7,ae,-,-,av,-⟩:=h.cells;obtain⟨w1,bu,a7,an,aH⟩:=Ae w cs.toArray 27;obtain⟨w2,bv,a8,ao,aJ⟩:=Ae w1 ds.toArray 30;obtain⟨w3,bw,Z,a5,aK⟩:=Ae w2 BQ 35;have W:=a7.trans (a8.mono a7.size);have j:=hide (W.trans (Z.mono W.size));have V:=hide (show PQX w3 w.heap.size w1.heap.size cs.toArray ds.toArray p q from⟨h.keep (fun _ hp=>j.out.cell hp) j.out.size,h'.keep (fun _ hp=>j.out.cell hp) j.out.size,(an.below a8).below Z,ao.below Z,hT.below j.out⟩);have ay:=hide a5;have bm:=a5.lt;have br:=W.size;generalize aR:cs.toArray=pc at*;generalize aU:ds.toArray=qc at*;obtain⟨y,M⟩:∃e,Hid (K.checkW K.nameOK p q=e):=⟨_,rfl⟩;have aC:Hid (∀wx,Hid (PQX wx w.heap.size w1.heap.size pc qc p q)->Calls Tryz.prog 35 #[.agg pc,.agg qc] wx (Ret fun v w'=>v=.int .i64 y/\Below wx.heap.size wx w')):=hide (fun wx l=>by
  rw [<-M.out];exact K.refCheck_any (cs:=pc.toList) (ds:=qc.toList) l.out.pr l.out.qr aw ax l.out.tab)
 have aS:=hide ae;have aV:=hide af;have bq:=hide av;have aL:=Ah V.out.b2 ae;have aN:=Ah V.out.b3 af;have bi:=hide hP;have aF:Hid (y=0->∀wx,Hid (PQX wx w.heap.size w1.heap.size pc qc p q)->Below w.heap.size w wx->Calls Tryz.prog 38 #[.agg pc,.agg qc] wx (Ret fun r w'=>Below wx.heap.size wx w'/\∃t ac,BH p.states.length t ac (UL p q)/\ac.length<=1024/\∀w'',Ac w' w'' (fun k=>k<wx.heap.size)->Bj w'' w''.heap.size r (AG p.states.length t ac))):=hide (fun he wx l bj=>by
  have bp:=FK (M.out.trans he);exact by
   have ad:=Hf (M.out.trans he);exact aCe (cs:=pc.toList) (ds:=qc.toList) l.out.pr l.out.qr (U7 ad.1 ad.2.2 ad.2.1) l.out.tab)
 rw [M.out];clear h h' a7 a8 Z W an ao a5 aH aJ aK aR aU hT hP ae af av aw ax M;go_enter Tryz.func15,Tryz.ntmps15;go_wp2_with fail;refine Calls.ret (aC.out _ V) ?_;rintro v w4 ⟨rfl,a2⟩;have a6:=hide (V.out.at a2);have I:=hide (j.out.trans (a2.mono j.out.size));have E:=hide (ay.out.below a2);have aM:=Ah a6.out.b2 aS.out;have aO:=Ah a6.out.b3 aV.out;have aP:=E.out.lt;have aD:=E.out.frozen;have aB:=E.out.cell;clear a2 aL aN;by_cases C:y=0
 case neg=>
  have aT:(y != 0)=true:=by simp [C]
  have O:=hide C;obtain⟨wF,ag,J,G⟩:=Dn E.out (.int .i64 0) (.int .i64 0) sn0 sn0 sn0;have a9:=hide (I.out.trans (G.below I.out.size fun b hb (e:b=w2.heap.size)=>by omega));have aa:(loadCellsFrom ⟨w2.heap.size,0,none⟩ 0 5 #[]).run Tryz.prog wF=.ok _ wF:=Ah J rfl;unfold CK at ag;clear C J G;go_wp2_with fail;refine bodyPost_ret (v:=.tuple #[.agg BQ,.int .i64 y]) (by simp [results,Tryz.results15,go_sem,aa]) rfl ⟨a9.out,.inl ⟨O.out,rfl⟩⟩
 have aT:(y != 0)=false:=by simp [C]
 have O:=hide C;clear C;go_wp2_with fail;refine Calls.ret (aF.out O.out _ a6 I.out) ?_;rintro r w6 ⟨a3,t,ac,hC,hn,d⟩;obtain⟨ah,ak,ai,al,aj,am,rfl,-,-,-,-⟩:=d w6 (Ac.refl _ _);have az:=hide hC;have aQ:=hide hn;have U:=hide (E.out.below a3);have aA:=hide (I.out.trans (a3.mono I.out.size));have bl:=U.out.frozen;have bn:=U.out.lt;have bk:=U.out.cell;have bt:=a3.size;have bs:=I.out.size;have bo:=E.out.lt;clear a3 hC hn aB aD aP aM aO;generalize (AG p.states.length t ac).letters=x0 at d ⊢;generalize (AG p.states.length t ac).states=x1 at d ⊢;generalize (AG p.states.length t ac).start.length=n1 at d ⊢;generalize (AG p.states.length t ac).accept.length=n2 at d ⊢;generalize (AG p.states.length t ac).edges.length=n3 at d ⊢;obtain⟨wF,ag,J,G⟩:=Dn U.out (.int .i64 x0) (.int .i64 x1) (.slice ah n1 ak) (.slice ai n2 al) (.slice aj n3 am);have aa:(loadCellsFrom ⟨w2.heap.size,0,none⟩ 0 5 #[]).run Tryz.prog wF=.ok _ wF:=Ah J rfl;have a9:=hide (aA.out.trans (G.below (by omega) fun b hb (e:b=w2.heap.size)=>by omega));have aE:=hide (fun w'' (hk:Ac wF w'' (fun k=>k<w.heap.size))=>d w'' ((G.mono (fun b _ (e:b=w2.heap.size)=>by omega)).trans hk (fun b _ (e:b<w.heap.size)=>by omega)));unfold CK at ag;clear d J G;go_wp2_with fail;refine bodyPost_ret (v:=.tuple #[.agg #[.int .i64 x0,.int .i64 x1,.slice ah n1 ak,.slice ai n2 al,.slice aj n3 am],.int .i64 0]) (by simp [results,Tryz.results15,go_sem,aa]) rfl ⟨a9.out,.inr ⟨O.out,t,ac,_,az.out,aQ.out,rfl,aE.out⟩⟩
end Go.Proofs.YtfcfpoemojjglaaGreatDoor
