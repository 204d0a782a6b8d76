/-
  Part TK of a proof.
-/
import Derived.Test.YtjejejmeddkciaaGreatDoorPA
import Derived.Test.YtjejejmeddkciaaGreatDoorPB
import Derived.Test.YtjejejmeddkciaaGreatDoorSF
import Derived.Test.YtjejejmeddkciaaGreatDoorTJ
import Derived.Test.YtjejejmeddkciaaGreatDoorPE
import Derived.Test.YtjejejmeddkciaaGreatDoorCI
set_option maxHeartbeats 16000000
set_option maxRecDepth 100000
set_option linter.unusedVariables false
set_option linter.unusedSimpArgs false
namespace Go.Proofs.YtjejejmeddkciaaGreatDoor
open Go.RowKit
attribute [-go_sem] loadCellsFrom storeCells
theorem Wn {w:World} {g:Nat} {t:TypeId} {C:Array Value} (h:Blk w g t C) (vs:Array Value) (I:vs.size=C.size) (h1:vs.all (·.oneCell')=true):
  ∃E,(storeCells ⟨g,0,none⟩ vs.toList 0).run Tryz.prog w=.ok () E/\Blk E g t vs/\Ac w E (fun k=>k=g):=by
 have F:=run_storeCells_from (P:=Tryz.prog) g t vs.toList 0 C w h (by simp [I]) (fun v J=>by
  rw [<-Array.all_toList] at h1;exact List.all_eq_true.1 h1 v J)
 rw [List.take_zero,List.nil_append,Array.toArray_toList] at F;exact⟨_,F,setRow_heap w g C vs t (0,0) h,⟨rfl,rfl,rfl,by simp [World.setRow],fun b _ G=>setRow_other w g b vs G⟩⟩
theorem W3 {w:World} {g o:Nat} {v old:Value} (C:w.cell? ⟨g,o,none⟩=some old) (E:w.frozen? ⟨g,o,none⟩=false) (h1:v.oneCell'=true):(storeCells ⟨g,o,none⟩ [v] 0).run Tryz.prog w=.ok () (w.setCell ⟨g,o,none⟩ v):=by
 have h:(⟨g,o,none⟩:Addr).add 0=⟨g,o,none⟩:=rfl;simp only [storeCells,Sem.run_bind,h,run_store _ w _ v _ h1,C];simp [E]
end Go.Proofs.YtjejejmeddkciaaGreatDoor
namespace Go.Proofs.YtjejejmeddkciaaGreatDoor
open Go.RowKit
open K (Am Az Ah Dv EQ Kc)
attribute [-go_sem] loadCellsFrom storeCells
set_option maxHeartbeats 16000000
set_option maxRecDepth 100000
structure Qc (wd wc:World) (t1 t2:TypeId) (c1 c2:Array Value) (o1 o2:Option Nat) (ov:Option Value) (m:Nat) (l:List Int):Prop where
 below:Below wd.heap.size wd wc
 b1:∀g,o1=some g->wd.heap.size<=g/\Blk wc g t1 c1
 b2:∀g,o2=some g->wd.heap.size<=g/\Blk wc g t2 c2
 own:∀v,ov=some v->wc.ownsRow wd.heap.size 3 1 v m (l.map fun x=>.int .i64 x)
section
variable {wd wc wn:World} {t1 t2:TypeId} {c1 c2:Array Value} {o1 o2:Option Nat} {ov:Option Value} {m:Nat} {l:List Int}
theorem Qc.next (h:Qc wd wc t1 t2 c1 c2 o1 o2 ov m l) (C:Below wc.heap.size wc wn):Qc wd wn t1 t2 c1 c2 o1 o2 ov m l:=
 ⟨h.below.trans (C.mono h.below.size),fun g e=>⟨(h.b1 g e).1,(h.b1 g e).2.below C⟩,fun g e=>⟨(h.b2 g e).1,(h.b2 g e).2.below C⟩,fun v e=>EQ (h.own v e) C⟩
theorem Qc.put1 (h:Qc wd wc t1 t2 c1 c2 o1 o2 ov m l):∃wn,wc.alloc (.cells c1 t1)=wn/\Qc wd wn t1 t2 c1 c2 (some wc.heap.size) o2 ov m l/\wc.heap.size<wn.heap.size:=by
 obtain⟨wn,F,E,C,-⟩:=Ae wc c1 t1;have h1:=h.next E
 exact⟨wn,F,⟨h1.below,fun g e=>by cases e;exact⟨h.below.size,C⟩,h1.b2,h1.own⟩,C.lt⟩
theorem Qc.put2 (h:Qc wd wc t1 t2 c1 c2 o1 o2 ov m l):∃wn,wc.alloc (.cells c2 t2)=wn/\Qc wd wn t1 t2 c1 c2 o1 (some wc.heap.size) ov m l/\wc.heap.size<wn.heap.size:=by
 obtain⟨wn,F,E,C,-⟩:=Ae wc c2 t2;have h1:=h.next E
 exact⟨wn,F,⟨h1.below,h1.b1,fun g e=>by cases e;exact⟨h.below.size,C⟩,h1.own⟩,C.lt⟩
theorem Qc.row {v:Value} (h:Qc wd wc t1 t2 c1 c2 o1 o2 ov m l) (C:Below wc.heap.size wc wn) (ho:wn.ownsRow wc.heap.size 3 1 v m (l.map fun x=>.int .i64 x)):Qc wd wn t1 t2 c1 c2 o1 o2 (some v) m l:=by
 have h1:=h.next C
 exact⟨h1.below,h1.b1,h1.b2,fun E e=>by cases e;exact Kc ho h.below.size⟩
theorem Qc.fin {C g2:Nat} {v:Value} (h:Qc wd wc t1 t2 c1 c2 (some C) (some g2) (some v) m l) (ab:t1≠t2) (a8:3≠t1) (a9:3≠t2) (a1 F:Array Value) (h1:a1.size=c1.size) (h2:F.size=c2.size) (ad:a1.all (·.oneCell')=true) (ae:F.all (·.oneCell')=true):
  ∃I E,(storeCells ⟨C,0,none⟩ a1.toList 0).run Tryz.prog wc=.ok () I/\(storeCells ⟨g2,0,none⟩ F.toList 0).run Tryz.prog I=.ok () E/\Below wd.heap.size wd E/\wd.heap.size<=C/\wd.heap.size<=g2/\Blk E C t1 a1/\Blk E g2 t2 F/\E.ownsRow wd.heap.size 3 1 v m (l.map fun x=>.int .i64 x):=by
 obtain⟨x1,J⟩:=h.b1 C rfl;obtain⟨x2,O⟩:=h.b2 g2 rfl;have Z:=Blk.ne_ J O ab;have V:=h.own v rfl;obtain⟨I,e1,BE,G⟩:=Wn J a1 h1 ad;have U:=O.kept G (fun e:g2=C=>Z e.symm);have W:=G.ownsRow V fun g hv (e:g=C)=>Aw V J a8 (by rw [hv,e]);obtain⟨E,e2,BF,M⟩:=Wn U F h2 ae;have aa:=M.ownsRow W fun g hv (e:g=g2)=>Aw W U a9 (by rw [hv,e]);exact⟨I,E,e1,e2,(h.below.trans (G.below h.below.size fun b hb (e:b=C)=>by omega)).trans (M.below (Nat.le_trans h.below.size G.size) fun b hb (e:b=g2)=>by omega),x1,x2,BE.kept M Z,BF,aa⟩
end
def Wo (w0:World) (m:Nat) (l:List Int) (v:Value) (w':World):Prop:=∃Z0 z0 A' c' Z3 z3 Z4 z4,v=.agg #[.slice Z0 0 z0,.slice A' m c',.int .i64 (m:Int),.slice Z3 0 z3,.slice Z4 0 z4,.int .i64 0]/\w'.ownsRow w0.heap.size 3 1 (.slice A' m c') m (l.map fun x=>.int .i64 x)
theorem Yq {w:World} {g3 g4 g5 m cap n nr b off c7 i y0 y3 y4:Nat} {k:Int} {pc rc:Array Value} {A Y0 Y3 Y4:Option Addr} {l:List Int} (ck:Blk w g3 27 pc) (cx:pc[9]?=some (.slice (some ⟨b,off,none⟩) nr c7)) (hn:(n:Int)<(nr:Int)) (cm:Blk w g4 46 #[.slice Y0 0 y0,.slice A m cap,.int .i64 (m:Int),.slice Y3 0 y3,.slice Y4 0 y4,.int .i64 0]) (cn:Blk w g5 52 #[.int .i64 (n:Int),.int .i64 (i:Int),.int .i64 k])
    (cJ:(loadCellsFrom ⟨b,off+n*18,none⟩ 0 18 #[]).run Tryz.prog w.drew=.ok rc w.drew) (cw:rc.size=18) (cv:rc.all (·.oneCell')=true)
    (cr:∀E,Below w.drew.heap.size w.drew E->Calls Tryz.prog 70 #[.agg #[.slice Y0 0 y0,.slice A m cap,.int .i64 (m:Int),.slice Y3 0 y3,.slice Y4 0 y4,.int .i64 0]] E (Ret fun v w'=>Below E.heap.size E w'/\Wo E m l v w'))
    {Z u1 u2 u6 u7 u8 u9 a3 af aq cO cQ cR cS cT cU cV cW aJ aK aL aM aN aO aP aQ aR aS aT aU aV aW aX aY aZ b0 b4 b5 b6 b7 b8 b9 ba bb bc bd be bf bg bh bi bj bk bl bm bn bo bq br bs bt u64 bu bv bw bx bz bB bC bD bE bF bG bH bI bJ bK bL bM bN bO bP bQ bR bS bT bU bV bW bX bY bZ c0 c4 c5 c6 c8 a4 a5 a6 a7 a8 a9 aa ab ad ae ag ah ai aj ak al am an ao ap ar au av aw ax ay az aA aB aC aD aE aF aG:Value}
    {Q:Exit->Act->World->Prop} (hN:Reg.NoQ Q)
    (hQ:∀(c9 ca cb cc cd ce cf cg:Value) (w':World) (I g9:Nat) (Z0:Option Addr) (z0:Nat) (G:Option Addr) (J:Nat) (Z3:Option Addr) (z3:Nat) (Z4:Option Addr) (z4:Nat),Below w.drew.heap.size w.drew w'->w.drew.heap.size<=I->w.drew.heap.size<=g9->Blk w' I 109 rc->Blk w' g9 46 #[.slice Z0 0 z0,.slice G m J,.int .i64 (m:Int),.slice Z3 0 z3,.slice Z4 0 z4,.int .i64 0]->w'.ownsRow w.drew.heap.size 3 1 (.slice G m J) m (l.map fun x=>.int .i64 x)->
      Q .normal ⟨List.toArray (Z::u1::u2::(.pointer (some ⟨g3,0,none⟩))::(.pointer (some ⟨g4,0,none⟩))::(.pointer (some ⟨g5,0,none⟩))::u6::u7::(.pointer (some ⟨I,0,none⟩))::(.pointer (some ⟨g9,0,none⟩))::a3::af::aq::c9::ca::cb::cc::cd::
      ce::cf::cg::aJ::aK::aL::aM::aN::aO::aP::aQ::aR::aS::aT::aU::aV::aW::aX::aY::aZ::b0::b4::b5::b6::b7::b8::b9::ba::bb::bc::bd::be::bf::bg::bh::bi::bj::
      bk::bl::bm::bn::bo::bq::br::bs::bt::u64::bu::bv::bw::bx::bz::bB::bC::bD::bE::bF::bG::bH::bI::bJ::bK::bL::bM::bN::bO::bP::bQ::bR::bS::bT::bU::bV::bW::
      bX::bY::bZ::c0::c4::c5::c6::c8::a4::a5::a6::a7::a8::a9::aa::ab::ad::ae::ag::ah::ai::aj::ak::al::am::an::ao::ap::ar::au::av::aw::ax::ay::
      az::aA::aB::aC::aD::aE::aF::aG::[]),[]⟩ w'):
    (Eu Tryz.f34 1).wp Tryz.prog Q ⟨List.toArray (Z::u1::u2::(.pointer (some ⟨g3,0,none⟩))::(.pointer (some ⟨g4,0,none⟩))::(.pointer (some ⟨g5,0,none⟩))::u6::u7::u8::u9::a3::af::aq::cO::cQ::cR::cS::cT::cU::cV::cW::aJ::aK::aL::aM::aN::
      aO::aP::aQ::aR::aS::aT::aU::aV::aW::aX::aY::aZ::b0::b4::b5::b6::b7::b8::b9::ba::bb::bc::bd::be::bf::bg::bh::bi::bj::bk::bl::bm::bn::bo::bq::br::bs::
      bt::u64::bu::bv::bw::bx::bz::bB::bC::bD::bE::bF::bG::bH::bI::bJ::bK::bL::bM::bN::bO::bP::bQ::bR::bS::bT::bU::bV::bW::bX::bY::bZ::c0::c4::c5::c6::c8::
      a4::a5::a6::a7::a8::a9::aa::ab::ad::ae::ag::ah::ai::aj::ak::al::am::an::ao::ap::ar::au::av::aw::ax::ay::az::aA::aB::aC::aD::aE::aF::
      aG::[]),[]⟩ w:=by
  conv=>arg 2;whnf
  refine Reg.region_spl [0,1,0,4,15,31,0,64,0,0,1023,2047] (.node 7 8 (.node 7 9 (.node 8 9 (.leaf [0,1,2,3,4,5,6,7,8,9,10,11]) (.leaf [0,1,2,3,4,5,6,7,9,8,10,11])) (.leaf [0,1,2,3,4,5,6,9,7,8,10,11])) (.node 7 9 (.leaf [0,1,2,3,4,5,6,8,7,9,10,11]) (.node 8 9 (.leaf [0,1,2,3,4,5,6,8,9,7,10,11]) (.leaf [0,1,2,3,4,5,6,9,8,7,10,11])))) (by kernel_rfl) hN ?_;dsimp only [Reg.Spl.goal];have U:=Ap w;have F:Hid (Qc w.drew w.drew 109 46 #[.string ⟨#[]⟩,.int .i64 0,.int .i64 0,.int .i64 0,.int .i64 0,.int .i64 0,.slice none 0 0,.slice none 0 0,.slice none 0 0,.slice none 0 0,.int .i64 0,.int .i64 0,.slice none 0 0,.int .i64 0,.slice none 0 0,.slice none 0 0,.slice none 0 0,.int .i64 0] #[.slice none 0 0,.slice none 0 0,.int .i64 0,.slice none 0 0,.slice none 0 0,.int .i64 0] none none none m l):=hide ⟨Below.refl _ _,fun g e=>(by cases e),fun g e=>(by cases e),fun g e=>(by cases e)⟩;have cE:=((ck.below U).cell 9).trans cx;have cF:=((cn.below U).cell 0);have cH:=Ah (cm.below U) (n:=6) rfl;have cG:Hid (∀E,Below w.drew.heap.size w.drew E->Calls Tryz.prog 70 #[.agg #[.slice Y0 0 y0,.slice A m cap,.int .i64 (m:Int),.slice Y3 0 y3,.slice Y4 0 y4,.int .i64 0]] E (Ret fun v w'=>Below E.heap.size E w'/\Wo E m l v w')):=hide fun E hx=>cr E hx
  have cD:∀(c9 ca cb cc cd ce cf cg:Value) (w':World) (I g9:Nat) (Z0:Option Addr) (z0:Nat) (G:Option Addr) (J:Nat) (Z3:Option Addr) (z3:Nat) (Z4:Option Addr) (z4:Nat),Below w.drew.heap.size w.drew w'->w.drew.heap.size<=I->w.drew.heap.size<=g9->Blk w' I 109 rc->Blk w' g9 46 #[.slice Z0 0 z0,.slice G m J,.int .i64 (m:Int),.slice Z3 0 z3,.slice Z4 0 z4,.int .i64 0]->w'.ownsRow w.drew.heap.size 3 1 (.slice G m J) m (l.map fun x=>.int .i64 x)->
      Q .normal ⟨List.toArray (Z::u1::u2::(.pointer (some ⟨g3,0,none⟩))::(.pointer (some ⟨g4,0,none⟩))::(.pointer (some ⟨g5,0,none⟩))::u6::u7::(.pointer (some ⟨I,0,none⟩))::(.pointer (some ⟨g9,0,none⟩))::a3::af::aq::c9::ca::cb::cc::cd::
      ce::cf::cg::aJ::aK::aL::aM::aN::aO::aP::aQ::aR::aS::aT::aU::aV::aW::aX::aY::aZ::b0::b4::b5::b6::b7::b8::b9::ba::bb::bc::bd::be::bf::bg::bh::bi::bj::
      bk::bl::bm::bn::bo::bq::br::bs::bt::u64::bu::bv::bw::bx::bz::bB::bC::bD::bE::bF::bG::bH::bI::bJ::bK::bL::bM::bN::bO::bP::bQ::bR::bS::bT::bU::bV::bW::
      bX::bY::bZ::c0::c4::c5::c6::c8::a4::a5::a6::a7::a8::a9::aa::ab::ad::ae::ag::ah::ai::aj::ak::al::am::an::ao::ap::ar::au::av::aw::ax::ay::
      az::aA::aB::aC::aD::aE::aF::aG::[]),[]⟩ w':=hQ
  have cL:=hide cw;have cK:=hide cv;clear hQ cr ck cm cn U cx cw cv;generalize w.drew=wd at*
  repeat' (with_reducible refine And.intro ?_ ?_)
  all_goals
    refine Reg.rest_walkE [0,1,2,3,4,5,6] _ rfl rfl (by kernel_rfl) ?_;intro Qf C;go_wp2_with fail;refine C _ _ ?_;clear C cE cF cH cJ
    iterate 3
      first
      | (refine Reg.rest_walkE [8] _ rfl rfl (by kernel_rfl) ?_
         intro Qf C;obtain⟨wn,W,h,O⟩:=F.out.put1;obtain⟨I,ct⟩:=Ws O;rw [ct] at h;have h:=hide h;go_wp2_with fail;refine C _ _ ?_;clear C F W ct O;have F:=h;clear h)
      | (refine Reg.rest_walkE [9] _ rfl rfl (by kernel_rfl) ?_
         intro Qf C;obtain⟨wn,W,h,O⟩:=F.out.put2;obtain⟨g9,cu⟩:=Ws O;rw [cu] at h;have h:=hide h;go_wp2_with fail;refine C _ _ ?_;clear C F W cu O;have F:=h;clear h)
      | (refine Reg.rest_act' 7 _ [1,3,5] rfl (by kernel_rfl) ?_
         intro Qf C;try simp only [gT,gS,gZ]
         go_wp2_with fail;refine Calls.ret (cG.out _ F.out.below) ?_;rintro v wm ⟨V,Z0,z0,G,J,Z3,z3,Z4,z4,rfl,cq⟩;have h:=hide (F.out.row V cq);clear F cq;go_wp2_with fail;first|refine C _ _ ⟨Reg.same_below (V) [1,3,5] rfl,?_⟩|refine⟨Reg.same_below (V) [1,3,5] rfl,?_⟩
         (try clear C);clear V;have F:=h;clear h)
    refine Reg.rest_walkE [10,11] [] rfl rfl (by kernel_rfl) ?_;intro Qf C;obtain⟨wE,wF,hE,hF,hB,x1,x2,B1,B2,hO⟩:=F.out.fin (by decide) (by decide) (by decide) rc #[.slice Z0 0 z0,.slice G m J,.int .i64 (m:Int),.slice Z3 0 z3,.slice Z4 0 z4,.int .i64 0] cL.out rfl cK.out (by simp [Value.oneCell']);have M:=hide (And.intro hB (And.intro x1 (And.intro x2 (And.intro B1 (And.intro B2 hO)))));have d1:(storeCells ⟨g9,0,none⟩ [.slice Z0 0 z0,.slice G m J,.int .i64 (m:Int),.slice Z3 0 z3,.slice Z4 0 z4,.int .i64 0] 0).run Tryz.prog wE=.ok () wF:=hF;clear F hB x1 x2 B1 B2 hO hF;go_wp2_with fail;first|refine C _ _ ?_|skip
    (try clear C);refine Reg.rest_end ?_;exact cD _ _ _ _ _ _ _ _ _ I g9 Z0 z0 G J Z3 z3 Z4 z4 M.out.1 M.out.2.1 M.out.2.2.1 M.out.2.2.2.1 M.out.2.2.2.2.1 M.out.2.2.2.2.2
end Go.Proofs.YtjejejmeddkciaaGreatDoor
