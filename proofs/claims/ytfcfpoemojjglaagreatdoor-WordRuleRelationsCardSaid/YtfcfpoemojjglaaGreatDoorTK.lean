/-
  Part TK of a proof.
-/
import Derived.Test.YtfcfpoemojjglaaGreatDoorPA
import Derived.Test.YtfcfpoemojjglaaGreatDoorSF
import Derived.Test.YtfcfpoemojjglaaGreatDoorTJ
import Derived.Test.YtfcfpoemojjglaaGreatDoorPE
import Derived.Test.YtfcfpoemojjglaaGreatDoorCI
set_option maxHeartbeats 16000000
set_option maxRecDepth 100000
set_option linter.unusedVariables false
set_option linter.unusedSimpArgs false
namespace Go.Proofs.YtfcfpoemojjglaaGreatDoor
open Go.RowKit
open K (Am Az Ah Dv EQ Kc)
attribute [-go_sem] loadCellsFrom storeCells
set_option maxHeartbeats 16000000
set_option maxRecDepth 100000
theorem Wn {w:World} {g:Nat} {t:TypeId} {x:Array Value} (h:Blk w g t x) (vs:Array Value) (F:vs.size=x.size) (h1:vs.all (·.oneCell')=true):
  ∃y,(storeCells ⟨g,0,none⟩ vs.toList 0).run Tryz.prog w=.ok () y∧Blk y g t vs∧Ac w y (fun k=>k=g):=by
 have C:=run_storeCells_from (P:=Tryz.prog) g t vs.toList 0 x w h (by simp [F]) (fun v G=>by
  rw [←Array.all_toList] at h1
  exact List.all_eq_true.1 h1 v G)
 rw [List.take_zero,List.nil_append,Array.toArray_toList] at C
 exact⟨_,C,setRow_heap w g x vs t (0,0) h,⟨rfl,rfl,rfl,by simp [World.setRow],fun b _ E=>setRow_other w g b vs E⟩⟩
structure Qc (wd wc:World) (t1 t2:TypeId) (c1 c2:Array Value) (o1 o2:Option Nat) (ov:Option Value) (m:Nat) (l:List Int):Prop where
 below:Below wd.heap.size wd wc
 b1:∀g,o1=some g→wd.heap.size≤g∧Blk wc g t1 c1
 b2:∀g,o2=some g→wd.heap.size≤g∧Blk wc g t2 c2
 own:∀v,ov=some v→wc.ownsRow wd.heap.size 3 1 v m (l.map fun x=>.int .i64 x)
section
variable {wd wc wn:World} {t1 t2:TypeId} {c1 c2:Array Value} {o1 o2:Option Nat} {ov:Option Value} {m:Nat} {l:List Int}
theorem Qc.next (h:Qc wd wc t1 t2 c1 c2 o1 o2 ov m l) (x:Below wc.heap.size wc wn):Qc wd wn t1 t2 c1 c2 o1 o2 ov m l:=
 ⟨h.below.trans (x.mono h.below.size),fun g e=>⟨(h.b1 g e).1,(h.b1 g e).2.below x⟩,fun g e=>⟨(h.b2 g e).1,(h.b2 g e).2.below x⟩,fun v e=>EQ (h.own v e) x⟩
theorem Qc.put1 (h:Qc wd wc t1 t2 c1 c2 o1 o2 ov m l):∃wn,wc.alloc (.cells c1 t1)=wn∧Qc wd wn t1 t2 c1 c2 (some wc.heap.size) o2 ov m l∧wc.heap.size<wn.heap.size:=by
 obtain⟨wn,C,y,x,-⟩:=Ae wc c1 t1
 have h1:=h.next y
 exact⟨wn,C,⟨h1.below,fun g e=>by cases e; exact⟨h.below.size,x⟩,h1.b2,h1.own⟩,x.lt⟩
theorem Qc.put2 (h:Qc wd wc t1 t2 c1 c2 o1 o2 ov m l):∃wn,wc.alloc (.cells c2 t2)=wn∧Qc wd wn t1 t2 c1 c2 o1 (some wc.heap.size) ov m l∧wc.heap.size<wn.heap.size:=by
 obtain⟨wn,C,y,x,-⟩:=Ae wc c2 t2
 have h1:=h.next y
 exact⟨wn,C,⟨h1.below,h1.b1,fun g e=>by cases e; exact⟨h.below.size,x⟩,h1.own⟩,x.lt⟩
theorem Qc.row {v:Value} (h:Qc wd wc t1 t2 c1 c2 o1 o2 ov m l) (y:Below wc.heap.size wc wn) (ho:wn.ownsRow wc.heap.size 3 1 v m (l.map fun x=>.int .i64 x)):Qc wd wn t1 t2 c1 c2 o1 o2 (some v) m l:=by
 have h1:=h.next y
 exact⟨h1.below,h1.b1,h1.b2,fun C e=>by cases e; exact Kc ho h.below.size⟩
theorem Qc.fin {y g2:Nat} {v:Value} (h:Qc wd wc t1 t2 c1 c2 (some y) (some g2) (some v) m l) (aa:t1≠t2) (a7:3≠t1) (a8:3≠t2) (a1 E:Array Value) (h1:a1.size=c1.size) (h2:E.size=c2.size) (ab:a1.all (·.oneCell')=true) (ac:E.all (·.oneCell')=true):
  ∃G C,(storeCells ⟨y,0,none⟩ a1.toList 0).run Tryz.prog wc=.ok () G∧(storeCells ⟨g2,0,none⟩ E.toList 0).run Tryz.prog G=.ok () C∧Below wd.heap.size wd C∧wd.heap.size≤y∧wd.heap.size≤g2∧Blk C y t1 a1∧Blk C g2 t2 E∧C.ownsRow wd.heap.size 3 1 v m (l.map fun x=>.int .i64 x):=by
 obtain⟨x1,I⟩:=h.b1 y rfl
 obtain⟨x2,M⟩:=h.b2 g2 rfl
 have W:=Blk.ne_ I M aa
 have U:=h.own v rfl
 obtain⟨G,e1,Z,F⟩:=Wn I a1 h1 ab
 have O:=M.kept F (fun e:g2=y=>W e.symm)
 have V:=F.ownsRow U fun g hv (e:g=y)=>Aw U I a7 (by rw [hv,e])
 obtain⟨C,e2,BF,J⟩:=Wn O E h2 ac
 have a9:=J.ownsRow V fun g hv (e:g=g2)=>Aw V O a8 (by rw [hv,e])
 exact⟨G,C,e1,e2,(h.below.trans (F.below h.below.size fun b hb (e:b=y)=>by omega)).trans (J.below (Nat.le_trans h.below.size F.size) fun b hb (e:b=g2)=>by omega),x1,x2,Z.kept J W,BF,a9⟩
end
theorem aAw {w:World} {g5 nu nv c c':Nat} {A A':Option Addr} {u:List Int} (cm:Blk w g5 51 #[.slice A nu c,.slice A' nv c'])
    (ct:∀E,Below w.drew.heap.size w.drew E→Calls Tryz.prog 18 #[.slice A nu c] E (Ret fun v w'=>Below E.heap.size E w'∧∃y cap,v=.agg #[.slice none 0 0,.slice y nu cap,.int .i64 (nu:Int),.slice none 0 0,.slice none 0 0,.int .i64 0]∧w'.ownsRow E.heap.size 3 1 (.slice y nu cap) nu (u.map fun x=>.int .i64 x)))
    {V u1 u2 u3 u4 u6 u7 u8 u9 W ab am cG cH aK aL aM aN aO aQ aR aS aT aU aV aW aX aY aZ b4 b5 b6 b7 b8 b9 ba bb bc bd bf bg bh bi bj bk bl bm bn bo bp bq br bs bt bu bv bw bx bz bB bC bD bE u64 bF bG bH bI bJ bL bM bN bO bP bQ bR bS bT bU bV bW bX bY bZ c0 c4 c5 cJ cK cL cM cO cQ cR c7 c8 c9 ca cb Z a2 a3 a4 a5 a6 a7 a8 a9 aa ac ad ae af ag ah ai aj ak al an ao ap aq ar au av aw ax ay az aA aB aC aD aE aF aG aH aJ:Value}
    {Q:Exit→Act→World→Prop} (hN:Reg.NoQ Q)
    (hQ:∀(cc cd ce cf cg ch ci:Value) (w':World) (G I:Nat) (y:Option Addr) (cap:Nat),Below w.drew.heap.size w.drew w'→w.drew.heap.size≤G→w.drew.heap.size≤I→Blk w' G 44 #[.int .i64 (nu:Int),.int .i64 0,.int .i64 0]→Blk w' I 46 #[.slice none 0 0,.slice y nu cap,.int .i64 (nu:Int),.slice none 0 0,.slice none 0 0,.int .i64 0]→w'.ownsRow w.drew.heap.size 3 1 (.slice y nu cap) nu (u.map fun x=>.int .i64 x)→
      Q .normal ⟨List.toArray (V::u1::u2::u3::u4::(.pointer (some ⟨g5,0,none⟩))::u6::u7::u8::u9::W::ab::am::(.pointer (some ⟨G,0,none⟩))::(.pointer (some ⟨I,0,none⟩))::aK::aL::aM::aN::aO::aQ::aR::aS::aT::aU::aV::
      aW::aX::aY::aZ::b4::b5::b6::b7::b8::b9::ba::bb::bc::bd::bf::bg::bh::bi::bj::bk::bl::bm::bn::bo::bp::bq::br::bs::bt::bu::bv::bw::bx::bz::bB::bC::bD::
      bE::u64::bF::bG::bH::bI::bJ::bL::bM::bN::bO::bP::bQ::bR::bS::bT::bU::bV::bW::bX::bY::bZ::c0::c4::c5::cc::cd::ce::cf::cg::ch::ci::c7::c8::c9::ca::cb::
      Z::a2::a3::a4::a5::a6::a7::a8::a9::aa::ac::ad::ae::af::ag::ah::ai::aj::ak::al::an::ao::ap::aq::ar::au::av::aw::ax::ay::az::aA::aB::
      aC::aD::aE::aF::aG::aH::aJ::[]),[]⟩ w'):
    (Eu Tryz.f7 14).wp Tryz.prog Q ⟨List.toArray (V::u1::u2::u3::u4::(.pointer (some ⟨g5,0,none⟩))::u6::u7::u8::u9::W::ab::am::cG::cH::aK::aL::aM::aN::aO::aQ::aR::aS::aT::aU::aV::aW::aX::aY::aZ::b4::b5::b6::b7::b8::
      b9::ba::bb::bc::bd::bf::bg::bh::bi::bj::bk::bl::bm::bn::bo::bp::bq::br::bs::bt::bu::bv::bw::bx::bz::bB::bC::bD::bE::u64::bF::bG::bH::bI::bJ::bL::bM::
      bN::bO::bP::bQ::bR::bS::bT::bU::bV::bW::bX::bY::bZ::c0::c4::c5::cJ::cK::cL::cM::cO::cQ::cR::c7::c8::c9::ca::cb::Z::a2::a3::a4::a5::a6::a7::a8::
      a9::aa::ac::ad::ae::af::ag::ah::ai::aj::ak::al::an::ao::ap::aq::ar::au::av::aw::ax::ay::az::aA::aB::aC::aD::aE::aF::aG::aH::aJ::[]),[]⟩ w:=by
  conv=>arg 2; whnf
  refine Reg.region_spl [0,1,3,7,0,16,48,0,0,511,1023] (.node 3 6 (.node 3 7 (.node 3 8 (.node 6 7 (.node 6 8 (.node 7 8 (.leaf [0,1,2,4,5,3,6,7,8,9,10]) (.leaf [0,1,2,4,5,3,6,8,7,9,10])) (.leaf [0,1,2,4,5,3,8,6,7,9,10])) (.node 6 8 (.leaf [0,1,2,4,5,3,7,6,8,9,10]) (.node 7 8 (.leaf [0,1,2,4,5,3,7,8,6,9,10]) (.leaf [0,1,2,4,5,3,8,7,6,9,10])))) (.node 6 7 (.leaf [0,1,2,4,5,8,3,6,7,9,10]) (.leaf [0,1,2,4,5,8,3,7,6,9,10]))) (.node 3 8 (.node 6 8 (.leaf [0,1,2,4,5,7,3,6,8,9,10]) (.leaf [0,1,2,4,5,7,3,8,6,9,10])) (.node 7 8 (.leaf [0,1,2,4,5,7,8,3,6,9,10]) (.leaf [0,1,2,4,5,8,7,3,6,9,10])))) (.node 3 7 (.node 3 8 (.node 7 8 (.leaf [0,1,2,4,5,6,3,7,8,9,10]) (.leaf [0,1,2,4,5,6,3,8,7,9,10])) (.node 6 8 (.leaf [0,1,2,4,5,6,8,3,7,9,10]) (.leaf [0,1,2,4,5,8,6,3,7,9,10]))) (.node 3 8 (.node 6 7 (.leaf [0,1,2,4,5,6,7,3,8,9,10]) (.leaf [0,1,2,4,5,7,6,3,8,9,10])) (.node 6 7 (.node 6 8 (.node 7 8 (.leaf [0,1,2,4,5,6,7,8,3,9,10]) (.leaf [0,1,2,4,5,6,8,7,3,9,10])) (.leaf [0,1,2,4,5,8,6,7,3,9,10])) (.node 6 8 (.leaf [0,1,2,4,5,7,6,8,3,9,10]) (.node 7 8 (.leaf [0,1,2,4,5,7,8,6,3,9,10]) (.leaf [0,1,2,4,5,8,7,6,3,9,10]))))))) (by kernel_rfl) hN ?_
  dsimp only [Reg.Spl.goal]
  have cr:=Ap w
  have F:Hid (Qc w.drew w.drew 44 46 #[.int .i64 0,.int .i64 0,.int .i64 0] #[.slice none 0 0,.slice none 0 0,.int .i64 0,.slice none 0 0,.slice none 0 0,.int .i64 0] none none none nu u):=hide ⟨Below.refl _ _,fun g e=>(by cases e),fun g e=>(by cases e),fun g e=>(by cases e)⟩
  have cD:=(cm.below cr).cell
  have cE:Hid (∀E,Below w.drew.heap.size w.drew E→Calls Tryz.prog 18 #[.slice A nu c] E (Ret fun v w'=>Below E.heap.size E w'∧∃y cap,v=.agg #[.slice none 0 0,.slice y nu cap,.int .i64 (nu:Int),.slice none 0 0,.slice none 0 0,.int .i64 0]∧w'.ownsRow E.heap.size 3 1 (.slice y nu cap) nu (u.map fun x=>.int .i64 x))):=hide fun E hx=>ct E hx
  have cB:∀(cc cd ce cf cg ch ci:Value) (w':World) (G I:Nat) (y:Option Addr) (cap:Nat),Below w.drew.heap.size w.drew w'→w.drew.heap.size≤G→w.drew.heap.size≤I→Blk w' G 44 #[.int .i64 (nu:Int),.int .i64 0,.int .i64 0]→Blk w' I 46 #[.slice none 0 0,.slice y nu cap,.int .i64 (nu:Int),.slice none 0 0,.slice none 0 0,.int .i64 0]→w'.ownsRow w.drew.heap.size 3 1 (.slice y nu cap) nu (u.map fun x=>.int .i64 x)→
      Q .normal ⟨List.toArray (V::u1::u2::u3::u4::(.pointer (some ⟨g5,0,none⟩))::u6::u7::u8::u9::W::ab::am::(.pointer (some ⟨G,0,none⟩))::(.pointer (some ⟨I,0,none⟩))::aK::aL::aM::aN::aO::aQ::aR::aS::aT::aU::aV::
      aW::aX::aY::aZ::b4::b5::b6::b7::b8::b9::ba::bb::bc::bd::bf::bg::bh::bi::bj::bk::bl::bm::bn::bo::bp::bq::br::bs::bt::bu::bv::bw::bx::bz::bB::bC::bD::
      bE::u64::bF::bG::bH::bI::bJ::bL::bM::bN::bO::bP::bQ::bR::bS::bT::bU::bV::bW::bX::bY::bZ::c0::c4::c5::cc::cd::ce::cf::cg::ch::ci::c7::c8::c9::ca::cb::
      Z::a2::a3::a4::a5::a6::a7::a8::a9::aa::ac::ad::ae::af::ag::ah::ai::aj::ak::al::an::ao::ap::aq::ar::au::av::aw::ax::ay::az::aA::aB::
      aC::aD::aE::aF::aG::aH::aJ::[]),[]⟩ w':=hQ
  clear hQ ct cm cr
  generalize w.drew=wd at*
  repeat' (with_reducible refine And.intro ?_ ?_)
  all_goals
    refine Reg.rest_walkE [0,1,2,4,5] _ rfl rfl (by kernel_rfl) ?_
    intro Qf h
    go_wp2_with fail
    refine h _ _ ?_
    clear h cD
    iterate 4
      first
      | (refine Reg.rest_walkE [7] _ rfl rfl (by kernel_rfl) ?_
         intro Qf h
         obtain⟨wn,U,C,M⟩:=F.out.put1
         obtain⟨G,cu⟩:=Ws M
         rw [cu] at C
         have C:=hide C
         go_wp2_with fail
         refine h _ _ ?_
         clear h F U cu M
         have F:=C
         clear C)
      | (refine Reg.rest_walkE [8] _ rfl rfl (by kernel_rfl) ?_
         intro Qf h
         obtain⟨wn,U,C,M⟩:=F.out.put2
         obtain⟨I,cv⟩:=Ws M
         rw [cv] at C
         have C:=hide C
         go_wp2_with fail
         refine h _ _ ?_
         clear h F U cv M
         have F:=C
         clear C)
      | (refine Reg.rest_act' 3 _ [5] rfl (by kernel_rfl) ?_
         intro Qf h
         try simp only [gT,gS,gZ]
         go_wp2_with fail
         first | refine h _ _ ⟨Reg.same_below (Below.refl _ _) [5] rfl,?_⟩ | refine⟨Reg.same_below (Below.refl _ _) [5] rfl,?_⟩
         try clear h)
      | (refine Reg.rest_act' 6 _ [1] rfl (by kernel_rfl) ?_
         intro Qf h
         try simp only [gT,gS,gZ]
         go_wp2_with fail
         refine Calls.ret (cE.out _ F.out.below) ?_
         rintro v wm ⟨O,y,cap,rfl,cq⟩
         have C:=hide (F.out.row O cq)
         clear F cq
         go_wp2_with fail
         first | refine h _ _ ⟨Reg.same_below (O) [1] rfl,?_⟩ | refine⟨Reg.same_below (O) [1] rfl,?_⟩
         try clear h
         clear O
         have F:=C
         clear C)
    refine Reg.rest_walkE [9,10] [] rfl rfl (by kernel_rfl) ?_
    intro Qf h
    obtain⟨wE,wF,hE,hF,hB,x1,x2,B1,B2,hO⟩:=F.out.fin (by decide) (by decide) (by decide) #[.int .i64 (nu:Int),.int .i64 0,.int .i64 0] #[.slice none 0 0,.slice y nu cap,.int .i64 (nu:Int),.slice none 0 0,.slice none 0 0,.int .i64 0] rfl rfl (by simp [Value.oneCell']) (by simp [Value.oneCell'])
    have J:=hide (And.intro hB (And.intro x1 (And.intro x2 (And.intro B1 (And.intro B2 hO)))))
    have cT:(storeCells ⟨G,0,none⟩ [.int .i64 (nu:Int),.int .i64 0,.int .i64 0] 0).run Tryz.prog _=.ok () wE:=hE
    have cU:(storeCells ⟨I,0,none⟩ [.slice none 0 0,.slice y nu cap,.int .i64 (nu:Int),.slice none 0 0,.slice none 0 0,.int .i64 0] 0).run Tryz.prog wE=.ok () wF:=hF
    clear F hB x1 x2 B1 B2 hO hE hF
    go_wp2_with fail
    first | refine h _ _ ?_ | skip
    try clear h
    refine Reg.rest_end ?_
    exact cB _ _ _ _ _ _ _ _ G I y cap J.out.1 J.out.2.1 J.out.2.2.1 J.out.2.2.2.1 J.out.2.2.2.2.1 J.out.2.2.2.2.2
def Wo (w0:World) (m:Nat) (l:List Int) (v:Value) (w':World):Prop:=∃Z0 z0 A' c' Z3 z3 Z4 z4,v=.agg #[.slice Z0 0 z0,.slice A' m c',.int .i64 (m:Int),.slice Z3 0 z3,.slice Z4 0 z4,.int .i64 0]∧w'.ownsRow w0.heap.size 3 1 (.slice A' m c') m (l.map fun x=>.int .i64 x)
theorem Yq {w:World} {g3 g4 g5 m cap n nr b off c7 i:Nat} {k:Int} {pc rc:Array Value} {A:Option Addr} {l:List Int} (cn:Blk w g3 27 pc) (cz:pc[9]?=some (.slice (some ⟨b,off,none⟩) nr c7)) (hn:(n:Int)<(nr:Int)) (co:Blk w g4 46 #[.slice none 0 0,.slice A m cap,.int .i64 (m:Int),.slice none 0 0,.slice none 0 0,.int .i64 0]) (cp:Blk w g5 63 #[.int .i64 (n:Int),.int .i64 (i:Int),.int .i64 k])
    (cK:(loadCellsFrom ⟨b,off+n*18,none⟩ 0 18 #[]).run Tryz.prog w.drew=.ok rc w.drew) (cy:rc.size=18) (cx:rc.all (·.oneCell')=true)
    (cu:∀C,Below w.drew.heap.size w.drew C→Calls Tryz.prog 110 #[.agg #[.slice none 0 0,.slice A m cap,.int .i64 (m:Int),.slice none 0 0,.slice none 0 0,.int .i64 0]] C (Ret fun v w'=>Below C.heap.size C w'∧Wo C m l v w'))
    {u0 u1 u2 u6 u7 u8 u9 a7 ai av cQ cR cS cT cU cV cW cX aM aN aO aP aQ aR aS aT aU aV aW aX aY aZ b0 b4 b5 b6 b7 b8 b9 ba bb bc bd be bf bg bh bi bj bk bl bm bn bo bp bq br bt bu bv bw u64 bx bz bA bB bC bE bF bG bH bI bJ bK bL bM bN bO bP bQ bR bS bT bU bV bW bX bY bZ c0 c4 c5 c6 c8 c9 ca cb a8 a9 aa ab ac ad ae af ag ah aj ak al am an ao ap aq ar au aw ax ay az aA aB aC aD aE aF aG aH aJ aK:Value}
    {Q:Exit→Act→World→Prop} (hN:Reg.NoQ Q)
    (hQ:∀(cc cd ce cf cg ch ci cj:Value) (w':World) (G g9:Nat) (J:Option Addr) (U:Nat) (F:Option Addr) (I:Nat) (M:Option Addr) (V:Nat) (O:Option Addr) (W:Nat),Below w.drew.heap.size w.drew w'→w.drew.heap.size≤G→w.drew.heap.size≤g9→Blk w' G 99 rc→Blk w' g9 46 #[.slice J 0 U,.slice F m I,.int .i64 (m:Int),.slice M 0 V,.slice O 0 W,.int .i64 0]→w'.ownsRow w.drew.heap.size 3 1 (.slice F m I) m (l.map fun x=>.int .i64 x)→
      Q .normal ⟨List.toArray (u0::u1::u2::(.pointer (some ⟨g3,0,none⟩))::(.pointer (some ⟨g4,0,none⟩))::(.pointer (some ⟨g5,0,none⟩))::u6::u7::(.pointer (some ⟨G,0,none⟩))::(.pointer (some ⟨g9,0,none⟩))::a7::ai::av::cc::cd::ce::cf::cg::
      ch::ci::cj::aM::aN::aO::aP::aQ::aR::aS::aT::aU::aV::aW::aX::aY::aZ::b0::b4::b5::b6::b7::b8::b9::ba::bb::bc::bd::be::bf::bg::bh::bi::bj::bk::bl::bm::
      bn::bo::bp::bq::br::bt::bu::bv::bw::u64::bx::bz::bA::bB::bC::bE::bF::bG::bH::bI::bJ::bK::bL::bM::bN::bO::bP::bQ::bR::bS::bT::bU::bV::bW::bX::bY::bZ::
      c0::c4::c5::c6::c8::c9::ca::cb::a8::a9::aa::ab::ac::ad::ae::af::ag::ah::aj::ak::al::am::an::ao::ap::aq::ar::au::aw::ax::ay::az::aA::aB::
      aC::aD::aE::aF::aG::aH::aJ::aK::[]),[]⟩ w'):
    (Eu Tryz.f66 1).wp Tryz.prog Q ⟨List.toArray (u0::u1::u2::(.pointer (some ⟨g3,0,none⟩))::(.pointer (some ⟨g4,0,none⟩))::(.pointer (some ⟨g5,0,none⟩))::u6::u7::u8::u9::a7::ai::av::cQ::cR::cS::cT::cU::cV::cW::cX::aM::aN::aO::aP::aQ::
      aR::aS::aT::aU::aV::aW::aX::aY::aZ::b0::b4::b5::b6::b7::b8::b9::ba::bb::bc::bd::be::bf::bg::bh::bi::bj::bk::bl::bm::bn::bo::bp::bq::br::bt::bu::bv::
      bw::u64::bx::bz::bA::bB::bC::bE::bF::bG::bH::bI::bJ::bK::bL::bM::bN::bO::bP::bQ::bR::bS::bT::bU::bV::bW::bX::bY::bZ::c0::c4::c5::c6::c8::c9::ca::cb::
      a8::a9::aa::ab::ac::ad::ae::af::ag::ah::aj::ak::al::am::an::ao::ap::aq::ar::au::aw::ax::ay::az::aA::aB::aC::aD::aE::aF::aG::aH::aJ::
      aK::[]),[]⟩ w:=by
  conv=>arg 2; whnf
  refine Reg.region_spl [0,1,0,4,15,31,0,64,0,0,1023,2047] (.node 7 8 (.node 7 9 (.node 8 9 (.leaf [0,1,2,3,4,5,6,7,8,9,10,11]) (.leaf [0,1,2,3,4,5,6,7,9,8,10,11])) (.leaf [0,1,2,3,4,5,6,9,7,8,10,11])) (.node 7 9 (.leaf [0,1,2,3,4,5,6,8,7,9,10,11]) (.node 8 9 (.leaf [0,1,2,3,4,5,6,8,9,7,10,11]) (.leaf [0,1,2,3,4,5,6,9,8,7,10,11])))) (by kernel_rfl) hN ?_
  dsimp only [Reg.Spl.goal]
  have a3:=Ap w
  have E:Hid (Qc w.drew w.drew 99 46 #[.string ⟨#[]⟩,.int .i64 0,.int .i64 0,.int .i64 0,.int .i64 0,.int .i64 0,.slice none 0 0,.slice none 0 0,.slice none 0 0,.slice none 0 0,.int .i64 0,.int .i64 0,.slice none 0 0,.int .i64 0,.slice none 0 0,.slice none 0 0,.slice none 0 0,.int .i64 0] #[.slice none 0 0,.slice none 0 0,.int .i64 0,.slice none 0 0,.slice none 0 0,.int .i64 0] none none none m l):=hide ⟨Below.refl _ _,fun g e=>(by cases e),fun g e=>(by cases e),fun g e=>(by cases e)⟩
  have cF:=((cn.below a3).cell 9).trans cz
  have cG:=((cp.below a3).cell 0)
  have cJ:=Ah (co.below a3) (n:=6) rfl
  have cH:Hid (∀C,Below w.drew.heap.size w.drew C→Calls Tryz.prog 110 #[.agg #[.slice none 0 0,.slice A m cap,.int .i64 (m:Int),.slice none 0 0,.slice none 0 0,.int .i64 0]] C (Ret fun v w'=>Below C.heap.size C w'∧Wo C m l v w')):=hide fun C hx=>cu C hx
  have cE:∀(cc cd ce cf cg ch ci cj:Value) (w':World) (G g9:Nat) (J:Option Addr) (U:Nat) (F:Option Addr) (I:Nat) (M:Option Addr) (V:Nat) (O:Option Addr) (W:Nat),Below w.drew.heap.size w.drew w'→w.drew.heap.size≤G→w.drew.heap.size≤g9→Blk w' G 99 rc→Blk w' g9 46 #[.slice J 0 U,.slice F m I,.int .i64 (m:Int),.slice M 0 V,.slice O 0 W,.int .i64 0]→w'.ownsRow w.drew.heap.size 3 1 (.slice F m I) m (l.map fun x=>.int .i64 x)→
      Q .normal ⟨List.toArray (u0::u1::u2::(.pointer (some ⟨g3,0,none⟩))::(.pointer (some ⟨g4,0,none⟩))::(.pointer (some ⟨g5,0,none⟩))::u6::u7::(.pointer (some ⟨G,0,none⟩))::(.pointer (some ⟨g9,0,none⟩))::a7::ai::av::cc::cd::ce::cf::cg::
      ch::ci::cj::aM::aN::aO::aP::aQ::aR::aS::aT::aU::aV::aW::aX::aY::aZ::b0::b4::b5::b6::b7::b8::b9::ba::bb::bc::bd::be::bf::bg::bh::bi::bj::bk::bl::bm::
      bn::bo::bp::bq::br::bt::bu::bv::bw::u64::bx::bz::bA::bB::bC::bE::bF::bG::bH::bI::bJ::bK::bL::bM::bN::bO::bP::bQ::bR::bS::bT::bU::bV::bW::bX::bY::bZ::
      c0::c4::c5::c6::c8::c9::ca::cb::a8::a9::aa::ab::ac::ad::ae::af::ag::ah::aj::ak::al::am::an::ao::ap::aq::ar::au::aw::ax::ay::az::aA::aB::
      aC::aD::aE::aF::aG::aH::aJ::aK::[]),[]⟩ w':=hQ
  have cM:=hide cy
  have cL:=hide cx
  clear hQ cu cn co cp a3 cz cy cx
  generalize w.drew=wd at*
  repeat' (with_reducible refine And.intro ?_ ?_)
  all_goals
    refine Reg.rest_walkE [0,1,2,3,4,5,6] _ rfl rfl (by kernel_rfl) ?_
    intro Qf y
    go_wp2_with fail
    refine y _ _ ?_
    clear y cF cG cJ cK
    iterate 3
      first
      | (refine Reg.rest_walkE [8] _ rfl rfl (by kernel_rfl) ?_
         intro Qf y
         obtain⟨wn,a5,h,a2⟩:=E.out.put1
         obtain⟨G,cv⟩:=Ws a2
         rw [cv] at h
         have h:=hide h
         go_wp2_with fail
         refine y _ _ ?_
         clear y E a5 cv a2
         have E:=h
         clear h)
      | (refine Reg.rest_walkE [9] _ rfl rfl (by kernel_rfl) ?_
         intro Qf y
         obtain⟨wn,a5,h,a2⟩:=E.out.put2
         obtain⟨g9,cw⟩:=Ws a2
         rw [cw] at h
         have h:=hide h
         go_wp2_with fail
         refine y _ _ ?_
         clear y E a5 cw a2
         have E:=h
         clear h)
      | (refine Reg.rest_act' 7 _ [1,3,5] rfl (by kernel_rfl) ?_
         intro Qf y
         try simp only [gT,gS,gZ]
         go_wp2_with fail
         refine Calls.ret (cH.out _ E.out.below) ?_
         rintro v wm ⟨a4,J,U,F,I,M,V,O,W,rfl,ct⟩
         have h:=hide (E.out.row a4 ct)
         clear E ct
         go_wp2_with fail
         first | refine y _ _ ⟨Reg.same_below (a4) [1,3,5] rfl,?_⟩ | refine⟨Reg.same_below (a4) [1,3,5] rfl,?_⟩
         try clear y
         clear a4
         have E:=h
         clear h)
    refine Reg.rest_walkE [10,11] [] rfl rfl (by kernel_rfl) ?_
    intro Qf y
    obtain⟨wE,wF,hE,hF,hB,x1,x2,B1,B2,hO⟩:=E.out.fin (by decide) (by decide) (by decide) rc #[.slice J 0 U,.slice F m I,.int .i64 (m:Int),.slice M 0 V,.slice O 0 W,.int .i64 0] cM.out rfl cL.out (by simp [Value.oneCell'])
    have Z:=hide (And.intro hB (And.intro x1 (And.intro x2 (And.intro B1 (And.intro B2 hO)))))
    have d2:(storeCells ⟨g9,0,none⟩ [.slice J 0 U,.slice F m I,.int .i64 (m:Int),.slice M 0 V,.slice O 0 W,.int .i64 0] 0).run Tryz.prog wE=.ok () wF:=hF
    clear E hB x1 x2 B1 B2 hO hF
    go_wp2_with fail
    first | refine y _ _ ?_ | skip
    try clear y
    refine Reg.rest_end ?_
    exact cE _ _ _ _ _ _ _ _ _ G g9 J U F I M V O W Z.out.1 Z.out.2.1 Z.out.2.2.1 Z.out.2.2.2.1 Z.out.2.2.2.2.1 Z.out.2.2.2.2.2
end Go.Proofs.YtfcfpoemojjglaaGreatDoor
