/-
  Part TJ of a proof.
-/
import Derived.Test.YtjejejmeddkciaaGreatDoorPA
import Derived.Test.YtjejejmeddkciaaGreatDoorTI
import Derived.Test.YtjejejmeddkciaaGreatDoorTG
import Derived.Test.YtjejejmeddkciaaGreatDoorTH
import Derived.Test.YtjejejmeddkciaaGreatDoorTF
import Derived.Test.YtjejejmeddkciaaGreatDoorPE
import Derived.Test.YtjejejmeddkciaaGreatDoorCE
set_option maxHeartbeats 16000000
set_option maxRecDepth 100000
set_option linter.unusedVariables false
set_option linter.unusedSimpArgs false
namespace Go.Proofs.YtjejejmeddkciaaGreatDoor
open Go.RowKit
open K (Am Az At AW Fc BR Ah Du)
attribute [-go_sem] loadCellsFrom
set_option maxHeartbeats 16000000
set_option maxRecDepth 100000
theorem XF {w:World} {cs:List Value} {p:Am} {r:Az} {n m cap i z0 z3 z4:Nat} {k:Int} {A Z0 Z3 Z4:Option Addr} {l:List Int} (h:At w w.heap.size cs p) (ht:p.topo=2\/p.topo=3) (C:p.rules[n]?=some r) (F:WU p.topo p.states.length r) (U:p.rules.length<=30) (J:Sl w w.heap.size 1 Ai A l) (M:m=l.length) (O:m<=8) (G:l[i]?=some r.fr) (I:-1<=k/\k<m):
  Calls Tryz.prog 33 #[.agg cs.toArray,.agg #[.int .i64 (m:Int),.int .i64 0,.int .i64 0],.agg #[.slice Z0 0 z0,.slice A m cap,.int .i64 (m:Int),.slice Z3 0 z3,.slice Z4 0 z4,.int .i64 0],.agg #[.int .i64 (n:Int),.int .i64 (i:Int),.int .i64 k],.bool false] w (Ret fun v w'=>(∃b,v=.bool b/\(b=true↔EnS p l (n,i,k)))/\Below w.heap.size w w'):=by
 have W:EnS p l (n,i,k)↔EnR p.topo r l i k:=⟨fun⟨Z,h1,V⟩=>by rw [Option.some.inj (C.symm.trans h1)];exact V,fun h=>⟨r,C,h⟩⟩;rw [W];rcases F.kind with E|E
 ·exact YD h ht C F U J M O G I E
 ·exact YE h ht C F U J M O G I E
theorem aAG {w0 G:World} {g3 g4 g5 m cap nr c7:Nat} {A7:Option Addr} {h:Array Value} {A:Option Addr} {p:Am} {l:List Int} {vS:Value} {S:List Stp}
  (J:Blk w0 g3 27 h) (O:Blk w0 g4 44 #[.int .i64 (m:Int),.int .i64 0,.int .i64 0]) (U:Blk w0 g5 46 #[.slice none 0 0,.slice A m cap,.int .i64 (m:Int),.slice none 0 0,.slice none 0 0,.int .i64 0]) (ad:h.size=10)
  (aE:m<=8) (aH:nr<=30) (af:h[9]?=some (.slice A7 nr c7)) (hl:Sl w0 w0.heap.size 1 Ai A l) (hm:m=l.length)
  (ae:∀r,r<nr->∃b off fr,A7=some ⟨b,off,none⟩/\b<w0.heap.size/\w0.cell? ⟨b,off+r*18+2,none⟩=some (.int .i64 fr)/\(∀i x,l[i]?=some x->x≠fr->∀k,¬EnS p l (r,i,k))/\
   ∀(C:World) (i:Nat) (k:Int),Below w0.heap.size w0 C->i<m->l[i]?=some fr->-1<=k->k<m->Calls Tryz.prog 33 #[.agg h,.agg #[.int .i64 (m:Int),.int .i64 0,.int .i64 0],.agg #[.slice none 0 0,.slice A m cap,.int .i64 (m:Int),.slice none 0 0,.slice none 0 0,.int .i64 0],.agg #[.int .i64 (r:Int),.int .i64 (i:Int),.int .i64 k],.bool false] C (Ret fun v w'=>(∃b,v=.bool b/\(b=true↔EnS p l (r,i,k)))/\Below C.heap.size C w'))
  (V:G.ownsRow w0.heap.size 52 3 vS S.length (S.flatMap sC)) (hb:Below w0.heap.size w0 G) (hS:Au p l 0 0 (-1) S)
  {u0 u1 u2 u6 u9 aL aM aN aO aP aQ aR aS aT aU aV aW aX aY aZ b0 b4 b5 b6 b7 b8 b9 ba bb bc bd be bf bg bh bi bj bk bl bm bn bo bp bq br bs bt bu bv bw bx bz bA ak:Value}
  {Q:Exit->Act->World->Prop} (hN:Reg.NoQ Q)
  (hQ:∀(x9 bD bE bF bG bH bI bJ bK bL bM bN bO bP bQ bR bS bT bU bV bW bX bY bZ c0 c4 c5 c6 c8 c9 ca cb cc cd ce cf cg ch ci cj ck cm cn co cp cq cr ct cu:Value) (w':World) (am:Value) (S':List Stp),w'.ownsRow w0.heap.size 52 3 am S'.length (S'.flatMap sC)->Below w0.heap.size w0 w'->Au p l nr 0 (-1) S'->Q (.exit 0) ⟨List.toArray (u0::u1::u2::(.pointer (some ⟨g3,0,none⟩))::(.pointer (some ⟨g4,0,none⟩))::(.pointer (some ⟨g5,0,none⟩))::u6::am::(.int .i64 (nr:Int))::x9::bD::bE::bF::bG::bH::bI::bJ::bK::bL::bM::bN::bO::bP::
   bQ::bR::bS::bT::bU::bV::bW::bX::bY::bZ::c0::c4::c5::c6::c8::c9::ca::cb::cc::cd::ce::cf::cg::ch::ci::cj::ck::cm::cn::co::cp::cq::cr::ct::cu::ak::[]),[]⟩ w'):
  (Code.loop (CG Tryz.f32 0)).wp Tryz.prog Q ⟨List.toArray (u0::u1::u2::(.pointer (some ⟨g3,0,none⟩))::(.pointer (some ⟨g4,0,none⟩))::(.pointer (some ⟨g5,0,none⟩))::u6::vS::(.int .i64 0)::u9::aL::aM::aN::aO::aP::aQ::aR::aS::aT::aU::aV::aW::aX::aY::aZ::
   b0::b4::b5::b6::b7::b8::b9::ba::bb::bc::bd::be::bf::bg::bh::bi::bj::bk::bl::bm::bn::bo::bp::bq::br::bs::bt::bu::bv::bw::bx::bz::bA::ak::[]),[]⟩ G:=by
 conv=>arg 2;arg 1;whnf
 have M:=hide J;have ap:=hide O;have aq:=hide U;have aJ:=hide ad;have aK:=hide ae;have av:=hide V;have az:=hide hb;have ax:=hide hS;have aD:=hide hl;have aF:=hide hm;have ag:=hide af;clear J O U ad ae V hb hS hl hm af;go_loopw [7,8] (fun vv F wr=>∃(r:Nat) (S':List Stp),F=.int .i64 (r:Int)/\r<=nr/\Hid (wr.ownsRow w0.heap.size 52 3 vv S'.length (S'.flatMap sC))/\Hid (Below w0.heap.size w0 wr)/\Hid (Au p l r 0 (-1) S')) (fun _ F _=>nr - (intOf F).toNat)
 case atStart=>exact⟨0,S,rfl,Nat.zero_le _,av,az,ax⟩
 case round=>
  obtain⟨r,S',rfl,hr,W,E,a2⟩:=hrel;have c3:=((M.out.below E.out).cell 9).trans ag.out;by_cases a9:r<nr
  ·obtain⟨b,off,fr,I,aA,a7,ab,a6⟩:=aK.out r a9;have aC:=hide a7;have aG:=hide ab;have aB:=hide a6;have ao:=hide I;have cx:(r:Int)<(nr:Int):=by omega
   clear a7 ab a6 I;go_wp2_with fail;refine aAE (w0:=w0) (m:=m) (cap:=cap) (r:=r) (nr:=nr) (b:=b) (off:=off) (c7:=c7) M.out ap.out aq.out aJ.out aE a9 aH (by rw [<-ao.out];exact ag.out) aA aC.out aD.out aF.out aG.out aB.out W.out E.out a2.out ?_ ?_
   ·repeat (first|exact hN|refine Reg.NoQ.then ?_|refine Reg.NoQ.inBlock ?_)
   iterate 41 (intro _)
   intro w6 cy S6 Z a5 a3;have au:=hide Z;have ay:=hide a5;have aw:=hide a3;clear Z a5 a3;go_wp2_with fail;exact⟨⟨r+1,S6,by go_num,by omega,au,ay,aw⟩,by simp [intOf];omega⟩
  ·obtain rfl:nr=r:=by omega
   go_wp2_with fail;exact hQ _ _ _ _ _ _ _ _ _ _ _ _ _ _ _ _ _ _ _ _ _ _ _ _ _ _ _ _ _ _ _ _ _ _ _ _ _ _ _ _ _ _ _ _ _ _ _ _ _ _ _ S' W.out E.out a2.out
section
variable {w:World} {cs:List Value} {p:Am} {m cap:Nat} {A:Option Addr} {l:List Int}
def WW (p:Am) (l:List Int) (v:Value) (w':World):Prop:=∃(S:List Stp) (A':Option Addr) (c:Nat),v=.slice A' S.length c/\Sl w' w'.heap.size 3 BE A' S/\∀t,t∈S↔EnS p l t
theorem aAI (h:At w w.heap.size cs p) (hrel:AC p=0) (a4:p.rules.length<=30) (hl:Sl w w.heap.size 1 Ai A l) (hm:m=l.length) (ap:m<=8):
  Calls Tryz.prog 32 #[.agg cs.toArray,.agg #[.int .i64 (m:Int),.int .i64 0,.int .i64 0],.agg #[.slice none 0 0,.slice A m cap,.int .i64 (m:Int),.slice none 0 0,.slice none 0 0,.int .i64 0]] w (Ret fun v w'=>Below w.heap.size w w'/\WW p l v w'):=by
 obtain⟨A1,c1,A2,c2,A3,c3,A4,c4,A5,c5,A6,c6,A7,c7,aP,q0,q1,q2,q3,q4,q5,q6,q7,q8,q9,-,-,-,-,-,-,h7,aF⟩:=h.cells;obtain⟨w1,bv,W,ab,-⟩:=Ae w cs.toArray 27;obtain⟨w2,bw,Z,ad,-⟩:=Ae w1 #[.int .i64 (m:Int),.int .i64 0,.int .i64 0] 44;obtain⟨E,bx,I,ae,-⟩:=Ae w2 #[.slice none 0 0,.slice A m cap,.int .i64 (m:Int),.slice none 0 0,.slice none 0 0,.int .i64 0] 46;have V:=W.trans (Z.mono W.size);have C:=V.trans (I.mono V.size);have ah:=(ab.below Z).below I;have ai:=ad.below I;have aj:=ae;have ao:=hl.keep (w':=E) (B':=E.heap.size) (fun q F=>C.cell F) C.size;have ht:=(W2 hrel).topo
 have ar:∀r,r<p.rules.length->∃b off fr,A7=some ⟨b,off,none⟩/\b<E.heap.size/\E.cell? ⟨b,off+r*18+2,none⟩=some (.int .i64 fr)/\(∀i x,l[i]?=some x->x≠fr->∀k,¬EnS p l (r,i,k))/\
   ∀(G:World) (i:Nat) (k:Int),Below E.heap.size E G->i<m->l[i]?=some fr->-1<=k->k<m->Calls Tryz.prog 33 #[.agg cs.toArray,.agg #[.int .i64 (m:Int),.int .i64 0,.int .i64 0],.agg #[.slice none 0 0,.slice A m cap,.int .i64 (m:Int),.slice none 0 0,.slice none 0 0,.int .i64 0],.agg #[.int .i64 (r:Int),.int .i64 (i:Int),.int .i64 k],.bool false] G (Ret fun v w'=>(∃b,v=.bool b/\(b=true↔EnS p l (r,i,k)))/\Below G.heap.size G w'):=by
  intro r hr;obtain⟨rl,M⟩:=An (l:=p.rules) hr;have hR:=Xm hrel M;obtain⟨b,off,rc,ax,an,hC,aG,-⟩:=Du h7 M;obtain⟨E1,f1,E2,f2,E3,f3,E4,f4,E5,f5,E6,f6,E7,f7,E8,f8,⟨rz,r0,r1,r2,-⟩,-⟩:=K.AW.cells hC.is;simp only [Array.toArray_toList] at r2;refine⟨b,off,rl.fr,ax,Nat.lt_of_lt_of_le an C.size,(C.cell an).trans (aG 2 _ r2),fun i x hx aO k hE=>?_,fun G i k hx hi aH aJ aK=>?_⟩
  ·obtain⟨r',h1,h2⟩:=hE;have e:rl=r':=Option.some.inj (M.symm.trans h1);subst e;exact aO (Option.some.inj (hx.symm.trans h2.fr))
  ·have J:=C.trans (hx.mono C.size);exact XF (h.keep (fun q F=>J.cell F) J.size) ht M hR a4 (hl.keep (fun q F=>J.cell F) J.size) hm ap aH ⟨aJ,aK⟩
 have am:=hide C;have aC:=hide ah;have aD:=hide ai;have aE:=hide aj;have aL:=hide ao;have au:=hide ar;have ak:Hid (∀S,Au p l p.rules.length 0 (-1) S->∀t,t∈S↔EnS p l t):=hide fun S hS=>hS.all;obtain⟨nr,aq⟩:∃x,x=p.rules.length:=⟨_,rfl⟩;rw [<-aq] at au a4 q9 ak;have aN:=hide hm;have b0:=hide q9;generalize cs.toArray=pc at*;clear h h7 aF hrel hl hm ah ai aj W Z I V C ab ad ae ao ar ht q0 q1 q2 q3 q4 q5 q6 q7 q8 q9 aq;go_enter Tryz.func32,Tryz.ntmps32;go_wp2_with fail;refine aAG (w0:=E) (m:=m) (cap:=cap) (nr:=nr) (c7:=c7) (A7:=A7) (S:=[]) aC.out aD.out aE.out aP ap a4 b0.out aL.out aN.out au.out (World.ownsRow_nil _ _ _ _) (Below.refl _ _) Au.start ?_ ?_
 ·repeat (first|refine Reg.NoQ.then ?_|refine Reg.NoQ.inBlock ?_|exact Reg.NoQ.body (fun _ _ h=>h) (fun _ h=>h))
 iterate 49 (intro _)
 intro w6 bB O af al U;have aM:=U.len;obtain⟨a8,a9,rfl,ag⟩:=Z2 (B:=w6.heap.size) af rfl (Nat.le_refl _) (by omega);have hF:=hide (show Below w.heap.size w w6/\WW p l (.slice a8 O.length a9) w6 from⟨am.out.trans (al.mono am.out.size),O,a8,a9,rfl,ag,ak.out O U⟩);clear af al U ag aM;go_wp2_with fail;go_ret;exact hF.out
theorem Yo (h:At w w.heap.size cs p) (af:p.Small) (hT:K.SpOK w) (hrel:AC p=0) (hl:Sl w w.heap.size 1 Ai A l) (hm:m=l.length) (ap:∀x∈l,inN (p.states.length:Int) x=true) (ab:m<=8):
  Calls Tryz.prog 11 #[.agg cs.toArray,.agg #[.int .i64 (m:Int),.int .i64 0,.int .i64 0],.agg #[.slice none 0 0,.slice A m cap,.int .i64 (m:Int),.slice none 0 0,.slice none 0 0,.int .i64 0]] w (Ret fun v w'=>Below w.heap.size w w'/\∃(u:Value) (e:Int),v=.tuple #[u,.int .i64 e]/\WW p l u w'):=by
 have ae:=h.rules_at.1;obtain⟨ad,ht⟩:=Xb hrel;obtain⟨w1,aJ,a3,ai,-⟩:=Ae w cs.toArray 27;obtain⟨w2,aG,a4,aj,-⟩:=Ae w1 #[.int .i64 (m:Int),.int .i64 0,.int .i64 0] 44;obtain⟨I,aH,O,ak,-⟩:=Ae w2 #[.slice none 0 0,.slice A m cap,.int .i64 (m:Int),.slice none 0 0,.slice none 0 0,.int .i64 0] 46;have a2:=a3.trans (a4.mono a3.size);have an:=a2.trans (O.mono a2.size);have G:=hide an;have V:=(ai.below a4).below O;have W:=aj.below O;have Z:=ak;have ar:=(W2 hrel).topo;have U:Hid (∀C,Below I.heap.size I C->Calls Tryz.prog 31 #[.agg cs.toArray,.agg #[.int .i64 (m:Int),.int .i64 0,.int .i64 0],.agg #[.slice none 0 0,.slice A m cap,.int .i64 (m:Int),.slice none 0 0,.slice none 0 0,.int .i64 0]] C (Ret fun v w'=>v=.int .i64 (if m=0 then 8 else 0)/\Below C.heap.size C w')):=hide (fun C hx=>by
  have E:=G.out.trans (hx.mono G.out.size);exact Xx (h.keep (fun p J=>E.cell J) E.size) af (hT.below E) ad (Ml ad ar) (hl.keep (fun p J=>E.cell J) E.size) hm ap ab)
 have aF:Hid (∀C,Below I.heap.size I C->Calls Tryz.prog 32 #[.agg cs.toArray,.agg #[.int .i64 (m:Int),.int .i64 0,.int .i64 0],.agg #[.slice none 0 0,.slice A m cap,.int .i64 (m:Int),.slice none 0 0,.slice none 0 0,.int .i64 0]] C (Ret fun v w'=>Below C.heap.size C w'/\WW p l v w')):=hide (fun C hx=>by
  have E:=G.out.trans (hx.mono G.out.size);exact aAI (h.keep (fun p J=>E.cell J) E.size) hrel af.rules (hl.keep (fun p J=>E.cell J) E.size) hm ab)
 generalize cs.toArray=pc at*;have aw:=hide V;have ax:=hide W;have ay:=hide Z;have aE:=hide ae;have aq:=Ah V ae;have a8:(loadCellsFrom ⟨w1.heap.size,0,none⟩ 0 3 #[]).run Tryz.prog I=.ok _ I:=Ah W rfl;have a9:(loadCellsFrom ⟨w2.heap.size,0,none⟩ 0 6 #[]).run Tryz.prog I=.ok _ I:=Ah Z rfl;have az:(m=0/\Hid (∀t,¬EnS p l t))\/0<m:=by
  by_cases h0:m=0
  ·exact .inl ⟨h0,hide fun t ht=>by have:=ht.range;omega⟩
  ·exact .inr (by omega)
 clear h af hT hl hm ap ab V W Z a3 a4 O ai aj ak a2 an ae ad ht ar hrel;rcases az with⟨rfl,aD⟩|h1
 ·rw [if_pos rfl,show((0:Nat):Int)=0 from rfl] at U;rw [show((0:Nat):Int)=0 from rfl] at a8 a9 aG aH;rw [show((0:Nat):Int)=0 from rfl];go_enter Tryz.func11,Tryz.ntmps11;go_wp2_with fail;refine Calls.ret (U.out _ (Below.refl _ _)) ?_;rintro v M ⟨rfl,F⟩;have a6:=hide (G.out.trans (F.mono G.out.size));clear F aq a8 a9;go_wp2_with fail;exact bodyPost_ret (v:=.tuple #[.slice none 0 0,.int .i64 8]) (by simp [results,Tryz.results11,go_sem]) rfl ⟨a6.out,_,_,rfl,[],none,0,rfl,Sl.nil rfl,fun t=>⟨fun h=>(by cases h),fun h=>absurd h (aD.out t)⟩⟩
 ·rw [if_neg (by omega)] at U;clear h1;go_enter Tryz.func11,Tryz.ntmps11;go_wp2_with fail;refine Calls.ret (U.out _ (Below.refl _ _)) ?_;rintro v M ⟨rfl,F⟩;have a5:=hide F;have aA:=Ah (aw.out.below F) aE.out;have aB:(loadCellsFrom ⟨w1.heap.size,0,none⟩ 0 3 #[]).run Tryz.prog M=.ok _ M:=Ah (ax.out.below F) rfl;have aC:(loadCellsFrom ⟨w2.heap.size,0,none⟩ 0 6 #[]).run Tryz.prog M=.ok _ M:=Ah (ay.out.below F) rfl;clear F aq a8 a9;go_wp2_with fail;refine Calls.ret (aF.out _ a5.out) ?_;rintro v w6 ⟨ao,al⟩;have a6:=hide (G.out.trans ((a5.out.trans (ao.mono a5.out.size)).mono G.out.size));have av:=hide al;obtain⟨S,A',c,rfl,-⟩:=al;clear ao aA aB aC;go_wp2_with fail;exact bodyPost_ret (v:=.tuple #[.slice A' S.length c,.int .i64 0]) (by simp [results,Tryz.results11,go_sem]) rfl ⟨a6.out,_,_,rfl,av.out⟩
end
end Go.Proofs.YtjejejmeddkciaaGreatDoor
namespace Go.Proofs.YtjejejmeddkciaaGreatDoor
open Go.RowKit
open K (Am AB At Ba Ah)
attribute [-go_sem] loadCellsFrom
set_option maxHeartbeats 16000000
set_option maxRecDepth 100000
section
variable {w:World} {cs ds:List Value} {p:Am} {q:AB} {m:Nat}
def Lh (w:World) (g:Nat) (v0 v1 v2 v3 v4 v5:Value):World:=(((((w.setCell ⟨g,0,none⟩ v0).setCell ⟨g,1,none⟩ v1).setCell ⟨g,2,none⟩ v2).setCell ⟨g,3,none⟩ v3).setCell ⟨g,4,none⟩ v4).setCell ⟨g,5,none⟩ v5
theorem SV {w:World} {g:Nat} {e:TypeId} {a0 a1 G I J M:Value} (h:Blk w g e #[a0,a1,G,I,J,M]) (v0 v1 v2 v3 C E:Value):∃F,Lh w g v0 v1 v2 v3 C E=F/\Blk F g e #[v0,v1,v2,v3,C,E]/\Ac w F (fun k=>k=g):=
 ⟨_,rfl,(((((h.set_ 0 v0).set_ 1 v1).set_ 2 v2).set_ 3 v3).set_ 4 C).set_ 5 E,((((((Ac.refl w (fun k=>k=g)).setCell (p:=⟨g,0,none⟩) (fun _=>rfl) _).setCell (p:=⟨g,1,none⟩) (fun _=>rfl) _).setCell (p:=⟨g,2,none⟩) (fun _=>rfl) _).setCell (p:=⟨g,3,none⟩) (fun _=>rfl) _).setCell (p:=⟨g,4,none⟩) (fun _=>rfl) _).setCell (p:=⟨g,5,none⟩) (fun _=>rfl) _⟩
theorem Yz {A:Option Addr} {c m:Nat} {l:List Int} (W:Sl w w.heap.size 1 Ai A l) (O:m=l.length) (aj:m<=60):
  Calls Tryz.prog 10 #[.slice A m c] w (Ret fun v w'=>Below w.heap.size w w'/\∃h cap,v=.agg #[.slice none 0 0,.slice h m cap,.int .i64 (m:Int),.slice none 0 0,.slice none 0 0,.int .i64 0]/\w'.ownsRow w.heap.size 3 1 (.slice h m cap) m (l.map fun x=>.int .i64 x)):=by
 obtain⟨w1,am,F,I,a9⟩:=Ae w #[.slice none 0 0,.slice none 0 0,.int .i64 0,.slice none 0 0,.slice none 0 0,.int .i64 0] 46;have M:=Hh (c:=c) (W.keep (w':=w1) (B':=w1.heap.size) (fun _ hp=>F.cell hp) F.size) (Nat.le_refl _) (by omega);rw [<-O] at M;have a7:=hide M;have V:=hide F;have a4:=hide I;have ak:=hide O;have ai:=I.lt;clear F I a9 W M O;go_enter Tryz.func10,Tryz.ntmps10;go_wp2_with fail;refine Calls.ret a7.out ?_;rintro v w2 ⟨G,E⟩;obtain⟨h,cap,rfl⟩:=AH E;have C:=a4.out.below G;have hf:=C.frozen;have ah:=C.lt;have hc:=C.cell;obtain⟨wF,ad,U,J⟩:=SV C (.slice none 0 0) (.slice h m cap) (.int .i64 (m:Int)) (.slice none 0 0) (.slice none 0 0) (.int .i64 0);have Z:=V.out.size;have al:=G.size;have aa:(loadCellsFrom ⟨w.heap.size,0,none⟩ 0 6 #[]).run Tryz.prog wF=.ok _ wF:=Ah U rfl;have a6:=hide ((V.out.trans (G.mono Z)).trans (J.below (by omega) fun b hb (e:b=w.heap.size)=>by omega));have a5:=hide (K.Kc (J.ownsRow E fun g hg e=>by have h1:=Bb E hg;have h2:g=w.heap.size:=e;omega) Z);unfold Lh at ad;clear G E U J C;go_wp2_with fail;refine bodyPost_ret (v:=.agg #[.slice none 0 0,.slice h m cap,.int .i64 (m:Int),.slice none 0 0,.slice none 0 0,.int .i64 0]) (by simp [results,Tryz.results10,go_sem,aa]) rfl ⟨a6.out,h,cap,rfl,a5.out⟩
end
end Go.Proofs.YtjejejmeddkciaaGreatDoor
