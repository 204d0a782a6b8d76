/-
  Part TI of a proof.
-/
import Derived.Test.YtjejejmeddkciaaGreatDoorPA
import Derived.Test.YtjejejmeddkciaaGreatDoorTE
import Derived.Test.YtjejejmeddkciaaGreatDoorPB
import Derived.Test.YtjejejmeddkciaaGreatDoorCI
import Derived.Test.YtjejejmeddkciaaGreatDoorTF
set_option maxHeartbeats 16000000
set_option maxRecDepth 100000
set_option linter.unusedVariables false
set_option linter.unusedSimpArgs false
namespace Go.Proofs.YtjejejmeddkciaaGreatDoor
open Go.RowKit
open K (Am Az)
abbrev Stp:=Nat×Nat×Int
def EnS (p:Am) (l:List Int) (t:Stp):Prop:=∃r,p.rules[t.1]?=some r/\EnR p.topo r l t.2.1 t.2.2
structure Au (p:Am) (l:List Int) (r i:Nat) (k:Int) (S:List Stp):Prop where
 mem:∀t,t∈S↔EnS p l t/\(t.1<r\/t.1=r/\(t.2.1<i\/t.2.1=i/\t.2.2<k))
 len:S.length<=100*r+10*i+(k+1).toNat
section
variable {p:Am} {l:List Int} {r i:Nat} {k:Int} {S:List Stp}
theorem EnR.range {topo:Int} {r:Az} (h:EnR topo r l i k):-1<=k/\k<l.length:=by
 have E:=h.lt;by_cases C:r.kind=5
 ·obtain⟨a,-,b,-⟩:=h.pass C;have:=(List.getElem?_eq_some_iff.1 b).1;omega
 ·have:=(h.loc C).1;omega
theorem EnS.range {t:Stp} (h:EnS p l t):t.1<p.rules.length/\t.2.1<l.length/\-1<=t.2.2/\t.2.2<l.length:=by
 obtain⟨r,E,C⟩:=h;exact⟨(List.getElem?_eq_some_iff.1 E).1,C.lt,C.range⟩
theorem Au.start:Au p l 0 0 (-1) []:=⟨fun t=>⟨fun h=>(by cases h),fun⟨h,h1⟩=>(by have:=h.range;omega)⟩,by simp⟩
theorem Au.put (h:Au p l r i k S) (F:-1<=k) (C:EnS p l (r,i,k)):Au p l r i (k+1) (S++[(r,i,k)]):=by
 refine⟨fun t=>?_,by have:=h.len;simp;omega⟩;rw [List.mem_append,List.mem_singleton,h.mem];constructor
 ·rintro(⟨a,b⟩|rfl)
  ·exact⟨a,by omega⟩
  ·exact⟨C,.inr ⟨rfl,.inr ⟨rfl,by show k<k+1;omega⟩⟩⟩
 ·rintro⟨a,b⟩;by_cases E:t.1=r/\t.2.1=i/\t.2.2=k
  ·right;obtain⟨x,y,z⟩:=t;obtain⟨rfl,rfl,rfl⟩:=E;rfl
  ·exact .inl ⟨a,by omega⟩
theorem Au.pass (h:Au p l r i k S) (F:-1<=k) (E:¬EnS p l (r,i,k)):Au p l r i (k+1) S:=by
 refine⟨fun t=>?_,by have:=h.len;omega⟩;rw [h.mem];refine and_congr_right fun a=>?_;have C:¬(t.1=r/\t.2.1=i/\t.2.2=k):=fun C=>by
  obtain⟨x,y,z⟩:=t;obtain⟨rfl,rfl,rfl⟩:=C;exact E a
 omega
theorem Au.row (h:Au p l r i (l.length:Int) S) (C:l.length<=8):Au p l r (i+1) (-1) S:=by
 refine⟨fun t=>?_,by have:=h.len;omega⟩;rw [h.mem];refine and_congr_right fun a=>?_;have:=a.range;omega
theorem Au.skip (h:Au p l r i (-1) S) (E:∀k,¬EnS p l (r,i,k)):Au p l r (i+1) (-1) S:=by
 refine⟨fun t=>?_,by have:=h.len;omega⟩;rw [h.mem];refine and_congr_right fun a=>?_;have C:¬(t.1=r/\t.2.1=i):=fun C=>by
  obtain⟨x,y,z⟩:=t;obtain⟨rfl,rfl⟩:=C;exact E z a
 have:=a.range;omega
theorem Au.rule (h:Au p l r l.length (-1) S) (C:l.length<=8):Au p l (r+1) 0 (-1) S:=by
 refine⟨fun t=>?_,by have:=h.len;omega⟩;rw [h.mem];refine and_congr_right fun a=>?_;have:=a.range;omega
theorem Au.all (h:Au p l p.rules.length 0 (-1) S):∀t,t∈S↔EnS p l t:=fun t=>by
 rw [h.mem];exact⟨fun x=>x.1,fun x=>⟨x,.inl x.range.1⟩⟩
end
def BE (t:Stp):Nat->Value
 | 0=>.int .i64 (t.1:Int)
 | 1=>.int .i64 (t.2.1:Int)
 | _=>.int .i64 t.2.2
def sC (t:Stp):List Value:=[.int .i64 (t.1:Int),.int .i64 (t.2.1:Int),.int .i64 t.2.2]
theorem XH:∀{l:List Stp} {k j:Nat} {e:Stp},l[k]?=some e->j<3->(l.flatMap sC)[k*3+j]?=some (BE e j)
 | [],_,_,_,h,_=>by simp at h
 | d::l,0,j,e,h,hj=>by
  have:d=e:=by simpa using h
  subst this;rw [List.flatMap_cons,List.getElem?_append_left (by simp [sC];omega)]
  match j,hj with
  | 0,_=>rfl
  | 1,_=>rfl
  | 2,_=>rfl
 | d::l,k+1,j,e,h,hj=>by
  rw [List.flatMap_cons,List.getElem?_append_right (by simp [sC];omega)];have E:=XH (l:=l) (k:=k) (j:=j) (by simpa using h) hj;have C:(k+1)*3+j - (sC d).length=k*3+j:=by simp [sC];omega
  rw [C];exact E
theorem Z2 {w:World} {base n B:Nat} {v:Value} {l:List Stp} (h:w.ownsRow base 52 3 v n (l.flatMap sC)) (I:l.length=n) (J:w.heap.size<=B) (U:n<=9223372036854775807):∃A c,v=.slice A l.length c/\Sl w B 3 BE A l:=by
 subst I;rcases h.2 with⟨rfl,h0⟩|⟨g,cap,E,rfl,M,C,O,V,W,ht⟩
 ·have:l=[]:=List.length_eq_zero_iff.1 h0;subst this;exact⟨none,0,rfl,Sl.nil rfl⟩
 ·refine⟨_,cap,rfl,by omega,fun _=>⟨g,0,rfl,?_,fun k d F j G=>?_⟩⟩
  ·have:=(Array.getElem?_eq_some_iff.1 C).1;omega
  ·rw [cell_of_row w g _ E 52 (0,0) C];have:=XH F G;rw [<-ht,List.getElem?_take] at this;split at this
   ·simpa using this
   ·cases this
theorem Zy:(Tryz.prog.info? 52).map (fun i=>(i.zero,i.size,i.bytes))=some (some (.agg #[.int .i64 0,.int .i64 0,.int .i64 0]),3,24):=by kernel_rfl
theorem aAv:Dd Tryz.prog 48 52 3:=EX Tryz.underlying48 Zy rfl (by omega) (by omega)
end Go.Proofs.YtjejejmeddkciaaGreatDoor
namespace Go.Proofs.YtjejejmeddkciaaGreatDoor
open Go.RowKit
open K (Am Az At AW Fc BR Ah Du)
attribute [-go_sem] loadCellsFrom
set_option maxHeartbeats 16000000
set_option maxRecDepth 100000
theorem aAF {w0 w1:World} {g3 g4 g5 m cap r i:Nat} {pc:Array Value} {A:Option Addr} {p:Am} {l:List Int} {vS:Value} {S:List Stp}
  (a7:Blk w0 g3 27 pc) (a8:Blk w0 g4 44 #[.int .i64 (m:Int),.int .i64 0,.int .i64 0]) (a9:Blk w0 g5 46 #[.slice none 0 0,.slice A m cap,.int .i64 (m:Int),.slice none 0 0,.slice none 0 0,.int .i64 0]) (aj:pc.size=10)
  (c9:m<=8) (hr:r<=30) (hi:i<m)
  (ae:∀(J:World) (k:Int),Below w0.heap.size w0 J->-1<=k->k<m->Calls Tryz.prog 33 #[.agg pc,.agg #[.int .i64 (m:Int),.int .i64 0,.int .i64 0],.agg #[.slice none 0 0,.slice A m cap,.int .i64 (m:Int),.slice none 0 0,.slice none 0 0,.int .i64 0],.agg #[.int .i64 (r:Int),.int .i64 (i:Int),.int .i64 k],.bool false] J (Ret fun v w'=>(∃b,v=.bool b/\(b=true↔EnS p l (r,i,k)))/\Below J.heap.size J w'))
  (hO:w1.ownsRow w0.heap.size 52 3 vS S.length (S.flatMap sC)) (W:Below w0.heap.size w0 w1) (hS:Au p l r i (-1) S)
  {u0 u1 u2 u6 bg an ao ap aq ar au av aw ay az aA aB aC aD aE aF aG aH aJ aK aL aM aN aO aP aQ bh bi bj bk bl bm bn bo bp bq br bs bt bu bv bw bx bz bA bB aR:Value}
  {Q:Exit->Act->World->Prop} (_:Reg.NoQ Q)
  (hQ:∀(bE bF bG bH bI bJ bK bL bM bN bO bP bQ bR bS bT bU bV bW bX bY:Value) (w':World) (aT:Value) (S':List Stp),w'.ownsRow w0.heap.size 52 3 aT S'.length (S'.flatMap sC)->Below w0.heap.size w0 w'->Au p l r i (m:Int) S'->Q (.exit 4) ⟨List.toArray (u0::u1::u2::(.pointer (some ⟨g3,0,none⟩))::(.pointer (some ⟨g4,0,none⟩))::(.pointer (some ⟨g5,0,none⟩))::u6::aT::(.int .i64 (r:Int))::(.int .i64 (i:Int))::(.int .i64 (m:Int))::bE::an::ao::ap::aq::ar::au::
   av::aw::ay::az::aA::aB::aC::aD::aE::aF::aG::aH::aJ::aK::aL::aM::aN::aO::aP::aQ::bF::bG::bH::bI::bJ::bK::bL::bM::bN::bO::bP::bQ::bR::bS::bT::bU::bV::
   bW::bX::bY::aR::[]),[]⟩ w'):
  (Code.loop (CG Tryz.f32 2)).wp Tryz.prog Q ⟨List.toArray (u0::u1::u2::(.pointer (some ⟨g3,0,none⟩))::(.pointer (some ⟨g4,0,none⟩))::(.pointer (some ⟨g5,0,none⟩))::u6::vS::(.int .i64 (r:Int))::(.int .i64 (i:Int))::(.int .i64 (-1))::bg::an::ao::ap::aq::ar::au::av::
   aw::ay::az::aA::aB::aC::aD::aE::aF::aG::aH::aJ::aK::aL::aM::aN::aO::aP::aQ::bh::bi::bj::bk::bl::bm::bn::bo::bp::bq::br::bs::bt::bu::bv::bw::bx::bz::
   bA::bB::aR::[]),[]⟩ w1:=by
 conv=>arg 2;arg 1;whnf
 have aY:=hide a7;have aZ:=hide a8;have aa:=hide a9;have be:=hide aj;have ba:=hide ae;have b5:=hide hO;have b8:=hide W;have b6:=hide hS;clear a7 a8 a9 aj ae hO W hS;go_loopw [7,10] (fun vv kk wr=>∃(k:Int) (S':List Stp),kk=.int .i64 k/\-1<=k/\k<=m/\Hid (wr.ownsRow w0.heap.size 52 3 vv S'.length (S'.flatMap sC))/\Hid (Below w0.heap.size w0 wr)/\Hid (Au p l r i k S')) (fun _ kk _=>((m:Int) - intOf kk).toNat)
 case atStart=>exact⟨-1,S,rfl,by omega,by omega,b5,b8,b6⟩
 case round=>
  obtain⟨k,S',rfl,a3,c6,O,G,F⟩:=hrel;obtain⟨AX,cX,bf⟩:=AH O.out;subst bf;have c5:=((aa.out.below G.out).cell 1);by_cases bc:k<m
  ·obtain⟨wa,cc,a2,M,-⟩:=Ae wr #[.int .i64 (r:Int),.int .i64 (i:Int),.int .i64 k] 52;have C:=hide (G.out.trans (a2.mono G.out.size));have af:=Ah (aY.out.below C.out) be.out;have ag:=Ah (aZ.out.below C.out) (n:=3) rfl;have ah:=Ah (aa.out.below C.out) (n:=6) rfl;have ai:=Ah M (n:=3) rfl;have b0:=hide M;have ad:=hide a2;clear a2 M;go_wp2_with fail;refine Calls.ret (ba.out wa k C.out a3 bc) ?_;rintro v w5 ⟨⟨b,rfl,I⟩,E⟩;have Z:=hide (C.out.trans (E.mono C.out.size));have U:=hide ((Ac.of_below (ad.out.trans (E.mono ad.out.size)) (fun _=>False)).ownsRow O.out (fun g _ h=>h));cases b
   ·have V:Hid (Au p l r i (k+1) S'):=hide (F.out.pass a3 (fun h=>by simpa using I.2 h));clear I E af ag ah ai;go_wp2_with fail;exact⟨⟨k+1,S',rfl,by omega,by omega,U,Z,V⟩,by simp [intOf];omega⟩
   ·have V:Hid (Au p l r i (k+1) (S'++[(r,i,k)])):=hide (F.out.put a3 (I.1 rfl));have c7:=Ah (b0.out.below E) (n:=3) rfl;have c8:=F.out.len;have ak:=Z.out.size;clear I E af ag ah ai;go_wp2_with (at_builtin;refine BP aAv rfl _ _ rfl w0.heap.size (.slice AX S'.length cX) S'.length _ rfl U.out [.int .i64 (r:Int),.int .i64 (i:Int),.int .i64 k] 1 rfl rfl (by simp [Value.oneCell']) (by omega) ak ?_;intro g aX w6 bd bb ca c0);have b4:Hid (w6.ownsRow w0.heap.size 52 3 (.slice (some ⟨g,0,none⟩) (S'.length+1) aX) (S'++[(r,i,k)]).length ((S'++[(r,i,k)]).flatMap sC)):=hide (by simpa [List.flatMap_append,sC] using bd);have b7:Hid (Below w0.heap.size w0 w6):=hide (Z.out.trans (bb.below (B:=w0.heap.size) ak fun b W he=>by have:=Bb U.out he;omega));exact⟨⟨k+1,_,rfl,by omega,by omega,b4,b7,V⟩,by simp [intOf];omega⟩
  ·obtain rfl:k=(m:Int):=by omega
   go_wp2_with fail;exact hQ _ _ _ _ _ _ _ _ _ _ _ _ _ _ _ _ _ _ _ _ _ _ _ S' O.out G.out F.out
theorem aAE {w0 w1:World} {g3 g4 g5 m cap r nr b off c7:Nat} {M:Array Value} {A:Option Addr} {p:Am} {l:List Int} {fr:Int} {vS:Value} {S:List Stp}
  (a6:Blk w0 g3 27 M) (a8:Blk w0 g4 44 #[.int .i64 (m:Int),.int .i64 0,.int .i64 0]) (a9:Blk w0 g5 46 #[.slice none 0 0,.slice A m cap,.int .i64 (m:Int),.slice none 0 0,.slice none 0 0,.int .i64 0]) (ao:M.size=10)
  (G:m<=8) (hr:r<nr) (cG:nr<=30) (ap:M[9]?=some (.slice (some ⟨b,off,none⟩) nr c7)) (aS:b<w0.heap.size) (aj:w0.cell? ⟨b,off+r*18+2,none⟩=some (.int .i64 fr))
  (hl:Sl w0 w0.heap.size 1 Ai A l) (hm:m=l.length) (an:∀i x,l[i]?=some x->x≠fr->∀k,¬EnS p l (r,i,k))
  (ai:∀(E:World) (i:Nat) (k:Int),Below w0.heap.size w0 E->i<m->l[i]?=some fr->-1<=k->k<m->Calls Tryz.prog 33 #[.agg M,.agg #[.int .i64 (m:Int),.int .i64 0,.int .i64 0],.agg #[.slice none 0 0,.slice A m cap,.int .i64 (m:Int),.slice none 0 0,.slice none 0 0,.int .i64 0],.agg #[.int .i64 (r:Int),.int .i64 (i:Int),.int .i64 k],.bool false] E (Ret fun v w'=>(∃b,v=.bool b/\(b=true↔EnS p l (r,i,k)))/\Below E.heap.size E w'))
  (hO:w1.ownsRow w0.heap.size 52 3 vS S.length (S.flatMap sC)) (hb:Below w0.heap.size w0 w1) (hS:Au p l r 0 (-1) S)
  {u0 u1 u2 u6 b4 b5 aw ax ay az aA aB aC b6 b7 b8 b9 ba bb bc bd be bf bg bh bi bj bk bm bn bo bp bq br bs bt bu bv bw bx bz bA bB bC bD bE bF bG bH bI bJ bK aE:Value}
  {Q:Exit->Act->World->Prop} (U:Reg.NoQ Q)
  (hQ:∀(bM bN bO bP bQ bR bS bT bU bV bW bX bY bZ c0 c4 c6 c8 c9 ca cb cc cd ce cf cg ch ci cj ck cm cn co cp cq cr ct cu cv cw cx:Value) (w':World) (aG:Value) (S':List Stp),w'.ownsRow w0.heap.size 52 3 aG S'.length (S'.flatMap sC)->Below w0.heap.size w0 w'->Au p l (r+1) 0 (-1) S'->Q (.exit 2) ⟨List.toArray (u0::u1::u2::(.pointer (some ⟨g3,0,none⟩))::(.pointer (some ⟨g4,0,none⟩))::(.pointer (some ⟨g5,0,none⟩))::u6::aG::(.int .i64 (r:Int))::(.int .i64 (m:Int))::bM::bN::aw::ax::ay::az::aA::aB::aC::bO::bP::
   bQ::bR::bS::bT::bU::bV::bW::bX::bY::bZ::c0::c4::c6::c8::c9::ca::cb::cc::cd::ce::cf::cg::ch::ci::cj::ck::cm::cn::co::cp::cq::cr::ct::cu::cv::cw::cx::
   aE::[]),[]⟩ w'):
  (Code.loop (CG Tryz.f32 1)).wp Tryz.prog Q ⟨List.toArray (u0::u1::u2::(.pointer (some ⟨g3,0,none⟩))::(.pointer (some ⟨g4,0,none⟩))::(.pointer (some ⟨g5,0,none⟩))::u6::vS::(.int .i64 (r:Int))::(.int .i64 0)::b4::b5::aw::ax::ay::az::aA::aB::aC::b6::b7::b8::
   b9::ba::bb::bc::bd::be::bf::bg::bh::bi::bj::bk::bm::bn::bo::bp::bq::br::bs::bt::bu::bv::bw::bx::bz::bA::bB::bC::bD::bE::bF::bG::bH::bI::bJ::bK::aE::
   []),[]⟩ w1:=by
 conv=>arg 2;arg 1;whnf
 have a7:=hide a6;have aL:=hide a8;have O:=hide a9;have aX:=hide ao;have aT:=hide ai;have aN:=hide hO;have aQ:=hide hb;have aO:=hide hS;have aV:=hide hl;have a2:=hide hm;have aW:=hide an;have aU:=hide aj;have aY:=hide ap;clear a6 a8 a9 ao ai hO hb hS hl hm an aj ap;go_loopw [7,9] (fun vv ii wr=>∃(i:Nat) (S':List Stp),ii=.int .i64 (i:Int)/\i<=m/\Hid (wr.ownsRow w0.heap.size 52 3 vv S'.length (S'.flatMap sC))/\Hid (Below w0.heap.size w0 wr)/\Hid (Au p l r i (-1) S')) (fun _ ii _=>m - (intOf ii).toNat)
 case atStart=>exact⟨0,S,rfl,Nat.zero_le _,aN,aQ,aO⟩
 case round=>
  obtain⟨i,S',rfl,hi,ab,I,V⟩:=hrel;have c5:=((O.out.below I.out).cell 1);by_cases Z:i<m
  ·have C:=hide (I.out.trans ((Ap wr).mono I.out.size));have d5:=((O.out.below C.out).cell 1);have d3:=((a7.out.below C.out).cell 9).trans aY.out;have cB:=(C.out.cell (p:=⟨b,off+r*18+2,none⟩) aS).trans aU.out;have al:i<l.length:=by rw [<-a2.out];exact Z
   obtain⟨bl,ol,x,hA,aR,hx,ah⟩:=aV.out.at al;subst hA;have dx:wr.drew.cell? ⟨bl,ol+i,none⟩=some (.int .i64 x):=by
    have:=ah 0 (by decide);rw [Nat.mul_one,Nat.add_zero] at this;exact(C.out.cell aR).trans this
   have cF:(i:Int)<(m:Int):=by omega
   have cJ:(r:Int)<(nr:Int):=by omega
   have ae:=hide ((Ac.of_below (Ap wr) (fun _=>False)).ownsRow ab.out (fun g _ h=>h));have ar:=hide hx;clear ah hx al;by_cases J:x=fr
   ·subst J;go_wp2_with fail;refine Reg.cP [0,1,0,7,15,0,32,0,224,480,992,2047] ?_ (by kernel_rfl) (by repeat (first|exact U|refine Reg.NoQ.then ?_|refine Reg.NoQ.inBlock ?_));go_wp2_with fail;refine aAF (w0:=w0) (m:=m) (cap:=cap) (r:=r) (i:=i) a7.out aL.out O.out aX.out G (by omega) Z (fun E k aZ h1 h2=>aT.out E i k aZ Z ar.out h1 h2) ae.out C.out V.out ?_ ?_
    ·repeat (first|exact U|refine Reg.NoQ.then ?_|refine Reg.NoQ.inBlock ?_)
    iterate 21 (intro _)
    intro w6 cL S6 ad ag F;have W:Hid (Au p l r (i+1) (-1) S6):=hide (by rw [a2.out] at F G;exact F.row G);have aM:=hide ad;have aP:=hide ag;clear ad ag F;go_wp2_with fail;exact⟨⟨i+1,S6,by go_num,by omega,aM,aP,W⟩,by simp [intOf];omega⟩
   ·have cK:(x != fr)=true:=by simp [J]
    have W:Hid (Au p l r (i+1) (-1) S'):=hide (V.out.skip (aW.out i x ar.out J));clear J;go_wp2_with fail;refine Reg.cP [0,1,0,7,15,0,32,0,224,480,992,2047] ?_ (by kernel_rfl) (by repeat (first|exact U|refine Reg.NoQ.then ?_|refine Reg.NoQ.inBlock ?_));go_wp2_with fail;exact⟨⟨i+1,S',by go_num,by omega,ae,C,W⟩,by simp [intOf];omega⟩
  ·obtain rfl:i=m:=by omega
   have F:Hid (Au p l (r+1) 0 (-1) S'):=hide (by have:=V.out;rw [a2.out] at this G;exact this.rule G);go_wp2_with fail;exact hQ _ _ _ _ _ _ _ _ _ _ _ _ _ _ _ _ _ _ _ _ _ _ _ _ _ _ _ _ _ _ _ _ _ _ _ _ _ _ _ _ _ _ _ S' ab.out I.out F.out
end Go.Proofs.YtjejejmeddkciaaGreatDoor
namespace Go.Proofs.YtjejejmeddkciaaGreatDoor
open Go.RowKit
open K (Am AB At Ba Ah)
attribute [-go_sem] loadCellsFrom
set_option maxHeartbeats 16000000
set_option maxRecDepth 100000
section
variable {w:World} {cs:List Value} {p:Am} {m:Nat}
theorem Yp:Calls Tryz.prog 124 #[.agg cs.toArray,.agg #[.int .i64 0,.int .i64 0,.int .i64 0]] w (Ret fun v w'=>v=.bool false/\Below w.heap.size w w'):=by
 obtain⟨U,W,h,G,J⟩:=Ae w cs.toArray 27;obtain⟨w2,Z,F,C,M⟩:=Ae U #[.int .i64 0,.int .i64 0,.int .i64 0] 44;have E:=h.trans (F.mono h.size);have I:=hide E;have V:=C.cell;have O:K.inC 0 1 1048576=false:=by simp [K.inC]
 generalize cs.toArray=pc at*;clear h F G C J M E;go_enter Tryz.func124,Tryz.ntmps124;go_wp2_with (go_at_call 138;refine(K.Aq _ _ _ _).mono ?_;rintro e w' ⟨rfl,rfl⟩;rw [O]);go_ret;exact⟨rfl,I.out⟩
theorem aAB (h:At w w.heap.size cs p) (a9:p.Small) (hT:K.SpOK w) (h0:K.protE K.nameOK p=0):Calls Tryz.prog 64 #[.agg cs.toArray,.agg #[.int .i64 0,.int .i64 0,.int .i64 0]] w (Ret fun v w'=>v=.int .i64 8/\Below w.heap.size w w'):=by
 have O:=h.rules_at.1;obtain⟨w1,an,G,V,ag⟩:=Ae w cs.toArray 27;obtain⟨w2,ao,I,W,ah⟩:=Ae w1 #[.int .i64 0,.int .i64 0,.int .i64 0] 44;have a5:=G.trans (I.mono G.size);have C:=hide a5;have F:=(V.below I);have a4:=W;have Z:=h.keep (w':=w2) (B':=w2.heap.size) (fun _ hp=>C.out.cell hp) C.out.size;generalize a8:cs.toArray=pc at*;have M:=K.aCg Z a9 (hT.below C.out);rw [h0,a8] at M;have ai:=Ah F O;have ab:=hide F;have ae:=hide a4;have am:=hide O;clear h F a4 G I V W ag ah a5 a9 hT h0 Z O;go_enter Tryz.func64,Tryz.ntmps64;go_wp2_with fail;refine Calls.ret M ?_;rintro v U ⟨rfl,E⟩;have a7:=hide (C.out.trans (E.mono C.out.size));have a3:=ab.out.below E;have ad:=hide (ae.out.below E);have aj:=Ah a3 am.out;have ak:(loadCellsFrom ⟨w1.heap.size,0,none⟩ 0 3 #[]).run Tryz.prog U=.ok _ U:=Ah ad.out rfl;have J:=Yp (w:=U) (cs:=cs);rw [a8] at J;clear E a3 ai M;go_wp2_with fail;refine Calls.ret J ?_;rintro v w5 ⟨rfl,a6⟩;have af:=hide (a7.out.trans (a6.mono a7.out.size));clear a6 J aj ak;go_wp2_with fail;go_ret;exact⟨rfl,af.out⟩
theorem Xx {A Z0 Z3 Z4:Option Addr} {cap z0 z3 z4:Nat} {l:List Int} (h:At w w.heap.size cs p) (U:p.Small) (W:K.SpOK w) (h0:K.protE K.nameOK p=0) (hb:Ek p) (hl:Sl w w.heap.size 1 Ai A l) (hm:m=l.length) (al:∀x∈l,inN (p.states.length:Int) x=true) (aa:m<=8):
  Calls Tryz.prog 31 #[.agg cs.toArray,.agg #[.int .i64 (m:Int),.int .i64 0,.int .i64 0],.agg #[.slice Z0 0 z0,.slice A m cap,.int .i64 (m:Int),.slice Z3 0 z3,.slice Z4 0 z4,.int .i64 0]] w (Ret fun v w'=>v=.int .i64 (if m=0 then 8 else 0)/\Below w.heap.size w w'):=by
 have ab:=h.rules_at.1;obtain⟨w1,aG,a5,af,aw⟩:=Ae w cs.toArray 27;obtain⟨w2,aE,a6,ag,ax⟩:=Ae w1 #[.int .i64 (m:Int),.int .i64 0,.int .i64 0] 44;obtain⟨J,aF,O,ah,ay⟩:=Ae w2 #[.slice Z0 0 z0,.slice A m cap,.int .i64 (m:Int),.slice Z3 0 z3,.slice Z4 0 z4,.int .i64 0] 46;have a4:=a5.trans (a6.mono a5.size);have aj:=a4.trans (O.mono a4.size);have G:=hide aj;have Z:=(af.below a6).below O;have a2:=ag.below O;have ai:=ah;have V:Hid (∀E,Below J.heap.size J E->Calls Tryz.prog 64 #[.agg cs.toArray,.agg #[.int .i64 (m:Int),.int .i64 0,.int .i64 0]] E (Ret fun v w'=>v=.int .i64 (if m=0 then 8 else 0)/\Below E.heap.size E w')):=hide (fun E hx=>by
  have C:=G.out.trans (hx.mono G.out.size);by_cases ap:m=0
  ·subst ap;rw [if_pos rfl];exact aAB (h.keep (fun p I=>C.cell I) C.size) U (W.below C) h0
  ·rw [if_neg ap];exact S9 (h.keep (fun p I=>C.cell I) C.size) U (W.below C) h0 hb ⟨by omega,aa⟩)
 have aD:Hid (∀E,Below J.heap.size J E->Calls Tryz.prog 65 #[.agg cs.toArray,.agg #[.int .i64 (m:Int),.int .i64 0,.int .i64 0],.agg #[.slice Z0 0 z0,.slice A m cap,.int .i64 (m:Int),.slice Z3 0 z3,.slice Z4 0 z4,.int .i64 0]] E (Ret fun v w'=>v=.bool true/\Below E.heap.size E w')):=hide (fun E hx=>by
  have C:=G.out.trans (hx.mono G.out.size);exact TW (h.keep (fun p I=>C.cell I) C.size) hb (hl.keep (fun p I=>C.cell I) C.size) hm al U.states aa)
 generalize cs.toArray=pc at*;have aq:=hide Z;have ar:=hide a2;have au:=hide ai;have aC:=hide ab;have an:=Ah Z ab;have a9:(loadCellsFrom ⟨w1.heap.size,0,none⟩ 0 3 #[]).run Tryz.prog J=.ok _ J:=Ah a2 rfl;have av:m=0\/0<m:=by omega
 clear h U W h0 hb hl hm al aa Z a2 ai a5 a6 O af ag ah aw ax ay a4 aj ab;rcases av with rfl|h1
 ·rw [if_pos rfl,show((0:Nat):Int)=0 from rfl] at V;rw [if_pos rfl,show((0:Nat):Int)=0 from rfl];rw [show((0:Nat):Int)=0 from rfl] at a9 aE aF;go_enter Tryz.func31,Tryz.ntmps31;go_wp2_with fail;refine Calls.ret (V.out _ (Below.refl _ _)) ?_;rintro v M ⟨rfl,F⟩;have a8:=hide (G.out.trans (F.mono G.out.size));clear F an a9;go_wp2_with fail;go_ret;exact⟨rfl,a8.out⟩
 ·rw [if_neg (by omega)] at V ⊢;clear h1;go_enter Tryz.func31,Tryz.ntmps31;go_wp2_with fail;refine Calls.ret (V.out _ (Below.refl _ _)) ?_;rintro v M ⟨rfl,F⟩;have a7:=hide F;have az:=Ah (aq.out.below F) aC.out;have aA:(loadCellsFrom ⟨w1.heap.size,0,none⟩ 0 3 #[]).run Tryz.prog M=.ok _ M:=Ah (ar.out.below F) rfl;have aB:(loadCellsFrom ⟨w2.heap.size,0,none⟩ 0 6 #[]).run Tryz.prog M=.ok _ M:=Ah (au.out.below F) rfl;clear F an a9;go_wp2_with fail;refine Calls.ret (aD.out _ a7.out) ?_;rintro v w6 ⟨rfl,ak⟩;have a8:=hide (G.out.trans ((a7.out.trans (ak.mono a7.out.size)).mono G.out.size));clear ak az aA aB;go_wp2_with fail;go_ret;exact⟨rfl,a8.out⟩
end
end Go.Proofs.YtjejejmeddkciaaGreatDoor
