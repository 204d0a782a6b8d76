/-
  Part TI of a proof.
-/
import Derived.Test.YtfcfpoemojjglaaGreatDoorPA
import Derived.Test.YtfcfpoemojjglaaGreatDoorTE
import Derived.Test.YtfcfpoemojjglaaGreatDoorPB
import Derived.Test.YtfcfpoemojjglaaGreatDoorCI
import Derived.Test.YtfcfpoemojjglaaGreatDoorTF
set_option maxHeartbeats 16000000
set_option maxRecDepth 100000
set_option linter.unusedVariables false
set_option linter.unusedSimpArgs false
namespace Go.Proofs.YtfcfpoemojjglaaGreatDoor
open Go.RowKit
open K (Am Az)
abbrev Stp:=Nat×Nat×Int
def EnS (p:Am) (l:List Int) (t:Stp):Prop:=∃r,p.rules[t.1]?=some r∧EnR p.topo r l t.2.1 t.2.2
structure Au (p:Am) (l:List Int) (r i:Nat) (k:Int) (S:List Stp):Prop where
 mem:∀t,t∈S↔EnS p l t∧(t.1<r∨t.1=r∧(t.2.1<i∨t.2.1=i∧t.2.2<k))
 len:S.length≤100*r+10*i+(k+1).toNat
section
variable {p:Am} {l:List Int} {r i:Nat} {k:Int} {S:List Stp}
theorem EnR.range {topo:Int} {r:Az} (h:EnR topo r l i k):-1≤k∧k<l.length:=by
 have y:=h.lt
 by_cases x:r.kind=5
 ·obtain⟨a,-,b,-⟩:=h.pass x
  have:=(List.getElem?_eq_some_iff.1 b).1
  omega
 ·have:=(h.loc x).1
  omega
theorem EnS.range {t:Stp} (h:EnS p l t):t.1<p.rules.length∧t.2.1<l.length∧-1≤t.2.2∧t.2.2<l.length:=by
 obtain⟨r,y,x⟩:=h
 exact⟨(List.getElem?_eq_some_iff.1 y).1,x.lt,x.range⟩
theorem Au.start:Au p l 0 0 (-1) []:=⟨fun t=>⟨fun h=>(by cases h),fun⟨h,h1⟩=>(by have:=h.range; omega)⟩,by simp⟩
theorem Au.put (h:Au p l r i k S) (hk:-1≤k) (C:EnS p l (r,i,k)):Au p l r i (k+1) (S++[(r,i,k)]):=by
 refine⟨fun t=>?_,by have:=h.len; simp; omega⟩
 rw [List.mem_append,List.mem_singleton,h.mem]
 constructor
 ·rintro(⟨a,b⟩ | rfl)
  ·exact⟨a,by omega⟩
  ·exact⟨C,.inr ⟨rfl,.inr ⟨rfl,by show k<k+1; omega⟩⟩⟩
 ·rintro⟨a,b⟩
  by_cases E:t.1=r∧t.2.1=i∧t.2.2=k
  ·right
   obtain⟨x,y,z⟩:=t
   obtain⟨rfl,rfl,rfl⟩:=E
   rfl
  ·exact .inl ⟨a,by omega⟩
theorem Au.pass (h:Au p l r i k S) (hk:-1≤k) (E:¬EnS p l (r,i,k)):Au p l r i (k+1) S:=by
 refine⟨fun t=>?_,by have:=h.len; omega⟩
 rw [h.mem]
 refine and_congr_right fun a=>?_
 have C:¬(t.1=r∧t.2.1=i∧t.2.2=k):=fun C=>by
  obtain⟨x,y,z⟩:=t
  obtain⟨rfl,rfl,rfl⟩:=C
  exact E a
 omega
theorem Au.row (h:Au p l r i (l.length:Int) S) (x:l.length≤8):Au p l r (i+1) (-1) S:=by
 refine⟨fun t=>?_,by have:=h.len; omega⟩
 rw [h.mem]
 refine and_congr_right fun a=>?_
 have:=a.range
 omega
theorem Au.skip (h:Au p l r i (-1) S) (E:∀k,¬EnS p l (r,i,k)):Au p l r (i+1) (-1) S:=by
 refine⟨fun t=>?_,by have:=h.len; omega⟩
 rw [h.mem]
 refine and_congr_right fun a=>?_
 have C:¬(t.1=r∧t.2.1=i):=fun C=>by
  obtain⟨x,y,z⟩:=t
  obtain⟨rfl,rfl⟩:=C
  exact E z a
 have:=a.range
 omega
theorem Au.rule (h:Au p l r l.length (-1) S) (x:l.length≤8):Au p l (r+1) 0 (-1) S:=by
 refine⟨fun t=>?_,by have:=h.len; omega⟩
 rw [h.mem]
 refine and_congr_right fun a=>?_
 have:=a.range
 omega
theorem Au.all (h:Au p l p.rules.length 0 (-1) S):∀t,t∈S↔EnS p l t:=fun t=>by
 rw [h.mem]
 exact⟨fun x=>x.1,fun x=>⟨x,.inl x.range.1⟩⟩
end
def BE (t:Stp):Nat→Value
 | 0=>.int .i64 (t.1:Int)
 | 1=>.int .i64 (t.2.1:Int)
 | _=>.int .i64 t.2.2
def sC (t:Stp):List Value:=[.int .i64 (t.1:Int),.int .i64 (t.2.1:Int),.int .i64 t.2.2]
theorem XH:∀{l:List Stp} {k j:Nat} {e:Stp},l[k]?=some e→j<3→(l.flatMap sC)[k*3+j]?=some (BE e j)
 | [],_,_,_,h,_=>by simp at h
 | d::l,0,j,e,h,hj=>by
  have:d=e:=by simpa using h
  subst this
  rw [List.flatMap_cons,List.getElem?_append_left (by simp [sC]; omega)]
  match j,hj with
  | 0,_=>rfl
  | 1,_=>rfl
  | 2,_=>rfl
 | d::l,k+1,j,e,h,hj=>by
  rw [List.flatMap_cons,List.getElem?_append_right (by simp [sC]; omega)]
  have y:=XH (l:=l) (k:=k) (j:=j) (by simpa using h) hj
  have x:(k+1)*3+j - (sC d).length=k*3+j:=by simp [sC]; omega
  rw [x]
  exact y
theorem Z2 {w:World} {base n B:Nat} {v:Value} {l:List Stp} (h:w.ownsRow base 63 3 v n (l.flatMap sC)) (E:l.length=n) (F:w.heap.size≤B) (J:n≤9223372036854775807):∃A c,v=.slice A l.length c∧Sl w B 3 BE A l:=by
 subst E
 rcases h.2 with⟨rfl,h0⟩ | ⟨g,cap,y,rfl,G,x,I,M,O,ht⟩
 ·have:l=[]:=List.length_eq_zero_iff.1 h0
  subst this
  exact⟨none,0,rfl,Sl.nil rfl⟩
 ·refine⟨_,cap,rfl,by omega,fun _=>⟨g,0,rfl,?_,fun k d hd j C=>?_⟩⟩
  ·have:=(Array.getElem?_eq_some_iff.1 x).1; omega
  ·rw [cell_of_row w g _ y 63 (0,0) x]
   have:=XH hd C
   rw [←ht,List.getElem?_take] at this
   split at this
   ·simpa using this
   ·cases this
theorem Zy:(Tryz.prog.info? 63).map (fun i=>(i.zero,i.size,i.bytes))=some (some (.agg #[.int .i64 0,.int .i64 0,.int .i64 0]),3,24):=by kernel_rfl
theorem aAv:Dd Tryz.prog 59 63 3:=EX Tryz.underlying59 Zy rfl (by omega) (by omega)
end Go.Proofs.YtfcfpoemojjglaaGreatDoor
namespace Go.Proofs.YtfcfpoemojjglaaGreatDoor
open Go.RowKit
open K (Am Az At AW Fc BR Ah Du)
attribute [-go_sem] loadCellsFrom
set_option maxHeartbeats 16000000
set_option maxRecDepth 100000
theorem aAF {w0 w1:World} {g3 g4 g5 m cap r i:Nat} {pc:Array Value} {A:Option Addr} {p:Am} {l:List Int} {vS:Value} {S:List Stp}
  (a4:Blk w0 g3 27 pc) (a5:Blk w0 g4 44 #[.int .i64 (m:Int),.int .i64 0,.int .i64 0]) (a6:Blk w0 g5 46 #[.slice none 0 0,.slice A m cap,.int .i64 (m:Int),.slice none 0 0,.slice none 0 0,.int .i64 0]) (af:pc.size=10)
  (c0:m≤8) (hr:r≤30) (hi:i<m)
  (aa:∀(G:World) (k:Int),Below w0.heap.size w0 G→-1≤k→k<m→Calls Tryz.prog 65 #[.agg pc,.agg #[.int .i64 (m:Int),.int .i64 0,.int .i64 0],.agg #[.slice none 0 0,.slice A m cap,.int .i64 (m:Int),.slice none 0 0,.slice none 0 0,.int .i64 0],.agg #[.int .i64 (r:Int),.int .i64 (i:Int),.int .i64 k],.bool false] G (Ret fun v w'=>(∃b,v=.bool b∧(b=true↔EnS p l (r,i,k)))∧Below G.heap.size G w'))
  (hO:w1.ownsRow w0.heap.size 63 3 vS S.length (S.flatMap sC)) (U:Below w0.heap.size w0 w1) (hS:Au p l r i (-1) S)
  {u0 u1 u2 u6 bb ai aj ak al am an ao ap ar au av aw ax ay az aA aB aC aD aE aF aG aH aJ aK aL bc bd be bf bg bh bi bj bk bl bm bn bo bp bq br bs bt bu bv aM:Value}
  {Q:Exit→Act→World→Prop} (_:Reg.NoQ Q)
  (hQ:∀(bz bA bB bC bD bE bF bG bH bI bJ bK bL bM bN bO bP bQ bR bS bT:Value) (w':World) (aO:Value) (S':List Stp),w'.ownsRow w0.heap.size 63 3 aO S'.length (S'.flatMap sC)→Below w0.heap.size w0 w'→Au p l r i (m:Int) S'→Q (.exit 4) ⟨List.toArray (u0::u1::u2::(.pointer (some ⟨g3,0,none⟩))::(.pointer (some ⟨g4,0,none⟩))::(.pointer (some ⟨g5,0,none⟩))::u6::aO::(.int .i64 (r:Int))::(.int .i64 (i:Int))::(.int .i64 (m:Int))::bz::ai::aj::ak::al::am::an::
   ao::ap::ar::au::av::aw::ax::ay::az::aA::aB::aC::aD::aE::aF::aG::aH::aJ::aK::aL::bA::bB::bC::bD::bE::bF::bG::bH::bI::bJ::bK::bL::bM::bN::bO::bP::bQ::
   bR::bS::bT::aM::[]),[]⟩ w'):
  (Code.loop (CG Tryz.f64 2)).wp Tryz.prog Q ⟨List.toArray (u0::u1::u2::(.pointer (some ⟨g3,0,none⟩))::(.pointer (some ⟨g4,0,none⟩))::(.pointer (some ⟨g5,0,none⟩))::u6::vS::(.int .i64 (r:Int))::(.int .i64 (i:Int))::(.int .i64 (-1))::bb::ai::aj::ak::al::am::an::ao::
   ap::ar::au::av::aw::ax::ay::az::aA::aB::aC::aD::aE::aF::aG::aH::aJ::aK::aL::bc::bd::be::bf::bg::bh::bi::bj::bk::bl::bm::bn::bo::bp::bq::br::bs::bt::
   bu::bv::aM::[]),[]⟩ w1:=by
 conv=>arg 2; arg 1; whnf
 have aT:=hide a4
 have aU:=hide a5
 have a7:=hide a6
 have b9:=hide af
 have b5:=hide aa
 have aX:=hide hO
 have b0:=hide U
 have aY:=hide hS
 clear a4 a5 a6 af aa hO U hS
 go_loopw [7,10] (fun vv kk wr=>∃(k:Int) (S':List Stp),kk=.int .i64 k∧-1≤k∧k≤m∧Hid (wr.ownsRow w0.heap.size 63 3 vv S'.length (S'.flatMap sC))∧Hid (Below w0.heap.size w0 wr)∧Hid (Au p l r i k S')) (fun _ kk _=>((m:Int) - intOf kk).toNat)
 case atStart=>exact⟨-1,S,rfl,by omega,by omega,aX,b0,aY⟩
 case round=>
  obtain⟨k,S',rfl,Z,bX,J,E,C⟩:=hrel
  obtain⟨AX,cX,ba⟩:=AH J.out
  subst ba
  have c5:=((a7.out.below E.out).cell 1)
  by_cases b7:k<m
  ·obtain⟨wa,c7,W,I,-⟩:=Ae wr #[.int .i64 (r:Int),.int .i64 (i:Int),.int .i64 k] 63
   have x:=hide (E.out.trans (W.mono E.out.size))
   have ab:=Ah (aT.out.below x.out) b9.out
   have ac:=Ah (aU.out.below x.out) (n:=3) rfl
   have ad:=Ah (a7.out.below x.out) (n:=6) rfl
   have ae:=Ah I (n:=3) rfl
   have aV:=hide I
   have a9:=hide W
   clear W I
   go_wp2_with fail
   refine Calls.ret (b5.out wa k x.out Z b7) ?_
   rintro v w5 ⟨⟨b,rfl,F⟩,y⟩
   have V:=hide (x.out.trans (y.mono x.out.size))
   have M:=hide ((Ac.of_below (a9.out.trans (y.mono a9.out.size)) (fun _=>False)).ownsRow J.out (fun g _ h=>h))
   cases b
   ·have O:Hid (Au p l r i (k+1) S'):=hide (C.out.pass Z (fun h=>by simpa using F.2 h))
    clear F y ab ac ad ae
    go_wp2_with fail
    exact⟨⟨k+1,S',rfl,by omega,by omega,M,V,O⟩,by simp [intOf]; omega⟩
   ·have O:Hid (Au p l r i (k+1) (S'++[(r,i,k)])):=hide (C.out.put Z (F.1 rfl))
    have bY:=Ah (aV.out.below y) (n:=3) rfl
    have bZ:=C.out.len
    have ag:=V.out.size
    clear F y ab ac ad ae
    go_wp2_with (at_builtin; refine BP aAv rfl _ _ rfl w0.heap.size (.slice AX S'.length cX) S'.length _ rfl M.out [.int .i64 (r:Int),.int .i64 (i:Int),.int .i64 k] 1 rfl rfl (by simp [Value.oneCell']) (by omega) ag ?_; intro g aS w6 b8 b6 c4 bV)
    have aW:Hid (w6.ownsRow w0.heap.size 63 3 (.slice (some ⟨g,0,none⟩) (S'.length+1) aS) (S'++[(r,i,k)]).length ((S'++[(r,i,k)]).flatMap sC)):=hide (by simpa [List.flatMap_append,sC] using b8)
    have aZ:Hid (Below w0.heap.size w0 w6):=hide (V.out.trans (b6.below (B:=w0.heap.size) ag fun b U he=>by have:=Bb M.out he; omega))
    exact⟨⟨k+1,_,rfl,by omega,by omega,aW,aZ,O⟩,by simp [intOf]; omega⟩
  ·obtain rfl:k=(m:Int):=by omega
   go_wp2_with fail
   exact hQ _ _ _ _ _ _ _ _ _ _ _ _ _ _ _ _ _ _ _ _ _ _ _ S' J.out E.out C.out
theorem aAE {w0 w1:World} {g3 g4 g5 m cap r nr b off c7:Nat} {pc:Array Value} {A:Option Addr} {p:Am} {l:List Int} {fr:Int} {vS:Value} {S:List Stp}
  (a4:Blk w0 g3 27 pc) (a6:Blk w0 g4 44 #[.int .i64 (m:Int),.int .i64 0,.int .i64 0]) (a7:Blk w0 g5 46 #[.slice none 0 0,.slice A m cap,.int .i64 (m:Int),.slice none 0 0,.slice none 0 0,.int .i64 0]) (al:pc.size=10)
  (F:m≤8) (hr:r<nr) (cA:nr≤30) (am:pc[9]?=some (.slice (some ⟨b,off,none⟩) nr c7)) (aO:b<w0.heap.size) (ag:w0.cell? ⟨b,off+r*18+2,none⟩=some (.int .i64 fr))
  (hl:Sl w0 w0.heap.size 1 Ai A l) (hm:m=l.length) (ak:∀i x,l[i]?=some x→x≠fr→∀k,¬EnS p l (r,i,k))
  (af:∀(C:World) (i:Nat) (k:Int),Below w0.heap.size w0 C→i<m→l[i]?=some fr→-1≤k→k<m→Calls Tryz.prog 65 #[.agg pc,.agg #[.int .i64 (m:Int),.int .i64 0,.int .i64 0],.agg #[.slice none 0 0,.slice A m cap,.int .i64 (m:Int),.slice none 0 0,.slice none 0 0,.int .i64 0],.agg #[.int .i64 (r:Int),.int .i64 (i:Int),.int .i64 k],.bool false] C (Ret fun v w'=>(∃b,v=.bool b∧(b=true↔EnS p l (r,i,k)))∧Below C.heap.size C w'))
  (hO:w1.ownsRow w0.heap.size 63 3 vS S.length (S.flatMap sC)) (hb:Below w0.heap.size w0 w1) (hS:Au p l r 0 (-1) S)
  {u0 u1 u2 u6 aX aY aq ar au av aw ax ay aZ b0 b4 b5 b6 b7 b8 b9 ba bb bc bd be bf bg bh bi bj bk bm bn bo bp bq br bs bt bu bv bw bx bz bA bB bC bD bE bF bG aA:Value}
  {Q:Exit→Act→World→Prop} (M:Reg.NoQ Q)
  (hQ:∀(bI bJ bK bL bM bN bO bP bQ bR bS bT bU bV bW bX bY bZ c0 c4 c6 c8 c9 ca cb cc cd ce cf cg ch ci cj ck cl cm cn co cp cq cr:Value) (w':World) (aC:Value) (S':List Stp),w'.ownsRow w0.heap.size 63 3 aC S'.length (S'.flatMap sC)→Below w0.heap.size w0 w'→Au p l (r+1) 0 (-1) S'→Q (.exit 2) ⟨List.toArray (u0::u1::u2::(.pointer (some ⟨g3,0,none⟩))::(.pointer (some ⟨g4,0,none⟩))::(.pointer (some ⟨g5,0,none⟩))::u6::aC::(.int .i64 (r:Int))::(.int .i64 (m:Int))::bI::bJ::aq::ar::au::av::aw::ax::ay::bK::bL::
   bM::bN::bO::bP::bQ::bR::bS::bT::bU::bV::bW::bX::bY::bZ::c0::c4::c6::c8::c9::ca::cb::cc::cd::ce::cf::cg::ch::ci::cj::ck::cl::cm::cn::co::cp::cq::cr::
   aA::[]),[]⟩ w'):
  (Code.loop (CG Tryz.f64 1)).wp Tryz.prog Q ⟨List.toArray (u0::u1::u2::(.pointer (some ⟨g3,0,none⟩))::(.pointer (some ⟨g4,0,none⟩))::(.pointer (some ⟨g5,0,none⟩))::u6::vS::(.int .i64 (r:Int))::(.int .i64 0)::aX::aY::aq::ar::au::av::aw::ax::ay::aZ::b0::b4::
   b5::b6::b7::b8::b9::ba::bb::bc::bd::be::bf::bg::bh::bi::bj::bk::bm::bn::bo::bp::bq::br::bs::bt::bu::bv::bw::bx::bz::bA::bB::bC::bD::bE::bF::bG::aA::
   []),[]⟩ w1:=by
 conv=>arg 2; arg 1; whnf
 have a5:=hide a4
 have aG:=hide a6
 have J:=hide a7
 have aT:=hide al
 have aP:=hide af
 have aJ:=hide hO
 have aM:=hide hb
 have aK:=hide hS
 have aR:=hide hl
 have W:=hide hm
 have aS:=hide ak
 have aQ:=hide ag
 have aU:=hide am
 clear a4 a6 a7 al af hO hb hS hl hm ak ag am
 go_loopw [7,9] (fun vv Z wr=>∃(i:Nat) (S':List Stp),Z=.int .i64 (i:Int)∧i≤m∧Hid (wr.ownsRow w0.heap.size 63 3 vv S'.length (S'.flatMap sC))∧Hid (Below w0.heap.size w0 wr)∧Hid (Au p l r i (-1) S')) (fun _ Z _=>m - (intOf Z).toNat)
 case atStart=>exact⟨0,S,rfl,Nat.zero_le _,aJ,aM,aK⟩
 case round=>
  obtain⟨i,S',rfl,hi,a9,G,O⟩:=hrel
  have c5:=((J.out.below G.out).cell 1)
  by_cases V:i<m
  ·have y:=hide (G.out.trans ((Ap wr).mono G.out.size))
   have d5:=((J.out.below y.out).cell 1)
   have d3:=((a5.out.below y.out).cell 9).trans aU.out
   have cw:=(y.out.cell (p:=⟨b,off+r*18+2,none⟩) aO).trans aQ.out
   have ai:i<l.length:=by rw [←W.out]; exact V
   obtain⟨bl,ol,x,hA,aN,hx,ae⟩:=aR.out.at ai
   subst hA
   have dx:wr.drew.cell? ⟨bl,ol+i,none⟩=some (.int .i64 x):=by
    have:=ae 0 (by decide)
    rw [Nat.mul_one,Nat.add_zero] at this
    exact(y.out.cell aN).trans this
   have cz:(i:Int)<(m:Int):=by omega
   have cD:(r:Int)<(nr:Int):=by omega
   have ab:=hide ((Ac.of_below (Ap wr) (fun _=>False)).ownsRow a9.out (fun g _ h=>h))
   have ao:=hide hx
   clear ae hx ai
   by_cases I:x=fr
   ·subst I
    go_wp2_with fail
    refine Reg.cP [0,1,0,7,15,0,32,0,224,480,992,2047] ?_ (by kernel_rfl) (by repeat (first | exact M | refine Reg.NoQ.then ?_ | refine Reg.NoQ.inBlock ?_))
    go_wp2_with fail
    refine aAF (w0:=w0) (m:=m) (cap:=cap) (r:=r) (i:=i) a5.out aG.out J.out aT.out F (by omega) V (fun C k aV h1 h2=>aP.out C i k aV V ao.out h1 h2) ab.out y.out O.out ?_ ?_
    ·repeat (first | exact M | refine Reg.NoQ.then ?_ | refine Reg.NoQ.inBlock ?_)
    iterate 21 (intro _)
    intro w6 cF S6 aa ad E
    have U:Hid (Au p l r (i+1) (-1) S6):=hide (by rw [W.out] at E F; exact E.row F)
    have aH:=hide aa
    have aL:=hide ad
    clear aa ad E
    go_wp2_with fail
    exact⟨⟨i+1,S6,by go_num,by omega,aH,aL,U⟩,by simp [intOf]; omega⟩
   ·have cE:(x != fr)=true:=by simp [I]
    have U:Hid (Au p l r (i+1) (-1) S'):=hide (O.out.skip (aS.out i x ao.out I))
    clear I
    go_wp2_with fail
    refine Reg.cP [0,1,0,7,15,0,32,0,224,480,992,2047] ?_ (by kernel_rfl) (by repeat (first | exact M | refine Reg.NoQ.then ?_ | refine Reg.NoQ.inBlock ?_))
    go_wp2_with fail
    exact⟨⟨i+1,S',by go_num,by omega,ab,y,U⟩,by simp [intOf]; omega⟩
  ·obtain rfl:i=m:=by omega
   have E:Hid (Au p l (r+1) 0 (-1) S'):=hide (by have:=O.out; rw [W.out] at this F; exact this.rule F)
   go_wp2_with fail
   exact hQ _ _ _ _ _ _ _ _ _ _ _ _ _ _ _ _ _ _ _ _ _ _ _ _ _ _ _ _ _ _ _ _ _ _ _ _ _ _ _ _ _ _ _ S' a9.out G.out E.out
end Go.Proofs.YtfcfpoemojjglaaGreatDoor
namespace Go.Proofs.YtfcfpoemojjglaaGreatDoor
open Go.RowKit
open K (Am AB At Ba Ah)
attribute [-go_sem] loadCellsFrom
set_option maxHeartbeats 16000000
set_option maxRecDepth 100000
section
variable {w:World} {cs:List Value} {p:Am} {m:Nat}
theorem Yp:Calls Tryz.prog 132 #[.agg cs.toArray,.agg #[.int .i64 0,.int .i64 0,.int .i64 0]] w (Ret fun v w'=>v=.bool false∧Below w.heap.size w w'):=by
 obtain⟨M,U,h,E,G⟩:=Ae w cs.toArray 27
 obtain⟨W,V,C,x,I⟩:=Ae M #[.int .i64 0,.int .i64 0,.int .i64 0] 44
 have y:=h.trans (C.mono h.size)
 have F:=hide y
 have O:=x.cell
 have J:K.inC 0 1 1048576=false:=by simp [K.inC]
 generalize cs.toArray=pc at*
 clear h C E x G I y
 go_enter Tryz.func132,Tryz.ntmps132
 go_wp2_with (go_at_call 98; refine(K.within2_any _ _ _ _).mono ?_; rintro e w' ⟨rfl,rfl⟩; rw [J])
 go_ret
 exact⟨rfl,F.out⟩
theorem aAB (h:At w w.heap.size cs p) (a7:p.Small) (W:K.SpOK w) (h0:K.protE K.nameOK p=0):Calls Tryz.prog 91 #[.agg cs.toArray,.agg #[.int .i64 0,.int .i64 0,.int .i64 0]] w (Ret fun v w'=>v=.int .i64 8∧Below w.heap.size w w'):=by
 have J:=h.rules_at.1
 obtain⟨w1,al,E,O,ae⟩:=Ae w cs.toArray 27
 obtain⟨w2,am,F,U,af⟩:=Ae w1 #[.int .i64 0,.int .i64 0,.int .i64 0] 44
 have a3:=E.trans (F.mono E.size)
 have x:=hide a3
 have C:=(O.below F)
 have a2:=U
 have V:=h.keep (w':=w2) (B':=w2.heap.size) (fun _ hp=>x.out.cell hp) x.out.size
 generalize a6:cs.toArray=pc at*
 have I:=K.refProtValidate_any V a7 (W.below x.out)
 rw [h0,a6] at I
 have ag:=Ah C J
 have aa:=hide C
 have ac:=hide a2
 have ak:=hide J
 clear h C a2 E F O U ae af a3 a7 W h0 V J
 go_enter Tryz.func91,Tryz.ntmps91
 go_wp2_with fail
 refine Calls.ret I ?_
 rintro v M ⟨rfl,y⟩
 have a5:=hide (x.out.trans (y.mono x.out.size))
 have Z:=aa.out.below y
 have ab:=hide (ac.out.below y)
 have ah:=Ah Z ak.out
 have ai:(loadCellsFrom ⟨w1.heap.size,0,none⟩ 0 3 #[]).run Tryz.prog M=.ok _ M:=Ah ab.out rfl
 have G:=Yp (w:=M) (cs:=cs)
 rw [a6] at G
 clear y Z ag I
 go_wp2_with fail
 refine Calls.ret G ?_
 rintro v w5 ⟨rfl,a4⟩
 have ad:=hide (a5.out.trans (a4.mono a5.out.size))
 clear a4 G ah ai
 go_wp2_with fail
 go_ret
 exact⟨rfl,ad.out⟩
theorem Xx {A:Option Addr} {cap:Nat} {l:List Int} (h:At w w.heap.size cs p) (O:p.Small) (V:K.SpOK w) (h0:K.protE K.nameOK p=0) (hb:Ek p) (hl:Sl w w.heap.size 1 Ai A l) (hm:m=l.length) (aj:∀x∈l,inN (p.states.length:Int) x=true) (a9:m≤8):
  Calls Tryz.prog 63 #[.agg cs.toArray,.agg #[.int .i64 (m:Int),.int .i64 0,.int .i64 0],.agg #[.slice none 0 0,.slice A m cap,.int .i64 (m:Int),.slice none 0 0,.slice none 0 0,.int .i64 0]] w (Ret fun v w'=>v=.int .i64 (if m=0 then 8 else 0)∧Below w.heap.size w w'):=by
 have aa:=h.rules_at.1
 obtain⟨w1,aF,a4,ad,av⟩:=Ae w cs.toArray 27
 obtain⟨w2,aD,a5,ae,aw⟩:=Ae w1 #[.int .i64 (m:Int),.int .i64 0,.int .i64 0] 44
 obtain⟨I,aE,M,af,ax⟩:=Ae w2 #[.slice none 0 0,.slice A m cap,.int .i64 (m:Int),.slice none 0 0,.slice none 0 0,.int .i64 0] 46
 have a3:=a4.trans (a5.mono a4.size)
 have ah:=a3.trans (M.mono a3.size)
 have F:=hide ah
 have W:=(ad.below a5).below M
 have Z:=ae.below M
 have ag:=af
 have U:Hid (∀C,Below I.heap.size I C→Calls Tryz.prog 91 #[.agg cs.toArray,.agg #[.int .i64 (m:Int),.int .i64 0,.int .i64 0]] C (Ret fun v w'=>v=.int .i64 (if m=0 then 8 else 0)∧Below C.heap.size C w')):=hide (fun C hx=>by
  have y:=F.out.trans (hx.mono F.out.size)
  by_cases an:m=0
  ·subst an
   rw [if_pos rfl]
   exact aAB (h.keep (fun p G=>y.cell G) y.size) O (V.below y) h0
  ·rw [if_neg an]
   exact S9 (h.keep (fun p G=>y.cell G) y.size) O (V.below y) h0 hb ⟨by omega,a9⟩)
 have aC:Hid (∀C,Below I.heap.size I C→Calls Tryz.prog 92 #[.agg cs.toArray,.agg #[.int .i64 (m:Int),.int .i64 0,.int .i64 0],.agg #[.slice none 0 0,.slice A m cap,.int .i64 (m:Int),.slice none 0 0,.slice none 0 0,.int .i64 0]] C (Ret fun v w'=>v=.bool true∧Below C.heap.size C w')):=hide (fun C hx=>by
  have y:=F.out.trans (hx.mono F.out.size)
  exact TW (h.keep (fun p G=>y.cell G) y.size) hb (hl.keep (fun p G=>y.cell G) y.size) hm aj O.states a9)
 generalize cs.toArray=pc at*
 have ap:=hide W
 have aq:=hide Z
 have ar:=hide ag
 have aB:=hide aa
 have al:=Ah W aa
 have a8:(loadCellsFrom ⟨w1.heap.size,0,none⟩ 0 3 #[]).run Tryz.prog I=.ok _ I:=Ah Z rfl
 have au:m=0∨0<m:=by omega
 clear h O V h0 hb hl hm aj a9 W Z ag a4 a5 M ad ae af av aw ax a3 ah aa
 rcases au with rfl | h1
 ·rw [if_pos rfl,show((0:Nat):Int)=0 from rfl] at U
  rw [if_pos rfl,show((0:Nat):Int)=0 from rfl]
  rw [show((0:Nat):Int)=0 from rfl] at a8 aD aE
  go_enter Tryz.func63,Tryz.ntmps63
  go_wp2_with fail
  refine Calls.ret (U.out _ (Below.refl _ _)) ?_
  rintro v J ⟨rfl,E⟩
  have a7:=hide (F.out.trans (E.mono F.out.size))
  clear E al a8
  go_wp2_with fail
  go_ret
  exact⟨rfl,a7.out⟩
 ·rw [if_neg (by omega)] at U ⊢
  clear h1
  go_enter Tryz.func63,Tryz.ntmps63
  go_wp2_with fail
  refine Calls.ret (U.out _ (Below.refl _ _)) ?_
  rintro v J ⟨rfl,E⟩
  have a6:=hide E
  have ay:=Ah (ap.out.below E) aB.out
  have az:(loadCellsFrom ⟨w1.heap.size,0,none⟩ 0 3 #[]).run Tryz.prog J=.ok _ J:=Ah (aq.out.below E) rfl
  have aA:(loadCellsFrom ⟨w2.heap.size,0,none⟩ 0 6 #[]).run Tryz.prog J=.ok _ J:=Ah (ar.out.below E) rfl
  clear E al a8
  go_wp2_with fail
  refine Calls.ret (aC.out _ a6.out) ?_
  rintro v w6 ⟨rfl,ai⟩
  have a7:=hide (F.out.trans ((a6.out.trans (ai.mono a6.out.size)).mono F.out.size))
  clear ai ay az aA
  go_wp2_with fail
  go_ret
  exact⟨rfl,a7.out⟩
end
end Go.Proofs.YtfcfpoemojjglaaGreatDoor
