/-
  Part PL of a proof.
-/
import Derived.Deep.LoopGhost
import Derived.Test.YtfcfpoemojjglaaGreatDoorPA
import Derived.Test.YtfcfpoemojjglaaGreatDoorPK
set_option maxHeartbeats 16000000
set_option maxRecDepth 100000
set_option linter.unusedVariables false
set_option linter.unusedSimpArgs false
namespace Go.Proofs.YtfcfpoemojjglaaGreatDoor
open Go.RowKit
set_option maxHeartbeats 16000000
set_option maxRecDepth 100000
theorem Nk {w:World} {F g4 g10:Nat} (y:F=115∨F=116):
  Calls Tryz.prog 114 #[.slice none 0 0,.func (.func F) #[] #[.pointer (some ⟨g4,0,none⟩),.pointer (some ⟨g10,0,none⟩)]] w (Ret fun r w'=>Below w.heap.size w w'∧r=.slice none 0 0):=by
 have C:Calls Tryz.prog 107 #[.slice none 0 0,.func (.func F) #[] #[.pointer (some ⟨g4,0,none⟩),.pointer (some ⟨g10,0,none⟩)]] w (Ret fun r w'=>Below w.heap.size w w'∧r=.int .i64 (-1)):=by
  refine Calls.ret (Cu (l:=[]) (B:=w.heap.size) (A:=none) (c:=0) (p:=fun _=>false) (Sl.nil rfl) (Nat.le_refl _) (by simp) y (fun q h=>absurd h List.not_mem_nil)) ?_
  rintro r w' ⟨E,⟨k,q,h,_⟩ | ⟨rfl,_⟩⟩
  ·simp at h
  ·exact⟨E,rfl⟩
 rcases y with rfl | rfl
 all_goals
  go_enter Tryz.func114,Tryz.ntmps114
  go_wp2_with fail
  refine Calls.ret C ?_
  rintro r w1 ⟨z,rfl⟩
  have G:=hide z
  clear C z
  go_wp2_with fail
  go_ret
  exact⟨G.out,rfl⟩
theorem Jl {w:World} {l:List Nat} {base F g4 g10:Nat} {v:Value} {p:Nat→Bool} (h:w.ownsRow base 3 1 v l.length (CJ l)) (G:l.length≤4000000) (y:F=115∨F=116)
  (J:∀q∈l,∀w',Ac w w' (fun k=>v.ownBlock=some k)→Calls Tryz.prog F #[.int .i64 (q:Int),.pointer (some ⟨g4,0,none⟩),.pointer (some ⟨g10,0,none⟩)] w' (Ret fun r w''=>r=.bool (p q)∧Below w'.heap.size w' w'')):
  Calls Tryz.prog 114 #[v,.func (.func F) #[] #[.pointer (some ⟨g4,0,none⟩),.pointer (some ⟨g10,0,none⟩)]] w (Ret fun r w'=>Ac w w' (fun k=>v.ownBlock=some k)∧r.ownBlock=v.ownBlock∧w'.ownsRow base 3 1 r (l.filter fun q=>!p q).length (CJ (l.filter fun q=>!p q))):=by
 rcases h.2 with⟨rfl,C⟩ | ⟨g,z,O,rfl,_⟩
 ·have:l=[]:=List.length_eq_zero_iff.1 C
  subst this
  refine Calls.ret (Nk y) ?_
  rintro r w' ⟨E,rfl⟩
  exact⟨Ac.of_below E _,rfl,Cb⟩
 ·refine Calls.ret (Nj (g:=g) (c:=z) (p:=p) h G y fun q M w' hk=>J q M w' (hk.mono fun b _ e=>by subst e; rfl)) ?_
  rintro r w' ⟨hk,rfl,I⟩
  exact⟨hk.mono fun b _ e=>by subst e; rfl,rfl,I⟩
theorem Nd (far:List Int) (m:List Bool) (k:Nat):(Bc m).filter (fun q=>decide (far.getD q (-1)=(k:Int)))=Bc (AQ far m k):=by
 unfold Bc
 have y:(AQ far m k).length=m.length:=by simp [AQ]
 rw [y,List.filter_filter]
 refine List.filter_congr fun q h=>?_
 have h:=List.mem_range.1 h
 rw [Bool.eq_iff_iff,D1]
 simp only [Bool.and_eq_true,decide_eq_true_eq]
 exact And.comm
theorem Ne {m:List Bool}:(0<(Bc m).length)↔DU m=true:=by
 rw [List.length_pos_iff_exists_mem,FA]
 unfold Bc
 simp only [List.mem_filter,List.mem_range]
theorem Jf (far:List Int) (m:List Bool) (k:Nat):AQ far (AQ far m k) k=AQ far m k:=by
 apply List.ext_getElem?
 intro q
 have J:(AQ far m k).length=m.length:=by simp [AQ]
 have M:(AQ far (AQ far m k) k).length=m.length:=by simp [AQ]
 rcases Nat.lt_or_ge q m.length with I | I
 ·obtain⟨x,z⟩:=An (l:=AQ far m k) (i:=q) (by omega)
  obtain⟨y,G⟩:=An (l:=AQ far (AQ far m k) k) (i:=q) (by omega)
  rw [z,G]
  congr 1
  rw [Bool.eq_iff_iff]
  have C:=D1 (far:=far) (m:=m) (k:=k) (q:=q)
  have E:=D1 (far:=far) (m:=AQ far m k) (k:=k) (q:=q)
  rw [getD_some G,getD_some z] at E
  rw [getD_some z] at C
  rw [E,C]
  exact⟨fun h=>h.1,fun h=>⟨h,h.2⟩⟩
 ·rw [List.getElem?_eq_none (by omega),List.getElem?_eq_none (by omega)]
structure Ec (w2:World) (a:NF) (far:List Int) (vn:Value) (g1 g4:Nat) (Af:Option Addr) (cf:Nat):Prop where
 nf:Cn w2 w2.heap.size vn a
 b1:∃cs,vn=.agg cs∧Blk w2 g1 88 cs
 b4:Blk w2 g4 24 #[.slice Af far.length cf]
 rd:Sl w2 w2.heap.size 1 Ai Af far
 isF:a.Far far
 ok:a.OK
 n:a.n≤200000
 L:a.L≤8
 cat:∀m x,m.length=a.n→x<a.L→(a.cat (AJ m) x).length≤4000000
theorem Ec.at {w2 w':World} {a:NF} {far:List Int} {I:Value} {G g4 E:Nat} {C:Option Addr} (h:Ec w2 a far I G g4 C E) (y:Below w2.heap.size w2 w'):Ec w' a far I G g4 C E:=by
 obtain⟨cs,e,J⟩:=h.b1
 exact⟨h.nf.keep (fun p z=>y.cell z) y.size,⟨cs,e,J.below y⟩,h.b4.below y,h.rd.keep (fun p z=>y.cell z) y.size,h.isF,h.ok,h.n,h.L,h.cat⟩
structure CC (w2 wr:World) (g10 left:Nat) (vw vs:Value) (us l:List Nat):Prop where
 below:Below w2.heap.size w2 wr
 cell:Blk wr g10 3 #[.int .i64 (left:Int)]
 ge:w2.heap.size≤g10
 word:wr.ownsRow w2.heap.size 3 1 vw us.length (CJ us)
 set:wr.ownsRow w2.heap.size 3 1 vs l.length (CJ l)
 sepw:vw.ownBlock≠some g10
 seps:vs.ownBlock≠some g10
 sep:∀g,vw.ownBlock=some g→vs.ownBlock≠some g
section
variable {w2 wr w1:World} {g10 left:Nat} {vw vs:Value} {us l:List Nat}
theorem CC.keep (h:CC w2 wr g10 left vw vs us l) (y:Below wr.heap.size wr w1):CC w2 w1 g10 left vw vs us l:=
 ⟨h.below.trans (y.mono h.below.size),h.cell.below y,h.ge,Bt h.word y,Bt h.set y,h.sepw,h.seps,h.sep⟩
theorem CC.cut {z:Value} {l':List Nat} (h:CC w2 wr g10 left vw vs us l) (hk:Ac wr w1 (fun k=>vs.ownBlock=some k)) (C:z.ownBlock=vs.ownBlock) (E:w1.ownsRow w2.heap.size 3 1 z l'.length (CJ l')):CC w2 w1 g10 left vw z us l':=
 ⟨h.below.trans (hk.below h.below.size fun b G e=>by have:=Bb h.set e; omega),h.cell.kept hk h.seps,h.ge,hk.ownsRow h.word (fun g y e=>h.sep g y e),E,h.sepw,by rw [C]; exact h.seps,fun g y=>by rw [C]; exact h.sep g y⟩
theorem CC.found {G J:World} {v5 I:Value} {l':List Nat} {x:Nat} (h:CC w2 wr g10 left vw vs us l) (M:Below wr.heap.size wr G) (z:G.ownsRow wr.heap.size 3 1 v5 l'.length (CJ l'))
  (hk:Ac G J (fun k=>vw.ownBlock=some k)) (V:J.ownsRow w2.heap.size 3 1 I (us.length+1) (CJ us++[.int .i64 (x:Int)])) (U:BJ G vw I):CC w2 J g10 left I v5 (us++[x]) l':=by
 have E:=h.keep M
 have O:∀g,vw.ownBlock=some g→g<wr.heap.size:=fun g y=>Cj h.word y
 have W:=h.below.size
 refine⟨E.below.trans (hk.below E.below.size fun b M e=>by have:=Bb h.word e; omega),E.cell.kept hk h.sepw,h.ge,by rw [List.length_append,Id]; exact V,?_,U.ne E.cell.lt h.sepw,fun e=>?_,fun g y e=>?_⟩
 ·exact DC (hk.ownsRow z fun g y e=>by have:=Bb z y; have:=O g e; omega) W
 ·have:=Bb z e; have:=h.cell.lt; omega
 ·have a2:=Bb z e
  have a3:=Cj z e
  rcases U with C | ⟨Z,C,h7⟩
  ·have:=O g (by rw [←C]; exact y); omega
  ·rw [y] at C
   injection C with C
   omega
theorem CC.fresh {y k:Nat} (h:CC w2 wr g10 left vw vs us l) (C:Below wr.heap.size wr w1) (E:Blk w1 y 3 #[.int .i64 (k:Int)]) (G:wr.heap.size≤y):CC w2 w1 y k vw vs us l:=by
 have z:=h.keep C
 have I:=h.below.size
 exact⟨z.below,E,by omega,z.word,z.set,fun e=>by have:=Cj h.word e; omega,fun e=>by have:=Cj h.set e; omega,h.sep⟩
end
end Go.Proofs.YtfcfpoemojjglaaGreatDoor
namespace Go.Proofs.YtfcfpoemojjglaaGreatDoor
open Go.RowKit
set_option maxHeartbeats 16000000
set_option maxRecDepth 100000
theorem To {w:World} {v vs:Value} {a:NF} {m:List Bool} {x base:Nat} (h:Cn w w.heap.size v a) (I:a.OK) (E:m.length=a.n) (O:a.n≤200000) (G:w.ownsRow base 3 1 vs (Bc m).length (CJ (Bc m))) (J:x<a.L) (C:(a.cat (AJ m) x).length≤4000000):
  Calls Tryz.prog 43 #[v,vs,.int .i64 (x:Int)] w (Ret fun r w'=>w'.ownsRow w.heap.size 3 1 r (Bc (a.after m x)).length (CJ (Bc (a.after m x)))∧Below w.heap.size w w'):=by
 have M:(Bc m).length≤200000:=by
  unfold Bc
  have:=List.length_filter_le (fun q=>m.getD q false) (List.range m.length)
  rw [List.length_range] at this
  omega
 obtain⟨A,c,e,hS⟩:=B8 (l:=Ak (Bc m)) G (by simp [Ak]) (Nat.le_refl _) (by omega)
 subst e
 refine Calls.ret (Iq (c:=c) h I E hS (Nat.le_refl _) J C) ?_
 rintro r w' ⟨y,z⟩
 refine⟨?_,z⟩
 rw [Fx] at y
 have e:(Ak (Bc (a.after m x))).length=(Bc (a.after m x)).length:=by simp [Ak]
 rw [e] at y
 exact y
theorem Lk {m:List Bool} {n:Nat} (h:m.length=n):(Bc m).length≤n:=by
 unfold Bc
 have:=List.length_filter_le (fun q=>m.getD q false) (List.range m.length)
 rw [List.length_range] at this
 omega
theorem J8 (far:List Int) (m:List Bool) (k:Nat):((Bc m).filter fun q=>!(!decide (far.getD q (-1)=(k:Int))))=Bc (AQ far m k):=by
 rw [←Nd]
 exact List.filter_congr fun q _=>Bool.not_not _
theorem S5 {w2 w:World} {a:NF} {far:List Int} {vn vw vs:Value} {O g4 cf g10 k L z:Nat} {Af:Option Addr} {us:List Nat} {m:List Bool} (ai:Ec w2 a far vn O g4 Af cf) (af:CC w2 w g10 (k+1) vw vs us (Bc m)) (hm:m.length=a.n) (cM:k≤200000) (cU:us.length≤200000) (ae:L=a.L) (cX:z<L) (cH:L≤8)
  (ap:∀y,y<z→DU (AQ far (a.after m y) k)=false) (av:DU (AQ far (a.after m z) k)=true)
  {u0 u2 u3 u5 u6 u7 bR bS ay az aA aB aC aD aE aG aH aJ aK aL aM aN aO aP aQ aS aT aU aV aW aX aY aZ b0 b2 b3 b5 b6 b7 b8 b9 ba bb bd be bg bh bi bj bk bl bm bn bT bU bV bW u64 bX bY bZ c0 c4 c6 c7 c8 c9 ca cb cc bq br:Value} {Q:Exit→Act→World→Prop}
  (ah:∀(ce cg ch ci cj ck cm cn co cp cq cr ct cu cv cw cx cy cz cA:Value) (w':World) (bu bt:Value),CC w2 w' g10 (k+1) bu bt (us++[z]) (Bc (AQ far (a.after m z) k))→Q (.exit 4) ⟨List.toArray (u0::(.pointer (some ⟨O,0,none⟩))::u2::u3::(.pointer (some ⟨g4,0,none⟩))::u5::u6::u7::bu::bt::(.pointer (some ⟨g10,0,none⟩))::ce::cg::ay::az::aA::aB::aC::aD::aE::aG::aH::aJ::aK::aL::aM::
   aN::aO::aP::aQ::aS::aT::aU::aV::aW::aX::aY::aZ::b0::b2::b3::b5::b6::b7::b8::b9::ba::bb::bd::be::bg::bh::bi::bj::bk::bl::bm::bn::(.int .i64 (L:Int))::ch::ci::
   cj::ck::cm::cn::co::cp::cq::cr::ct::cu::cv::cw::cx::cy::cz::cA::bq::br::[]),[]⟩ w'):
  (Code.loop (CG Tryz.f70 2)).wp Tryz.prog Q ⟨List.toArray (u0::(.pointer (some ⟨O,0,none⟩))::u2::u3::(.pointer (some ⟨g4,0,none⟩))::u5::u6::u7::vw::vs::(.pointer (some ⟨g10,0,none⟩))::bR::bS::ay::az::aA::aB::aC::aD::aE::aG::aH::aJ::aK::aL::aM::
   aN::aO::aP::aQ::aS::aT::aU::aV::aW::aX::aY::aZ::b0::b2::b3::b5::b6::b7::b8::b9::ba::bb::bd::be::bg::bh::bi::bj::bk::bl::bm::bn::(.int .i64 (L:Int))::
   (.int .i64 0)::bT::bU::bV::bW::u64::bX::bY::bZ::c0::c4::c6::c7::c8::c9::ca::cb::cc::bq::br::[]),[]⟩ w:=by
 conv=>arg 2; arg 1; whnf
 have hX:=hide ai
 have hM:=hide af
 have an:=hide hm
 have bJ:=hide ap
 have bP:=hide av
 have bz:=hide ae
 have bD:=hide ah
 have cQ:=GT
 clear ai af hm ap av ae ah
 go_loopw [8,9,59] (fun ww ss xx wr=>∃(x:Nat),vw=ww∧vs=ss∧xx=.int .i64 (x:Int)∧x≤z∧Hid (CC w2 wr g10 (k+1) vw vs us (Bc m))) (fun _ _ xx _=>z+1 - (intOf xx).toNat)
 case atStart=>exact⟨0,rfl,rfl,rfl,Nat.zero_le _,hM⟩
 case round=>
  obtain⟨x,rfl,rfl,rfl,hx,C⟩:=hrel
  have E:=hX.out.at C.out.below
  have cY:x<L:=by omega
  have au:x<a.L:=by have:=bz.out; omega
  obtain⟨A1,c1,A2,c2,A3,c3,a2,-⟩:=E.nf
  obtain⟨cs,e,hB⟩:=E.b1
  rw [a2] at e
  injection e with e
  subst e
  have cK:=hB.cell
  have a7:=To E.nf E.ok an.out E.n C.out.set au (E.cat m x an.out au)
  rw [a2] at a7
  have cJ:=hide E
  have cV:=hide a2
  clear E hB a2
  go_wp2_with fail
  refine Calls.ret a7 ?_
  rintro r3 w3 ⟨J,V⟩
  have U:=C.out.below.trans (V.mono C.out.below.size)
  have a4:=hX.out.at U
  have ag:=C.out.keep V
  have bG:far.length=a.n:=a4.isF.len
  have cS:=C.out.below.size
  have W:=Jl (F:=116) (g4:=g4) (g10:=g10) (p:=fun q=>!decide (far.getD q (-1)=(k:Int))) J (by have:=Lk (a.after_len m x); have:=a4.n; omega) (.inr rfl) (fun q hq w' hk=>by
   have aj:Ec w' a far vn O g4 Af cf:=hX.out.at (U.trans (hk.below U.size fun b hb e=>by have:=Bb J e; omega))
   have cR:q<a.n:=GW (a.after_len m x) q hq
   refine Nu aj.b4 aj.rd ?_ (by omega) (by omega)
   have:=(ag.cell.kept hk (fun e=>by have:=Bb J e; have:=C.out.cell.lt; omega)).cell 0
   rw [this]
   rfl)
  rw [J8] at W
  have bK:=hide J
  have ak:=hide V
  clear a7 ag a4 bG U J V
  go_wp2_with fail
  refine Calls.ret W ?_
  rintro r5 w5 ⟨a5,ar,Z⟩
  have I:Below wr.heap.size wr w5:=ak.out.trans (a5.below ak.out.size fun b hb e=>by have:=Bb bK.out e; omega)
  obtain⟨A5,c5,rfl⟩:=AH Z
  have M:=Ne (m:=AQ far (a.after m x) k)
  rcases G:DU (AQ far (a.after m x) k) with _ | _
  ·rw [G] at M
   have hz:(Bc (AQ far (a.after m x) k)).length=0:=by
    rcases Nat.eq_zero_or_pos (Bc (AQ far (a.after m x) k)).length with h | h
    ·exact h
    ·exact absurd (M.1 h) (by simp)
   have cO:x<z:=by
    rcases Nat.lt_or_ge x z with h | h
    ·exact h
    ·have e:x=z:=by omega
     rw [e,bP.out] at G
     cases G
   have bB:=hide (C.out.keep I)
   rw [hz]
   clear W a5 ar Z I M hz G
   go_wp2_with fail
   exact⟨⟨x+1,rfl,rfl,by go_num,by omega,bB⟩,by simp [intOf]; omega⟩
  ·have bH:0<(Bc (AQ far (a.after m x) k)).length:=M.2 G
   have bO:x=z:=by
    rcases Nat.lt_or_ge x z with h | h
    ·rw [bJ.out x h] at G
     cases G
    ·omega
   subst bO
   obtain⟨ln,a6⟩:∃ln,ln=(Bc (AQ far (a.after m x) k)).length:=⟨_,rfl⟩
   have bI:=hide a6
   have bL:=hide Z
   have bF:=hide I
   rw [←a6] at bH ⊢
   have bN:=hide (Bt C.out.word I)
   have cT:=I.size
   clear W a5 ar Z I M G a6
   go_wp2_with (
    at_builtin
    refine BP (w:=w5) C9 rfl _ _ rfl w2.heap.size vw us.length _ rfl bN.out [.int .i64 (x:Int)] 1 rfl rfl (by simp [Value.oneCell']) (by omega) (by omega) ?_
    intro g cG w6 aq al ao cL
    have bC:=hide (C.out.found (x:=x) (v5:=.slice A5 ln c5) (l':=Bc (AQ far (a.after m x) k)) bF.out (by rw [bI.out]; exact bL.out) al aq ao)
    clear aq al ao)
   exact bD.out _ _ _ _ _ _ _ _ _ _ _ _ _ _ _ _ _ _ _ _ _ _ _ bC.out
end Go.Proofs.YtfcfpoemojjglaaGreatDoor
namespace Go.Proofs.YtfcfpoemojjglaaGreatDoor
open Go.RowKit
set_option maxHeartbeats 16000000
set_option maxRecDepth 100000
theorem S4 {w2 w:World} {a:NF} {far:List Int} {vn vw vs:Value} {G g4 cf g10 left:Nat} {Af:Option Addr} {m:List Bool} {C:List Nat} (af:Ec w2 a far vn G g4 Af cf) (ad:CC w2 w g10 left vw vs [] (Bc m)) (hm:m.length=a.n) (db:left≤200000)
  (a9:a.Lev far (AQ far m left) left) (ap:a.shortW far left (AQ far m left)=C)
  {u0 u2 u3 u5 u6 u7 bL bM ay az aA aB aC aD aE aG aH aJ aK aL aM aN aO aP aQ aS aT aU aV aW aX aY aZ b0 b2 b3 b5 b6 b7 b8 b9 ba bb bd be bN bO bP bQ bR bS bT bU bV bW bX bY bZ c0 u64 c4 c5 c6 c7 c8 c9 ca cb cc cd ce cg ch bi:Value} {Q:Exit→Act→World→Prop}
  (ae:∀(x9 ck cm cn co cp cq cr ct cu cv cw cx cy cz cA cB cD cE cF cG cH cJ cK cL cM cO cQ cR cS cT cU:Value) (w':World) (bk:Value),Below w2.heap.size w2 w'→w'.ownsRow w2.heap.size 3 1 bk C.length (CJ C)→Q (.exit 2) ⟨List.toArray (u0::(.pointer (some ⟨G,0,none⟩))::u2::u3::(.pointer (some ⟨g4,0,none⟩))::u5::u6::u7::bk::x9::ck::cm::cn::ay::az::aA::aB::aC::aD::aE::aG::aH::aJ::aK::aL::aM::aN::aO::aP::aQ::
   aS::aT::aU::aV::aW::aX::aY::aZ::b0::b2::b3::b5::b6::b7::b8::b9::ba::bb::bd::be::co::cp::cq::cr::ct::cu::cv::cw::cx::cy::cz::cA::cB::cD::cE::cF::cG::
   cH::cJ::cK::cL::cM::cO::cQ::cR::cS::cT::cU::bi::[]),[]⟩ w'):
  (Code.loop (CG Tryz.f70 1)).wp Tryz.prog Q ⟨List.toArray (u0::(.pointer (some ⟨G,0,none⟩))::u2::u3::(.pointer (some ⟨g4,0,none⟩))::u5::u6::u7::vw::vs::(.pointer (some ⟨g10,0,none⟩))::bL::bM::ay::az::aA::aB::aC::aD::aE::aG::aH::aJ::aK::aL::aM::
   aN::aO::aP::aQ::aS::aT::aU::aV::aW::aX::aY::aZ::b0::b2::b3::b5::b6::b7::b8::b9::ba::bb::bd::be::bN::bO::bP::bQ::bR::bS::bT::bU::bV::bW::bX::bY::bZ::
   c0::u64::c4::c5::c6::c7::c8::c9::ca::cb::cc::cd::ce::cg::ch::bi::[]),[]⟩ w:=by
 conv=>arg 2; arg 1; whnf
 have M:=hide af
 have hM:=hide ad
 have bA:=hide hm
 have bn:=hide a9
 have bD:=hide ap
 have bs:=hide ae
 have dc:=GT
 clear af ad hm a9 ap ae
 go_loopg [8,9,10] (left) (fun z ww ss pp wr=>∃(m:List Bool) (us:List Nat) (g10:Nat),pp=.pointer (some ⟨g10,0,none⟩)∧Hid (CC w2 wr g10 z ww ss us (Bc m))∧Hid (m.length=a.n)∧Hid (a.Lev far (AQ far m z) z)∧Hid (us++a.shortW far z (AQ far m z)=C)∧Hid (us.length+z=left))
 case atStart=>exact⟨m,[],g10,rfl,hM,bA,bn,bD,by show _=_; simp⟩
 case round=>
  obtain⟨m,us,g10,rfl,h,a2,bo,aq,a4⟩:=hrel
  have d9:=h.out.cell.cell 0
  rcases gk with _ | k
  ·have bE:us=C:=by have:=aq.out; simpa [NF.shortW] using this
   subst bE
   go_wp2_with fail
   exact bs.out _ _ _ _ _ _ _ _ _ _ _ _ _ _ _ _ _ _ _ _ _ _ _ _ _ _ _ _ _ _ _ _ _ _ h.out.below h.out.word
  ·have y:=M.out.at h.out.below
   have bv:far.length=a.n:=y.isF.len
   obtain⟨A1,c1,A2,c2,A3,c3,au,-⟩:=y.nf
   obtain⟨cs,e,hB⟩:=y.b1
   rw [au] at e
   injection e with e
   subst e
   have Z:=Jl (F:=115) (g4:=g4) (g10:=g10) (p:=fun q=>!decide (far.getD q (-1)=((k+1:Nat):Int))) h.out.set (by have:=Lk a2.out; have:=y.n; omega) (.inl rfl) (fun q hq w' hk=>by
    have ag:Ec w' a far vn G g4 Af cf:=M.out.at (h.out.below.trans (hk.below h.out.below.size fun b hb e=>by have:=Bb h.out.set e; omega))
    have de:q<a.n:=GW a2.out q hq
    refine Nt ag.b4 ag.rd ?_ (by omega)
    exact(h.out.cell.kept hk h.out.seps).cell 0)
   rw [J8] at Z
   obtain⟨O,hp,bG,I,ak⟩:=bo.out.pick y.isF
   have ao:a.shortW far (k+1) (AQ far m (k+1))=O::a.shortW far k (AQ far (a.after (AQ far m (k+1)) O) k):=by rw [NF.shortW,hp]
   have aw:DU (AQ far (a.after (AQ far m (k+1)) O) k)=true:=by
    obtain⟨q,hq,bB⟩:=I.ne
    exact FA.2 ⟨q,by rw [I.len]; exact hq,bB⟩
   have bI:=hide aw
   have bz:=hide ak
   have ab:=hide I
   have bC:=hide ao
   have ai:(AQ far m (k+1)).length=a.n:=by simp [AQ]; exact a2.out
   have bu:=hide ai
   obtain⟨L,U⟩:∃L,L=a.L:=⟨_,rfl⟩
   have aa:=hide U
   have bm:L≤8:=by rw [U]; exact y.L
   have bx:k≤200000:=by have:=a4.out; omega
   have bF:us.length≤200000:=by have:=a4.out; omega
   have bH:O<L:=by omega
   clear y bv au hB hp bG I ak ao aw ai U
   go_wp2_with fail
   refine Calls.ret Z ?_
   rintro r3 w3 ⟨aj,ar,am⟩
   have V:=h.out.cut aj ar am
   have W:=M.out.at V.below
   obtain⟨cX,d2,cZ,d3,d1,d5,av,-⟩:=W.nf
   obtain⟨d6,E,a7⟩:=W.b1
   rw [av] at E
   injection E with E
   subst E
   have bt:=a7.cell
   rw [←aa.out] at bt
   have bq:=hide V
   clear Z aj ar am V W av a7
   go_wp2_with fail
   refine S5 M.out bq.out bu.out bx bF aa.out bH bm bz.out bI.out ?_
   iterate 20 (intro _)
   intro w4 di dh J
   have da:=J.cell.cell 0
   obtain⟨w5,df,ah,a8,bw⟩:=Ae w4 #[.int .i64 (k:Int)] 3
   have br:=hide (J.fresh ah a8 (Nat.le_refl _))
   have d7:=hide J
   clear J ah a8 bw
   go_wp2_with fail
   go_roundg k
   case measure=>omega
   case rel=>
    refine⟨_,_,_,rfl,br,ab.out.len,?_,?_,?_⟩
    ·show NF.Lev _ _ _ _
     rw [Jf]
     exact ab.out
    ·have:=aq.out
     rw [bC.out] at this
     show _=_
     rw [Jf,List.append_assoc]
     exact this
    ·have:=a4.out
     show _=_
     rw [List.length_append,List.length_singleton]
     omega
theorem S3 {w2 w:World} {a:NF} {far:List Int} {vn:Value} {g1 g4 cf c2:Nat} {Af J:Option Addr} (U:Ec w2 a far vn g1 g4 Af cf) (a6:Below w2.heap.size w2 w) (O:Sl w2 w2.heap.size 1 Ai J a.start)
  {u0 u1 u2 u3 u6 u7 u8 u9 ab ad ae af ag ah bo bp bq br bs bt bu bv bw bx bz bA bB bC bD bE bF bG bH bI bJ bK bL bM bN ak al am an ao ap aq ar au av aw ax ay az aA aB aD aE aF aG u64 aH aJ aK aL aM aN aO aP aQ aR aS aT aU aV:Value} {Q:Exit→Act→World→Prop}
  (a5:∀(x7 bQ bR bS bT bU bV bW bX bY bZ c0 c1 c3 c4 c5 c6 c7 c8 c9 ca cb cc cd ce cg ch:Value) (w':World),Below w2.heap.size w2 w'→Q (.exit 0) ⟨List.toArray (u0::u1::u2::u3::(.pointer (some ⟨g4,0,none⟩))::(.int .i64 (B6 far (-1) a.start))::u6::x7::u8::u9::ab::ad::ae::af::ag::ah::(.slice J a.start.length c2)::(.int .i64 (a.start.length:Int))::bQ::bR::bS::bT::
   bU::bV::bW::bX::bY::bZ::c0::c1::c3::c4::c5::c6::c7::c8::c9::ca::cb::cc::cd::ce::cg::ch::ak::al::am::an::ao::ap::aq::ar::au::av::aw::ax::ay::az::aA::
   aB::aD::aE::aF::aG::u64::aH::aJ::aK::aL::aM::aN::aO::aP::aQ::aR::aS::aT::aU::aV::[]),[]⟩ w'):
  (Code.loop (CG Tryz.f70 0)).wp Tryz.prog Q ⟨List.toArray (u0::u1::u2::u3::(.pointer (some ⟨g4,0,none⟩))::(.int .i64 (-1))::u6::u7::u8::u9::ab::ad::ae::af::ag::ah::(.slice J a.start.length c2)::(.int .i64 (a.start.length:Int))::(.int .i64 0)::bo::bp::bq::br::
   bs::bt::bu::bv::bw::bx::bz::bA::bB::bC::bD::bE::bF::bG::bH::bI::bJ::bK::bL::bM::bN::ak::al::am::an::ao::ap::aq::ar::au::av::aw::ax::ay::az::aA::aB::
   aD::aE::aF::aG::u64::aH::aJ::aK::aL::aM::aN::aO::aP::aQ::aR::aS::aT::aU::aV::[]),[]⟩ w:=by
 conv=>arg 2; arg 1; whnf
 have C:=hide U
 have hb:=hide a6
 have hS:=hide O
 have b3:=hide a5
 have bi:=O.1
 have bd:=hide U.isF.ge
 obtain⟨n,Z⟩:∃n,n=a.start.length:=⟨_,rfl⟩
 have a2:=hide Z
 rw [←Z] at bi ⊢
 clear U a6 O Z a5
 go_loopw [5,18] (fun h kk wr=>∃(k:Nat),h=.int .i64 (B6 far (-1) (a.start.take k))∧kk=.int .i64 (k:Int)∧k≤n∧Hid (Below w2.heap.size w2 wr)) (fun _ kk _=>n - (intOf kk).toNat)
 case atStart=>exact⟨0,rfl,rfl,Nat.zero_le _,hb⟩
 case round=>
  obtain⟨k,rfl,rfl,hk,y⟩:=hrel
  by_cases be:k<n
  ·obtain⟨s,G⟩:=An (l:=a.start) (i:=k) (by rw [←a2.out]; exact be)
   obtain⟨b,bn,rfl,b8,hc⟩:=EZ hS.out G
   have ck:=(y.out.cell (p:=⟨b,bn+k,none⟩) b8).trans hc
   obtain⟨q,rfl,hq⟩:=CT (C.out.ok.start s (List.mem_of_getElem? G))
   simp only [Int.toNat_natCast] at hq
   have ba:far.length=a.n:=C.out.isF.len
   obtain⟨z,I⟩:=An (l:=far) (i:=q) (by omega)
   obtain⟨bf,bm,rfl,b7,a8⟩:=EZ C.out.rd I
   have cj:=(y.out.cell (p:=⟨bf,bm+q,none⟩) b7).trans a8
   have b9:=(C.out.at y.out).b4.cell 0
   have bj:=hide (Mn (far:=far) (b:=-1) G)
   have bl:Hid (far.getD ((q:Int)).toNat (-1)=z):=by show _=_; rw [Int.toNat_natCast,getD_some I]
   have cn:-1≤z:=by have:=bd.out q; rw [getD_some I] at this; exact this
   have bh:q<far.length:=by omega
   obtain⟨fl,W⟩:∃fl,fl=far.length:=⟨_,rfl⟩
   rw [←W] at b9 bh
   obtain⟨h,V⟩:∃h,h=B6 far (-1) (a.start.take k):=⟨_,rfl⟩
   rw [←V]
   have b6:=hide V
   have cm:fl≤9223372036854775807:=by rw [W]; exact C.out.rd.1
   clear G hc I a8 V ba W
   have fin:∀M:Int,(M=if 0≤z∧(h<0∨z<h) then z else h)→M=B6 far (-1) (a.start.take (k+1)):=fun M e=>by rw [e,bj.out,bl.out,←b6.out]
   have E:=hide fin
   clear fin
   by_cases h1:0≤z
   ·by_cases h2:h<0
    ·go_wp2_with fail
     exact⟨⟨k+1,by rw [←E.out z (by rw [if_pos ⟨h1,.inl h2⟩])],by go_num,by omega,y⟩,by simp [intOf]; omega⟩
    ·by_cases h3:z<h
     ·go_wp2_with fail
      exact⟨⟨k+1,by rw [←E.out z (by rw [if_pos ⟨h1,.inr h3⟩])],by go_num,by omega,y⟩,by simp [intOf]; omega⟩
     ·go_wp2_with fail
      exact⟨⟨k+1,by rw [←E.out h (by rw [if_neg (by omega)])],by go_num,by omega,y⟩,by simp [intOf]; omega⟩
   ·go_wp2_with fail
    exact⟨⟨k+1,by rw [←E.out h (by rw [if_neg (by omega)])],by go_num,by omega,y⟩,by simp [intOf]; omega⟩
  ·obtain rfl:k=n:=by omega
   have bk:a.start.take k=a.start:=by rw [a2.out,List.take_length]
   rw [bk]
   go_wp2_with fail
   rw [a2.out]
   exact b3.out _ _ _ _ _ _ _ _ _ _ _ _ _ _ _ _ _ _ _ _ _ _ _ _ _ _ _ _ y.out
theorem NF.sort_start {a:NF} (C:a.OK):CL a.start=AJ a.st:=by
 refine Ip fun x=>?_
 constructor
 ·intro z
  obtain⟨q,rfl,h⟩:=CT (C.start x z)
  simp only [Int.toNat_natCast] at h
  exact⟨q,rfl,by unfold NF.st; rw [Dg h]; simp [z]⟩
 ·rintro⟨q,rfl,h⟩
  have y:=AP h
  rw [a.st_len] at y
  unfold NF.st at h
  rw [Dg y] at h
  simpa using h
theorem S6 {w:World} {v:Value} {a:NF} (h:Cn w w.heap.size v a) (ag:a.OK) (hn:a.n≤200000) (hL:a.L≤8) (hE:(a.psS a.n).length≤3000000) (be:a.start.length≤4000000) (aK:∀m x,m.length=a.n→x<a.L→(a.cat (AJ m) x).length≤4000000):
  Calls Tryz.prog 70 #[v] w (Ret fun r w'=>Below w.heap.size w w'∧∃far,a.Far far∧((a.shortR far=none∧r=.tuple #[.slice none 0 0,.bool false])∨∃u A c,a.shortR far=some u∧r=.tuple #[.slice A u.length c,.bool true]∧Sl w' w'.heap.size 1 Ai A (Ak u))):=by
 obtain⟨Z,c1,I,c2,A3,c3,hv,h1,h2,h3,h4⟩:=id h
 subst hv
 obtain⟨w1,bo,M,ap,b6⟩:=Ae w #[.int .i64 (a.L:Int),.slice Z a.nx.length c1,.slice I a.start.length c2,.slice A3 a.acc.length c3] 88
 have ai:=M.size
 have af:=h.keep (w':=w1) (fun p y=>M.cell y) ai
 have aL:=Nr af ag hn hL hE
 have bk:=ap.cell
 have aq:=hide ap
 have aF:=hide M
 have bb:=hide af
 have aU:=hide h2
 have ah:=hide ag
 have b4:=hide aK
 have aM:=hide hn
 have aY:=hide hL
 clear h h1 h2 h3 h4 b6 af ag hn hL hE M aK
 go_enter Tryz.func70,Tryz.ntmps70
 go_wp2_with fail
 refine Calls.ret aL ?_
 rintro r2 w2 ⟨aa,far,Af,cf,rfl,hF,aB⟩
 obtain⟨W,bg,O,ar,b7⟩:=Ae w2 #[.slice Af far.length cf] 24
 have z:=aa.trans (O.mono aa.size)
 have hX:Ec W a far (.agg #[.int .i64 (a.L:Int),.slice Z a.nx.length c1,.slice I a.start.length c2,.slice A3 a.acc.length c3]) w.heap.size w2.heap.size Af cf:=
  ⟨bb.out.keep (fun p y=>z.cell y) z.size,⟨_,rfl,aq.out.below z⟩,ar,aB.keep (fun p y=>O.cell y) O.size,hF,ah.out,aM.out,aY.out,b4.out⟩
 have ay:Sl W W.heap.size 1 Ai I a.start:=aU.out.keep (fun p y=>(aF.out.trans (z.mono ai)).cell y) (by have:=z.size; omega)
 have bl:=(aq.out.below z).cell
 have a8:=hide hX
 have az:=hide ay
 have aJ:=hide (aF.out.trans (z.mono ai))
 have G:=hide hF
 clear aL aa hF aB O ar b7 z hX ay
 obtain⟨fl,ad⟩:∃fl,fl=far.length:=⟨_,rfl⟩
 have bn:=hide ad
 rw [←ad] at bg ⊢
 clear ad
 go_wp2_with fail
 refine S3 a8.out (Below.refl _ _) az.out ?_
 iterate 27 (intro _)
 intro w4 C
 have bd:=hide (Hd G.out.ge a.start (-1) (by omega))
 obtain⟨b,hb⟩:∃b,b=B6 far (-1) a.start:=⟨_,rfl⟩
 have ab:=hide hb
 have aD:=hide (a8.out.at C)
 have aG:=hide (aJ.out.trans (C.mono aJ.out.size))
 have b0:=hide (az.out.keep (w':=w4) (fun p y=>C.cell y) C.size)
 have bm:=((show Blk W w.heap.size 88 #[.int .i64 (a.L:Int),.slice Z a.nx.length c1,.slice I a.start.length c2,.slice A3 a.acc.length c3] from by
  obtain⟨cs,e,hB⟩:=a8.out.b1
  injection e with e
  subst e
  exact hB).below C).cell
 rw [←hb]
 clear hb C
 by_cases aN:b<0
 ·have hR:Hid (a.shortR far=none):=by show _=_; unfold NF.shortR; rw [if_pos (by rw [←ab.out]; exact aN)]
  go_wp2_with fail
  go_ret2
  exact⟨aG.out,far,G.out,.inl ⟨hR.out,rfl⟩⟩
 ·obtain⟨k,hk⟩:=Int.eq_ofNat_of_zero_le (show 0≤b by omega)
  subst hk
  have V:=GY (c:=c2) b0.out be
  rw [NF.sort_start ah.out,Fx] at V
  have am:(Ak (Bc a.st)).length=(Bc a.st).length:=by simp [Ak]
  rw [am] at V
  have J:=hide (NF.start_lev G.out ah.out ab.out.symm)
  have hR:Hid (a.shortR far=some (a.shortW far k (AQ far a.st k))):=by show _=_; unfold NF.shortR; rw [←ab.out,if_neg aN,Int.toNat_natCast]
  have b9:k≤200000:=by
   obtain⟨q,hq,hm⟩:=J.out.ne
   have:=(J.out.all q hq hm).lt hq
   have:=aM.out
   omega
  have bh:Hid ((a.shortW far k (AQ far a.st k)).length=k):=(NF.shortW_spec G.out k _ J.out).2.1
  go_wp2_with fail
  refine Calls.ret V ?_
  rintro vs w5 ⟨a6,E⟩
  obtain⟨w6,bp,U,au,b8⟩:=Ae w5 #[.int .i64 (k:Int)] 3
  have bj:=hide (aD.out.at (E.trans (U.mono E.size)))
  have aw:CC w4 w6 w5.heap.size k (.slice none 0 0) vs [] (Bc a.st):=
   ⟨E.trans (U.mono E.size),au,E.size,Cb,Bt a6 U,fun e=>by simp [Value.ownBlock] at e,fun e=>by have:=Cj a6 e; omega,fun g hg=>by simp [Value.ownBlock] at hg⟩
  have aZ:=hide aw
  have aE:=hide aG.out
  clear V a6 E U au b8 aw bd am
  go_wp2_with fail
  refine S4 aD.out aZ.out a.st_len b9 J.out rfl ?_
  iterate 32 (intro _)
  intro w7 vw aH ax
  obtain⟨A7,c7,e7,aA⟩:=B8 (l:=Ak (a.shortW far k (AQ far a.st k))) ax (by simp [Ak]) (Nat.le_refl _) (by have:=bh.out; omega)
  have an:(Ak (a.shortW far k (AQ far a.st k))).length=(a.shortW far k (AQ far a.st k)).length:=by simp [Ak]
  rw [an] at e7
  subst e7
  have b2:=hide aA
  have b3:=hide (aE.out.trans (aH.mono aE.out.size))
  clear aA aH ax an
  go_wp2_with fail
  go_ret2
  exact⟨b3.out,far,G.out,.inr ⟨_,A7,c7,hR.out,rfl,b2.out⟩⟩
end Go.Proofs.YtfcfpoemojjglaaGreatDoor
