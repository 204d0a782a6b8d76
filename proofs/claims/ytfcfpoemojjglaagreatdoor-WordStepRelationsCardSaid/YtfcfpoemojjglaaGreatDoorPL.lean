/-
  Part PL of a proof.
-/
import Derived.Deep.LoopGhost
import Derived.Test.YtfcfpoemojjglaaGreatDoorPA
import Derived.Test.YtfcfpoemojjglaaGreatDoorPK
set_option maxHeartbeats 16000000
set_option maxRecDepth 100000
set_option linter.unusedVariables false
set_option linter.unusedSimpArgs false
namespace Go.Proofs.YtfcfpoemojjglaaGreatDoor
open Go.RowKit
set_option maxHeartbeats 16000000
set_option maxRecDepth 100000
theorem Nk {w:World} {F g4 g10:Nat} (y:F=115∨F=116):
  Calls Tryz.prog 114 #[.slice none 0 0,.func (.func F) #[] #[.pointer (some ⟨g4,0,none⟩),.pointer (some ⟨g10,0,none⟩)]] w (Ret fun r w'=>Below w.heap.size w w'∧r=.slice none 0 0):=by
 have C:Calls Tryz.prog 107 #[.slice none 0 0,.func (.func F) #[] #[.pointer (some ⟨g4,0,none⟩),.pointer (some ⟨g10,0,none⟩)]] w (Ret fun r w'=>Below w.heap.size w w'∧r=.int .i64 (-1)):=by
  refine Calls.ret (Cu (l:=[]) (B:=w.heap.size) (A:=none) (c:=0) (p:=fun _=>false) (Sl.nil rfl) (Nat.le_refl _) (by simp) y (fun q h=>absurd h List.not_mem_nil)) ?_
  rintro r w' ⟨E,⟨k,q,h,_⟩ | ⟨rfl,_⟩⟩
  ·simp at h
  ·exact⟨E,rfl⟩
 rcases y with rfl | rfl
 all_goals
  go_enter Tryz.func114,Tryz.ntmps114
  go_wp2_with fail
  refine Calls.ret C ?_
  rintro r w1 ⟨z,rfl⟩
  have G:=hide z
  clear C z
  go_wp2_with fail
  go_ret
  exact⟨G.out,rfl⟩
theorem Jl {w:World} {l:List Nat} {base F g4 g10:Nat} {v:Value} {p:Nat→Bool} (h:w.ownsRow base 3 1 v l.length (CJ l)) (E:l.length≤4000000) (y:F=115∨F=116)
  (G:∀q∈l,∀w',Ac w w' (fun k=>v.ownBlock=some k)→Calls Tryz.prog F #[.int .i64 (q:Int),.pointer (some ⟨g4,0,none⟩),.pointer (some ⟨g10,0,none⟩)] w' (Ret fun r w''=>r=.bool (p q)∧Below w'.heap.size w' w'')):
  Calls Tryz.prog 114 #[v,.func (.func F) #[] #[.pointer (some ⟨g4,0,none⟩),.pointer (some ⟨g10,0,none⟩)]] w (Ret fun r w'=>Ac w w' (fun k=>v.ownBlock=some k)∧r.ownBlock=v.ownBlock∧w'.ownsRow base 3 1 r (l.filter fun q=>!p q).length (CJ (l.filter fun q=>!p q))):=by
 rcases h.2 with⟨rfl,h0⟩ | ⟨g,z,J,rfl,_⟩
 ·have:l=[]:=List.length_eq_zero_iff.1 h0
  subst this
  refine Calls.ret (Nk y) ?_
  rintro r w' ⟨C,rfl⟩
  exact⟨Ac.of_below C _,rfl,Cb⟩
 ·refine Calls.ret (Nj (g:=g) (c:=z) (p:=p) h E y fun q I w' hk=>G q I w' (hk.mono fun b _ e=>by subst e; rfl)) ?_
  rintro r w' ⟨hk,rfl,ho⟩
  exact⟨hk.mono fun b _ e=>by subst e; rfl,rfl,ho⟩
theorem Nd (far:List Int) (m:List Bool) (k:Nat):(Bc m).filter (fun q=>decide (far.getD q (-1)=(k:Int)))=Bc (AQ far m k):=by
 unfold Bc
 have y:(AQ far m k).length=m.length:=by simp [AQ]
 rw [y,List.filter_filter]
 refine List.filter_congr fun q h=>?_
 have h:=List.mem_range.1 h
 rw [Bool.eq_iff_iff,D1]
 simp only [Bool.and_eq_true,decide_eq_true_eq]
 exact And.comm
theorem Ne {m:List Bool}:(0<(Bc m).length)↔DU m=true:=by
 rw [List.length_pos_iff_exists_mem,FA]
 unfold Bc
 simp only [List.mem_filter,List.mem_range]
theorem Jf (far:List Int) (m:List Bool) (k:Nat):AQ far (AQ far m k) k=AQ far m k:=by
 apply List.ext_getElem?
 intro q
 have I:(AQ far m k).length=m.length:=by simp [AQ]
 have J:(AQ far (AQ far m k) k).length=m.length:=by simp [AQ]
 rcases Nat.lt_or_ge q m.length with G | G
 ·obtain⟨x,z⟩:=An (l:=AQ far m k) (i:=q) (by omega)
  obtain⟨y,F⟩:=An (l:=AQ far (AQ far m k) k) (i:=q) (by omega)
  rw [z,F]
  congr 1
  rw [Bool.eq_iff_iff]
  have C:=D1 (far:=far) (m:=m) (k:=k) (q:=q)
  have E:=D1 (far:=far) (m:=AQ far m k) (k:=k) (q:=q)
  rw [getD_some F,getD_some z] at E
  rw [getD_some z] at C
  rw [E,C]
  exact⟨fun h=>h.1,fun h=>⟨h,h.2⟩⟩
 ·rw [List.getElem?_eq_none (by omega),List.getElem?_eq_none (by omega)]
structure Ec (w2:World) (a:NF) (far:List Int) (vn:Value) (g1 g4:Nat) (Af:Option Addr) (cf:Nat):Prop where
 nf:Cn w2 w2.heap.size vn a
 b1:∃cs,vn=.agg cs∧Blk w2 g1 88 cs
 b4:Blk w2 g4 24 #[.slice Af far.length cf]
 rd:Sl w2 w2.heap.size 1 Ai Af far
 isF:a.Far far
 ok:a.OK
 n:a.n≤200000
 L:a.L≤8
 cat:∀m x,m.length=a.n→x<a.L→(a.cat (AJ m) x).length≤4000000
theorem Ec.at {w2 w':World} {a:NF} {far:List Int} {G:Value} {F g4 E:Nat} {C:Option Addr} (h:Ec w2 a far G F g4 C E) (y:Below w2.heap.size w2 w'):Ec w' a far G F g4 C E:=by
 obtain⟨cs,e,I⟩:=h.b1
 exact⟨h.nf.keep (fun p z=>y.cell z) y.size,⟨cs,e,I.below y⟩,h.b4.below y,h.rd.keep (fun p z=>y.cell z) y.size,h.isF,h.ok,h.n,h.L,h.cat⟩
structure CC (w2 wr:World) (g10 left:Nat) (vw vs:Value) (us l:List Nat):Prop where
 below:Below w2.heap.size w2 wr
 cell:Blk wr g10 3 #[.int .i64 (left:Int)]
 ge:w2.heap.size≤g10
 word:wr.ownsRow w2.heap.size 3 1 vw us.length (CJ us)
 set:wr.ownsRow w2.heap.size 3 1 vs l.length (CJ l)
 sepw:vw.ownBlock≠some g10
 seps:vs.ownBlock≠some g10
 sep:∀g,vw.ownBlock=some g→vs.ownBlock≠some g
section
variable {w2 wr w1:World} {g10 left:Nat} {vw vs:Value} {us l:List Nat}
theorem CC.keep (h:CC w2 wr g10 left vw vs us l) (y:Below wr.heap.size wr w1):CC w2 w1 g10 left vw vs us l:=
 ⟨h.below.trans (y.mono h.below.size),h.cell.below y,h.ge,Bt h.word y,Bt h.set y,h.sepw,h.seps,h.sep⟩
theorem CC.cut {z:Value} {l':List Nat} (h:CC w2 wr g10 left vw vs us l) (hk:Ac wr w1 (fun k=>vs.ownBlock=some k)) (C:z.ownBlock=vs.ownBlock) (ho:w1.ownsRow w2.heap.size 3 1 z l'.length (CJ l')):CC w2 w1 g10 left vw z us l':=
 ⟨h.below.trans (hk.below h.below.size fun b E e=>by have:=Bb h.set e; omega),h.cell.kept hk h.seps,h.ge,hk.ownsRow h.word (fun g y e=>h.sep g y e),ho,h.sepw,by rw [C]; exact h.seps,fun g y=>by rw [C]; exact h.sep g y⟩
theorem CC.found {E G:World} {v5 F:Value} {l':List Nat} {x:Nat} (h:CC w2 wr g10 left vw vs us l) (I:Below wr.heap.size wr E) (z:E.ownsRow wr.heap.size 3 1 v5 l'.length (CJ l'))
  (hk:Ac E G (fun k=>vw.ownBlock=some k)) (ho:G.ownsRow w2.heap.size 3 1 F (us.length+1) (CJ us++[.int .i64 (x:Int)])) (M:BJ E vw F):CC w2 G g10 left F v5 (us++[x]) l':=by
 have h1:=h.keep I
 have J:∀g,vw.ownBlock=some g→g<wr.heap.size:=fun g y=>Cj h.word y
 have O:=h.below.size
 refine⟨h1.below.trans (hk.below h1.below.size fun b I e=>by have:=Bb h.word e; omega),h1.cell.kept hk h.sepw,h.ge,by rw [List.length_append,Id]; exact ho,?_,M.ne h1.cell.lt h.sepw,fun e=>?_,fun g y e=>?_⟩
 ·exact DC (hk.ownsRow z fun g y e=>by have:=Bb z y; have:=J g e; omega) O
 ·have:=Bb z e; have:=h.cell.lt; omega
 ·have V:=Bb z e
  have W:=Cj z e
  rcases M with C | ⟨U,C,Z⟩
  ·have:=J g (by rw [←C]; exact y); omega
  ·rw [y] at C
   injection C with C
   omega
theorem CC.fresh {y k:Nat} (h:CC w2 wr g10 left vw vs us l) (z:Below wr.heap.size wr w1) (C:Blk w1 y 3 #[.int .i64 (k:Int)]) (E:wr.heap.size≤y):CC w2 w1 y k vw vs us l:=by
 have h1:=h.keep z
 have F:=h.below.size
 exact⟨h1.below,C,by omega,h1.word,h1.set,fun e=>by have:=Cj h.word e; omega,fun e=>by have:=Cj h.set e; omega,h.sep⟩
end
end Go.Proofs.YtfcfpoemojjglaaGreatDoor
namespace Go.Proofs.YtfcfpoemojjglaaGreatDoor
open Go.RowKit
set_option maxHeartbeats 16000000
set_option maxRecDepth 100000
theorem To {w:World} {v vs:Value} {a:NF} {m:List Bool} {x base:Nat} (h:Cn w w.heap.size v a) (E:a.OK) (C:m.length=a.n) (I:a.n≤200000) (ho:w.ownsRow base 3 1 vs (Bc m).length (CJ (Bc m))) (F:x<a.L) (z:(a.cat (AJ m) x).length≤4000000):
  Calls Tryz.prog 43 #[v,vs,.int .i64 (x:Int)] w (Ret fun r w'=>w'.ownsRow w.heap.size 3 1 r (Bc (a.after m x)).length (CJ (Bc (a.after m x)))∧Below w.heap.size w w'):=by
 have G:(Bc m).length≤200000:=by
  unfold Bc
  have:=List.length_filter_le (fun q=>m.getD q false) (List.range m.length)
  rw [List.length_range] at this
  omega
 obtain⟨A,c,e,hS⟩:=B8 (l:=Ak (Bc m)) ho (by simp [Ak]) (Nat.le_refl _) (by omega)
 subst e
 refine Calls.ret (Iq (c:=c) h E C hS (Nat.le_refl _) F z) ?_
 rintro r w' ⟨h1,y⟩
 refine⟨?_,y⟩
 rw [Fx] at h1
 have e:(Ak (Bc (a.after m x))).length=(Bc (a.after m x)).length:=by simp [Ak]
 rw [e] at h1
 exact h1
theorem Lk {m:List Bool} {n:Nat} (h:m.length=n):(Bc m).length≤n:=by
 unfold Bc
 have:=List.length_filter_le (fun q=>m.getD q false) (List.range m.length)
 rw [List.length_range] at this
 omega
theorem J8 (far:List Int) (m:List Bool) (k:Nat):((Bc m).filter fun q=>!(!decide (far.getD q (-1)=(k:Int))))=Bc (AQ far m k):=by
 rw [←Nd]
 exact List.filter_congr fun q _=>Bool.not_not _
theorem S5 {w2 w:World} {a:NF} {far:List Int} {vn vw vs:Value} {O g4 cf g10 k L z:Nat} {Af:Option Addr} {us:List Nat} {m:List Bool} (ai:Ec w2 a far vn O g4 Af cf) (af:CC w2 w g10 (k+1) vw vs us (Bc m)) (hm:m.length=a.n) (cM:k≤200000) (cU:us.length≤200000) (ae:L=a.L) (cX:z<L) (cH:L≤8)
  (ap:∀y,y<z→DU (AQ far (a.after m y) k)=false) (av:DU (AQ far (a.after m z) k)=true)
  {u0 u2 u3 u5 u6 u7 bQ bR ay az aA aB aC aD aE aG aH aJ aK aL aM aN aO aP aQ aS aT aU aV aW aX aY aZ b0 b2 b3 b5 b6 b7 b8 b9 ba bb bc bd bf bg bh bi bj bk bl bm bS bT bU bV u64 bW bX bY bZ c0 c4 c6 c7 c8 c9 ca cb bp bq:Value} {Q:Exit→Act→World→Prop}
  (ah:∀(cd ce cg ch ci cj ck cm cn co cp cq cr ct cu cv cw cx cy cz:Value) (w':World) (bt bs:Value),CC w2 w' g10 (k+1) bt bs (us++[z]) (Bc (AQ far (a.after m z) k))→Q (.exit 4) ⟨List.toArray (u0::(.pointer (some ⟨O,0,none⟩))::u2::u3::(.pointer (some ⟨g4,0,none⟩))::u5::u6::u7::bt::bs::(.pointer (some ⟨g10,0,none⟩))::cd::ce::ay::az::aA::aB::aC::aD::aE::aG::aH::aJ::aK::aL::aM::
   aN::aO::aP::aQ::aS::aT::aU::aV::aW::aX::aY::aZ::b0::b2::b3::b5::b6::b7::b8::b9::ba::bb::bc::bd::bf::bg::bh::bi::bj::bk::bl::bm::(.int .i64 (L:Int))::cg::ch::
   ci::cj::ck::cm::cn::co::cp::cq::cr::ct::cu::cv::cw::cx::cy::cz::bp::bq::[]),[]⟩ w'):
  (Code.loop (CG Tryz.f70 2)).wp Tryz.prog Q ⟨List.toArray (u0::(.pointer (some ⟨O,0,none⟩))::u2::u3::(.pointer (some ⟨g4,0,none⟩))::u5::u6::u7::vw::vs::(.pointer (some ⟨g10,0,none⟩))::bQ::bR::ay::az::aA::aB::aC::aD::aE::aG::aH::aJ::aK::aL::aM::
   aN::aO::aP::aQ::aS::aT::aU::aV::aW::aX::aY::aZ::b0::b2::b3::b5::b6::b7::b8::b9::ba::bb::bc::bd::bf::bg::bh::bi::bj::bk::bl::bm::(.int .i64 (L:Int))::
   (.int .i64 0)::bS::bT::bU::bV::u64::bW::bX::bY::bZ::c0::c4::c6::c7::c8::c9::ca::cb::bp::bq::[]),[]⟩ w:=by
 conv=>arg 2; arg 1; whnf
 have hX:=hide ai
 have hM:=hide af
 have an:=hide hm
 have bI:=hide ap
 have bO:=hide av
 have bx:=hide ae
 have bC:=hide ah
 have cQ:=GT
 clear ai af hm ap av ae ah
 go_loopw [8,9,59] (fun ww ss xx wr=>∃(x:Nat),vw=ww∧vs=ss∧xx=.int .i64 (x:Int)∧x≤z∧Hid (CC w2 wr g10 (k+1) vw vs us (Bc m))) (fun _ _ xx _=>z+1 - (intOf xx).toNat)
 case atStart=>exact⟨0,rfl,rfl,rfl,Nat.zero_le _,hM⟩
 case round=>
  obtain⟨x,rfl,rfl,rfl,hx,C⟩:=hrel
  have E:=hX.out.at C.out.below
  have cY:x<L:=by omega
  have au:x<a.L:=by have:=bx.out; omega
  obtain⟨A1,c1,A2,c2,A3,c3,a2,-⟩:=E.nf
  obtain⟨cs,e,hB⟩:=E.b1
  rw [a2] at e
  injection e with e
  subst e
  have cK:=hB.cell
  have a7:=To E.nf E.ok an.out E.n C.out.set au (E.cat m x an.out au)
  rw [a2] at a7
  have cJ:=hide E
  have cV:=hide a2
  clear E hB a2
  go_wp2_with fail
  refine Calls.ret a7 ?_
  rintro r3 w3 ⟨J,V⟩
  have U:=C.out.below.trans (V.mono C.out.below.size)
  have a4:=hX.out.at U
  have ag:=C.out.keep V
  have bF:far.length=a.n:=a4.isF.len
  have cS:=C.out.below.size
  have W:=Jl (F:=116) (g4:=g4) (g10:=g10) (p:=fun q=>!decide (far.getD q (-1)=(k:Int))) J (by have:=Lk (a.after_len m x); have:=a4.n; omega) (.inr rfl) (fun q hq w' hk=>by
   have aj:Ec w' a far vn O g4 Af cf:=hX.out.at (U.trans (hk.below U.size fun b hb e=>by have:=Bb J e; omega))
   have cR:q<a.n:=GW (a.after_len m x) q hq
   refine Nu aj.b4 aj.rd ?_ (by omega) (by omega)
   have:=(ag.cell.kept hk (fun e=>by have:=Bb J e; have:=C.out.cell.lt; omega)).cell 0
   rw [this]
   rfl)
  rw [J8] at W
  have bJ:=hide J
  have ak:=hide V
  clear a7 ag a4 bF U J V
  go_wp2_with fail
  refine Calls.ret W ?_
  rintro r5 w5 ⟨a5,ar,Z⟩
  have I:Below wr.heap.size wr w5:=ak.out.trans (a5.below ak.out.size fun b hb e=>by have:=Bb bJ.out e; omega)
  obtain⟨A5,c5,rfl⟩:=AH Z
  have M:=Ne (m:=AQ far (a.after m x) k)
  rcases G:DU (AQ far (a.after m x) k) with _ | _
  ·rw [G] at M
   have hz:(Bc (AQ far (a.after m x) k)).length=0:=by
    rcases Nat.eq_zero_or_pos (Bc (AQ far (a.after m x) k)).length with h | h
    ·exact h
    ·exact absurd (M.1 h) (by simp)
   have cO:x<z:=by
    rcases Nat.lt_or_ge x z with h | h
    ·exact h
    ·have e:x=z:=by omega
     rw [e,bO.out] at G
     cases G
   have bA:=hide (C.out.keep I)
   rw [hz]
   clear W a5 ar Z I M hz G
   go_wp2_with fail
   exact⟨⟨x+1,rfl,rfl,by go_num,by omega,bA⟩,by simp [intOf]; omega⟩
  ·have bG:0<(Bc (AQ far (a.after m x) k)).length:=M.2 G
   have bN:x=z:=by
    rcases Nat.lt_or_ge x z with h | h
    ·rw [bI.out x h] at G
     cases G
    ·omega
   subst bN
   obtain⟨ln,a6⟩:∃ln,ln=(Bc (AQ far (a.after m x) k)).length:=⟨_,rfl⟩
   have bH:=hide a6
   have bK:=hide Z
   have bE:=hide I
   rw [←a6] at bG ⊢
   have bM:=hide (Bt C.out.word I)
   have cT:=I.size
   clear W a5 ar Z I M G a6
   go_wp2_with (
    at_builtin
    refine BP (w:=w5) C9 rfl _ _ rfl w2.heap.size vw us.length _ rfl bM.out [.int .i64 (x:Int)] 1 rfl rfl (by simp [Value.oneCell']) (by omega) (by omega) ?_
    intro g cG w6 aq al ao cL
    have bB:=hide (C.out.found (x:=x) (v5:=.slice A5 ln c5) (l':=Bc (AQ far (a.after m x) k)) bE.out (by rw [bH.out]; exact bK.out) al aq ao)
    clear aq al ao)
   exact bC.out _ _ _ _ _ _ _ _ _ _ _ _ _ _ _ _ _ _ _ _ _ _ _ bB.out
end Go.Proofs.YtfcfpoemojjglaaGreatDoor
namespace Go.Proofs.YtfcfpoemojjglaaGreatDoor
open Go.RowKit
set_option maxHeartbeats 16000000
set_option maxRecDepth 100000
theorem S4 {w2 w:World} {a:NF} {far:List Int} {vn vw vs:Value} {G g4 cf g10 left:Nat} {Af:Option Addr} {m:List Bool} {C:List Nat} (af:Ec w2 a far vn G g4 Af cf) (ad:CC w2 w g10 left vw vs [] (Bc m)) (hm:m.length=a.n) (db:left≤200000)
  (a9:a.Lev far (AQ far m left) left) (ap:a.shortW far left (AQ far m left)=C)
  {u0 u2 u3 u5 u6 u7 bK bL ay az aA aB aC aD aE aG aH aJ aK aL aM aN aO aP aQ aS aT aU aV aW aX aY aZ b0 b2 b3 b5 b6 b7 b8 b9 ba bb bc bd bM bN bO bP bQ bR bS bT bU bV bW bX bY bZ u64 c0 c4 c5 c6 c7 c8 c9 ca cb cc cd ce cg bh:Value} {Q:Exit→Act→World→Prop}
  (ae:∀(x9 cj ck cm cn co cp cq cr ct cu cv cw cx cy cz cA cB cD cE cF cG cH cJ cK cL cM cO cQ cR cS cT:Value) (w':World) (bj:Value),Below w2.heap.size w2 w'→w'.ownsRow w2.heap.size 3 1 bj C.length (CJ C)→Q (.exit 2) ⟨List.toArray (u0::(.pointer (some ⟨G,0,none⟩))::u2::u3::(.pointer (some ⟨g4,0,none⟩))::u5::u6::u7::bj::x9::cj::ck::cm::ay::az::aA::aB::aC::aD::aE::aG::aH::aJ::aK::aL::aM::aN::aO::aP::aQ::
   aS::aT::aU::aV::aW::aX::aY::aZ::b0::b2::b3::b5::b6::b7::b8::b9::ba::bb::bc::bd::cn::co::cp::cq::cr::ct::cu::cv::cw::cx::cy::cz::cA::cB::cD::cE::cF::
   cG::cH::cJ::cK::cL::cM::cO::cQ::cR::cS::cT::bh::[]),[]⟩ w'):
  (Code.loop (CG Tryz.f70 1)).wp Tryz.prog Q ⟨List.toArray (u0::(.pointer (some ⟨G,0,none⟩))::u2::u3::(.pointer (some ⟨g4,0,none⟩))::u5::u6::u7::vw::vs::(.pointer (some ⟨g10,0,none⟩))::bK::bL::ay::az::aA::aB::aC::aD::aE::aG::aH::aJ::aK::aL::aM::
   aN::aO::aP::aQ::aS::aT::aU::aV::aW::aX::aY::aZ::b0::b2::b3::b5::b6::b7::b8::b9::ba::bb::bc::bd::bM::bN::bO::bP::bQ::bR::bS::bT::bU::bV::bW::bX::bY::
   bZ::u64::c0::c4::c5::c6::c7::c8::c9::ca::cb::cc::cd::ce::cg::bh::[]),[]⟩ w:=by
 conv=>arg 2; arg 1; whnf
 have M:=hide af
 have hM:=hide ad
 have bz:=hide hm
 have bm:=hide a9
 have bC:=hide ap
 have br:=hide ae
 have dc:=GT
 clear af ad hm a9 ap ae
 go_loopg [8,9,10] (left) (fun z ww ss pp wr=>∃(m:List Bool) (us:List Nat) (g10:Nat),pp=.pointer (some ⟨g10,0,none⟩)∧Hid (CC w2 wr g10 z ww ss us (Bc m))∧Hid (m.length=a.n)∧Hid (a.Lev far (AQ far m z) z)∧Hid (us++a.shortW far z (AQ far m z)=C)∧Hid (us.length+z=left))
 case atStart=>exact⟨m,[],g10,rfl,hM,bz,bm,bC,by show _=_; simp⟩
 case round=>
  obtain⟨m,us,g10,rfl,h,a2,bn,aq,a4⟩:=hrel
  have d9:=h.out.cell.cell 0
  rcases gk with _ | k
  ·have bD:us=C:=by have:=aq.out; simpa [NF.shortW] using this
   subst bD
   go_wp2_with fail
   exact br.out _ _ _ _ _ _ _ _ _ _ _ _ _ _ _ _ _ _ _ _ _ _ _ _ _ _ _ _ _ _ _ _ _ _ h.out.below h.out.word
  ·have y:=M.out.at h.out.below
   have bu:far.length=a.n:=y.isF.len
   obtain⟨A1,c1,A2,c2,A3,c3,au,-⟩:=y.nf
   obtain⟨cs,e,hB⟩:=y.b1
   rw [au] at e
   injection e with e
   subst e
   have Z:=Jl (F:=115) (g4:=g4) (g10:=g10) (p:=fun q=>!decide (far.getD q (-1)=((k+1:Nat):Int))) h.out.set (by have:=Lk a2.out; have:=y.n; omega) (.inl rfl) (fun q hq w' hk=>by
    have ag:Ec w' a far vn G g4 Af cf:=M.out.at (h.out.below.trans (hk.below h.out.below.size fun b hb e=>by have:=Bb h.out.set e; omega))
    have de:q<a.n:=GW a2.out q hq
    refine Nt ag.b4 ag.rd ?_ (by omega)
    exact(h.out.cell.kept hk h.out.seps).cell 0)
   rw [J8] at Z
   obtain⟨O,hp,bF,I,ak⟩:=bn.out.pick y.isF
   have ao:a.shortW far (k+1) (AQ far m (k+1))=O::a.shortW far k (AQ far (a.after (AQ far m (k+1)) O) k):=by rw [NF.shortW,hp]
   have aw:DU (AQ far (a.after (AQ far m (k+1)) O) k)=true:=by
    obtain⟨q,hq,bA⟩:=I.ne
    exact FA.2 ⟨q,by rw [I.len]; exact hq,bA⟩
   have bH:=hide aw
   have bx:=hide ak
   have ab:=hide I
   have bB:=hide ao
   have ai:(AQ far m (k+1)).length=a.n:=by simp [AQ]; exact a2.out
   have bt:=hide ai
   obtain⟨L,U⟩:∃L,L=a.L:=⟨_,rfl⟩
   have aa:=hide U
   have bl:L≤8:=by rw [U]; exact y.L
   have bw:k≤200000:=by have:=a4.out; omega
   have bE:us.length≤200000:=by have:=a4.out; omega
   have bG:O<L:=by omega
   clear y bu au hB hp bF I ak ao aw ai U
   go_wp2_with fail
   refine Calls.ret Z ?_
   rintro r3 w3 ⟨aj,ar,am⟩
   have V:=h.out.cut aj ar am
   have W:=M.out.at V.below
   obtain⟨cW,d2,cY,d3,d0,d5,av,-⟩:=W.nf
   obtain⟨d6,E,a7⟩:=W.b1
   rw [av] at E
   injection E with E
   subst E
   have bs:=a7.cell
   rw [←aa.out] at bs
   have bp:=hide V
   clear Z aj ar am V W av a7
   go_wp2_with fail
   refine S5 M.out bp.out bt.out bw bE aa.out bG bl bx.out bH.out ?_
   iterate 20 (intro _)
   intro w4 di dh J
   have da:=J.cell.cell 0
   obtain⟨w5,df,ah,a8,bv⟩:=Ae w4 #[.int .i64 (k:Int)] 3
   have bq:=hide (J.fresh ah a8 (Nat.le_refl _))
   have d7:=hide J
   clear J ah a8 bv
   go_wp2_with fail
   go_roundg k
   case measure=>omega
   case rel=>
    refine⟨_,_,_,rfl,bq,ab.out.len,?_,?_,?_⟩
    ·show NF.Lev _ _ _ _
     rw [Jf]
     exact ab.out
    ·have:=aq.out
     rw [bB.out] at this
     show _=_
     rw [Jf,List.append_assoc]
     exact this
    ·have:=a4.out
     show _=_
     rw [List.length_append,List.length_singleton]
     omega
theorem S3 {w2 w:World} {a:NF} {far:List Int} {vn:Value} {g1 g4 cf c2:Nat} {Af I:Option Addr} (U:Ec w2 a far vn g1 g4 Af cf) (a5:Below w2.heap.size w2 w) (O:Sl w2 w2.heap.size 1 Ai I a.start)
  {u0 u1 u2 u3 u6 u7 u8 u9 aa ab ad ae af ag bm bn bo bp bq br bs bt bu bv bw bx bz bA bB bC bD bE bF bG bH bI bJ bK bL aj ak al am an ao ap aq ar au av aw ax ay az aA aC aD aE aF u64 aG aH aJ aK aL aM aN aO aP aQ aR aS aT aU:Value} {Q:Exit→Act→World→Prop}
  (a4:∀(x7 bO bP bQ bR bS bT bU bV bW bX bY bZ c0 c1 c3 c4 c5 c6 c7 c8 c9 ca cb cc cd ce:Value) (w':World),Below w2.heap.size w2 w'→Q (.exit 0) ⟨List.toArray (u0::u1::u2::u3::(.pointer (some ⟨g4,0,none⟩))::(.int .i64 (B6 far (-1) a.start))::u6::x7::u8::u9::aa::ab::ad::ae::af::ag::(.slice I a.start.length c2)::(.int .i64 (a.start.length:Int))::bO::bP::bQ::bR::
   bS::bT::bU::bV::bW::bX::bY::bZ::c0::c1::c3::c4::c5::c6::c7::c8::c9::ca::cb::cc::cd::ce::aj::ak::al::am::an::ao::ap::aq::ar::au::av::aw::ax::ay::az::
   aA::aC::aD::aE::aF::u64::aG::aH::aJ::aK::aL::aM::aN::aO::aP::aQ::aR::aS::aT::aU::[]),[]⟩ w'):
  (Code.loop (CG Tryz.f70 0)).wp Tryz.prog Q ⟨List.toArray (u0::u1::u2::u3::(.pointer (some ⟨g4,0,none⟩))::(.int .i64 (-1))::u6::u7::u8::u9::aa::ab::ad::ae::af::ag::(.slice I a.start.length c2)::(.int .i64 (a.start.length:Int))::(.int .i64 0)::bm::bn::bo::bp::
   bq::br::bs::bt::bu::bv::bw::bx::bz::bA::bB::bC::bD::bE::bF::bG::bH::bI::bJ::bK::bL::aj::ak::al::am::an::ao::ap::aq::ar::au::av::aw::ax::ay::az::aA::
   aC::aD::aE::aF::u64::aG::aH::aJ::aK::aL::aM::aN::aO::aP::aQ::aR::aS::aT::aU::[]),[]⟩ w:=by
 conv=>arg 2; arg 1; whnf
 have C:=hide U
 have hb:=hide a5
 have hS:=hide O
 have b2:=hide a4
 have bg:=O.1
 have ba:=hide U.isF.ge
 obtain⟨n,Z⟩:∃n,n=a.start.length:=⟨_,rfl⟩
 have a2:=hide Z
 rw [←Z] at bg ⊢
 clear U a5 O Z a4
 go_loopw [5,18] (fun h kk wr=>∃(k:Nat),h=.int .i64 (B6 far (-1) (a.start.take k))∧kk=.int .i64 (k:Int)∧k≤n∧Hid (Below w2.heap.size w2 wr)) (fun _ kk _=>n - (intOf kk).toNat)
 case atStart=>exact⟨0,rfl,rfl,Nat.zero_le _,hb⟩
 case round=>
  obtain⟨k,rfl,rfl,hk,y⟩:=hrel
  by_cases bc:k<n
  ·obtain⟨s,F⟩:=An (l:=a.start) (i:=k) (by rw [←a2.out]; exact bc)
   obtain⟨b,bl,rfl,b7,hc⟩:=EZ hS.out F
   have ci:=(y.out.cell (p:=⟨b,bl+k,none⟩) b7).trans hc
   obtain⟨q,rfl,hq⟩:=CT (C.out.ok.start s (List.mem_of_getElem? F))
   simp only [Int.toNat_natCast] at hq
   have b9:far.length=a.n:=C.out.isF.len
   obtain⟨z,G⟩:=An (l:=far) (i:=q) (by omega)
   obtain⟨bf,bk,rfl,b6,a7⟩:=EZ C.out.rd G
   have ch:=(y.out.cell (p:=⟨bf,bk+q,none⟩) b6).trans a7
   have b8:=(C.out.at y.out).b4.cell 0
   have bh:=hide (Mn (far:=far) (b:=-1) F)
   have bj:Hid (far.getD ((q:Int)).toNat (-1)=z):=by show _=_; rw [Int.toNat_natCast,getD_some G]
   have ck:-1≤z:=by have:=ba.out q; rw [getD_some G] at this; exact this
   have be:q<far.length:=by omega
   obtain⟨M,W⟩:∃M,M=far.length:=⟨_,rfl⟩
   rw [←W] at b8 be
   obtain⟨h,V⟩:∃h,h=B6 far (-1) (a.start.take k):=⟨_,rfl⟩
   rw [←V]
   have b5:=hide V
   have cj:M≤9223372036854775807:=by rw [W]; exact C.out.rd.1
   clear F hc G a7 V b9 W
   have fin:∀J:Int,(J=if 0≤z∧(h<0∨z<h) then z else h)→J=B6 far (-1) (a.start.take (k+1)):=fun J e=>by rw [e,bh.out,bj.out,←b5.out]
   have E:=hide fin
   clear fin
   by_cases h1:0≤z
   ·by_cases h2:h<0
    ·go_wp2_with fail
     exact⟨⟨k+1,by rw [←E.out z (by rw [if_pos ⟨h1,.inl h2⟩])],by go_num,by omega,y⟩,by simp [intOf]; omega⟩
    ·by_cases h3:z<h
     ·go_wp2_with fail
      exact⟨⟨k+1,by rw [←E.out z (by rw [if_pos ⟨h1,.inr h3⟩])],by go_num,by omega,y⟩,by simp [intOf]; omega⟩
     ·go_wp2_with fail
      exact⟨⟨k+1,by rw [←E.out h (by rw [if_neg (by omega)])],by go_num,by omega,y⟩,by simp [intOf]; omega⟩
   ·go_wp2_with fail
    exact⟨⟨k+1,by rw [←E.out h (by rw [if_neg (by omega)])],by go_num,by omega,y⟩,by simp [intOf]; omega⟩
  ·obtain rfl:k=n:=by omega
   have bi:a.start.take k=a.start:=by rw [a2.out,List.take_length]
   rw [bi]
   go_wp2_with fail
   rw [a2.out]
   exact b2.out _ _ _ _ _ _ _ _ _ _ _ _ _ _ _ _ _ _ _ _ _ _ _ _ _ _ _ _ y.out
theorem NF.sort_start {a:NF} (C:a.OK):CL a.start=AJ a.st:=by
 refine Ip fun x=>?_
 constructor
 ·intro z
  obtain⟨q,rfl,h⟩:=CT (C.start x z)
  simp only [Int.toNat_natCast] at h
  exact⟨q,rfl,by unfold NF.st; rw [Dg h]; simp [z]⟩
 ·rintro⟨q,rfl,h⟩
  have y:=AP h
  rw [a.st_len] at y
  unfold NF.st at h
  rw [Dg y] at h
  simpa using h
theorem S6 {w:World} {v:Value} {a:NF} (h:Cn w w.heap.size v a) (ag:a.OK) (hn:a.n≤200000) (hL:a.L≤8) (hE:(a.psS a.n).length≤3000000) (bc:a.start.length≤4000000) (aK:∀m x,m.length=a.n→x<a.L→(a.cat (AJ m) x).length≤4000000):
  Calls Tryz.prog 70 #[v] w (Ret fun r w'=>Below w.heap.size w w'∧∃far,a.Far far∧((a.shortR far=none∧r=.tuple #[.slice none 0 0,.bool false])∨∃u A c,a.shortR far=some u∧r=.tuple #[.slice A u.length c,.bool true]∧Sl w' w'.heap.size 1 Ai A (Ak u))):=by
 obtain⟨W,c1,G,c2,Z,c3,hv,h1,h2,h3,h4⟩:=id h
 subst hv
 obtain⟨w1,bm,J,ap,b5⟩:=Ae w #[.int .i64 (a.L:Int),.slice W a.nx.length c1,.slice G a.start.length c2,.slice Z a.acc.length c3] 88
 have ai:=J.size
 have af:=h.keep (w':=w1) (fun p y=>J.cell y) ai
 have aL:=Nr af ag hn hL hE
 have bi:=ap.cell
 have aq:=hide ap
 have aF:=hide J
 have ba:=hide af
 have aT:=hide h2
 have ah:=hide ag
 have b3:=hide aK
 have aM:=hide hn
 have aX:=hide hL
 clear h h1 h2 h3 h4 b5 af ag hn hL hE J aK
 go_enter Tryz.func70,Tryz.ntmps70
 go_wp2_with fail
 refine Calls.ret aL ?_
 rintro r2 w2 ⟨aa,far,Af,cf,rfl,hF,aB⟩
 obtain⟨V,be,M,ar,b6⟩:=Ae w2 #[.slice Af far.length cf] 24
 have z:=aa.trans (M.mono aa.size)
 have hX:Ec V a far (.agg #[.int .i64 (a.L:Int),.slice W a.nx.length c1,.slice G a.start.length c2,.slice Z a.acc.length c3]) w.heap.size w2.heap.size Af cf:=
  ⟨ba.out.keep (fun p y=>z.cell y) z.size,⟨_,rfl,aq.out.below z⟩,ar,aB.keep (fun p y=>M.cell y) M.size,hF,ah.out,aM.out,aX.out,b3.out⟩
 have ay:Sl V V.heap.size 1 Ai G a.start:=aT.out.keep (fun p y=>(aF.out.trans (z.mono ai)).cell y) (by have:=z.size; omega)
 have bj:=(aq.out.below z).cell
 have a8:=hide hX
 have az:=hide ay
 have aJ:=hide (aF.out.trans (z.mono ai))
 have F:=hide hF
 clear aL aa hF aB M ar b6 z hX ay
 obtain⟨fl,ad⟩:∃fl,fl=far.length:=⟨_,rfl⟩
 have bl:=hide ad
 rw [←ad] at be ⊢
 clear ad
 go_wp2_with fail
 refine S3 a8.out (Below.refl _ _) az.out ?_
 iterate 27 (intro _)
 intro w4 C
 have bb:=hide (Hd F.out.ge a.start (-1) (by omega))
 obtain⟨b,hb⟩:∃b,b=B6 far (-1) a.start:=⟨_,rfl⟩
 have ab:=hide hb
 have aD:=hide (a8.out.at C)
 have aG:=hide (aJ.out.trans (C.mono aJ.out.size))
 have aZ:=hide (az.out.keep (w':=w4) (fun p y=>C.cell y) C.size)
 have bk:=((show Blk V w.heap.size 88 #[.int .i64 (a.L:Int),.slice W a.nx.length c1,.slice G a.start.length c2,.slice Z a.acc.length c3] from by
  obtain⟨cs,e,hB⟩:=a8.out.b1
  injection e with e
  subst e
  exact hB).below C).cell
 rw [←hb]
 clear hb C
 by_cases aN:b<0
 ·have hR:Hid (a.shortR far=none):=by show _=_; unfold NF.shortR; rw [if_pos (by rw [←ab.out]; exact aN)]
  go_wp2_with fail
  go_ret2
  exact⟨aG.out,far,F.out,.inl ⟨hR.out,rfl⟩⟩
 ·obtain⟨k,hk⟩:=Int.eq_ofNat_of_zero_le (show 0≤b by omega)
  subst hk
  have U:=GY (c:=c2) aZ.out bc
  rw [NF.sort_start ah.out,Fx] at U
  have al:(Ak (Bc a.st)).length=(Bc a.st).length:=by simp [Ak]
  rw [al] at U
  have I:=hide (NF.start_lev F.out ah.out ab.out.symm)
  have hR:Hid (a.shortR far=some (a.shortW far k (AQ far a.st k))):=by show _=_; unfold NF.shortR; rw [←ab.out,if_neg aN,Int.toNat_natCast]
  have b8:k≤200000:=by
   obtain⟨q,hq,hm⟩:=I.out.ne
   have:=(I.out.all q hq hm).lt hq
   have:=aM.out
   omega
  have bf:Hid ((a.shortW far k (AQ far a.st k)).length=k):=(NF.shortW_spec F.out k _ I.out).2.1
  go_wp2_with fail
  refine Calls.ret U ?_
  rintro vs w5 ⟨a6,E⟩
  obtain⟨w6,bn,O,au,b7⟩:=Ae w5 #[.int .i64 (k:Int)] 3
  have bh:=hide (aD.out.at (E.trans (O.mono E.size)))
  have aw:CC w4 w6 w5.heap.size k (.slice none 0 0) vs [] (Bc a.st):=
   ⟨E.trans (O.mono E.size),au,E.size,Cb,Bt a6 O,fun e=>by simp [Value.ownBlock] at e,fun e=>by have:=Cj a6 e; omega,fun g hg=>by simp [Value.ownBlock] at hg⟩
  have aY:=hide aw
  have aE:=hide aG.out
  clear U a6 E O au b7 aw bb al
  go_wp2_with fail
  refine S4 aD.out aY.out a.st_len b8 I.out rfl ?_
  iterate 32 (intro _)
  intro w7 vw aH ax
  obtain⟨A7,c7,e7,aA⟩:=B8 (l:=Ak (a.shortW far k (AQ far a.st k))) ax (by simp [Ak]) (Nat.le_refl _) (by have:=bf.out; omega)
  have am:(Ak (a.shortW far k (AQ far a.st k))).length=(a.shortW far k (AQ far a.st k)).length:=by simp [Ak]
  rw [am] at e7
  subst e7
  have b0:=hide aA
  have b2:=hide (aE.out.trans (aH.mono aE.out.size))
  clear aA aH ax am
  go_wp2_with fail
  go_ret2
  exact⟨b2.out,far,F.out,.inr ⟨_,A7,c7,hR.out,rfl,b0.out⟩⟩
end Go.Proofs.YtfcfpoemojjglaaGreatDoor
