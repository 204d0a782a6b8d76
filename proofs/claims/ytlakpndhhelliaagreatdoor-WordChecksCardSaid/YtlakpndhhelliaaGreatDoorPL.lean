/-
  Part PL of a proof.
-/
import Derived.Deep.LoopGhost
import Derived.Test.YtlakpndhhelliaaGreatDoorPA
import Derived.Test.YtlakpndhhelliaaGreatDoorPK
set_option maxHeartbeats 16000000
set_option maxRecDepth 100000
set_option linter.unusedVariables false
set_option linter.unusedSimpArgs false
namespace Go.Proofs.YtlakpndhhelliaaGreatDoor
open Go.RowKit
set_option maxHeartbeats 16000000
set_option maxRecDepth 100000
theorem LE {w:World} {F g4 g10:Nat} (h:F=43∨F=45):
  Calls Tryz.prog 42 #[.slice none 0 0,.func (.func F) #[] #[.pointer (some ⟨g4,0,none⟩),.pointer (some ⟨g10,0,none⟩)]] w (Ret fun r w'=>Below w.heap.size w w'∧r=.slice none 0 0):=by
 have y:Calls Tryz.prog 68 #[.slice none 0 0,.func (.func F) #[] #[.pointer (some ⟨g4,0,none⟩),.pointer (some ⟨g10,0,none⟩)]] w (Ret fun r w'=>Below w.heap.size w w'∧r=.int .i64 (-1)):=by
  refine Calls.ret (Cl (l:=[]) (B:=w.heap.size) (A:=none) (c:=0) (p:=fun _=>false) (Sl.nil rfl) (Nat.le_refl _) (by simp) h (fun q f=>absurd f List.not_mem_nil)) ?_
  rintro r w' ⟨C,⟨k,q,f,_⟩ | ⟨rfl,_⟩⟩
  ·simp at f
  ·exact⟨C,rfl⟩
 rcases h with rfl | rfl
 all_goals
  go_enter Tryz.func42,Tryz.ntmps42
  go_wp2_with fail
  refine Calls.ret y ?_
  rintro r w1 ⟨z,rfl⟩
  have E:=hide z
  clear y z
  go_wp2_with fail
  go_ret
  exact⟨E.out,rfl⟩
theorem Jy {w:World} {l:List Nat} {base F g4 g10:Nat} {v:Value} {p:Nat→Bool} (h:w.ownsRow base 3 1 v l.length (Ct l)) (y:l.length≤4000000) (f:F=43∨F=45)
  (z:∀q∈l,∀w',Ae w w' (fun k=>v.ownBlock=some k)→Calls Tryz.prog F #[.int .i64 (q:Int),.pointer (some ⟨g4,0,none⟩),.pointer (some ⟨g10,0,none⟩)] w' (Ret fun r w''=>r=.bool (p q)∧Below w'.heap.size w' w'')):
  Calls Tryz.prog 42 #[v,.func (.func F) #[] #[.pointer (some ⟨g4,0,none⟩),.pointer (some ⟨g10,0,none⟩)]] w (Ret fun r w'=>Ae w w' (fun k=>v.ownBlock=some k)∧r.ownBlock=v.ownBlock∧w'.ownsRow base 3 1 r (l.filter fun q=>!p q).length (Ct (l.filter fun q=>!p q))):=by
 rcases h.2 with⟨rfl,C⟩ | ⟨g,E,M,rfl,_⟩
 ·have:l=[]:=List.length_eq_zero_iff.1 C
  subst this
  refine Calls.ret (LE f) ?_
  rintro r w' ⟨G,rfl⟩
  exact⟨Ae.of_below G _,rfl,CT⟩
 ·refine Calls.ret (KG (g:=g) (c:=E) (p:=p) h y f fun q I w' hk=>z q I w' (hk.mono fun b _ e=>by subst e; rfl)) ?_
  rintro r w' ⟨hk,rfl,J⟩
  exact⟨hk.mono fun b _ e=>by subst e; rfl,rfl,J⟩
theorem K9 (far:List Int) (m:List Bool) (k:Nat):(AM m).filter (fun q=>decide (far.getD q (-1)=(k:Int)))=AM (AH far m k):=by
 unfold AM
 have h:(AH far m k).length=m.length:=by simp [AH]
 rw [h,List.filter_filter]
 refine List.filter_congr fun q f=>?_
 have f:=List.mem_range.1 f
 rw [Bool.eq_iff_iff,Dw]
 simp only [Bool.and_eq_true,decide_eq_true_eq]
 exact And.comm
theorem NK {m:List Bool}:(0<(AM m).length)↔Dv m=true:=by
 rw [List.length_pos_iff_exists_mem,EL]
 unfold AM
 simp only [List.mem_filter,List.mem_range]
theorem Hx (far:List Int) (m:List Bool) (k:Nat):AH far (AH far m k) k=AH far m k:=by
 apply List.ext_getElem?
 intro q
 have G:(AH far m k).length=m.length:=by simp [AH]
 have I:(AH far (AH far m k) k).length=m.length:=by simp [AH]
 rcases Nat.lt_or_ge q m.length with F | F
 ·obtain⟨x,f⟩:=Ay (l:=AH far m k) (i:=q) (by omega)
  obtain⟨y,z⟩:=Ay (l:=AH far (AH far m k) k) (i:=q) (by omega)
  rw [f,z]
  congr 1
  rw [Bool.eq_iff_iff]
  have C:=Dw (far:=far) (m:=m) (k:=k) (q:=q)
  have E:=Dw (far:=far) (m:=AH far m k) (k:=k) (q:=q)
  rw [getD_some z,getD_some f] at E
  rw [getD_some f] at C
  rw [E,C]
  exact⟨fun h=>h.1,fun h=>⟨h,h.2⟩⟩
 ·rw [List.getElem?_eq_none (by omega),List.getElem?_eq_none (by omega)]
structure DT (w2:World) (a:NF) (far:List Int) (vn:Value) (g1 g4:Nat) (Af:Option Addr) (cf:Nat):Prop where
 nf:Cc w2 w2.heap.size vn a
 b1:∃cs,vn=.agg cs∧Blk w2 g1 63 cs
 b4:Blk w2 g4 24 #[.slice Af far.length cf]
 rd:Sl w2 w2.heap.size 1 Ai Af far
 isF:a.Far far
 ok:a.OK
 n:a.n≤200000
 L:a.L≤8
 cat:∀m x,m.length=a.n→x<a.L→(a.cat (AC m) x).length≤4000000
theorem DT.at {w2 w':World} {a:NF} {far:List Int} {z:Value} {C g4 E:Nat} {F:Option Addr} (h:DT w2 a far z C g4 F E) (f:Below w2.heap.size w2 w'):DT w' a far z C g4 F E:=by
 obtain⟨cs,e,G⟩:=h.b1
 exact⟨h.nf.keep (fun p y=>f.cell y) f.size,⟨cs,e,G.below f⟩,h.b4.below f,h.rd.keep (fun p y=>f.cell y) f.size,h.isF,h.ok,h.n,h.L,h.cat⟩
structure Cu (w2 wr:World) (g10 left:Nat) (vw vs:Value) (us l:List Nat):Prop where
 below:Below w2.heap.size w2 wr
 cell:Blk wr g10 3 #[.int .i64 (left:Int)]
 ge:w2.heap.size≤g10
 word:wr.ownsRow w2.heap.size 3 1 vw us.length (Ct us)
 set:wr.ownsRow w2.heap.size 3 1 vs l.length (Ct l)
 sepw:vw.ownBlock≠some g10
 seps:vs.ownBlock≠some g10
 sep:∀g,vw.ownBlock=some g→vs.ownBlock≠some g
section
variable {w2 wr w1:World} {g10 left:Nat} {vw vs:Value} {us l:List Nat}
theorem Cu.keep (h:Cu w2 wr g10 left vw vs us l) (f:Below wr.heap.size wr w1):Cu w2 w1 g10 left vw vs us l:=
 ⟨h.below.trans (f.mono h.below.size),h.cell.below f,h.ge,B5 h.word f,B5 h.set f,h.sepw,h.seps,h.sep⟩
theorem Cu.cut {f:Value} {l':List Nat} (h:Cu w2 wr g10 left vw vs us l) (hk:Ae wr w1 (fun k=>vs.ownBlock=some k)) (z:f.ownBlock=vs.ownBlock) (C:w1.ownsRow w2.heap.size 3 1 f l'.length (Ct l')):Cu w2 w1 g10 left vw f us l':=
 ⟨h.below.trans (hk.below h.below.size fun b E e=>by have:=Bm h.set e; omega),h.cell.kept hk h.seps,h.ge,hk.ownsRow h.word (fun g y e=>h.sep g y e),C,h.sepw,by rw [z]; exact h.seps,fun g y=>by rw [z]; exact h.sep g y⟩
theorem Cu.found {C F:World} {v5 G:Value} {l':List Nat} {x:Nat} (h:Cu w2 wr g10 left vw vs us l) (I:Below wr.heap.size wr C) (y:C.ownsRow wr.heap.size 3 1 v5 l'.length (Ct l'))
  (hk:Ae C F (fun k=>vw.ownBlock=some k)) (O:F.ownsRow w2.heap.size 3 1 G (us.length+1) (Ct us++[.int .i64 (x:Int)])) (J:BX C vw G):Cu w2 F g10 left G v5 (us++[x]) l':=by
 have E:=h.keep I
 have M:∀g,vw.ownBlock=some g→g<wr.heap.size:=fun g f=>Cm h.word f
 have U:=h.below.size
 refine⟨E.below.trans (hk.below E.below.size fun b I e=>by have:=Bm h.word e; omega),E.cell.kept hk h.sepw,h.ge,by rw [List.length_append,Hb]; exact O,?_,J.ne E.cell.lt h.sepw,fun e=>?_,fun g f e=>?_⟩
 ·exact Dz (hk.ownsRow y fun g f e=>by have:=Bm y f; have:=M g e; omega) U
 ·have:=Bm y e; have:=h.cell.lt; omega
 ·have V:=Bm y e
  have W:=Cm y e
  rcases J with z | ⟨Z,z,h7⟩
  ·have:=M g (by rw [←z]; exact f); omega
  ·rw [f] at z
   injection z with z
   omega
theorem Cu.fresh {f k:Nat} (h:Cu w2 wr g10 left vw vs us l) (z:Below wr.heap.size wr w1) (C:Blk w1 f 3 #[.int .i64 (k:Int)]) (E:wr.heap.size≤f):Cu w2 w1 f k vw vs us l:=by
 have y:=h.keep z
 have F:=h.below.size
 exact⟨y.below,C,by omega,y.word,y.set,fun e=>by have:=Cm h.word e; omega,fun e=>by have:=Cm h.set e; omega,h.sep⟩
end
end Go.Proofs.YtlakpndhhelliaaGreatDoor
namespace Go.Proofs.YtlakpndhhelliaaGreatDoor
open Go.RowKit
set_option maxHeartbeats 16000000
set_option maxRecDepth 100000
theorem Ot {w:World} {v vs:Value} {a:NF} {m:List Bool} {x base:Nat} (h:Cc w w.heap.size v a) (y:a.OK) (z:m.length=a.n) (I:a.n≤200000) (C:w.ownsRow base 3 1 vs (AM m).length (Ct (AM m))) (E:x<a.L) (F:(a.cat (AC m) x).length≤4000000):
  Calls Tryz.prog 44 #[v,vs,.int .i64 (x:Int)] w (Ret fun r w'=>w'.ownsRow w.heap.size 3 1 r (AM (a.after m x)).length (Ct (AM (a.after m x)))∧Below w.heap.size w w'):=by
 have J:(AM m).length≤200000:=by
  unfold AM
  have:=List.length_filter_le (fun q=>m.getD q false) (List.range m.length)
  rw [List.length_range] at this
  omega
 obtain⟨A,c,e,hS⟩:=C2 (l:=Aj (AM m)) C (by simp [Aj]) (Nat.le_refl _) (by omega)
 subst e
 refine Calls.ret (Ik (c:=c) h y z hS (Nat.le_refl _) E F) ?_
 rintro r w' ⟨f,G⟩
 refine⟨?_,G⟩
 rw [Es] at f
 have e:(Aj (AM (a.after m x))).length=(AM (a.after m x)).length:=by simp [Aj]
 rw [e] at f
 exact f
theorem Jw {m:List Bool} {n:Nat} (f:m.length=n):(AM m).length≤n:=by
 unfold AM
 have:=List.length_filter_le (fun q=>m.getD q false) (List.range m.length)
 rw [List.length_range] at this
 omega
theorem JL (far:List Int) (m:List Bool) (k:Nat):((AM m).filter fun q=>!(!decide (far.getD q (-1)=(k:Int))))=AM (AH far m k):=by
 rw [←K9]
 exact List.filter_congr fun q _=>Bool.not_not _
theorem Mt {w2 w:World} {a:NF} {far:List Int} {vn vw vs:Value} {M g4 cf g10 k L f:Nat} {Af:Option Addr} {us:List Nat} {m:List Bool} (ad:DT w2 a far vn M g4 Af cf) (ae:Cu w2 w g10 (k+1) vw vs us (AM m)) (hm:m.length=a.n) (cz:k≤200000) (cA:us.length≤200000) (ag:L=a.L) (cB:f<L) (cD:L≤8)
  (ah:∀y,y<f→Dv (AH far (a.after m y) k)=false) (ai:Dv (AH far (a.after m f) k)=true)
  {u0 u2 u3 u5 u6 u7 bu bv ap aq ar au av aw ax ay az aA aB aC aD aE aF aG aH aJ aK aL aM aN aO aP aQ aR aS aT aU aV aW aX aY aZ b0 b2 b3 b5 b6 b7 b8 b9 ba bb bc bw bx bz bA u64 bB bC bD bE bF bG bH bI bJ bK bL bM bd be:Value} {Q:Exit→Act→World→Prop}
  (bf:∀(bN bO bP bQ bR bS bT bU bV bW bX bY bZ c0 c4 c6 c7 c8 c9 ca:Value) (w':World) (bg bh:Value),Cu w2 w' g10 (k+1) bg bh (us++[f]) (AM (AH far (a.after m f) k))→Q (.exit 4) ⟨List.toArray (u0::(.pointer (some ⟨M,0,none⟩))::u2::u3::(.pointer (some ⟨g4,0,none⟩))::u5::u6::u7::bg::bh::(.pointer (some ⟨g10,0,none⟩))::bN::bO::ap::aq::ar::au::av::aw::ax::ay::az::aA::aB::aC::aD::
   aE::aF::aG::aH::aJ::aK::aL::aM::aN::aO::aP::aQ::aR::aS::aT::aU::aV::aW::aX::aY::aZ::b0::b2::b3::b5::b6::b7::b8::b9::ba::bb::bc::(.int .i64 (L:Int))::bP::bQ::
   bR::bS::bT::bU::bV::bW::bX::bY::bZ::c0::c4::c6::c7::c8::c9::ca::bd::be::[]),[]⟩ w'):
  (Code.loop (Eb Tryz.f21 2)).wp Tryz.prog Q ⟨List.toArray (u0::(.pointer (some ⟨M,0,none⟩))::u2::u3::(.pointer (some ⟨g4,0,none⟩))::u5::u6::u7::vw::vs::(.pointer (some ⟨g10,0,none⟩))::bu::bv::ap::aq::ar::au::av::aw::ax::ay::az::aA::aB::aC::aD::
   aE::aF::aG::aH::aJ::aK::aL::aM::aN::aO::aP::aQ::aR::aS::aT::aU::aV::aW::aX::aY::aZ::b0::b2::b3::b5::b6::b7::b8::b9::ba::bb::bc::(.int .i64 (L:Int))::
   (.int .i64 0)::bw::bx::bz::bA::u64::bB::bC::bD::bE::bF::bG::bH::bI::bJ::bK::bL::bM::bd::be::[]),[]⟩ w:=by
 conv=>arg 2; arg 1; whnf
 have hX:=hide ad
 have hM:=hide ae
 have bi:=hide hm
 have cc:=hide ah
 have cd:=hide ai
 have ce:=hide ag
 have cg:=hide bf
 have cE:=FU
 clear ad ae hm ah ai ag bf
 go_loopw [8,9,59] (fun ww ss xx wr=>∃(x:Nat),vw=ww∧vs=ss∧xx=.int .i64 (x:Int)∧x≤f∧Hid (Cu w2 wr g10 (k+1) vw vs us (AM m))) (fun _ _ xx _=>f+1 - (intOf xx).toNat)
 case atStart=>exact⟨0,rfl,rfl,rfl,Nat.zero_le _,hM⟩
 case round=>
  obtain⟨x,rfl,rfl,rfl,hx,z⟩:=hrel
  have C:=hX.out.at z.out.below
  have cG:x<L:=by omega
  have bj:x<a.L:=by have:=ce.out; omega
  obtain⟨A1,c1,A2,c2,A3,c3,O,-⟩:=C.nf
  obtain⟨cs,e,hB⟩:=C.b1
  rw [O] at e
  injection e with e
  subst e
  have cO:=hB.cell
  have a4:=Ot C.nf C.ok bi.out C.n z.out.set bj (C.cat m x bi.out bj)
  rw [O] at a4
  have cQ:=hide C
  have cR:=hide O
  clear C hB O
  go_wp2_with fail
  refine Calls.ret a4 ?_
  rintro r3 w3 ⟨I,U⟩
  have V:=z.out.below.trans (U.mono z.out.below.size)
  have a5:=hX.out.at V
  have bl:=z.out.keep U
  have cj:far.length=a.n:=a5.isF.len
  have cU:=z.out.below.size
  have W:=Jy (F:=45) (g4:=g4) (g10:=g10) (p:=fun q=>!decide (far.getD q (-1)=(k:Int))) I (by have:=Jw (a.after_len m x); have:=a5.n; omega) (.inr rfl) (fun q hq w' hk=>by
   have bm:DT w' a far vn M g4 Af cf:=hX.out.at (V.trans (hk.below V.size fun b hb e=>by have:=Bm I e; omega))
   have cV:q<a.n:=FY (a.after_len m x) q hq
   refine MD bm.b4 bm.rd ?_ (by omega) (by omega)
   have:=(bl.cell.kept hk (fun e=>by have:=Bm I e; have:=z.out.cell.lt; omega)).cell 0
   rw [this]
   rfl)
  rw [JL] at W
  have cn:=hide I
  have bn:=hide U
  clear a4 bl a5 cj V I U
  go_wp2_with fail
  refine Calls.ret W ?_
  rintro r5 w5 ⟨a6,bp,Z⟩
  have G:Below wr.heap.size wr w5:=bn.out.trans (a6.below bn.out.size fun b hb e=>by have:=Bm cn.out e; omega)
  obtain⟨A5,c5,rfl⟩:=AV Z
  have J:=NK (m:=AH far (a.after m x) k)
  rcases E:Dv (AH far (a.after m x) k) with _ | _
  ·rw [E] at J
   have hz:(AM (AH far (a.after m x) k)).length=0:=by
    rcases Nat.eq_zero_or_pos (AM (AH far (a.after m x) k)).length with h | h
    ·exact h
    ·exact absurd (J.1 h) (by simp)
   have cX:x<f:=by
    rcases Nat.lt_or_ge x f with h | h
    ·exact h
    ·have e:x=f:=by omega
     rw [e,cd.out] at E
     cases E
   have cq:=hide (z.out.keep G)
   rw [hz]
   clear W a6 bp Z G J hz E
   go_wp2_with fail
   exact⟨⟨x+1,rfl,rfl,by go_num,by omega,cq⟩,by simp [intOf]; omega⟩
  ·have cr:0<(AM (AH far (a.after m x) k)).length:=J.2 E
   have ct:x=f:=by
    rcases Nat.lt_or_ge x f with h | h
    ·rw [cc.out x h] at E
     cases E
    ·omega
   subst ct
   obtain⟨ln,a8⟩:∃ln,ln=(AM (AH far (a.after m x) k)).length:=⟨_,rfl⟩
   have cu:=hide a8
   have cv:=hide Z
   have cw:=hide G
   rw [←a8] at cr ⊢
   have cx:=hide (B5 z.out.word G)
   have cY:=G.size
   clear W a6 bp Z G J E a8
   go_wp2_with (
    at_builtin
    refine CO (w:=w5) DS rfl _ _ rfl w2.heap.size vw us.length _ rfl cx.out [.int .i64 (x:Int)] 1 rfl rfl (by simp [Value.oneCell']) (by omega) (by omega) ?_
    intro g cZ w6 br bs bt d1
    have cy:=hide (z.out.found (x:=x) (v5:=.slice A5 ln c5) (l':=AM (AH far (a.after m x) k)) cw.out (by rw [cu.out]; exact cv.out) bs br bt)
    clear br bs bt)
   exact cg.out _ _ _ _ _ _ _ _ _ _ _ _ _ _ _ _ _ _ _ _ _ _ _ cy.out
end Go.Proofs.YtlakpndhhelliaaGreatDoor
namespace Go.Proofs.YtlakpndhhelliaaGreatDoor
open Go.RowKit
set_option maxHeartbeats 16000000
set_option maxRecDepth 100000
theorem Lj {w2 w:World} {a:NF} {far:List Int} {vn vw vs:Value} {C g4 cf g10 left:Nat} {Af:Option Addr} {m:List Bool} {z:List Nat} (a7:DT w2 a far vn C g4 Af cf) (a8:Cu w2 w g10 left vw vs [] (AM m)) (hm:m.length=a.n) (cU:left≤200000)
  (aa:a.Lev far (AH far m left) left) (ab:a.shortW far left (AH far m left)=z)
  {u0 u2 u3 u5 u6 u7 bj bk aj ak al am an ao ap aq ar au av aw ax ay az aA aB aC aD aE aF aG aH aJ aK aL aM aN aO aP aQ aR aS aT aU aV aW bl bm bn bo bp bq br bs bt bu bv bw bx bz u64 bA bB bC bD bE bF bG bH bI bJ bK bL bM aX:Value} {Q:Exit→Act→World→Prop}
  (aY:∀(x9 bO bP bQ bR bS bT bU bV bW bX bY bZ c0 c4 c5 c6 c7 c8 c9 ca cb cc cd ce cg ch ci cj ck cm cn:Value) (w':World) (aZ:Value),Below w2.heap.size w2 w'→w'.ownsRow w2.heap.size 3 1 aZ z.length (Ct z)→Q (.exit 2) ⟨List.toArray (u0::(.pointer (some ⟨C,0,none⟩))::u2::u3::(.pointer (some ⟨g4,0,none⟩))::u5::u6::u7::aZ::x9::bO::bP::bQ::aj::ak::al::am::an::ao::ap::aq::ar::au::av::aw::ax::ay::az::aA::aB::
   aC::aD::aE::aF::aG::aH::aJ::aK::aL::aM::aN::aO::aP::aQ::aR::aS::aT::aU::aV::aW::bR::bS::bT::bU::bV::bW::bX::bY::bZ::c0::c4::c5::c6::c7::c8::c9::ca::
   cb::cc::cd::ce::cg::ch::ci::cj::ck::cm::cn::aX::[]),[]⟩ w'):
  (Code.loop (Eb Tryz.f21 1)).wp Tryz.prog Q ⟨List.toArray (u0::(.pointer (some ⟨C,0,none⟩))::u2::u3::(.pointer (some ⟨g4,0,none⟩))::u5::u6::u7::vw::vs::(.pointer (some ⟨g10,0,none⟩))::bj::bk::aj::ak::al::am::an::ao::ap::aq::ar::au::av::aw::ax::
   ay::az::aA::aB::aC::aD::aE::aF::aG::aH::aJ::aK::aL::aM::aN::aO::aP::aQ::aR::aS::aT::aU::aV::aW::bl::bm::bn::bo::bp::bq::br::bs::bt::bu::bv::bw::bx::
   bz::u64::bA::bB::bC::bD::bE::bF::bG::bH::bI::bJ::bK::bL::bM::aX::[]),[]⟩ w:=by
 conv=>arg 2; arg 1; whnf
 have E:=hide a7
 have hM:=hide a8
 have cp:=hide hm
 have cq:=hide aa
 have cr:=hide ab
 have ct:=hide aY
 have cV:=FU
 clear a7 a8 hm aa ab aY
 go_loopg [8,9,10] (left) (fun y ww ss pp wr=>∃(m:List Bool) (us:List Nat) (g10:Nat),pp=.pointer (some ⟨g10,0,none⟩)∧Hid (Cu w2 wr g10 y ww ss us (AM m))∧Hid (m.length=a.n)∧Hid (a.Lev far (AH far m y) y)∧Hid (us++a.shortW far y (AH far m y)=z)∧Hid (us.length+y=left))
 case atStart=>exact⟨m,[],g10,rfl,hM,cp,cq,cr,by show _=_; simp⟩
 case round=>
  obtain⟨m,us,g10,rfl,f,O,cx,b0,U⟩:=hrel
  have cW:=f.out.cell.cell 0
  rcases gk with _ | k
  ·have cy:us=z:=by have:=b0.out; simpa [NF.shortW] using this
   subst cy
   go_wp2_with fail
   exact ct.out _ _ _ _ _ _ _ _ _ _ _ _ _ _ _ _ _ _ _ _ _ _ _ _ _ _ _ _ _ _ _ _ _ _ f.out.below f.out.word
  ·have h:=E.out.at f.out.below
   have cz:far.length=a.n:=h.isF.len
   obtain⟨A1,c1,A2,c2,A3,c3,b2,-⟩:=h.nf
   obtain⟨cs,e,hB⟩:=h.b1
   rw [b2] at e
   injection e with e
   subst e
   have V:=Jy (F:=43) (g4:=g4) (g10:=g10) (p:=fun q=>!decide (far.getD q (-1)=((k+1:Nat):Int))) f.out.set (by have:=Jw O.out; have:=h.n; omega) (.inl rfl) (fun q W w' hk=>by
    have b3:DT w' a far vn C g4 Af cf:=E.out.at (f.out.below.trans (hk.below f.out.below.size fun b hb e=>by have:=Bm f.out.set e; omega))
    have d3:q<a.n:=FY O.out q W
    refine LX b3.b4 b3.rd ?_ (by omega)
    exact(f.out.cell.kept hk f.out.seps).cell 0)
   rw [JL] at V
   obtain⟨G,hp,cB,I,b6⟩:=cx.out.pick h.isF
   have b7:a.shortW far (k+1) (AH far m (k+1))=G::a.shortW far k (AH far (a.after (AH far m (k+1)) G) k):=by rw [NF.shortW,hp]
   have b8:Dv (AH far (a.after (AH far m (k+1)) G) k)=true:=by
    obtain⟨q,W,cD⟩:=I.ne
    exact EL.2 ⟨q,by rw [I.len]; exact W,cD⟩
   have cE:=hide b8
   have cF:=hide b6
   have b9:=hide I
   have cG:=hide b7
   have ba:(AH far m (k+1)).length=a.n:=by simp [AH]; exact O.out
   have cH:=hide ba
   obtain⟨L,Z⟩:∃L,L=a.L:=⟨_,rfl⟩
   have bb:=hide Z
   have cJ:L≤8:=by rw [Z]; exact h.L
   have cK:k≤200000:=by have:=U.out; omega
   have cL:us.length≤200000:=by have:=U.out; omega
   have cM:G<L:=by omega
   clear h cz b2 hB hp cB I b6 b7 b8 ba Z
   go_wp2_with fail
   refine Calls.ret V ?_
   rintro r3 w3 ⟨bc,bd,be⟩
   have a2:=f.out.cut bc bd be
   have a3:=E.out.at a2.below
   obtain⟨d6,d7,d8,d9,da,db,bf,-⟩:=a3.nf
   obtain⟨dc,J,bg⟩:=a3.b1
   rw [bf] at J
   injection J with J
   subst J
   have cO:=bg.cell
   rw [←bb.out] at cO
   have cQ:=hide a2
   clear V bc bd be a2 a3 bf bg
   go_wp2_with fail
   refine Mt E.out cQ.out cH.out cK cL bb.out cM cJ cF.out cE.out ?_
   iterate 20 (intro _)
   intro w4 de df M
   have dg:=M.cell.cell 0
   obtain⟨w5,di,bh,bi,cS⟩:=Ag w4 #[.int .i64 (k:Int)] 3
   have cT:=hide (M.fresh bh bi (Nat.le_refl _))
   have dj:=hide M
   clear M bh bi cS
   go_wp2_with fail
   go_roundg k
   case measure=>omega
   case rel=>
    refine⟨_,_,_,rfl,cT,b9.out.len,?_,?_,?_⟩
    ·show NF.Lev _ _ _ _
     rw [Hx]
     exact b9.out
    ·have:=b0.out
     rw [cG.out] at this
     show _=_
     rw [Hx,List.append_assoc]
     exact this
    ·have:=U.out
     show _=_
     rw [List.length_append,List.length_singleton]
     omega
theorem K2 {w2 w:World} {a:NF} {far:List Int} {vn:Value} {g1 g4 cf c2:Nat} {Af G:Option Addr} (I:DT w2 a far vn g1 g4 Af cf) (a3:Below w2.heap.size w2 w) (J:Sl w2 w2.heap.size 1 Ai G a.start)
  {u0 u1 u2 u3 u6 u7 u8 u9 aa ab ad ae af ag b1 b2 b3 b5 b6 b7 b8 b9 ba bc bd be bg bh bi bj bk bl bm bn bo bp bq br bs ah ai aj ak al am an ao ap aq ar au av aw ax ay az aA aB aC u64 aD aE aF aG aH aJ aK aL aM aN aO aP aQ aR:Value} {Q:Exit→Act→World→Prop}
  (aS:∀(x7 bu bv bw bx bz bA bB bC bD bE bF bG bH bI bJ bK bL bM bN bO bP bQ bR bS bT bU:Value) (w':World),Below w2.heap.size w2 w'→Q (.exit 0) ⟨List.toArray (u0::u1::u2::u3::(.pointer (some ⟨g4,0,none⟩))::(.int .i64 (BQ far (-1) a.start))::u6::x7::u8::u9::aa::ab::ad::ae::af::ag::(.slice G a.start.length c2)::(.int .i64 (a.start.length:Int))::bu::bv::bw::bx::
   bz::bA::bB::bC::bD::bE::bF::bG::bH::bI::bJ::bK::bL::bM::bN::bO::bP::bQ::bR::bS::bT::bU::ah::ai::aj::ak::al::am::an::ao::ap::aq::ar::au::av::aw::ax::
   ay::az::aA::aB::aC::u64::aD::aE::aF::aG::aH::aJ::aK::aL::aM::aN::aO::aP::aQ::aR::[]),[]⟩ w'):
  (Code.loop (Eb Tryz.f21 0)).wp Tryz.prog Q ⟨List.toArray (u0::u1::u2::u3::(.pointer (some ⟨g4,0,none⟩))::(.int .i64 (-1))::u6::u7::u8::u9::aa::ab::ad::ae::af::ag::(.slice G a.start.length c2)::(.int .i64 (a.start.length:Int))::(.int .i64 0)::b1::b2::b3::b5::
   b6::b7::b8::b9::ba::bc::bd::be::bg::bh::bi::bj::bk::bl::bm::bn::bo::bp::bq::br::bs::ah::ai::aj::ak::al::am::an::ao::ap::aq::ar::au::av::aw::ax::ay::
   az::aA::aB::aC::u64::aD::aE::aF::aG::aH::aJ::aK::aL::aM::aN::aO::aP::aQ::aR::[]),[]⟩ w:=by
 conv=>arg 2; arg 1; whnf
 have y:=hide I
 have hb:=hide a3
 have hS:=hide J
 have bW:=hide aS
 have bX:=J.1
 have bY:=hide I.isF.ge
 obtain⟨n,M⟩:∃n,n=a.start.length:=⟨_,rfl⟩
 have O:=hide M
 rw [←M] at bX ⊢
 clear I a3 J M aS
 go_loopw [5,18] (fun f U wr=>∃(k:Nat),f=.int .i64 (BQ far (-1) (a.start.take k))∧U=.int .i64 (k:Int)∧k≤n∧Hid (Below w2.heap.size w2 wr)) (fun _ U _=>n - (intOf U).toNat)
 case atStart=>exact⟨0,rfl,rfl,Nat.zero_le _,hb⟩
 case round=>
  obtain⟨k,rfl,rfl,hk,h⟩:=hrel
  by_cases bZ:k<n
  ·obtain⟨s,C⟩:=Ay (l:=a.start) (i:=k) (by rw [←O.out]; exact bZ)
   obtain⟨b,c0,rfl,c1,hc⟩:=Fo hS.out C
   have ch:=(h.out.cell (p:=⟨b,c0+k,none⟩) c1).trans hc
   obtain⟨q,rfl,hq⟩:=Dc (y.out.ok.start s (List.mem_of_getElem? C))
   simp only [Int.toNat_natCast] at hq
   have c4:far.length=a.n:=y.out.isF.len
   obtain⟨z,E⟩:=Ay (l:=far) (i:=q) (by omega)
   obtain⟨bf,c6,rfl,c7,aU⟩:=Fo y.out.rd E
   have ci:=(h.out.cell (p:=⟨bf,c6+q,none⟩) c7).trans aU
   have c8:=(y.out.at h.out).b4.cell 0
   have c9:=hide (K0 (far:=far) (b:=-1) C)
   have ca:Hid (far.getD ((q:Int)).toNat (-1)=z):=by show _=_; rw [Int.toNat_natCast,getD_some E]
   have cj:-1≤z:=by have:=bY.out q; rw [getD_some E] at this; exact this
   have cb:q<far.length:=by omega
   obtain⟨V,W⟩:∃V,V=far.length:=⟨_,rfl⟩
   rw [←W] at c8 cb
   obtain⟨f,Z⟩:∃f,f=BQ far (-1) (a.start.take k):=⟨_,rfl⟩
   rw [←Z]
   have cc:=hide Z
   have ck:V≤9223372036854775807:=by rw [W]; exact y.out.rd.1
   clear C hc E aU Z c4 W
   have fin:∀b':Int,(b'=if 0≤z∧(f<0∨z<f) then z else f)→b'=BQ far (-1) (a.start.take (k+1)):=fun b' e=>by rw [e,c9.out,ca.out,←cc.out]
   have F:=hide fin
   clear fin
   by_cases h1:0≤z
   ·by_cases h2:f<0
    ·go_wp2_with fail
     exact⟨⟨k+1,by rw [←F.out z (by rw [if_pos ⟨h1,.inl h2⟩])],by go_num,by omega,h⟩,by simp [intOf]; omega⟩
    ·by_cases h3:z<f
     ·go_wp2_with fail
      exact⟨⟨k+1,by rw [←F.out z (by rw [if_pos ⟨h1,.inr h3⟩])],by go_num,by omega,h⟩,by simp [intOf]; omega⟩
     ·go_wp2_with fail
      exact⟨⟨k+1,by rw [←F.out f (by rw [if_neg (by omega)])],by go_num,by omega,h⟩,by simp [intOf]; omega⟩
   ·go_wp2_with fail
    exact⟨⟨k+1,by rw [←F.out f (by rw [if_neg (by omega)])],by go_num,by omega,h⟩,by simp [intOf]; omega⟩
  ·obtain rfl:k=n:=by omega
   have cg:a.start.take k=a.start:=by rw [O.out,List.take_length]
   rw [cg]
   go_wp2_with fail
   rw [O.out]
   exact bW.out _ _ _ _ _ _ _ _ _ _ _ _ _ _ _ _ _ _ _ _ _ _ _ _ _ _ _ _ h.out
theorem NF.sort_start {a:NF} (z:a.OK):CD a.start=AC a.st:=by
 refine Hm fun x=>?_
 constructor
 ·intro h
  obtain⟨q,rfl,f⟩:=Dc (z.start x h)
  simp only [Int.toNat_natCast] at f
  exact⟨q,rfl,by unfold NF.st; rw [CS f]; simp [h]⟩
 ·rintro⟨q,rfl,f⟩
  have y:=AO f
  rw [a.st_len] at y
  unfold NF.st at f
  rw [CS y] at f
  simpa using f
theorem KP {w:World} {v:Value} {a:NF} (h:Cc w w.heap.size v a) (V:a.OK) (W:a.n≤200000) (Z:a.L≤8) (hE:(a.psS a.n).length≤3000000) (aR:a.start.length≤4000000) (aj:∀m x,m.length=a.n→x<a.L→(a.cat (AC m) x).length≤4000000):
  Calls Tryz.prog 21 #[v] w (Ret fun r w'=>Below w.heap.size w w'∧∃far,a.Far far∧((a.shortR far=none∧r=.tuple #[.slice none 0 0,.bool false])∨∃u A c,a.shortR far=some u∧r=.tuple #[.slice A u.length c,.bool true]∧Sl w' w'.heap.size 1 Ai A (Aj u))):=by
 obtain⟨A1,c1,F,c2,A3,c3,hv,h1,h2,h3,h4⟩:=id h
 subst hv
 obtain⟨w1,bi,G,al,aW⟩:=Ag w #[.int .i64 (a.L:Int),.slice A1 a.nx.length c1,.slice F a.start.length c2,.slice A3 a.acc.length c3] 63
 have a6:=G.size
 have a7:=h.keep (w':=w1) (fun p f=>G.cell f) a6
 have am:=OQ a7 V W Z hE
 have bj:=al.cell
 have an:=hide al
 have ao:=hide G
 have aX:=hide a7
 have aY:=hide h2
 have a8:=hide V
 have aZ:=hide aj
 have ap:=hide W
 have b0:=hide Z
 clear h h1 h2 h3 h4 aW a7 V W Z hE G aj
 go_enter Tryz.func21,Tryz.ntmps21
 go_wp2_with fail
 refine Calls.ret am ?_
 rintro r2 w2 ⟨a9,far,Af,cf,rfl,hF,au⟩
 obtain⟨I,b2,J,av,b3⟩:=Ag w2 #[.slice Af far.length cf] 24
 have y:=a9.trans (J.mono a9.size)
 have hX:DT I a far (.agg #[.int .i64 (a.L:Int),.slice A1 a.nx.length c1,.slice F a.start.length c2,.slice A3 a.acc.length c3]) w.heap.size w2.heap.size Af cf:=
  ⟨aX.out.keep (fun p f=>y.cell f) y.size,⟨_,rfl,an.out.below y⟩,av,au.keep (fun p f=>J.cell f) J.size,hF,a8.out,ap.out,b0.out,aZ.out⟩
 have ax:Sl I I.heap.size 1 Ai F a.start:=aY.out.keep (fun p f=>(ao.out.trans (y.mono a6)).cell f) (by have:=y.size; omega)
 have bl:=(an.out.below y).cell
 have ab:=hide hX
 have ay:=hide ax
 have az:=hide (ao.out.trans (y.mono a6))
 have E:=hide hF
 clear am a9 hF au J av b3 y hX ax
 obtain⟨fl,ad⟩:∃fl,fl=far.length:=⟨_,rfl⟩
 have bm:=hide ad
 rw [←ad] at b2 ⊢
 clear ad
 go_wp2_with fail
 refine K2 ab.out (Below.refl _ _) ay.out ?_
 iterate 27 (intro _)
 intro w4 z
 have b4:=hide (GG E.out.ge a.start (-1) (by omega))
 obtain⟨b,hb⟩:∃b,b=BQ far (-1) a.start:=⟨_,rfl⟩
 have af:=hide hb
 have aC:=hide (ab.out.at z)
 have aD:=hide (az.out.trans (z.mono az.out.size))
 have b5:=hide (ay.out.keep (w':=w4) (fun p f=>z.cell f) z.size)
 have bn:=((show Blk I w.heap.size 63 #[.int .i64 (a.L:Int),.slice A1 a.nx.length c1,.slice F a.start.length c2,.slice A3 a.acc.length c3] from by
  obtain⟨cs,e,hB⟩:=ab.out.b1
  injection e with e
  subst e
  exact hB).below z).cell
 rw [←hb]
 clear hb z
 by_cases aE:b<0
 ·have hR:Hid (a.shortR far=none):=by show _=_; unfold NF.shortR; rw [if_pos (by rw [←af.out]; exact aE)]
  go_wp2_with fail
  go_ret2
  exact⟨aD.out,far,E.out,.inl ⟨hR.out,rfl⟩⟩
 ·obtain⟨k,hk⟩:=Int.eq_ofNat_of_zero_le (show 0≤b by omega)
  subst hk
  have M:=Hp (c:=c2) b5.out aR
  rw [NF.sort_start a8.out,Es] at M
  have aF:(Aj (AM a.st)).length=(AM a.st).length:=by simp [Aj]
  rw [aF] at M
  have O:=hide (NF.start_lev E.out a8.out af.out.symm)
  have hR:Hid (a.shortR far=some (a.shortW far k (AH far a.st k))):=by show _=_; unfold NF.shortR; rw [←af.out,if_neg aE,Int.toNat_natCast]
  have b7:k≤200000:=by
   obtain⟨q,hq,hm⟩:=O.out.ne
   have:=(O.out.all q hq hm).lt hq
   have:=ap.out
   omega
  have b9:Hid ((a.shortW far k (AH far a.st k)).length=k):=(NF.shortW_spec E.out k _ O.out).2.1
  go_wp2_with fail
  refine Calls.ret M ?_
  rintro vs w5 ⟨ah,C⟩
  obtain⟨w6,bo,U,aJ,bb⟩:=Ag w5 #[.int .i64 (k:Int)] 3
  have bp:=hide (aC.out.at (C.trans (U.mono C.size)))
  have aK:Cu w4 w6 w5.heap.size k (.slice none 0 0) vs [] (AM a.st):=
   ⟨C.trans (U.mono C.size),aJ,C.size,CT,B5 ah U,fun e=>by simp [Value.ownBlock] at e,fun e=>by have:=Cm ah e; omega,fun g hg=>by simp [Value.ownBlock] at hg⟩
  have bd:=hide aK
  have aL:=hide aD.out
  clear M ah C U aJ bb aK b4 aF
  go_wp2_with fail
  refine Lj aC.out bd.out a.st_len b7 O.out rfl ?_
  iterate 32 (intro _)
  intro w7 vw aM aN
  obtain⟨A7,c7,e7,aP⟩:=C2 (l:=Aj (a.shortW far k (AH far a.st k))) aN (by simp [Aj]) (Nat.le_refl _) (by have:=b9.out; omega)
  have aQ:(Aj (a.shortW far k (AH far a.st k))).length=(a.shortW far k (AH far a.st k)).length:=by simp [Aj]
  rw [aQ] at e7
  subst e7
  have bg:=hide aP
  have bh:=hide (aL.out.trans (aM.mono aL.out.size))
  clear aP aM aN aQ
  go_wp2_with fail
  go_ret2
  exact⟨bh.out,far,E.out,.inr ⟨_,A7,c7,hR.out,rfl,bg.out⟩⟩
end Go.Proofs.YtlakpndhhelliaaGreatDoor
