/-
  Part PK of a proof.
-/
import Derived.Deep.LoopGhost
import Derived.Test.YtfcfpoemojjglaaGreatDoorPA
import Derived.Test.YtfcfpoemojjglaaGreatDoorPJ
import Derived.Test.YtfcfpoemojjglaaGreatDoorPB
set_option maxHeartbeats 16000000
set_option maxRecDepth 100000
set_option linter.unusedVariables false
set_option linter.unusedSimpArgs false
namespace Go.Proofs.YtfcfpoemojjglaaGreatDoor
open Go.RowKit
set_option maxHeartbeats 4000000
def Es:Code→List Code
 | .loop c=>c::Es c
 | .seq a b=>Es a++Es b
 | .block _ c=>Es c
 | .scope c=>Es c
 | .cond _ a b=>Es a++Es b
 | _=>[]
def CG (f:Func) (k:Nat):Code:=match f.body with
 | some c=>(Es c).getD k .skip
 | none=>.skip
def CJ (l:List Nat):List Value:=(Ak l).map (Value.int .i64)
def D2 (l:List Int):Array Value:=(l.map (Value.int .i64)).toArray
theorem FP {l:List Int} {i:Nat} {x:Int} (h:l[i]?=some x):(D2 l)[i]?=some (.int .i64 x):=by
 unfold D2
 rw [List.getElem?_toArray]
 exact AX h
theorem PU (l:List Int) (i:Nat) (x:Int):(D2 l).setIfInBounds i (.int .i64 x)=D2 (l.set i x):=by
 unfold D2
 apply Array.ext'
 simp [List.map_set]
theorem PT (n:Nat):Array.replicate n (Value.int .i64 0)=D2 (List.replicate n 0):=by
 unfold D2
 apply Array.ext'
 simp
theorem Id (l:List Nat) (x:Nat):CJ (l++[x])=CJ l++[.int .i64 (x:Int)]:=by
 unfold CJ
 rw [EM,List.map_append]
 rfl
structure BI (w0 wr:World) (n gf gb:Nat) (far:List Int) (u:Nat→Value) (l:Nat→List Nat):Prop where
 below:Below w0.heap.size w0 wr
 farB:Blk wr gf 3 (D2 far)
 top:Blk wr gb 24 (Bi n u)
 own:∀y,y<n→wr.ownsRow w0.heap.size 3 1 (u y) (l y).length (CJ (l y))
 sep:∀y,y<n→∀y',y'<n→∀g,(u y).ownBlock=some g→(u y').ownBlock=some g→y=y'
 fsep:∀y,y<n→(u y).ownBlock≠some gf
 ge:w0.heap.size≤gf∧w0.heap.size≤gb
structure Ca (w0 wr:World) (n gf:Nat) (u:Nat→Value) (vq:Value) (qs:List Nat):Prop where
 own:wr.ownsRow w0.heap.size 3 1 vq qs.length (CJ qs)
 sep:∀y,y<n→∀g,(u y).ownBlock=some g→vq.ownBlock≠some g
 fsep:vq.ownBlock≠some gf
section
variable {w0 wr w1:World} {n gf gb:Nat} {far:List Int} {u:Nat→Value} {l:Nat→List Nat} {vq:Value} {qs:List Nat}
theorem BI.keep (h:BI w0 wr n gf gb far u l) (z:Below wr.heap.size wr w1):BI w0 w1 n gf gb far u l:=
 ⟨h.below.trans (z.mono h.below.size),h.farB.below z,h.top.below z,fun y C=>Bt (h.own y C) z,h.sep,h.fsep,h.ge⟩
theorem Ca.keep (h:Ca w0 wr n gf u vq qs) (y:Below wr.heap.size wr w1):Ca w0 w1 n gf u vq qs:=⟨Bt h.own y,h.sep,h.fsep⟩
theorem BI.ne (h:BI w0 wr n gf gb far u l):gf≠gb:=h.farB.ne_ h.top (by decide)
theorem BI.setF (h:BI w0 wr n gf gb far u l) (s:Nat) (x:Int):BI w0 (wr.setCell ⟨gf,s,none⟩ (.int .i64 x)) n gf gb (far.set s x) u l:=by
 have hk:=(Ac.refl wr (fun k=>k=gf)).setCell (p:=⟨gf,s,none⟩) (fun _=>rfl) (.int .i64 x)
 refine⟨h.below.trans (hk.below h.below.size fun b E e=>by have:=h.ge.1; omega),?_,h.top.kept hk (fun e=>h.ne e.symm),fun y z=>hk.ownsRow (h.own y z) (fun g C e=>h.fsep y z (by rw [C,e])),h.sep,h.fsep,h.ge⟩
 have:=h.farB.set_ s (.int .i64 x)
 rwa [PU] at this
theorem Ca.setF (h:Ca w0 wr n gf u vq qs) (s:Nat) (x:Value):Ca w0 (wr.setCell ⟨gf,s,none⟩ x) n gf u vq qs:=
 ⟨((Ac.refl wr (fun k=>k=gf)).setCell (p:=⟨gf,s,none⟩) (fun _=>rfl) x).ownsRow h.own (fun _ y e=>h.fsep (by rw [y,e])),h.sep,h.fsep⟩
theorem BI.push (h:BI w0 wr n gf gb far u l) {y s:Nat} (U:y<n) {G:Value} (hk:Ac wr w1 (fun k=>(u y).ownBlock=some k)) (ho:w1.ownsRow w0.heap.size 3 1 G ((l y).length+1) (CJ (l y)++[.int .i64 (s:Int)])) (a3:BJ wr (u y) G):
  BI w0 (w1.setCell ⟨gb,y,none⟩ G) n gf gb far (up1 u y G) (up1 l y (l y++[s])):=by
 have a5:=h.own y U
 have hs:=h.below.size
 have V:=(Ac.refl w1 (fun k=>k=gb)).setCell (p:=⟨gb,y,none⟩) (fun _=>rfl) G
 have Z:Blk w1 gb 24 (Bi n u):=h.top.kept hk (Aw a5 h.top (by decide))
 have a8:Blk w1 gf 3 (D2 far):=h.farB.kept hk (h.fsep y U)
 have a9:∀z,z<n→∀g,(u z).ownBlock=some g→g<wr.heap.size:=fun z E g C=>Cj (h.own z E) C
 have a4:∀z,z<n→z≠y→∀g,G.ownBlock=some g→(u z).ownBlock≠some g:=fun z E aa g C e=>by
  rcases a3 with M | ⟨g',M,h2⟩
  ·exact aa (h.sep z E y U g e (by rw [←M]; exact C))
  ·rw [C] at M
   have:=a9 z E g e
   injection M with M
   omega
 refine⟨(h.below.trans (hk.below hs fun b hb e=>by have:=Bb a5 e; omega)).trans (V.below (by have:=hk.size; omega) fun b hb e=>by have:=h.ge.2; omega),a8.kept V h.ne,?_,fun z E=>?_,fun z E z' a6 g C O=>?_,fun z E=>?_,h.ge⟩
 ·have M:=Z.set_ y G
  rw [F7] at M
  exact M
 ·by_cases e:z=y
  ·subst e
   have I:up1 u z G z=G:=by simp [up1]
   have J:up1 l z (l z++[s]) z=l z++[s]:=by simp [up1]
   rw [I,J,List.length_append,Id]
   exact AK V ho (fun g cs C W=>by subst C; exact W.ne_ Z (by decide) rfl)
  ·have I:up1 u y G z=u z:=by simp [up1,e]
   have J:up1 l y (l y++[s]) z=l z:=by simp [up1,e]
   rw [I,J]
   exact AK V (hk.ownsRow (h.own z E) fun g C hx=>e (h.sep z E y U g C hx)) (fun g cs C W=>by subst C; exact W.ne_ Z (by decide) rfl)
 ·unfold up1 at C O
  by_cases I:z=y <;> by_cases J:z'=y
  ·exact I.trans J.symm
  ·rw [if_pos I] at C
   rw [if_neg J] at O
   exact absurd O (a4 z' a6 J g C)
  ·rw [if_neg I] at C
   rw [if_pos J] at O
   exact absurd C (a4 z E I g O)
  ·rw [if_neg I] at C
   rw [if_neg J] at O
   exact h.sep z E z' a6 g C O
 ·unfold up1
  split
  ·exact a3.ne h.farB.lt (h.fsep y U)
  ·exact h.fsep z E
theorem Ca.push (h:Ca w0 wr n gf u vq qs) (I:BI w0 wr n gf gb far u l) {y:Nat} (J:y<n) {G:Value} (hk:Ac wr w1 (fun k=>(u y).ownBlock=some k)) (U:BJ wr (u y) G):
  Ca w0 (w1.setCell ⟨gb,y,none⟩ G) n gf (up1 u y G) vq qs:=by
 have O:=(Ac.refl w1 (fun k=>k=gb)).setCell (p:=⟨gb,y,none⟩) (fun _=>rfl) G
 have V:Blk w1 gb 24 (Bi n u):=I.top.kept hk (Aw (I.own y J) I.top (by decide))
 refine⟨AK O (hk.ownsRow h.own fun g C W=>h.sep y J g W C) (fun g cs C M=>by subst C; exact M.ne_ V (by decide) rfl),fun z Z g C=>?_,h.fsep⟩
 unfold up1 at C
 split at C
 ·intro e
  rcases U with E | ⟨g',E,h2⟩
  ·exact h.sep y J g (by rw [←E]; exact C) e
  ·rw [C] at E
   injection E with E
   have:=Cj h.own e
   omega
 ·exact h.sep z Z g C
theorem Ca.join (h:Ca w0 wr n gf u vq qs) (z:BI w0 wr n gf gb far u l) {s:Nat} {I:Value} (hk:Ac wr w1 (fun k=>vq.ownBlock=some k)) (M:w1.ownsRow w0.heap.size 3 1 I (qs.length+1) (CJ qs++[.int .i64 (s:Int)])) (J:BJ wr vq I):
  Ca w0 w1 n gf u I (qs++[s])∧BI w0 w1 n gf gb far u l:=by
 refine⟨⟨by rw [List.length_append,Id]; exact M,fun y E g G e=>?_,J.ne z.farB.lt h.fsep⟩,?_⟩
 ·rcases J with C | ⟨O,C,U⟩
  ·exact h.sep y E g G (by rw [←C]; exact e)
  ·rw [e] at C
   injection C with C
   have:=Cj (z.own y E) G
   omega
 ·exact⟨z.below.trans (hk.below z.below.size fun b V e=>by have:=Bb h.own e; omega),z.farB.kept hk h.fsep,z.top.kept hk (Aw h.own z.top (by decide)),fun y E=>hk.ownsRow (z.own y E) (fun g G e=>h.sep y E g G e),z.sep,z.fsep,z.ge⟩
end
structure CA (w0 wr:World) (n gf:Nat) (u:Nat→Value) (A:Option Addr) (c:Nat) (qs:List Nat):Prop where
 row:qs≠[]→∃g off,A=some ⟨g,off,none⟩∧Co wr w0.heap.size g off qs.length c qs∧(∀y,y<n→(u y).ownBlock≠some g)∧g≠gf
section
variable {w0 wr w1:World} {n gf gb:Nat} {far:List Int} {u:Nat→Value} {l:Nat→List Nat} {A:Option Addr} {c:Nat} {qs:List Nat}
theorem Ca.cut (h:Ca w0 wr n gf u (.slice A qs.length c) qs):CA w0 wr n gf u A c qs:=by
 refine⟨fun G=>?_⟩
 have I:qs.length≠0:=fun e=>G (List.length_eq_zero_iff.1 e)
 rcases h.own.2 with⟨z,_⟩ | ⟨g,M,O,z,_⟩
 ·injection z with _ e _
  exact absurd e I
 ·injection z with E _ C
  subst E C
  have:=h.own
  exact⟨g,0,rfl,Co.of_own this,fun y J e=>h.sep y J g e rfl,fun e=>h.fsep (by rw [←e]; rfl)⟩
theorem CA.keep (h:CA w0 wr n gf u A c qs) (C:Below wr.heap.size wr w1):CA w0 w1 n gf u A c qs:=by
 refine⟨fun E=>?_⟩
 obtain⟨g,I,e,G,y,z⟩:=h.row E
 exact⟨g,I,e,G.keep (Ac.of_below C (fun _=>False)) id,y,z⟩
theorem CA.setF (h:CA w0 wr n gf u A c qs) (s:Nat) (x:Value):CA w0 (wr.setCell ⟨gf,s,none⟩ x) n gf u A c qs:=by
 refine⟨fun C=>?_⟩
 obtain⟨g,G,e,E,z,y⟩:=h.row C
 exact⟨g,G,e,E.keep ((Ac.refl wr (fun k=>k=gf)).setCell (p:=⟨gf,s,none⟩) (fun _=>rfl) x) y,z,y⟩
theorem CA.tail {q g y:Nat} (h:CA w0 wr n gf u (some ⟨g,y,none⟩) c (q::qs)):CA w0 wr n gf u (some ⟨g,y+1,none⟩) (c - 1) qs:=by
 refine⟨fun _=>?_⟩
 obtain⟨J,M,e,I,E,G⟩:=h.row (by simp)
 injection e with e
 injection e with z C
 subst z C
 exact⟨g,y+1,rfl,I.tail,E,G⟩
theorem CA.join {q g a4 C I J:Nat} {s:Nat} (h:CA w0 wr n gf u (some ⟨g,a4,none⟩) c (q::qs)) (z:BI w0 wr n gf gb far u l) (a3:Co w1 w0.heap.size C I (qs.length+1+1) J (q::qs++[s])) (hk:Ac wr w1 (fun k=>k=g)) (G:C=g∨wr.heap.size≤C):
  CA w0 w1 n gf u (some ⟨C,I,none⟩) J (q::qs++[s])∧BI w0 w1 n gf gb far u l:=by
 obtain⟨g2,a5,e,U,M,O⟩:=h.row (by simp)
 injection e with e
 injection e with V W
 subst V W
 have Z:w0.heap.size≤g:=U.1
 have ht:Blk wr g 3 _:=U.2.2.2.choose_spec.1
 refine⟨⟨fun _=>⟨C,I,rfl,by simpa using a3,fun y E e=>?_,fun e=>?_⟩⟩,?_⟩
 ·rcases G with rfl | G
  ·exact M y E e
  ·have:=Cj (z.own y E) e; omega
 ·rcases G with rfl | G
  ·exact O e
  ·have:=z.farB.lt; omega
 ·exact⟨z.below.trans (hk.below z.below.size fun b Z e=>by omega),z.farB.kept hk (fun e=>O e.symm),z.top.kept hk (z.top.ne_ ht (by decide)),fun y E=>hk.ownsRow (z.own y E) (fun C a2 e=>M y E (by rw [a2,e])),z.sep,z.fsep,z.ge⟩
end
end Go.Proofs.YtfcfpoemojjglaaGreatDoor
namespace Go.Proofs.YtfcfpoemojjglaaGreatDoor
open Go.RowKit
set_option maxHeartbeats 16000000
set_option maxRecDepth 100000
theorem NF.row_at {w:World} {B:Nat} {a:NF} {I:Option Addr} (h:VSl R2 w B I a.nx) (a4:a.OK) {s:Nat} (hs:s<a.n):
  ∃b z A c,I=some ⟨b,z,none⟩∧b<B∧w.cell? ⟨b,z+s,none⟩=some (.slice A a.L c)∧
   ∀x,x<a.L→∃b2 C y E,A=some ⟨b2,C,none⟩∧b2<B∧w.cell? ⟨b2,C+x,none⟩=some (.slice y (a.to s x).length E)∧Sl w B 1 Ai y (a.to s x):=by
 obtain⟨r,G⟩:=An (l:=a.nx) (i:=s) hs
 obtain⟨b,z,v,W,Z,h3,A,c,rfl,h4⟩:=h.at G
 have a5:=a4.row r (List.mem_of_getElem? G)
 refine⟨b,z,A,c,W,Z,by rw [h3,a5],fun x hx=>?_⟩
 obtain⟨l,J⟩:=An (l:=r) (i:=x) (by omega)
 obtain⟨b2,C,v2,M,O,U,y,E,rfl,V⟩:=h4.at J
 have:a.to s x=l:=by unfold NF.to; rw [getD_some G,getD_some J]
 rw [this]
 exact⟨b2,C,y,E,M,O,U,V⟩
theorem NF.to_in {a:NF} (C:a.OK) {s x:Nat} (G:s<a.n) (J:x<a.L) {y:Int} (E:y∈a.to s x):inN a.n y=true:=by
 obtain⟨r,h⟩:=An (l:=a.nx) (i:=s) G
 have I:=C.row r (List.mem_of_getElem? h)
 obtain⟨l,z⟩:=An (l:=r) (i:=x) (by omega)
 have:a.to s x=l:=by unfold NF.to; rw [getD_some h,getD_some z]
 rw [this] at E
 exact C.to r (List.mem_of_getElem? h) l (List.mem_of_getElem? z) y E
theorem Nm {wI w1 w:World} {a:NF} {n s x gf gb m c':Nat} {U:Option Addr} {far:List Int} {uA:Nat→Value} {vq:Value} {qs:List Nat} (a3:a.OK) (Z:m=(a.to s x).length) (aj:n=a.n) (cZ:s<n) (a4:x<a.L)
  (hS:Sl wI wI.heap.size 1 Ai U (a.to s x)) (W:Below wI.heap.size wI w1) (V:(a.psS a.n).length≤3000000) (ab:BI w1 w n gf gb far uA (Bp (a.ps s x 0))) (ad:Ca w1 w n gf uA vq qs)
  {u0 u1 u2 u3 u5 u7 u8 u9 ap cf az aA aB aC aD aE aF aG aJ aK aL aM aN aO aP aQ aR aS aU aV aW aX aY aZ b0 b1 b2 cg ch ci cj ck cm cn co cp cq cr ct cv cw b5 b6 b7 b8 b9 ba bb bd u64 be bf bg bh bi bk bl bm bn bo bp bq br bs bt bu bv bw bx bz bA bB bC bD bE bG bH bI bJ bK bL bM bN bO bP aq ar au av aw ax ay:Value} {Q:Exit→Act→World→Prop}
  (bX:∀(cx cy cz cA cB cD cE cF cG cH cJ cK cL cM cO cQ:Value) (w':World) (E:Nat→Value),BI w1 w' n gf gb far E (Bp (a.ps s (x+1) 0))→Ca w1 w' n gf E vq qs→Q (.exit 4) ⟨List.toArray (u0::u1::u2::u3::(.slice (some ⟨gb,0,none⟩) n n)::u5::(.int .i64 (s:Int))::u7::u8::u9::ap::cx::az::aA::aB::aC::aD::aE::aF::aG::aJ::aK::aL::aM::aN::aO::aP::aQ::aR::aS::aU::aV::
   aW::aX::aY::aZ::b0::b1::b2::(.slice U m c')::(.int .i64 (m:Int))::cy::cz::cA::cB::cD::cE::cF::cG::cH::cJ::cK::cL::cM::cO::cQ::b5::b6::b7::b8::b9::ba::bb::bd::u64::
   be::bf::bg::bh::bi::bk::bl::bm::bn::bo::bp::bq::br::bs::bt::bu::bv::bw::bx::bz::bA::bB::bC::bD::bE::bG::bH::bI::bJ::bK::bL::bM::bN::bO::bP::aq::ar::
   au::av::aw::ax::ay::[]),[]⟩ w'):
  (Code.loop (CG Tryz.f113 2)).wp Tryz.prog Q ⟨List.toArray (u0::u1::u2::u3::(.slice (some ⟨gb,0,none⟩) n n)::u5::(.int .i64 (s:Int))::u7::u8::u9::ap::cf::az::aA::aB::aC::aD::aE::aF::aG::aJ::aK::aL::aM::aN::aO::aP::aQ::aR::aS::aU::aV::
   aW::aX::aY::aZ::b0::b1::b2::(.slice U m c')::(.int .i64 (m:Int))::(.int .i64 0)::cg::ch::ci::cj::ck::cm::cn::co::cp::cq::cr::ct::cv::cw::b5::b6::b7::b8::b9::ba::bb::
   bd::u64::be::bf::bg::bh::bi::bk::bl::bm::bn::bo::bp::bq::br::bs::bt::bu::bv::bw::bx::bz::bA::bB::bC::bD::bE::bG::bH::bI::bJ::bK::bL::bM::bN::bO::bP::
   aq::ar::au::av::aw::ax::ay::[]),[]⟩ w:=by
 conv=>arg 2; arg 1; whnf
 have cX:m≤3000000:=by rw [Z]; exact Nat.le_trans (a.to_len (by omega) a4) V
 have cY:=hide a3
 have ah:=hide Z
 have c7:=hide aj
 have bY:=hide hS
 have bZ:=hide W
 have bU:=hide V
 have bS:=hide ab
 have bV:=hide ad
 have ca:=W.size
 have al:s<a.n:=by omega
 have cd:=hide (fun y (C:y∈a.to s x)=>NF.to_in a3 al a4 C)
 have c9:=hide (fun j=>a.ps_len (j:=j) al a4)
 clear a3 Z aj hS W V ab ad
 go_loopw [41] (fun jj wz=>∃(j:Nat) (u:Nat→Value),jj=.int .i64 (j:Int)∧j≤m∧Hid (BI w1 wz n gf gb far u (Bp (a.ps s x j)))∧Hid (Ca w1 wz n gf u vq qs)) (fun jj _=>m - (intOf jj).toNat)
 case atStart=>exact⟨0,uA,rfl,Nat.zero_le _,bS,bV⟩
 case round=>
  obtain⟨j,E,rfl,hj,h,ae⟩:=hrel
  have c1:=hide (bZ.out.trans (h.out.below.mono ca))
  by_cases c4:j<m
  ·obtain⟨z,O⟩:=An (l:=a.to s x) (i:=j) (by rw [←ah.out]; exact c4)
   obtain⟨y,rfl,C⟩:=CT (cd.out z (List.mem_of_getElem? O))
   simp only [Int.toNat_natCast] at C
   rw [←c7.out] at C
   obtain⟨b3,o3,rfl,c0,af⟩:=EZ bY.out O
   have cR:=(c1.out.cell (p:=⟨b3,o3+j,none⟩) c0).trans af
   have cb:=hide (a.ps_step O)
   have G:=h.out.own y C
   obtain⟨Au,cu,I⟩:=AH G
   rw [I] at G
   have c3:wr.cell? ⟨gb,y,none⟩=some (.slice Au (Bp (a.ps s x j) y).length cu):=by rw [h.out.top.cell,CV _ C,I]
   have c6:(Bp (a.ps s x j) y).length≤3000000:=Nat.le_trans (IX _ _) (Nat.le_trans (c9.out j) bU.out)
   obtain⟨k,hk⟩:∃k,k=(Bp (a.ps s x j) y).length:=⟨_,rfl⟩
   have c5:=hide hk
   rw [←hk] at G c3 c6 I
   have cc:=h.out.below.size
   have am:=hide I
   have c8:=hide G
   clear O af I hk G
   go_wp2_with (
    at_builtin
    refine BP (w:=wr) C9 rfl _ _ rfl w1.heap.size (.slice Au k cu) k _ rfl c8.out [.int .i64 (s:Int)] 1 rfl rfl (by simp [Value.oneCell']) (by omega) cc ?_
    intro g bR w6 ak ag ai cU
    have J:Ac wr w6 (fun b=>(E y).ownBlock=some b):=by rw [am.out]; exact ag
    have a2:BJ wr (E y) (.slice (some ⟨g,0,none⟩) (k+1) bR):=by rw [am.out]; exact ai
    have bT:=hide (h.out.push (s:=s) C J (by rw [←c5.out]; exact ak) a2)
    have bW:=hide (ae.out.push h.out C J a2)
    have M:Blk w6 gb 24 (Bi n E):=h.out.top.kept J (Aw (h.out.own y C) h.out.top (by decide))
    have cS:w6.cell? ⟨gb,y,none⟩=some (E y):=by rw [M.cell,CV _ C]
    have cT:=M.frozen y
    have cW:=M.lt
    clear ak ag ai J a2 M)
   refine⟨⟨j+1,_,by go_num,by omega,?_,bW⟩,by simp [intOf]; omega⟩
   have e:Bp (a.ps s x (j+1))=up1 (Bp (a.ps s x j)) y (Bp (a.ps s x j) y++[s]):=by
    funext z
    rw [cb.out,Ms]
    unfold up1
    by_cases e:z=y
    ·subst e; simp
    ·simp [e]
   show BI _ _ _ _ _ _ _ _
   rw [e]
   exact bT.out
  ·obtain rfl:j=m:=by omega
   go_wp2_with fail
   refine bX _ _ _ _ _ _ _ _ _ _ _ _ _ _ _ _ _ E ?_ ae.out
   have:=h.out
   rw [NF.ps_row (by rw [←ah.out]; exact Nat.le_refl _)] at this
   exact this
theorem Nq {wI w1 w:World} {a:NF} {n L s gf gb O:Nat} {C:Option Addr} {far:List Int} {h:Nat→Value} {vq:Value} {qs:List Nat} (ab:a.OK) (aa:n=a.n) (Z:L=a.L) (cL:L≤8) (bR:s<n)
  (ad:∀x,x<a.L→∃b2 af z M,C=some ⟨b2,af,none⟩∧b2<wI.heap.size∧wI.cell? ⟨b2,af+x,none⟩=some (.slice z (a.to s x).length M)∧Sl wI wI.heap.size 1 Ai z (a.to s x)) (G:Below wI.heap.size wI w1) (W:(a.psS a.n).length≤3000000)
  (U:BI w1 w n gf gb far h (Bp (a.ps s 0 0))) (a3:Ca w1 w n gf h vq qs)
  {u0 u1 u2 u3 u5 u7 u8 u9 ai bU aq ar au av aw ax ay az aB aC aD aE aF aG aH aJ aK aL aN aO aP bV bW bX bY bZ c0 c1 c3 c4 c5 c6 c7 c8 c9 ca cb cc cd ce cf cg aR aS aT aU aV aW aX u64 aY aZ b0 b1 b3 b5 b6 b7 b8 b9 ba bb bd be bf bg bh bi bj bk bl bm bn bo bp bq br bs bt bu bv bw bx bz bA aj ak al am an ao ap:Value} {Q:Exit→Act→World→Prop}
  (a6:∀(x9 ci cj ck cm cn co cp cq ct cu cv cw cx cy cz cA cB cD cE cF cG cH cJ:Value) (w':World) (y:Nat→Value),BI w1 w' n gf gb far y (Bp (a.ps (s+1) 0 0))→Ca w1 w' n gf y vq qs→Q (.exit 2) ⟨List.toArray (u0::u1::u2::u3::(.slice (some ⟨gb,0,none⟩) n n)::u5::(.int .i64 (s:Int))::u7::u8::x9::ai::ci::aq::ar::au::av::aw::ax::ay::az::aB::aC::aD::aE::aF::aG::aH::aJ::aK::aL::aN::aO::
   aP::(.slice C L O)::(.int .i64 (L:Int))::cj::ck::cm::cn::co::cp::cq::ct::cu::cv::cw::cx::cy::cz::cA::cB::cD::cE::cF::cG::cH::cJ::aR::aS::aT::aU::aV::aW::aX::u64::
   aY::aZ::b0::b1::b3::b5::b6::b7::b8::b9::ba::bb::bd::be::bf::bg::bh::bi::bj::bk::bl::bm::bn::bo::bp::bq::br::bs::bt::bu::bv::bw::bx::bz::bA::aj::ak::
   al::am::an::ao::ap::[]),[]⟩ w'):
  (Code.loop (CG Tryz.f113 1)).wp Tryz.prog Q ⟨List.toArray (u0::u1::u2::u3::(.slice (some ⟨gb,0,none⟩) n n)::u5::(.int .i64 (s:Int))::u7::u8::u9::ai::bU::aq::ar::au::av::aw::ax::ay::az::aB::aC::aD::aE::aF::aG::aH::aJ::aK::aL::aN::aO::
   aP::(.slice C L O)::(.int .i64 (L:Int))::(.int .i64 0)::bV::bW::bX::bY::bZ::c0::c1::c3::c4::c5::c6::c7::c8::c9::ca::cb::cc::cd::ce::cf::cg::aR::aS::aT::aU::aV::aW::
   aX::u64::aY::aZ::b0::b1::b3::b5::b6::b7::b8::b9::ba::bb::bd::be::bf::bg::bh::bi::bj::bk::bl::bm::bn::bo::bp::bq::br::bs::bt::bu::bv::bw::bx::bz::bA::
   aj::ak::al::am::an::ao::ap::[]),[]⟩ w:=by
 conv=>arg 2; arg 1; whnf
 have bO:=hide ab
 have bN:=hide aa
 have a2:=hide Z
 have bP:=hide ad
 have a8:=hide G
 have bE:=hide W
 have bD:=hide U
 have bG:=hide a3
 have bQ:=G.size
 have bH:=hide a6
 clear ab aa Z ad G W U a3 a6
 go_loopw [35] (fun J wz=>∃(x:Nat) (u:Nat→Value),J=.int .i64 (x:Int)∧x≤L∧Hid (BI w1 wz n gf gb far u (Bp (a.ps s x 0)))∧Hid (Ca w1 wz n gf u vq qs)) (fun J _=>L - (intOf J).toNat)
 case atStart=>exact⟨0,h,rfl,Nat.zero_le _,bD,bG⟩
 case round=>
  obtain⟨x,h,rfl,hx,E,a4⟩:=hrel
  have bK:=hide (a8.out.trans (E.out.below.mono bQ))
  by_cases bS:x<L
  ·have ae:x<a.L:=by rw [←a2.out]; exact bS
   obtain⟨b2,o2,z,M,rfl,bJ,a9,a7⟩:=bP.out x ae
   have bL:=(bK.out.cell (p:=⟨b2,o2+x,none⟩) bJ).trans a9
   have bI:=hide a7
   obtain⟨m,I⟩:∃m,m=(a.to s x).length:=⟨_,rfl⟩
   have bM:=hide I
   rw [←I] at bL
   clear a7 a9 I
   go_wp2_with fail
   refine Nm bO.out bM.out bN.out bR ae bI.out a8.out bE.out E.out a4.out ?_
   iterate 16 (intro _)
   intro w' y V a5
   have bC:=hide V
   have bF:=hide a5
   clear V a5
   go_wp2_with fail
   exact⟨⟨x+1,y,by go_num,by omega,bC,bF⟩,by simp [intOf]; omega⟩
  ·obtain rfl:x=L:=by omega
   go_wp2_with fail
   refine bH.out _ _ _ _ _ _ _ _ _ _ _ _ _ _ _ _ _ _ _ _ _ _ _ _ _ h ?_ a4.out
   have:=E.out
   rw [a2.out,NF.ps_state] at this
   exact this
theorem Nn {w1 w:World} {a:NF} {n gf gb hd C m m0 h c cu:Nat} {A Au:Option Addr} {far:List Int} {u:Nat→Value} {t:List Nat} (az:n=a.n) (hn:n≤200000) (ch:hd<n) (dD:C≤200000) (ay:m=(Bp (a.psS a.n) hd).length) (dF:m≤3000000) (hu:u hd=.slice Au m cu)
  (ck:h≤200000) (aC:h=t.length+1) (an:BI w1 w n gf gb far u (Bp (a.psS a.n))) (aq:CA w1 w n gf u A c (hd::t)) (ao:a.BfsJ far hd t C m0 0)
  {u0 u1 u2 u4 u6 u7 u8 u9 aN aP aQ cF aR aS aT aU aV aW aY aZ b0 b1 b2 b3 b4 b5 b6 b7 b8 b9 ba bb bd be bf bg bh bi bk bl bm bn bo bp bq br bs bt bu bv bw bx bz bA bB bC bD bE bG bH bI bJ u64 bK bL bM bN bO bQ bR bS bT bU bV bW bX bY bZ cG cH cJ cK cL cM cO cQ cR cS cT cU cV cW cX cY cZ cy cz cA cB cD cE aO:Value} {Q:Exit→Act→World→Prop}
  (av:∀(d6 d7 d8 d9 da db dc de df dg dh di dj dk dl dm dn dp dq d0 d1 d2 d3 d4 d5:Value) (w':World) (far:List Int) (t:List Nat) (h c g aK:Nat),h=t.length→h+1≤c→h≤200000→BI w1 w' n gf gb far u (Bp (a.psS a.n))→CA w1 w' n gf u (some ⟨g,aK+1,none⟩) (c - 1) t→a.Bfs far t→t.length+und far=m0→Q (.exit 8) ⟨List.toArray (u0::u1::u2::(.slice (some ⟨gf,0,none⟩) n n)::u4::(.slice (some ⟨g,aK,none⟩) (h+1) c)::u6::u7::u8::u9::aN::aP::aQ::d6::aR::aS::aT::aU::aV::aW::aY::aZ::b0::b1::b2::b3::b4::b5::b6::
   b7::b8::b9::ba::bb::bd::be::bf::bg::bh::bi::bk::bl::bm::bn::bo::bp::bq::br::bs::bt::bu::bv::bw::bx::bz::bA::bB::bC::bD::bE::bG::bH::bI::bJ::u64::bK::
   bL::bM::bN::bO::bQ::bR::bS::bT::bU::bV::bW::bX::bY::bZ::(.slice Au m cu)::(.int .i64 (m:Int))::d7::d8::d9::da::db::dc::de::df::dg::dh::di::dj::dk::dl::dm::dn::dp::
   dq::d0::d1::d2::d3::d4::d5::aO::[]),[]⟩ w'):
  (Code.loop (CG Tryz.f113 4)).wp Tryz.prog Q ⟨List.toArray (u0::u1::u2::(.slice (some ⟨gf,0,none⟩) n n)::u4::(.slice A h c)::u6::u7::u8::u9::aN::aP::aQ::cF::aR::aS::aT::aU::aV::aW::aY::aZ::b0::b1::b2::b3::b4::b5::b6::b7::b8::b9::
   ba::bb::bd::be::bf::bg::bh::bi::bk::bl::bm::bn::bo::bp::bq::br::bs::bt::bu::bv::bw::bx::bz::bA::bB::bC::bD::bE::bG::bH::bI::bJ::u64::bK::bL::bM::bN::
   bO::bQ::bR::bS::bT::bU::bV::bW::bX::bY::bZ::(.slice Au m cu)::(.int .i64 (m:Int))::(.int .i64 0)::cG::cH::cJ::cK::cL::cM::cO::cQ::cR::cS::cT::cU::cV::cW::cX::cY::cZ::
   cy::cz::cA::cB::cD::cE::aO::[]),[]⟩ w:=by
 conv=>arg 2; arg 1; whnf
 have cg:hd<a.n:=by omega
 have aA:=hide az
 have ad:=hide ay
 have cr:=hide hu
 have cm:=hide aC
 have ca:=hide an
 have cd:=hide aq
 have cc:=hide ao
 have cf:=hide av
 clear az ay hu aC an aq ao av
 go_loopw [5,82] (fun qq jj wz=>∃(far:List Int) (t:List Nat) (h c j:Nat) (A:Option Addr),qq=.slice A h c∧h≤200000∧Hid (h=t.length+1)∧jj=.int .i64 (j:Int)∧j≤m∧Hid (BI w1 wz n gf gb far u (Bp (a.psS a.n)))∧Hid (CA w1 wz n gf u A c (hd::t))∧Hid (a.BfsJ far hd t C m0 j)) (fun _ jj _=>m - (intOf jj).toNat)
 case atStart=>exact⟨far,t,h,c,0,_,rfl,ck,cm,rfl,Nat.zero_le _,ca,cd,cc⟩
 case round=>
  obtain⟨M,O,J,U,j,A5,rfl,cn,y,rfl,hj,E,a4,G⟩:=hrel
  obtain⟨g5,o5,rfl,V,dL,dB⟩:=a4.out.row (by simp)
  by_cases ci:j<m
  ·obtain⟨r,I⟩:=An (l:=Bp (a.psS a.n) hd) (i:=j) (by rw [←ad.out]; exact ci)
   have a6:=E.out.own hd ch
   rw [cr.out,←ad.out] at a6
   obtain⟨gu,du,e,dz⟩:=C7 a6 (AX (f:=Value.int .i64) (AX (f:=fun x:Nat=>(x:Int)) I))
   injection e with e1 _ e3
   subst e1 e3
   have ae:r<a.n:=(NF.mem_back.1 (List.mem_of_getElem? I)).1
   obtain⟨z,hz⟩:=An (l:=M) (i:=r) (by rw [G.out.bfs.len]; exact ae)
   have dw:wr.cell? ⟨gf,r,none⟩=some (.int .i64 z):=by rw [E.out.farB.cell,FP hz]
   have W:M.getD r (-1)=z:=getD_some hz
   have dA:=E.out.farB.frozen r
   have dE:=E.out.farB.lt
   have dK:r<n:=by rw [aA.out]; exact ae
   have dJ:=hide I
   rcases G.out.bfs.ge r ae with af | ⟨kz,af,_⟩
   ·have cv:z= -1:=by omega
    subst cv
    have dM:=hide W
    have dy:wr.cell? ⟨g5,o5,none⟩=some (.int .i64 (hd:Int)):=V.cell (j:=0) rfl
    obtain⟨zh,ag⟩:=An (l:=M) (i:=hd) (by rw [G.out.bfs.len]; exact cg)
    have ah:zh=(C:Int):=by have:=G.out.hk; rw [getD_some ag] at this; exact this
    subst ah
    have dx:wr.cell? ⟨gf,hd,none⟩=some (.int .i64 (C:Int)):=by rw [E.out.farB.cell,FP ag]
    obtain⟨w8,ct⟩:∃w8,wr.setCell ⟨gf,r,none⟩ (.int .i64 ((C:Int)+1))=w8:=⟨_,rfl⟩
    have a2:=E.out.setF r ((C:Int)+1)
    have a5:=a4.out.setF (gf:=gf) r (.int .i64 ((C:Int)+1))
    rw [ct] at a2 a5
    have cb:=hide a2
    have ce:=hide a5
    obtain⟨g8,o8,e8,aE,-,-⟩:=a5.row (by simp)
    injection e8 with e8
    injection e8 with c7 c8
    subst c7 c8
    have cp:=hide (show Co w8 w1.heap.size g5 o5 J U (hd::O) from by have:=y.out; rw [this]; exact aE)
    have cq:=a2.below.size
    have a3:=hide (G.out.found I W)
    have dH:0<J:=by have:=y.out; omega
    clear I hz W af ag a2 a5 aE V a6
    go_wp2_with (
     at_builtin
     refine Mc (w:=w8) (x:=r) (base:=w1.heap.size) C9 rfl _ _ rfl g5 o5 J U (hd::O) rfl cp.out 1 rfl (by omega) cq ?_
     intro g9 o9 c9 w9 aF ax aw cj
     have ap:=hide (ce.out.join cb.out (s:=r) (by have:=y.out; rw [←this]; exact aF) ax aw)
     clear aF ax aw cj)
    refine⟨⟨M.set r ((C:Int)+1),O++[r],J+1,c9,j+1,_,rfl,?_,?_,by go_num,by omega,ap.out.2,ap.out.1,a3⟩,by simp [intOf]; omega⟩
    ·have:=a3.out.bfs.size
     have:=y.out
     have:=aA.out
     simp only [List.length_cons,List.length_append,List.length_nil] at*
     omega
    ·show _=_
     rw [y.out]; simp
   ·have ah:z=(kz:Int):=by omega
    subst ah
    have a3:=hide (G.out.skip I (by rw [W]; omega))
    clear I hz W af V a6
    go_wp2_with fail
    exact⟨⟨M,O,J,U,j+1,_,rfl,cn,y,by go_num,by omega,E,a4,a3⟩,by simp [intOf]; omega⟩
  ·obtain rfl:j=m:=by omega
   have al:=hide (G.out.done (by rw [←ad.out]; exact Nat.le_refl _))
   have ar:=hide a4.out.tail
   have aG:=hide G.out.size
   obtain⟨Z,rfl⟩:∃Z,J=Z+1:=⟨J - 1,by have:=y.out; omega⟩
   have aB:Hid (Z=O.length):=by have:=y.out; show _=_; omega
   have co:Z+1≤U:=by have:=V.2.2.1; have:=y.out; simp at*; omega
   clear V
   have aD:=aB.out
   have am:=al.out
   have au:=ar.out
   have aH:=aG.out
   have dI:=hide (And.intro aD (And.intro am (And.intro au aH)))
   clear aD am au aH
   go_wp2_with fail
   exact cf.out _ _ _ _ _ _ _ _ _ _ _ _ _ _ _ _ _ _ _ _ _ _ _ _ _ _ M O Z U _ _ aB.out co (by omega) E.out ar.out al.out aG.out
theorem Np {w1 w:World} {a:NF} {s gf gb z c:Nat} {A:Option Addr} {far:List Int} {u:Nat→Value} {qs:List Nat} (am:s=a.n) (hn:s≤200000) (hE:(a.psS a.n).length≤3000000) (a4:z≤200000) (aq:z=qs.length)
  (W:BI w1 w s gf gb far u (Bp (a.psS a.n))) (ae:CA w1 w s gf u A c qs) (a6:a.Bfs far qs)
  {u0 u1 u2 u6 u7 u8 u9 aB aD aE cd aF aG aH aJ aK aL aN aO aP aQ aR aS aT aU aV aW aX aY aZ b0 b1 b2 b3 b4 b5 b6 b7 b8 b9 ba bb bd be bf bg bh bi bj bk bl bm bn bo bp bq br bt bu bv bw u64 bx bz bA bB bC ce cf cg ch ci cj ck cm cn co cp cq cr ct cv cw cx cy cz cA cB cD cE cF cG cH cJ cK cL cM c7 c8 c9 ca cb cc aC:Value} {Q:Exit→Act→World→Prop}
  (ah:∀(x5 cV cX cY cZ d0 d1 d2 d3 d4 d5 d6 d7 d8 d9 da db dc de df dg dh di dj dk dl dm dn dp dq dr dt cO cQ cR cS cT cU:Value) (w':World) (far:List Int),Below w1.heap.size w1 w'→Blk w' gf 3 (D2 far)→far.length=s→a.Far far→Q (.exit 6) ⟨List.toArray (u0::u1::u2::(.slice (some ⟨gf,0,none⟩) s s)::(.slice (some ⟨gb,0,none⟩) s s)::x5::u6::u7::u8::u9::aB::aD::aE::cV::aF::aG::aH::aJ::aK::aL::aN::aO::aP::aQ::aR::aS::aT::aU::aV::aW::
   aX::aY::aZ::b0::b1::b2::b3::b4::b5::b6::b7::b8::b9::ba::bb::bd::be::bf::bg::bh::bi::bj::bk::bl::bm::bn::bo::bp::bq::br::bt::bu::bv::bw::u64::bx::bz::
   bA::bB::bC::cX::cY::cZ::d0::d1::d2::d3::d4::d5::d6::d7::d8::d9::da::db::dc::de::df::dg::dh::di::dj::dk::dl::dm::dn::dp::dq::dr::dt::cO::cQ::cR::cS::
   cT::cU::aC::[]),[]⟩ w'):
  (Code.loop (CG Tryz.f113 3)).wp Tryz.prog Q ⟨List.toArray (u0::u1::u2::(.slice (some ⟨gf,0,none⟩) s s)::(.slice (some ⟨gb,0,none⟩) s s)::(.slice A z c)::u6::u7::u8::u9::aB::aD::aE::cd::aF::aG::aH::aJ::aK::aL::aN::aO::aP::aQ::aR::aS::aT::aU::
   aV::aW::aX::aY::aZ::b0::b1::b2::b3::b4::b5::b6::b7::b8::b9::ba::bb::bd::be::bf::bg::bh::bi::bj::bk::bl::bm::bn::bo::bp::bq::br::bt::bu::bv::bw::u64::
   bx::bz::bA::bB::bC::ce::cf::cg::ch::ci::cj::ck::cm::cn::co::cp::cq::cr::ct::cv::cw::cx::cy::cz::cA::cB::cD::cE::cF::cG::cH::cJ::cK::cL::cM::c7::c8::
   c9::ca::cb::cc::aC::[]),[]⟩ w:=by
 conv=>arg 2; arg 1; whnf
 have bL:=hide (fun y (hy:y<s)=>AH (W.own y hy))
 have U:=hide am
 have bM:=hide hE
 have bZ:=hide aq
 have hD:=hide W
 have bJ:=hide ae
 have bI:=hide a6
 have bO:=hide ah
 clear am hE aq W ae a6 ah
 go_loopg [5] (z+und far) (fun k qq wz=>∃(far:List Int) (qs:List Nat) (z c:Nat) (A:Option Addr),qq=.slice A z c∧z≤200000∧Hid (z=qs.length)∧Hid (BI w1 wz s gf gb far u (Bp (a.psS a.n)))∧Hid (CA w1 wz s gf u A c qs)∧Hid (a.Bfs far qs)∧Hid (k=z+und far))
 case atStart=>exact⟨far,qs,z,c,A,rfl,a4,bZ,hD,bJ,bI,rfl⟩
 case round=>
  obtain⟨far,qs,z,c,A,rfl,a4,au,M,af,C,bR⟩:=hrel
  rcases qs with _ | ⟨hd,t⟩
  ·have hz:z=0:=au.out
   subst hz
   go_wp2_with fail
   exact bO.out _ _ _ _ _ _ _ _ _ _ _ _ _ _ _ _ _ _ _ _ _ _ _ _ _ _ _ _ _ _ _ _ _ _ _ _ _ _ _ far M.out.below M.out.farB (by rw [C.out.len,U.out]) C.out.isFar
  ·obtain⟨g,c4,rfl,ar,dy,dv⟩:=af.out.row (by simp)
   have du:wr.cell? ⟨g,c4,none⟩=some (.int .i64 (hd:Int)):=ar.cell (j:=0) rfl
   obtain⟨a2,aj⟩:=C.out.q hd List.mem_cons_self
   have a3:hd<s:=by rw [U.out]; exact a2
   obtain⟨G,ak,ai⟩:∃G:Nat,far.getD hd (-1)=(G:Int)∧a.Dist hd G:=by
    rcases C.out.ge hd a2 with h | h
    ·exact absurd h aj
    ·exact h
   have bS:G≤200000:=by have:=ai.lt a2; have:=U.out; omega
   obtain⟨Au,cu,V⟩:=bL.out hd a3
   have an:z=t.length+1:=au.out
   have bQ:wr.cell? ⟨gb,hd,none⟩=some (.slice Au (Bp (a.psS a.n) hd).length cu):=by rw [M.out.top.cell,CV _ a3,V]
   obtain⟨m,O⟩:∃m,m=(Bp (a.psS a.n) hd).length:=⟨_,rfl⟩
   have bU:=hide O
   rw [←O] at bQ V
   have c0:=hide V
   have bT:m≤3000000:=by rw [O]; exact Nat.le_trans (IX _ _) bM.out
   have ad:=hide (show a.BfsJ far hd t G (t.length+und far) 0 from⟨C.out,ak,fun q hq=>by simp at hq,rfl⟩)
   have Z:Hid (gk=t.length+und far+1):=by have:=bR.out; show _=_; omega
   have bY:=hide an
   obtain⟨m0,al⟩:∃m0,m0=t.length+und far:=⟨_,rfl⟩
   rw [←al] at ad Z
   have dw:0<z:=by omega
   clear O V ak ai aj ar al an
   go_wp2_with fail
   refine Nn U.out hn a3 bS bU.out bT c0.out a4 bY.out M.out af.out ad.out ?_
   iterate 25 (intro _)
   intro w' J I q6 c5 g5 o5 ao dx ap a9 ag a7 av
   have E:=hide ao
   have aa:=hide a9
   have bN:=hide ag
   have a8:=hide a7
   have aw:=hide av
   clear ao a9 ag a7 av
   by_cases bP:c5=1
   ·subst bP
    have bW:I=[]:=List.length_eq_zero_iff.1 (by have:=E.out; omega)
    obtain rfl:q6=0:=by omega
    go_wp2_with fail
    go_roundg (I.length+und J)
    case measure=>have:=Z.out; have:=aw.out; omega
    case rel=>exact⟨J,I,0,0,_,rfl,ap,E,aa,⟨fun h=>absurd bW h⟩,a8,by show _=_; rw [E.out]⟩
   ·go_wp2_with fail
    go_roundg (I.length+und J)
    case measure=>have:=Z.out; have:=aw.out; omega
    case rel=>exact⟨J,I,q6,c5 - 1,_,rfl,ap,E,aa,bN,a8,by show _=_; rw [E.out]⟩
theorem Nr {w:World} {v:Value} {a:NF} (h:Cn w w.heap.size v a) (am:a.OK) (hn:a.n≤200000) (hL:a.L≤8) (hE:(a.psS a.n).length≤3000000):
  Calls Tryz.prog 113 #[v] w (Ret fun r w'=>Below w.heap.size w w'∧∃far A c,r=.slice A far.length c∧a.Far far∧Sl w' w'.heap.size 1 Ai A far):=by
 obtain⟨A1,c1,A2,c2,A3,c3,rfl,h1,h2,h3,h4⟩:=h
 have ag:=am.acc
 have aS:a.nx.length=a.n:=rfl
 obtain⟨n,a6⟩:∃n,n=a.n:=⟨_,rfl⟩
 obtain⟨L,ad⟩:∃L,L=a.L:=⟨_,rfl⟩
 have O:=hide a6
 have aB:=hide ad
 rw [aS,ag]
 rw [←a6] at hn ⊢
 rw [←ad] at hL ⊢
 obtain⟨w1,c7,ah,J,bA⟩:=Ae w #[.int .i64 (L:Int),.slice A1 n c1,.slice A2 a.start.length c2,.slice A3 n c3] 88
 obtain⟨gf,w2,c4,aD,a5,bz⟩:=Et w1 n (by omega)
 obtain⟨gb,w3,c5,aE,aj,bZ⟩:=Ra w2 n (by omega)
 have ao:=ah.size
 have bF:=a5.size
 have ai:=a5.trans (aj.mono bF)
 have bh:=hide (show BI w1 w3 n gf gb (a.far0 0) (fun _=>.slice none 0 0) (Bp (a.ps 0 0 0)) from by
  have e0:a.ps 0 0 0=[]:=by simp [NF.ps,NF.psS,NF.psR]
  have e1:a.far0 0=List.replicate n 0:=by
   apply List.ext_getElem?
   intro q
   rcases Nat.lt_or_ge q a.n with hq | hq
   ·have e3:q<n:=by omega
    rw [NF.far0_at hq,List.getElem?_replicate]
    simp [e3]
   ·rw [List.getElem?_eq_none (by rw [NF.far0_len]; exact hq),List.getElem?_eq_none (by simp; omega)]
  rw [e0,e1]
  refine⟨ai,?_,?_,fun y _=>Cb,fun y _ y' _ g G=>by simp [Value.ownBlock] at G,fun y _ G=>by simp [Value.ownBlock] at G,⟨bz,by omega⟩⟩
  ·rw [←PT]; exact aD.below aj
  ·rw [←Fo]; exact aE)
 have bl:=hide (show Ca w1 w3 n gf (fun _=>.slice none 0 0) (.slice none 0 0) (a.que0 0) from⟨Cb,fun y _ g G=>by simp [Value.ownBlock] at G,fun G=>by simp [Value.ownBlock] at G⟩)
 have bS:=(J.below a5).cell
 have bR:=J.cell
 have bT:=(J.below ai).cell
 have aa:=hide J
 have a4:=hide ah
 have bb:=hide h1
 have be:=hide h3
 have aT:=hide am
 have ax:=hide hE
 have al:=J.lt
 have bo:=hide ag
 clear h1 h2 h3 h4 a6 ad am hE bA aD aE a5 aj ai J ag aS ah
 go_enter Tryz.func113,Tryz.ntmps113
 go_wp2_with fail
 go_loopw [5,25] (fun qq ii wr=>∃(s:Nat) (u:Nat→Value),ii=.int .i64 (s:Int)∧s≤n∧Hid (BI w1 wr n gf gb (a.far0 s) u (Bp (a.ps s 0 0)))∧Hid (Ca w1 wr n gf u qq (a.que0 s))) (fun _ ii _=>n - (intOf ii).toNat)
 case atStart=>exact⟨0,_,rfl,Nat.zero_le _,bh,bl⟩
 case round=>
  obtain⟨s,u,rfl,hs,C,hQ⟩:=hrel
  have av:=aa.out.at al C.out.below
  have bX:=av.cell
  have bs:=hide (a4.out.trans (C.out.below.mono ao))
  obtain⟨Aq,cq,rfl⟩:=AH hQ.out.own
  by_cases aP:s<n
  ·have W:s<a.n:=by rw [←O.out]; exact aP
   obtain⟨bt,ot,Ar,cr,rfl,bu,aH,aX⟩:=NF.row_at bb.out aT.out W
   have bw:=(bs.out.cell (p:=⟨bt,ot+s,none⟩) bu).trans aH
   rw [←aB.out] at bw
   have bE:=hide aX
   have bv:wr.cell? ⟨gf,s,none⟩=some (.int .i64 0):=by
    rw [C.out.farB.cell,FP (NF.far0_at W),if_neg (by omega)]
   have bx:=C.out.farB.frozen s
   have bB:=C.out.farB.lt
   obtain⟨w7,bH⟩:∃w7,wr.setCell ⟨gf,s,none⟩ (.int .i64 (-1))=w7:=⟨_,rfl⟩
   have Z:=C.out.setF s (-1)
   have af:=hQ.out.setF (gf:=gf) s (.int .i64 (-1))
   rw [bH] at Z af
   have bU:=(aa.out.at al Z.below).cell
   have bi:=hide Z
   have bm:=hide af
   clear Z af aX aH av
   go_wp2_with fail
   refine Nq (vq:=.slice Aq (a.que0 s).length cq) (qs:=a.que0 s) aT.out O.out aB.out hL aP bE.out a4.out ax.out bi.out bm.out ?_
   iterate 24 (intro _)
   intro wz uA ab aC
   have M:=hide ab
   have ae:=hide aC
   have bp:=hide (a4.out.trans (ab.below.mono ao))
   clear ab aC
   obtain⟨b,ak⟩:=An (l:=a.acc) (i:=s) (by rw [bo.out]; exact W)
   obtain⟨ba,oa,rfl,br,aG⟩:=Fy be.out ak
   have bV:=(bp.out.cell (p:=⟨ba,oa+s,none⟩) br).trans aG
   have bW:=(aa.out.at al M.out.below).cell
   have a3:Hid (a.acc.getD s false=b):=getD_some ak
   have bx:=M.out.farB.frozen s
   have bB:=M.out.farB.lt
   have bv:wz.cell? ⟨gf,s,none⟩=some (.int .i64 (-1)):=by
    rw [M.out.farB.cell]
    exact FP (by rw [List.getElem?_set_self (by rw [NF.far0_len]; exact W)])
   have aJ:=hide (NF.far0_step W)
   have aW:=hide (a.que0_step (s:=s))
   have bD:(a.que0 s).length≤200000:=by
    unfold NF.que0
    have:=List.length_filter_le (fun q=>a.acc.getD q false) (List.range s)
    rw [List.length_range] at this
    omega
   obtain⟨E,I⟩:∃E,E=(a.que0 s).length:=⟨_,rfl⟩
   have V:=hide I
   rw [←I] at bD ae ⊢
   clear ak aG I
   cases b
   ·go_wp2_with fail
    refine⟨⟨s+1,uA,by go_num,by omega,?_,?_⟩,by simp [intOf]; omega⟩
    ·have:=M.out
     have z:=aJ.out
     rw [a3.out] at z
     rw [show(a.far0 s).set s (-1)=a.far0 (s+1) from z] at this
     exact this
    ·have z:=aW.out
     rw [a3.out] at z
     show Ca _ _ _ _ _ _ _
     rw [show a.que0 (s+1)=a.que0 s from z]
     exact ae.out
   ·obtain⟨w8,bI⟩:∃w8,wz.setCell ⟨gf,s,none⟩ (.int .i64 0)=w8:=⟨_,rfl⟩
    have U:=M.out.setF s 0
    have a2:=ae.out.setF (gf:=gf) s (.int .i64 0)
    rw [bI] at U a2
    rw [List.set_set] at U
    have bG:=U.below.size
    have bj:=hide U
    have bn:=hide a2
    have bC:=hide (show w8.ownsRow w1.heap.size 3 1 (.slice Aq E cq) E (CJ (a.que0 s)) from by have:=a2.own; rw [←V.out] at this; exact this)
    clear U a2
    go_wp2_with (
     at_builtin
     refine BP (w:=w8) C9 rfl _ _ rfl w1.heap.size (.slice Aq E cq) E _ rfl bC.out [.int .i64 (s:Int)] 1 rfl rfl (by simp [Value.oneCell']) (by omega) bG ?_
     intro g bO w9 aU aO aQ bY
     have hJ:=hide (bn.out.join (s:=s) bj.out aO (by rw [←V.out]; exact aU) aQ)
     clear aU aO aQ)
    refine⟨⟨s+1,uA,by go_num,by omega,?_,?_⟩,by simp [intOf]; omega⟩
    ·have:=hJ.out.2
     have z:=aJ.out
     rw [a3.out] at z
     rw [show(a.far0 s).set s 0=a.far0 (s+1) from z] at this
     exact this
    ·have z:=aW.out
     rw [a3.out] at z
     show Ca _ _ _ _ _ _ _
     rw [show a.que0 (s+1)=a.que0 s++[s] from z]
     exact hJ.out.1
  ·obtain rfl:s=n:=by omega
   have aV:a.ps s 0 0=a.psS a.n:=by rw [←O.out]; simp [NF.ps,NF.psR]
   rw [aV] at C
   have bg:=hide hQ.out.cut
   have au:=hide (show a.Bfs (a.far0 s) (a.que0 s) from by rw [O.out]; exact a.bfs0)
   obtain⟨E,I⟩:∃E,E=(a.que0 s).length:=⟨_,rfl⟩
   have V:=hide I
   rw [←I]
   have bQ:=hide (fun y (hy:y<s)=>AH (C.out.own y hy))
   clear I aV hQ
   go_wp2_with fail
   refine Np O.out hn ax.out (by have:=au.out.size; have:=V.out; have:=O.out; omega) V.out C.out bg.out au.out ?_
   iterate 38 (intro _)
   intro w' far aF aK aM hF
   have aL:=hide aK
   have aN:=hide aM
   have bk:=hide hF
   have bq:=hide (a4.out.trans (aF.mono ao))
   clear aK aM hF aF
   go_wp2_with fail
   go_ret
   refine⟨bq.out,far,some ⟨gf,0,none⟩,s,by rw [aN.out]; rfl,bk.out,by have:=aN.out; omega,fun a6=>⟨gf,0,rfl,aL.out.lt,fun k d hd j hj=>?_⟩⟩
   have:j=0:=by omega
   subst this
   rw [aL.out.cell]
   simpa [Ai] using FP hd
end Go.Proofs.YtfcfpoemojjglaaGreatDoor
