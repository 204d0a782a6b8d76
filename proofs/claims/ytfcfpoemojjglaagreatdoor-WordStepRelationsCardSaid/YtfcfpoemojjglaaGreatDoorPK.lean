/-
  Part PK of a proof.
-/
import Derived.Deep.LoopGhost
import Derived.Test.YtfcfpoemojjglaaGreatDoorPA
import Derived.Test.YtfcfpoemojjglaaGreatDoorPJ
import Derived.Test.YtfcfpoemojjglaaGreatDoorPB
set_option maxHeartbeats 16000000
set_option maxRecDepth 100000
set_option linter.unusedVariables false
set_option linter.unusedSimpArgs false
namespace Go.Proofs.YtfcfpoemojjglaaGreatDoor
open Go.RowKit
set_option maxHeartbeats 4000000
def Es:Code→List Code
 | .loop c=>c::Es c
 | .seq a b=>Es a++Es b
 | .block _ c=>Es c
 | .scope c=>Es c
 | .cond _ a b=>Es a++Es b
 | _=>[]
def CG (f:Func) (k:Nat):Code:=match f.body with
 | some c=>(Es c).getD k .skip
 | none=>.skip
def CJ (l:List Nat):List Value:=(Ak l).map (Value.int .i64)
def D2 (l:List Int):Array Value:=(l.map (Value.int .i64)).toArray
theorem FP {l:List Int} {i:Nat} {x:Int} (h:l[i]?=some x):(D2 l)[i]?=some (.int .i64 x):=by
 unfold D2
 rw [List.getElem?_toArray]
 exact AX h
theorem PU (l:List Int) (i:Nat) (x:Int):(D2 l).setIfInBounds i (.int .i64 x)=D2 (l.set i x):=by
 unfold D2
 apply Array.ext'
 simp [List.map_set]
theorem PT (n:Nat):Array.replicate n (Value.int .i64 0)=D2 (List.replicate n 0):=by
 unfold D2
 apply Array.ext'
 simp
theorem Id (l:List Nat) (x:Nat):CJ (l++[x])=CJ l++[.int .i64 (x:Int)]:=by
 unfold CJ
 rw [EM,List.map_append]
 rfl
structure BI (w0 wr:World) (n gf gb:Nat) (far:List Int) (u:Nat→Value) (l:Nat→List Nat):Prop where
 below:Below w0.heap.size w0 wr
 farB:Blk wr gf 3 (D2 far)
 top:Blk wr gb 24 (Bi n u)
 own:∀y,y<n→wr.ownsRow w0.heap.size 3 1 (u y) (l y).length (CJ (l y))
 sep:∀y,y<n→∀y',y'<n→∀g,(u y).ownBlock=some g→(u y').ownBlock=some g→y=y'
 fsep:∀y,y<n→(u y).ownBlock≠some gf
 ge:w0.heap.size≤gf∧w0.heap.size≤gb
structure Ca (w0 wr:World) (n gf:Nat) (u:Nat→Value) (vq:Value) (qs:List Nat):Prop where
 own:wr.ownsRow w0.heap.size 3 1 vq qs.length (CJ qs)
 sep:∀y,y<n→∀g,(u y).ownBlock=some g→vq.ownBlock≠some g
 fsep:vq.ownBlock≠some gf
section
variable {w0 wr w1:World} {n gf gb:Nat} {far:List Int} {u:Nat→Value} {l:Nat→List Nat} {vq:Value} {qs:List Nat}
theorem BI.keep (h:BI w0 wr n gf gb far u l) (z:Below wr.heap.size wr w1):BI w0 w1 n gf gb far u l:=
 ⟨h.below.trans (z.mono h.below.size),h.farB.below z,h.top.below z,fun y C=>Bt (h.own y C) z,h.sep,h.fsep,h.ge⟩
theorem Ca.keep (h:Ca w0 wr n gf u vq qs) (y:Below wr.heap.size wr w1):Ca w0 w1 n gf u vq qs:=⟨Bt h.own y,h.sep,h.fsep⟩
theorem BI.ne (h:BI w0 wr n gf gb far u l):gf≠gb:=h.farB.ne_ h.top (by decide)
theorem BI.setF (h:BI w0 wr n gf gb far u l) (s:Nat) (x:Int):BI w0 (wr.setCell ⟨gf,s,none⟩ (.int .i64 x)) n gf gb (far.set s x) u l:=by
 have hk:=(Ac.refl wr (fun k=>k=gf)).setCell (p:=⟨gf,s,none⟩) (fun _=>rfl) (.int .i64 x)
 refine⟨h.below.trans (hk.below h.below.size fun b E e=>by have:=h.ge.1; omega),?_,h.top.kept hk (fun e=>h.ne e.symm),fun y z=>hk.ownsRow (h.own y z) (fun g C e=>h.fsep y z (by rw [C,e])),h.sep,h.fsep,h.ge⟩
 have:=h.farB.set_ s (.int .i64 x)
 rwa [PU] at this
theorem Ca.setF (h:Ca w0 wr n gf u vq qs) (s:Nat) (x:Value):Ca w0 (wr.setCell ⟨gf,s,none⟩ x) n gf u vq qs:=
 ⟨((Ac.refl wr (fun k=>k=gf)).setCell (p:=⟨gf,s,none⟩) (fun _=>rfl) x).ownsRow h.own (fun _ y e=>h.fsep (by rw [y,e])),h.sep,h.fsep⟩
theorem BI.push (h:BI w0 wr n gf gb far u l) {y s:Nat} (M:y<n) {F:Value} (hk:Ac wr w1 (fun k=>(u y).ownBlock=some k)) (ho:w1.ownsRow w0.heap.size 3 1 F ((l y).length+1) (CJ (l y)++[.int .i64 (s:Int)])) (Z:BJ wr (u y) F):
  BI w0 (w1.setCell ⟨gb,y,none⟩ F) n gf gb far (up1 u y F) (up1 l y (l y++[s])):=by
 have a3:=h.own y M
 have hs:=h.below.size
 have O:=(Ac.refl w1 (fun k=>k=gb)).setCell (p:=⟨gb,y,none⟩) (fun _=>rfl) F
 have V:Blk w1 gb 24 (Bi n u):=h.top.kept hk (Aw a3 h.top (by decide))
 have a6:Blk w1 gf 3 (D2 far):=h.farB.kept hk (h.fsep y M)
 have a7:∀z,z<n→∀g,(u z).ownBlock=some g→g<wr.heap.size:=fun z E g C=>Cj (h.own z E) C
 have a2:∀z,z<n→z≠y→∀g,F.ownBlock=some g→(u z).ownBlock≠some g:=fun z E a8 g C e=>by
  rcases Z with h1 | ⟨g',h1,h2⟩
  ·exact a8 (h.sep z E y M g e (by rw [←h1]; exact C))
  ·rw [C] at h1
   have:=a7 z E g e
   injection h1 with h1
   omega
 refine⟨(h.below.trans (hk.below hs fun b hb e=>by have:=Bb a3 e; omega)).trans (O.below (by have:=hk.size; omega) fun b hb e=>by have:=h.ge.2; omega),a6.kept O h.ne,?_,fun z E=>?_,fun z E W a4 g C J=>?_,fun z E=>?_,h.ge⟩
 ·have h1:=V.set_ y F
  rw [F7] at h1
  exact h1
 ·by_cases e:z=y
  ·subst e
   have G:up1 u z F z=F:=by simp [up1]
   have I:up1 l z (l z++[s]) z=l z++[s]:=by simp [up1]
   rw [G,I,List.length_append,Id]
   exact AK O ho (fun g cs C U=>by subst C; exact U.ne_ V (by decide) rfl)
  ·have G:up1 u y F z=u z:=by simp [up1,e]
   have I:up1 l y (l y++[s]) z=l z:=by simp [up1,e]
   rw [G,I]
   exact AK O (hk.ownsRow (h.own z E) fun g C hx=>e (h.sep z E y M g C hx)) (fun g cs C U=>by subst C; exact U.ne_ V (by decide) rfl)
 ·unfold up1 at C J
  by_cases G:z=y <;> by_cases I:W=y
  ·exact G.trans I.symm
  ·rw [if_pos G] at C
   rw [if_neg I] at J
   exact absurd J (a2 W a4 I g C)
  ·rw [if_neg G] at C
   rw [if_pos I] at J
   exact absurd C (a2 z E G g J)
  ·rw [if_neg G] at C
   rw [if_neg I] at J
   exact h.sep z E W a4 g C J
 ·unfold up1
  split
  ·exact Z.ne h.farB.lt (h.fsep y M)
  ·exact h.fsep z E
theorem Ca.push (h:Ca w0 wr n gf u vq qs) (F:BI w0 wr n gf gb far u l) {y:Nat} (G:y<n) {E:Value} (hk:Ac wr w1 (fun k=>(u y).ownBlock=some k)) (M:BJ wr (u y) E):
  Ca w0 (w1.setCell ⟨gb,y,none⟩ E) n gf (up1 u y E) vq qs:=by
 have J:=(Ac.refl w1 (fun k=>k=gb)).setCell (p:=⟨gb,y,none⟩) (fun _=>rfl) E
 have O:Blk w1 gb 24 (Bi n u):=F.top.kept hk (Aw (F.own y G) F.top (by decide))
 refine⟨AK J (hk.ownsRow h.own fun g C U=>h.sep y G g U C) (fun g cs C I=>by subst C; exact I.ne_ O (by decide) rfl),fun z V g C=>?_,h.fsep⟩
 unfold up1 at C
 split at C
 ·intro e
  rcases M with h1 | ⟨W,h1,Z⟩
  ·exact h.sep y G g (by rw [←h1]; exact C) e
  ·rw [C] at h1
   injection h1 with h1
   have:=Cj h.own e
   omega
 ·exact h.sep z V g C
theorem Ca.join (h:Ca w0 wr n gf u vq qs) (z:BI w0 wr n gf gb far u l) {s:Nat} {F:Value} (hk:Ac wr w1 (fun k=>vq.ownBlock=some k)) (ho:w1.ownsRow w0.heap.size 3 1 F (qs.length+1) (CJ qs++[.int .i64 (s:Int)])) (G:BJ wr vq F):
  Ca w0 w1 n gf u F (qs++[s])∧BI w0 w1 n gf gb far u l:=by
 refine⟨⟨by rw [List.length_append,Id]; exact ho,fun y C g E e=>?_,G.ne z.farB.lt h.fsep⟩,?_⟩
 ·rcases G with h1 | ⟨I,h1,J⟩
  ·exact h.sep y C g E (by rw [←h1]; exact e)
  ·rw [e] at h1
   injection h1 with h1
   have:=Cj (z.own y C) E
   omega
 ·exact⟨z.below.trans (hk.below z.below.size fun b M e=>by have:=Bb h.own e; omega),z.farB.kept hk h.fsep,z.top.kept hk (Aw h.own z.top (by decide)),fun y C=>hk.ownsRow (z.own y C) (fun g E e=>h.sep y C g E e),z.sep,z.fsep,z.ge⟩
end
structure CA (w0 wr:World) (n gf:Nat) (u:Nat→Value) (A:Option Addr) (c:Nat) (qs:List Nat):Prop where
 row:qs≠[]→∃g off,A=some ⟨g,off,none⟩∧Co wr w0.heap.size g off qs.length c qs∧(∀y,y<n→(u y).ownBlock≠some g)∧g≠gf
section
variable {w0 wr w1:World} {n gf gb:Nat} {far:List Int} {u:Nat→Value} {l:Nat→List Nat} {A:Option Addr} {c:Nat} {qs:List Nat}
theorem Ca.cut (h:Ca w0 wr n gf u (.slice A qs.length c) qs):CA w0 wr n gf u A c qs:=by
 refine⟨fun F=>?_⟩
 have G:qs.length≠0:=fun e=>F (List.length_eq_zero_iff.1 e)
 rcases h.own.2 with⟨z,_⟩ | ⟨g,J,M,z,_⟩
 ·injection z with _ e _
  exact absurd e G
 ·injection z with E _ C
  subst E C
  have:=h.own
  exact⟨g,0,rfl,Co.of_own this,fun y I e=>h.sep y I g e rfl,fun e=>h.fsep (by rw [←e]; rfl)⟩
theorem CA.keep (h:CA w0 wr n gf u A c qs) (z:Below wr.heap.size wr w1):CA w0 w1 n gf u A c qs:=by
 refine⟨fun C=>?_⟩
 obtain⟨g,F,e,E,h1,y⟩:=h.row C
 exact⟨g,F,e,E.keep (Ac.of_below z (fun _=>False)) id,h1,y⟩
theorem CA.setF (h:CA w0 wr n gf u A c qs) (s:Nat) (x:Value):CA w0 (wr.setCell ⟨gf,s,none⟩ x) n gf u A c qs:=by
 refine⟨fun z=>?_⟩
 obtain⟨g,E,e,C,h1,y⟩:=h.row z
 exact⟨g,E,e,C.keep ((Ac.refl wr (fun k=>k=gf)).setCell (p:=⟨gf,s,none⟩) (fun _=>rfl) x) y,h1,y⟩
theorem CA.tail {q g y:Nat} (h:CA w0 wr n gf u (some ⟨g,y,none⟩) c (q::qs)):CA w0 wr n gf u (some ⟨g,y+1,none⟩) (c - 1) qs:=by
 refine⟨fun _=>?_⟩
 obtain⟨G,I,e,F,h1,E⟩:=h.row (by simp)
 injection e with e
 injection e with z C
 subst z C
 exact⟨g,y+1,rfl,F.tail,h1,E⟩
theorem CA.join {q g Z C G c':Nat} {s:Nat} (h:CA w0 wr n gf u (some ⟨g,Z,none⟩) c (q::qs)) (z:BI w0 wr n gf gb far u l) (W:Co w1 w0.heap.size C G (qs.length+1+1) c' (q::qs++[s])) (hk:Ac wr w1 (fun k=>k=g)) (F:C=g∨wr.heap.size≤C):
  CA w0 w1 n gf u (some ⟨C,G,none⟩) c' (q::qs++[s])∧BI w0 w1 n gf gb far u l:=by
 obtain⟨g2,a2,e,J,h1,I⟩:=h.row (by simp)
 injection e with e
 injection e with M O
 subst M O
 have U:w0.heap.size≤g:=J.1
 have ht:Blk wr g 3 _:=J.2.2.2.choose_spec.1
 refine⟨⟨fun _=>⟨C,G,rfl,by simpa using W,fun y E e=>?_,fun e=>?_⟩⟩,?_⟩
 ·rcases F with rfl | F
  ·exact h1 y E e
  ·have:=Cj (z.own y E) e; omega
 ·rcases F with rfl | F
  ·exact I e
  ·have:=z.farB.lt; omega
 ·exact⟨z.below.trans (hk.below z.below.size fun b U e=>by omega),z.farB.kept hk (fun e=>I e.symm),z.top.kept hk (z.top.ne_ ht (by decide)),fun y E=>hk.ownsRow (z.own y E) (fun C V e=>h1 y E (by rw [V,e])),z.sep,z.fsep,z.ge⟩
end
end Go.Proofs.YtfcfpoemojjglaaGreatDoor
namespace Go.Proofs.YtfcfpoemojjglaaGreatDoor
open Go.RowKit
set_option maxHeartbeats 16000000
set_option maxRecDepth 100000
theorem NF.row_at {w:World} {B:Nat} {a:NF} {F:Option Addr} (h:VSl R2 w B F a.nx) (Z:a.OK) {s:Nat} (hs:s<a.n):
  ∃b z A c,F=some ⟨b,z,none⟩∧b<B∧w.cell? ⟨b,z+s,none⟩=some (.slice A a.L c)∧
   ∀x,x<a.L→∃b2 C y c',A=some ⟨b2,C,none⟩∧b2<B∧w.cell? ⟨b2,C+x,none⟩=some (.slice y (a.to s x).length c')∧Sl w B 1 Ai y (a.to s x):=by
 obtain⟨r,E⟩:=An (l:=a.nx) (i:=s) hs
 obtain⟨b,z,v,h1,U,V,A,c,rfl,W⟩:=h.at E
 have a2:=Z.row r (List.mem_of_getElem? E)
 refine⟨b,z,A,c,h1,U,by rw [V,a2],fun x hx=>?_⟩
 obtain⟨l,G⟩:=An (l:=r) (i:=x) (by omega)
 obtain⟨b2,C,v2,I,J,M,y,c',rfl,O⟩:=W.at G
 have:a.to s x=l:=by unfold NF.to; rw [getD_some E,getD_some G]
 rw [this]
 exact⟨b2,C,y,c',I,J,M,O⟩
theorem NF.to_in {a:NF} (C:a.OK) {s x:Nat} (F:s<a.n) (I:x<a.L) {y:Int} (E:y∈a.to s x):inN a.n y=true:=by
 obtain⟨r,h⟩:=An (l:=a.nx) (i:=s) F
 have G:=C.row r (List.mem_of_getElem? h)
 obtain⟨l,z⟩:=An (l:=r) (i:=x) (by omega)
 have:a.to s x=l:=by unfold NF.to; rw [getD_some h,getD_some z]
 rw [this] at E
 exact C.to r (List.mem_of_getElem? h) l (List.mem_of_getElem? z) y E
theorem Nm {wI w1 w:World} {a:NF} {n s x gf gb m c':Nat} {O:Option Addr} {far:List Int} {uA:Nat→Value} {vq:Value} {qs:List Nat} (a2:a.OK) (W:m=(a.to s x).length) (ah:n=a.n) (cW:s<n) (a3:x<a.L)
  (hS:Sl wI wI.heap.size 1 Ai O (a.to s x)) (V:Below wI.heap.size wI w1) (U:(a.psS a.n).length≤3000000) (a9:BI w1 w n gf gb far uA (Bp (a.ps s x 0))) (aa:Ca w1 w n gf uA vq qs)
  {u0 u1 u2 u3 u5 u7 u8 u9 an cc ax ay az aA aB aC aD aE aG aH aJ aK aL aM aN aO aP aQ aS aT aU aV aW aX aY aZ b0 cd ce cf cg ch ci cj ck cm cn co cp cq cr b2 b4 b5 b6 b7 b8 b9 ba u64 bb bc bd be bf bh bi bj bk bl bm bn bo bp bq br bs bt bu bv bw bx bz bA bB bD bE bF bG bH bI bJ bK bL bM ao ap aq ar au av aw:Value} {Q:Exit→Act→World→Prop}
  (bU:∀(ct cv cw cx cy cz cA cB cD cE cF cG cH cJ cK cL:Value) (w':World) (E:Nat→Value),BI w1 w' n gf gb far E (Bp (a.ps s (x+1) 0))→Ca w1 w' n gf E vq qs→Q (.exit 4) ⟨List.toArray (u0::u1::u2::u3::(.slice (some ⟨gb,0,none⟩) n n)::u5::(.int .i64 (s:Int))::u7::u8::u9::an::ct::ax::ay::az::aA::aB::aC::aD::aE::aG::aH::aJ::aK::aL::aM::aN::aO::aP::aQ::aS::aT::
   aU::aV::aW::aX::aY::aZ::b0::(.slice O m c')::(.int .i64 (m:Int))::cv::cw::cx::cy::cz::cA::cB::cD::cE::cF::cG::cH::cJ::cK::cL::b2::b4::b5::b6::b7::b8::b9::ba::u64::
   bb::bc::bd::be::bf::bh::bi::bj::bk::bl::bm::bn::bo::bp::bq::br::bs::bt::bu::bv::bw::bx::bz::bA::bB::bD::bE::bF::bG::bH::bI::bJ::bK::bL::bM::ao::ap::
   aq::ar::au::av::aw::[]),[]⟩ w'):
  (Code.loop (CG Tryz.f113 2)).wp Tryz.prog Q ⟨List.toArray (u0::u1::u2::u3::(.slice (some ⟨gb,0,none⟩) n n)::u5::(.int .i64 (s:Int))::u7::u8::u9::an::cc::ax::ay::az::aA::aB::aC::aD::aE::aG::aH::aJ::aK::aL::aM::aN::aO::aP::aQ::aS::aT::
   aU::aV::aW::aX::aY::aZ::b0::(.slice O m c')::(.int .i64 (m:Int))::(.int .i64 0)::cd::ce::cf::cg::ch::ci::cj::ck::cm::cn::co::cp::cq::cr::b2::b4::b5::b6::b7::b8::b9::
   ba::u64::bb::bc::bd::be::bf::bh::bi::bj::bk::bl::bm::bn::bo::bp::bq::br::bs::bt::bu::bv::bw::bx::bz::bA::bB::bD::bE::bF::bG::bH::bI::bJ::bK::bL::bM::
   ao::ap::aq::ar::au::av::aw::[]),[]⟩ w:=by
 conv=>arg 2; arg 1; whnf
 have cU:m≤3000000:=by rw [W]; exact Nat.le_trans (a.to_len (by omega) a3) U
 have cV:=hide a2
 have af:=hide W
 have c4:=hide ah
 have bV:=hide hS
 have bW:=hide V
 have bR:=hide U
 have bP:=hide a9
 have bS:=hide aa
 have c7:=V.size
 have aj:s<a.n:=by omega
 have ca:=hide (fun y (C:y∈a.to s x)=>NF.to_in a2 aj a3 C)
 have c6:=hide (fun j=>a.ps_len (j:=j) aj a3)
 clear a2 W ah hS V U a9 aa
 go_loopw [41] (fun jj wz=>∃(j:Nat) (u:Nat→Value),jj=.int .i64 (j:Int)∧j≤m∧Hid (BI w1 wz n gf gb far u (Bp (a.ps s x j)))∧Hid (Ca w1 wz n gf u vq qs)) (fun jj _=>m - (intOf jj).toNat)
 case atStart=>exact⟨0,uA,rfl,Nat.zero_le _,bP,bS⟩
 case round=>
  obtain⟨j,E,rfl,hj,h,ab⟩:=hrel
  have bY:=hide (bW.out.trans (h.out.below.mono c7))
  by_cases c0:j<m
  ·obtain⟨z,M⟩:=An (l:=a.to s x) (i:=j) (by rw [←af.out]; exact c0)
   obtain⟨y,rfl,C⟩:=CT (ca.out z (List.mem_of_getElem? M))
   simp only [Int.toNat_natCast] at C
   rw [←c4.out] at C
   obtain⟨b3,o3,rfl,bX,ad⟩:=EZ bV.out M
   have cM:=(bY.out.cell (p:=⟨b3,o3+j,none⟩) bX).trans ad
   have c8:=hide (a.ps_step M)
   have F:=h.out.own y C
   obtain⟨Au,cu,G⟩:=AH F
   rw [G] at F
   have bZ:wr.cell? ⟨gb,y,none⟩=some (.slice Au (Bp (a.ps s x j) y).length cu):=by rw [h.out.top.cell,CV _ C,G]
   have c3:(Bp (a.ps s x j) y).length≤3000000:=Nat.le_trans (IX _ _) (Nat.le_trans (c6.out j) bR.out)
   obtain⟨k,hk⟩:∃k,k=(Bp (a.ps s x j) y).length:=⟨_,rfl⟩
   have c1:=hide hk
   rw [←hk] at F bZ c3 G
   have c9:=h.out.below.size
   have ak:=hide G
   have c5:=hide F
   clear M ad G hk F
   go_wp2_with (
    at_builtin
    refine BP (w:=wr) C9 rfl _ _ rfl w1.heap.size (.slice Au k cu) k _ rfl c5.out [.int .i64 (s:Int)] 1 rfl rfl (by simp [Value.oneCell']) (by omega) c9 ?_
    intro g bO w6 ai ae ag cR
    have I:Ac wr w6 (fun b=>(E y).ownBlock=some b):=by rw [ak.out]; exact ae
    have Z:BJ wr (E y) (.slice (some ⟨g,0,none⟩) (k+1) bO):=by rw [ak.out]; exact ag
    have bQ:=hide (h.out.push (s:=s) C I (by rw [←c1.out]; exact ai) Z)
    have bT:=hide (ab.out.push h.out C I Z)
    have J:Blk w6 gb 24 (Bi n E):=h.out.top.kept I (Aw (h.out.own y C) h.out.top (by decide))
    have cO:w6.cell? ⟨gb,y,none⟩=some (E y):=by rw [J.cell,CV _ C]
    have cQ:=J.frozen y
    have cT:=J.lt
    clear ai ae ag I Z J)
   refine⟨⟨j+1,_,by go_num,by omega,?_,bT⟩,by simp [intOf]; omega⟩
   have e:Bp (a.ps s x (j+1))=up1 (Bp (a.ps s x j)) y (Bp (a.ps s x j) y++[s]):=by
    funext z
    rw [c8.out,Ms]
    unfold up1
    by_cases e:z=y
    ·subst e; simp
    ·simp [e]
   show BI _ _ _ _ _ _ _ _
   rw [e]
   exact bQ.out
  ·obtain rfl:j=m:=by omega
   go_wp2_with fail
   refine bU _ _ _ _ _ _ _ _ _ _ _ _ _ _ _ _ _ E ?_ ab.out
   have:=h.out
   rw [NF.ps_row (by rw [←af.out]; exact Nat.le_refl _)] at this
   exact this
theorem Nq {wI w1 w:World} {a:NF} {n L s gf gb J:Nat} {C:Option Addr} {far:List Int} {h:Nat→Value} {vq:Value} {qs:List Nat} (a9:a.OK) (a8:n=a.n) (V:L=a.L) (cH:L≤8) (bO:s<n)
  (aa:∀x,x<a.L→∃b2 ad z c',C=some ⟨b2,ad,none⟩∧b2<wI.heap.size∧wI.cell? ⟨b2,ad+x,none⟩=some (.slice z (a.to s x).length c')∧Sl wI wI.heap.size 1 Ai z (a.to s x)) (F:Below wI.heap.size wI w1) (U:(a.psS a.n).length≤3000000)
  (M:BI w1 w n gf gb far h (Bp (a.ps s 0 0))) (Z:Ca w1 w n gf h vq qs)
  {u0 u1 u2 u3 u5 u7 u8 u9 ag bR ao ap aq ar au av aw ax az aA aB aC aD aE aF aG aH aJ aL aM aN bS bT bU bV bW bX bY bZ c0 c1 c3 c4 c5 c6 c7 c8 c9 ca cb cc cd aP aQ aR aS aT aU aV u64 aW aX aY aZ b0 b3 b4 b5 b6 b7 b8 b9 ba bb bc bd be bf bg bh bi bj bk bl bm bn bo bp bq br bs bt bu bv bw ah ai aj ak al am an:Value} {Q:Exit→Act→World→Prop}
  (a4:∀(x9 cf cg ch ci cj ck cm cn co cp cq ct cu cv cw cx cy cz cA cB cD cE cF:Value) (w':World) (y:Nat→Value),BI w1 w' n gf gb far y (Bp (a.ps (s+1) 0 0))→Ca w1 w' n gf y vq qs→Q (.exit 2) ⟨List.toArray (u0::u1::u2::u3::(.slice (some ⟨gb,0,none⟩) n n)::u5::(.int .i64 (s:Int))::u7::u8::x9::ag::cf::ao::ap::aq::ar::au::av::aw::ax::az::aA::aB::aC::aD::aE::aF::aG::aH::aJ::aL::aM::
   aN::(.slice C L J)::(.int .i64 (L:Int))::cg::ch::ci::cj::ck::cm::cn::co::cp::cq::ct::cu::cv::cw::cx::cy::cz::cA::cB::cD::cE::cF::aP::aQ::aR::aS::aT::aU::aV::u64::
   aW::aX::aY::aZ::b0::b3::b4::b5::b6::b7::b8::b9::ba::bb::bc::bd::be::bf::bg::bh::bi::bj::bk::bl::bm::bn::bo::bp::bq::br::bs::bt::bu::bv::bw::ah::ai::
   aj::ak::al::am::an::[]),[]⟩ w'):
  (Code.loop (CG Tryz.f113 1)).wp Tryz.prog Q ⟨List.toArray (u0::u1::u2::u3::(.slice (some ⟨gb,0,none⟩) n n)::u5::(.int .i64 (s:Int))::u7::u8::u9::ag::bR::ao::ap::aq::ar::au::av::aw::ax::az::aA::aB::aC::aD::aE::aF::aG::aH::aJ::aL::aM::
   aN::(.slice C L J)::(.int .i64 (L:Int))::(.int .i64 0)::bS::bT::bU::bV::bW::bX::bY::bZ::c0::c1::c3::c4::c5::c6::c7::c8::c9::ca::cb::cc::cd::aP::aQ::aR::aS::aT::aU::
   aV::u64::aW::aX::aY::aZ::b0::b3::b4::b5::b6::b7::b8::b9::ba::bb::bc::bd::be::bf::bg::bh::bi::bj::bk::bl::bm::bn::bo::bp::bq::br::bs::bt::bu::bv::bw::
   ah::ai::aj::ak::al::am::an::[]),[]⟩ w:=by
 conv=>arg 2; arg 1; whnf
 have bL:=hide a9
 have bK:=hide a8
 have W:=hide V
 have bM:=hide aa
 have a6:=hide F
 have bB:=hide U
 have bA:=hide M
 have bD:=hide Z
 have bN:=F.size
 have bE:=hide a4
 clear a9 a8 V aa F U M Z a4
 go_loopw [35] (fun I wz=>∃(x:Nat) (u:Nat→Value),I=.int .i64 (x:Int)∧x≤L∧Hid (BI w1 wz n gf gb far u (Bp (a.ps s x 0)))∧Hid (Ca w1 wz n gf u vq qs)) (fun I _=>L - (intOf I).toNat)
 case atStart=>exact⟨0,h,rfl,Nat.zero_le _,bA,bD⟩
 case round=>
  obtain⟨x,h,rfl,hx,E,a2⟩:=hrel
  have bH:=hide (a6.out.trans (E.out.below.mono bN))
  by_cases bP:x<L
  ·have ab:x<a.L:=by rw [←W.out]; exact bP
   obtain⟨b2,o2,z,c',rfl,bG,a7,a5⟩:=bM.out x ab
   have bI:=(bH.out.cell (p:=⟨b2,o2+x,none⟩) bG).trans a7
   have bF:=hide a5
   obtain⟨m,G⟩:∃m,m=(a.to s x).length:=⟨_,rfl⟩
   have bJ:=hide G
   rw [←G] at bI
   clear a5 a7 G
   go_wp2_with fail
   refine Nm bL.out bJ.out bK.out bO ab bF.out a6.out bB.out E.out a2.out ?_
   iterate 16 (intro _)
   intro w' y O a3
   have bz:=hide O
   have bC:=hide a3
   clear O a3
   go_wp2_with fail
   exact⟨⟨x+1,y,by go_num,by omega,bz,bC⟩,by simp [intOf]; omega⟩
  ·obtain rfl:x=L:=by omega
   go_wp2_with fail
   refine bE.out _ _ _ _ _ _ _ _ _ _ _ _ _ _ _ _ _ _ _ _ _ _ _ _ _ h ?_ a2.out
   have:=E.out
   rw [W.out,NF.ps_state] at this
   exact this
theorem Nn {w1 w:World} {a:NF} {n gf gb hd C m m0 h c cu:Nat} {A Au:Option Addr} {far:List Int} {u:Nat→Value} {t:List Nat} (ay:n=a.n) (hn:n≤200000) (cf:hd<n) (dC:C≤200000) (ax:m=(Bp (a.psS a.n) hd).length) (dE:m≤3000000) (hu:u hd=.slice Au m cu)
  (ci:h≤200000) (aB:h=t.length+1) (am:BI w1 w n gf gb far u (Bp (a.psS a.n))) (ap:CA w1 w n gf u A c (hd::t)) (an:a.BfsJ far hd t C m0 0)
  {u0 u1 u2 u4 u6 u7 u8 u9 aM aO aP cD aQ aR aS aT aU aV aX aY aZ b0 b1 b2 b3 b4 b5 b6 b7 b8 b9 ba bb bc bd be bf bg bi bj bk bl bm bn bo bp bq br bs bt bu bv bw bx bz bA bB bC bE bF bG bH u64 bI bJ bK bL bM bO bP bQ bR bS bT bU bV bW bX cE cF cG cH cJ cK cL cM cO cQ cR cS cT cU cV cW cX cw cx cy cz cA cB aN:Value} {Q:Exit→Act→World→Prop}
  (au:∀(d4 d5 d6 d7 d8 d9 da db dc de df dg dh di dj dk dl dm dn cY cZ d0 d1 d2 d3:Value) (w':World) (far:List Int) (t:List Nat) (h c g aJ:Nat),h=t.length→h+1≤c→h≤200000→BI w1 w' n gf gb far u (Bp (a.psS a.n))→CA w1 w' n gf u (some ⟨g,aJ+1,none⟩) (c - 1) t→a.Bfs far t→t.length+und far=m0→Q (.exit 8) ⟨List.toArray (u0::u1::u2::(.slice (some ⟨gf,0,none⟩) n n)::u4::(.slice (some ⟨g,aJ,none⟩) (h+1) c)::u6::u7::u8::u9::aM::aO::aP::d4::aQ::aR::aS::aT::aU::aV::aX::aY::aZ::b0::b1::b2::b3::b4::b5::
   b6::b7::b8::b9::ba::bb::bc::bd::be::bf::bg::bi::bj::bk::bl::bm::bn::bo::bp::bq::br::bs::bt::bu::bv::bw::bx::bz::bA::bB::bC::bE::bF::bG::bH::u64::bI::
   bJ::bK::bL::bM::bO::bP::bQ::bR::bS::bT::bU::bV::bW::bX::(.slice Au m cu)::(.int .i64 (m:Int))::d5::d6::d7::d8::d9::da::db::dc::de::df::dg::dh::di::dj::dk::dl::dm::
   dn::cY::cZ::d0::d1::d2::d3::aN::[]),[]⟩ w'):
  (Code.loop (CG Tryz.f113 4)).wp Tryz.prog Q ⟨List.toArray (u0::u1::u2::(.slice (some ⟨gf,0,none⟩) n n)::u4::(.slice A h c)::u6::u7::u8::u9::aM::aO::aP::cD::aQ::aR::aS::aT::aU::aV::aX::aY::aZ::b0::b1::b2::b3::b4::b5::b6::b7::b8::
   b9::ba::bb::bc::bd::be::bf::bg::bi::bj::bk::bl::bm::bn::bo::bp::bq::br::bs::bt::bu::bv::bw::bx::bz::bA::bB::bC::bE::bF::bG::bH::u64::bI::bJ::bK::bL::
   bM::bO::bP::bQ::bR::bS::bT::bU::bV::bW::bX::(.slice Au m cu)::(.int .i64 (m:Int))::(.int .i64 0)::cE::cF::cG::cH::cJ::cK::cL::cM::cO::cQ::cR::cS::cT::cU::cV::cW::cX::
   cw::cx::cy::cz::cA::cB::aN::[]),[]⟩ w:=by
 conv=>arg 2; arg 1; whnf
 have ce:hd<a.n:=by omega
 have az:=hide ay
 have ab:=hide ax
 have cp:=hide hu
 have cj:=hide aB
 have c7:=hide am
 have cb:=hide ap
 have ca:=hide an
 have cd:=hide au
 clear ay ax hu aB am ap an au
 go_loopw [5,82] (fun qq jj wz=>∃(far:List Int) (t:List Nat) (h c j:Nat) (A:Option Addr),qq=.slice A h c∧h≤200000∧Hid (h=t.length+1)∧jj=.int .i64 (j:Int)∧j≤m∧Hid (BI w1 wz n gf gb far u (Bp (a.psS a.n)))∧Hid (CA w1 wz n gf u A c (hd::t))∧Hid (a.BfsJ far hd t C m0 j)) (fun _ jj _=>m - (intOf jj).toNat)
 case atStart=>exact⟨far,t,h,c,0,_,rfl,ci,cj,rfl,Nat.zero_le _,c7,cb,ca⟩
 case round=>
  obtain⟨J,M,I,O,j,A5,rfl,ck,y,rfl,hj,E,a3,F⟩:=hrel
  obtain⟨g5,o5,rfl,U,dK,dA⟩:=a3.out.row (by simp)
  by_cases cg:j<m
  ·obtain⟨r,G⟩:=An (l:=Bp (a.psS a.n) hd) (i:=j) (by rw [←ab.out]; exact cg)
   have a5:=E.out.own hd cf
   rw [cp.out,←ab.out] at a5
   obtain⟨gu,dr,e,dy⟩:=C7 a5 (AX (f:=Value.int .i64) (AX (f:=fun x:Nat=>(x:Int)) G))
   injection e with e1 _ e3
   subst e1 e3
   have ad:r<a.n:=(NF.mem_back.1 (List.mem_of_getElem? G)).1
   obtain⟨z,hz⟩:=An (l:=J) (i:=r) (by rw [F.out.bfs.len]; exact ad)
   have dv:wr.cell? ⟨gf,r,none⟩=some (.int .i64 z):=by rw [E.out.farB.cell,FP hz]
   have V:J.getD r (-1)=z:=getD_some hz
   have dz:=E.out.farB.frozen r
   have dD:=E.out.farB.lt
   have dJ:r<n:=by rw [az.out]; exact ad
   have dI:=hide G
   rcases F.out.bfs.ge r ad with ae | ⟨kz,ae,_⟩
   ·have cr:z= -1:=by omega
    subst cr
    have dL:=hide V
    have dx:wr.cell? ⟨g5,o5,none⟩=some (.int .i64 (hd:Int)):=U.cell (j:=0) rfl
    obtain⟨zh,af⟩:=An (l:=J) (i:=hd) (by rw [F.out.bfs.len]; exact ce)
    have ag:zh=(C:Int):=by have:=F.out.hk; rw [getD_some af] at this; exact this
    subst ag
    have dw:wr.cell? ⟨gf,hd,none⟩=some (.int .i64 (C:Int)):=by rw [E.out.farB.cell,FP af]
    obtain⟨w8,cq⟩:∃w8,wr.setCell ⟨gf,r,none⟩ (.int .i64 ((C:Int)+1))=w8:=⟨_,rfl⟩
    have Z:=E.out.setF r ((C:Int)+1)
    have a4:=a3.out.setF (gf:=gf) r (.int .i64 ((C:Int)+1))
    rw [cq] at Z a4
    have c8:=hide Z
    have cc:=hide a4
    obtain⟨g8,o8,e8,aD,-,-⟩:=a4.row (by simp)
    injection e8 with e8
    injection e8 with c4 c6
    subst c4 c6
    have cn:=hide (show Co w8 w1.heap.size g5 o5 I O (hd::M) from by have:=y.out; rw [this]; exact aD)
    have co:=Z.below.size
    have a2:=hide (F.out.found G V)
    have dG:0<I:=by have:=y.out; omega
    clear G hz V ae af Z a4 aD U a5
    go_wp2_with (
     at_builtin
     refine Mc (w:=w8) (x:=r) (base:=w1.heap.size) C9 rfl _ _ rfl g5 o5 I O (hd::M) rfl cn.out 1 rfl (by omega) co ?_
     intro g9 o9 c9 w9 aE aw av ch
     have ao:=hide (cc.out.join c8.out (s:=r) (by have:=y.out; rw [←this]; exact aE) aw av)
     clear aE aw av ch)
    refine⟨⟨J.set r ((C:Int)+1),M++[r],I+1,c9,j+1,_,rfl,?_,?_,by go_num,by omega,ao.out.2,ao.out.1,a2⟩,by simp [intOf]; omega⟩
    ·have:=a2.out.bfs.size
     have:=y.out
     have:=az.out
     simp only [List.length_cons,List.length_append,List.length_nil] at*
     omega
    ·show _=_
     rw [y.out]; simp
   ·have ag:z=(kz:Int):=by omega
    subst ag
    have a2:=hide (F.out.skip G (by rw [V]; omega))
    clear G hz V ae U a5
    go_wp2_with fail
    exact⟨⟨J,M,I,O,j+1,_,rfl,ck,y,by go_num,by omega,E,a3,a2⟩,by simp [intOf]; omega⟩
  ·obtain rfl:j=m:=by omega
   have ak:=hide (F.out.done (by rw [←ab.out]; exact Nat.le_refl _))
   have aq:=hide a3.out.tail
   have aF:=hide F.out.size
   obtain⟨W,rfl⟩:∃W,I=W+1:=⟨I - 1,by have:=y.out; omega⟩
   have aA:Hid (W=M.length):=by have:=y.out; show _=_; omega
   have cm:W+1≤O:=by have:=U.2.2.1; have:=y.out; simp at*; omega
   clear U
   have aC:=aA.out
   have al:=ak.out
   have ar:=aq.out
   have aG:=aF.out
   have dH:=hide (And.intro aC (And.intro al (And.intro ar aG)))
   clear aC al ar aG
   go_wp2_with fail
   exact cd.out _ _ _ _ _ _ _ _ _ _ _ _ _ _ _ _ _ _ _ _ _ _ _ _ _ _ J M W O _ _ aA.out cm (by omega) E.out aq.out ak.out aF.out
theorem Np {w1 w:World} {a:NF} {s gf gb z c:Nat} {A:Option Addr} {far:List Int} {u:Nat→Value} {qs:List Nat} (al:s=a.n) (hn:s≤200000) (hE:(a.psS a.n).length≤3000000) (a3:z≤200000) (ap:z=qs.length)
  (V:BI w1 w s gf gb far u (Bp (a.psS a.n))) (ad:CA w1 w s gf u A c qs) (a5:a.Bfs far qs)
  {u0 u1 u2 u6 u7 u8 u9 aA aC aD cb aE aF aG aH aJ aK aM aN aO aP aQ aR aS aT aU aV aW aX aY aZ b0 b1 b2 b3 b4 b5 b6 b7 b8 b9 ba bb bc bd be bf bg bh bi bj bk bl bm bn bo bp br bs bt bu u64 bv bw bx bz bA cc cd ce cf cg ch ci cj ck cm cn co cp cq cr ct cv cw cx cy cz cA cB cD cE cF cG cH cJ cK c4 c6 c7 c8 c9 ca aB:Value} {Q:Exit→Act→World→Prop}
  (ag:∀(x5 cT cV cW cX cY cZ d0 d1 d2 d3 d4 d5 d6 d7 d8 d9 da db dc de df dg dh di dj dk dl dm dn dp dq cL cM cO cQ cR cS:Value) (w':World) (far:List Int),Below w1.heap.size w1 w'→Blk w' gf 3 (D2 far)→far.length=s→a.Far far→Q (.exit 6) ⟨List.toArray (u0::u1::u2::(.slice (some ⟨gf,0,none⟩) s s)::(.slice (some ⟨gb,0,none⟩) s s)::x5::u6::u7::u8::u9::aA::aC::aD::cT::aE::aF::aG::aH::aJ::aK::aM::aN::aO::aP::aQ::aR::aS::aT::aU::aV::
   aW::aX::aY::aZ::b0::b1::b2::b3::b4::b5::b6::b7::b8::b9::ba::bb::bc::bd::be::bf::bg::bh::bi::bj::bk::bl::bm::bn::bo::bp::br::bs::bt::bu::u64::bv::bw::
   bx::bz::bA::cV::cW::cX::cY::cZ::d0::d1::d2::d3::d4::d5::d6::d7::d8::d9::da::db::dc::de::df::dg::dh::di::dj::dk::dl::dm::dn::dp::dq::cL::cM::cO::cQ::
   cR::cS::aB::[]),[]⟩ w'):
  (Code.loop (CG Tryz.f113 3)).wp Tryz.prog Q ⟨List.toArray (u0::u1::u2::(.slice (some ⟨gf,0,none⟩) s s)::(.slice (some ⟨gb,0,none⟩) s s)::(.slice A z c)::u6::u7::u8::u9::aA::aC::aD::cb::aE::aF::aG::aH::aJ::aK::aM::aN::aO::aP::aQ::aR::aS::aT::
   aU::aV::aW::aX::aY::aZ::b0::b1::b2::b3::b4::b5::b6::b7::b8::b9::ba::bb::bc::bd::be::bf::bg::bh::bi::bj::bk::bl::bm::bn::bo::bp::br::bs::bt::bu::u64::
   bv::bw::bx::bz::bA::cc::cd::ce::cf::cg::ch::ci::cj::ck::cm::cn::co::cp::cq::cr::ct::cv::cw::cx::cy::cz::cA::cB::cD::cE::cF::cG::cH::cJ::cK::c4::c6::
   c7::c8::c9::ca::aB::[]),[]⟩ w:=by
 conv=>arg 2; arg 1; whnf
 have bJ:=hide (fun y (hy:y<s)=>AH (V.own y hy))
 have O:=hide al
 have bK:=hide hE
 have bX:=hide ap
 have hD:=hide V
 have bH:=hide ad
 have bG:=hide a5
 have bM:=hide ag
 clear al hE ap V ad a5 ag
 go_loopg [5] (z+und far) (fun k qq wz=>∃(far:List Int) (qs:List Nat) (z c:Nat) (A:Option Addr),qq=.slice A z c∧z≤200000∧Hid (z=qs.length)∧Hid (BI w1 wz s gf gb far u (Bp (a.psS a.n)))∧Hid (CA w1 wz s gf u A c qs)∧Hid (a.Bfs far qs)∧Hid (k=z+und far))
 case atStart=>exact⟨far,qs,z,c,A,rfl,a3,bX,hD,bH,bG,rfl⟩
 case round=>
  obtain⟨far,qs,z,c,A,rfl,a3,ar,J,ae,C,bP⟩:=hrel
  rcases qs with _ | ⟨hd,t⟩
  ·have hz:z=0:=ar.out
   subst hz
   go_wp2_with fail
   exact bM.out _ _ _ _ _ _ _ _ _ _ _ _ _ _ _ _ _ _ _ _ _ _ _ _ _ _ _ _ _ _ _ _ _ _ _ _ _ _ _ far J.out.below J.out.farB (by rw [C.out.len,O.out]) C.out.isFar
  ·obtain⟨g,c1,rfl,aq,dw,dt⟩:=ae.out.row (by simp)
   have dr:wr.cell? ⟨g,c1,none⟩=some (.int .i64 (hd:Int)):=aq.cell (j:=0) rfl
   obtain⟨Z,ai⟩:=C.out.q hd List.mem_cons_self
   have a2:hd<s:=by rw [O.out]; exact Z
   obtain⟨F,aj,ah⟩:∃F:Nat,far.getD hd (-1)=(F:Int)∧a.Dist hd F:=by
    rcases C.out.ge hd Z with h | h
    ·exact absurd h ai
    ·exact h
   have bQ:F≤200000:=by have:=ah.lt Z; have:=O.out; omega
   obtain⟨Au,cu,U⟩:=bJ.out hd a2
   have am:z=t.length+1:=ar.out
   have bO:wr.cell? ⟨gb,hd,none⟩=some (.slice Au (Bp (a.psS a.n) hd).length cu):=by rw [J.out.top.cell,CV _ a2,U]
   obtain⟨m,M⟩:∃m,m=(Bp (a.psS a.n) hd).length:=⟨_,rfl⟩
   have bS:=hide M
   rw [←M] at bO U
   have bY:=hide U
   have bR:m≤3000000:=by rw [M]; exact Nat.le_trans (IX _ _) bK.out
   have ab:=hide (show a.BfsJ far hd t F (t.length+und far) 0 from⟨C.out,aj,fun q hq=>by simp at hq,rfl⟩)
   have W:Hid (gk=t.length+und far+1):=by have:=bP.out; show _=_; omega
   have bW:=hide am
   obtain⟨m0,ak⟩:∃m0,m0=t.length+und far:=⟨_,rfl⟩
   rw [←ak] at ab W
   have du:0<z:=by omega
   clear M U aj ah ai aq ak am
   go_wp2_with fail
   refine Nn O.out hn a2 bQ bS.out bR bY.out a3 bW.out J.out ae.out ab.out ?_
   iterate 25 (intro _)
   intro w' I G q6 c5 g5 o5 an dv ao a8 af a6 au
   have E:=hide an
   have a9:=hide a8
   have bL:=hide af
   have a7:=hide a6
   have av:=hide au
   clear an a8 af a6 au
   by_cases bN:c5=1
   ·subst bN
    have bU:G=[]:=List.length_eq_zero_iff.1 (by have:=E.out; omega)
    obtain rfl:q6=0:=by omega
    go_wp2_with fail
    go_roundg (G.length+und I)
    case measure=>have:=W.out; have:=av.out; omega
    case rel=>exact⟨I,G,0,0,_,rfl,ao,E,a9,⟨fun h=>absurd bU h⟩,a7,by show _=_; rw [E.out]⟩
   ·go_wp2_with fail
    go_roundg (G.length+und I)
    case measure=>have:=W.out; have:=av.out; omega
    case rel=>exact⟨I,G,q6,c5 - 1,_,rfl,ao,E,a9,bL,a7,by show _=_; rw [E.out]⟩
theorem Nr {w:World} {v:Value} {a:NF} (h:Cn w w.heap.size v a) (ak:a.OK) (hn:a.n≤200000) (hL:a.L≤8) (hE:(a.psS a.n).length≤3000000):
  Calls Tryz.prog 113 #[v] w (Ret fun r w'=>Below w.heap.size w w'∧∃far A c,r=.slice A far.length c∧a.Far far∧Sl w' w'.heap.size 1 Ai A far):=by
 obtain⟨A1,c1,A2,c2,A3,c3,rfl,h1,h2,h3,h4⟩:=h
 have ae:=ak.acc
 have aP:a.nx.length=a.n:=rfl
 obtain⟨n,a4⟩:∃n,n=a.n:=⟨_,rfl⟩
 obtain⟨L,aa⟩:∃L,L=a.L:=⟨_,rfl⟩
 have J:=hide a4
 have ay:=hide aa
 rw [aP,ae]
 rw [←a4] at hn ⊢
 rw [←aa] at hL ⊢
 obtain⟨w1,c5,af,G,bx⟩:=Ae w #[.int .i64 (L:Int),.slice A1 n c1,.slice A2 a.start.length c2,.slice A3 n c3] 88
 obtain⟨gf,w2,bZ,aA,a3,bw⟩:=Et w1 n (by omega)
 obtain⟨gb,w3,c0,aB,ah,bX⟩:=Ra w2 n (by omega)
 have am:=af.size
 have bD:=a3.size
 have ag:=a3.trans (ah.mono bD)
 have bf:=hide (show BI w1 w3 n gf gb (a.far0 0) (fun _=>.slice none 0 0) (Bp (a.ps 0 0 0)) from by
  have e0:a.ps 0 0 0=[]:=by simp [NF.ps,NF.psS,NF.psR]
  have e1:a.far0 0=List.replicate n 0:=by
   apply List.ext_getElem?
   intro q
   rcases Nat.lt_or_ge q a.n with hq | hq
   ·have e3:q<n:=by omega
    rw [NF.far0_at hq,List.getElem?_replicate]
    simp [e3]
   ·rw [List.getElem?_eq_none (by rw [NF.far0_len]; exact hq),List.getElem?_eq_none (by simp; omega)]
  rw [e0,e1]
  refine⟨ag,?_,?_,fun y _=>Cb,fun y _ y' _ g E=>by simp [Value.ownBlock] at E,fun y _ E=>by simp [Value.ownBlock] at E,⟨bw,by omega⟩⟩
  ·rw [←PT]; exact aA.below ah
  ·rw [←Fo]; exact aB)
 have bj:=hide (show Ca w1 w3 n gf (fun _=>.slice none 0 0) (.slice none 0 0) (a.que0 0) from⟨Cb,fun y _ g E=>by simp [Value.ownBlock] at E,fun E=>by simp [Value.ownBlock] at E⟩)
 have bQ:=(G.below a3).cell
 have bP:=G.cell
 have bR:=(G.below ag).cell
 have a8:=hide G
 have a2:=hide af
 have b9:=hide h1
 have bc:=hide h3
 have aQ:=hide ak
 have au:=hide hE
 have aj:=G.lt
 have bm:=hide ae
 clear h1 h2 h3 h4 a4 aa ak hE bx aA aB a3 ah ag G ae aP af
 go_enter Tryz.func113,Tryz.ntmps113
 go_wp2_with fail
 go_loopw [5,25] (fun qq ii wr=>∃(s:Nat) (u:Nat→Value),ii=.int .i64 (s:Int)∧s≤n∧Hid (BI w1 wr n gf gb (a.far0 s) u (Bp (a.ps s 0 0)))∧Hid (Ca w1 wr n gf u qq (a.que0 s))) (fun _ ii _=>n - (intOf ii).toNat)
 case atStart=>exact⟨0,_,rfl,Nat.zero_le _,bf,bj⟩
 case round=>
  obtain⟨s,u,rfl,hs,z,hQ⟩:=hrel
  have aq:=a8.out.at aj z.out.below
  have bV:=aq.cell
  have bq:=hide (a2.out.trans (z.out.below.mono am))
  obtain⟨Aq,cq,rfl⟩:=AH hQ.out.own
  by_cases aM:s<n
  ·have U:s<a.n:=by rw [←J.out]; exact aM
   obtain⟨bt,ot,Ar,cr,rfl,br,aE,aU⟩:=NF.row_at b9.out aQ.out U
   have bu:=(bq.out.cell (p:=⟨bt,ot+s,none⟩) br).trans aE
   rw [←ay.out] at bu
   have bC:=hide aU
   have bs:wr.cell? ⟨gf,s,none⟩=some (.int .i64 0):=by
    rw [z.out.farB.cell,FP (NF.far0_at U),if_neg (by omega)]
   have bv:=z.out.farB.frozen s
   have bz:=z.out.farB.lt
   obtain⟨w7,bF⟩:∃w7,wr.setCell ⟨gf,s,none⟩ (.int .i64 (-1))=w7:=⟨_,rfl⟩
   have V:=z.out.setF s (-1)
   have ad:=hQ.out.setF (gf:=gf) s (.int .i64 (-1))
   rw [bF] at V ad
   have bS:=(a8.out.at aj V.below).cell
   have bg:=hide V
   have bk:=hide ad
   clear V ad aU aE aq
   go_wp2_with fail
   refine Nq (vq:=.slice Aq (a.que0 s).length cq) (qs:=a.que0 s) aQ.out J.out ay.out hL aM bC.out a2.out au.out bg.out bk.out ?_
   iterate 24 (intro _)
   intro wz uA a9 az
   have I:=hide a9
   have ab:=hide az
   have bn:=hide (a2.out.trans (a9.below.mono am))
   clear a9 az
   obtain⟨b,ai⟩:=An (l:=a.acc) (i:=s) (by rw [bm.out]; exact U)
   obtain⟨ba,oa,rfl,bp,aD⟩:=Fy bc.out ai
   have bT:=(bn.out.cell (p:=⟨ba,oa+s,none⟩) bp).trans aD
   have bU:=(a8.out.at aj I.out.below).cell
   have Z:Hid (a.acc.getD s false=b):=getD_some ai
   have bv:=I.out.farB.frozen s
   have bz:=I.out.farB.lt
   have bs:wz.cell? ⟨gf,s,none⟩=some (.int .i64 (-1)):=by
    rw [I.out.farB.cell]
    exact FP (by rw [List.getElem?_set_self (by rw [NF.far0_len]; exact U)])
   have aF:=hide (NF.far0_step U)
   have aT:=hide (a.que0_step (s:=s))
   have bB:(a.que0 s).length≤200000:=by
    unfold NF.que0
    have:=List.length_filter_le (fun q=>a.acc.getD q false) (List.range s)
    rw [List.length_range] at this
    omega
   obtain⟨C,F⟩:∃C,C=(a.que0 s).length:=⟨_,rfl⟩
   have O:=hide F
   rw [←F] at bB ab ⊢
   clear ai aD F
   cases b
   ·go_wp2_with fail
    refine⟨⟨s+1,uA,by go_num,by omega,?_,?_⟩,by simp [intOf]; omega⟩
    ·have:=I.out
     have h0:=aF.out
     rw [Z.out] at h0
     rw [show(a.far0 s).set s (-1)=a.far0 (s+1) from h0] at this
     exact this
    ·have h0:=aT.out
     rw [Z.out] at h0
     show Ca _ _ _ _ _ _ _
     rw [show a.que0 (s+1)=a.que0 s from h0]
     exact ab.out
   ·obtain⟨w8,bG⟩:∃w8,wz.setCell ⟨gf,s,none⟩ (.int .i64 0)=w8:=⟨_,rfl⟩
    have M:=I.out.setF s 0
    have W:=ab.out.setF (gf:=gf) s (.int .i64 0)
    rw [bG] at M W
    rw [List.set_set] at M
    have bE:=M.below.size
    have bh:=hide M
    have bl:=hide W
    have bA:=hide (show w8.ownsRow w1.heap.size 3 1 (.slice Aq C cq) C (CJ (a.que0 s)) from by have:=W.own; rw [←O.out] at this; exact this)
    clear M W
    go_wp2_with (
     at_builtin
     refine BP (w:=w8) C9 rfl _ _ rfl w1.heap.size (.slice Aq C cq) C _ rfl bA.out [.int .i64 (s:Int)] 1 rfl rfl (by simp [Value.oneCell']) (by omega) bE ?_
     intro g bM w9 aR aL aN bW
     have hJ:=hide (bl.out.join (s:=s) bh.out aL (by rw [←O.out]; exact aR) aN)
     clear aR aL aN)
    refine⟨⟨s+1,uA,by go_num,by omega,?_,?_⟩,by simp [intOf]; omega⟩
    ·have:=hJ.out.2
     have h0:=aF.out
     rw [Z.out] at h0
     rw [show(a.far0 s).set s 0=a.far0 (s+1) from h0] at this
     exact this
    ·have h0:=aT.out
     rw [Z.out] at h0
     show Ca _ _ _ _ _ _ _
     rw [show a.que0 (s+1)=a.que0 s++[s] from h0]
     exact hJ.out.1
  ·obtain rfl:s=n:=by omega
   have aS:a.ps s 0 0=a.psS a.n:=by rw [←J.out]; simp [NF.ps,NF.psR]
   rw [aS] at z
   have be:=hide hQ.out.cut
   have ap:=hide (show a.Bfs (a.far0 s) (a.que0 s) from by rw [J.out]; exact a.bfs0)
   obtain⟨C,F⟩:∃C,C=(a.que0 s).length:=⟨_,rfl⟩
   have O:=hide F
   rw [←F]
   have bO:=hide (fun y (hy:y<s)=>AH (z.out.own y hy))
   clear F aS hQ
   go_wp2_with fail
   refine Np J.out hn au.out (by have:=ap.out.size; have:=O.out; have:=J.out; omega) O.out z.out be.out ap.out ?_
   iterate 38 (intro _)
   intro w' far aC aG aJ hF
   have aH:=hide aG
   have aK:=hide aJ
   have bi:=hide hF
   have bo:=hide (a2.out.trans (aC.mono am))
   clear aG aJ hF aC
   go_wp2_with fail
   go_ret
   refine⟨bo.out,far,some ⟨gf,0,none⟩,s,by rw [aK.out]; rfl,bi.out,by have:=aK.out; omega,fun a4=>⟨gf,0,rfl,aH.out.lt,fun k d hd j hj=>?_⟩⟩
   have:j=0:=by omega
   subst this
   rw [aH.out.cell]
   simpa [Ai] using FP hd
end Go.Proofs.YtfcfpoemojjglaaGreatDoor
