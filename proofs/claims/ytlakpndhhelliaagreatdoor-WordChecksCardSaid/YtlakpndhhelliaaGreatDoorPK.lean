/-
  Part PK of a proof.
-/
import Derived.Deep.LoopGhost
import Derived.Test.YtlakpndhhelliaaGreatDoorPA
import Derived.Test.YtlakpndhhelliaaGreatDoorPJ
import Derived.Test.YtlakpndhhelliaaGreatDoorPB
set_option maxHeartbeats 16000000
set_option maxRecDepth 100000
set_option linter.unusedVariables false
set_option linter.unusedSimpArgs false
namespace Go.Proofs.YtlakpndhhelliaaGreatDoor
open Go.RowKit
set_option maxHeartbeats 4000000
def D3:Code→List Code
 | .loop c=>c::D3 c
 | .seq a b=>D3 a++D3 b
 | .block _ c=>D3 c
 | .scope c=>D3 c
 | .cond _ a b=>D3 a++D3 b
 | _=>[]
def Eb (f:Func) (k:Nat):Code:=match f.body with
 | some c=>(D3 c).getD k .skip
 | none=>.skip
def Ct (l:List Nat):List Value:=(Aj l).map (Value.int .i64)
def Dy (l:List Int):Array Value:=(l.map (Value.int .i64)).toArray
theorem Fc {l:List Int} {i:Nat} {x:Int} (h:l[i]?=some x):(Dy l)[i]?=some (.int .i64 x):=by
 unfold Dy
 rw [List.getElem?_toArray]
 exact Bq h
theorem Ov (l:List Int) (i:Nat) (x:Int):(Dy l).setIfInBounds i (.int .i64 x)=Dy (l.set i x):=by
 unfold Dy
 apply Array.ext'
 simp [List.map_set]
theorem P0 (n:Nat):Array.replicate n (Value.int .i64 0)=Dy (List.replicate n 0):=by
 unfold Dy
 apply Array.ext'
 simp
theorem Hb (l:List Nat) (x:Nat):Ct (l++[x])=Ct l++[.int .i64 (x:Int)]:=by
 unfold Ct
 rw [FE,List.map_append]
 rfl
structure BB (w0 wr:World) (n gf gb:Nat) (far:List Int) (u:Nat→Value) (l:Nat→List Nat):Prop where
 below:Below w0.heap.size w0 wr
 farB:Blk wr gf 3 (Dy far)
 top:Blk wr gb 24 (Bf n u)
 own:∀y,y<n→wr.ownsRow w0.heap.size 3 1 (u y) (l y).length (Ct (l y))
 sep:∀y,y<n→∀y',y'<n→∀g,(u y).ownBlock=some g→(u y').ownBlock=some g→y=y'
 fsep:∀y,y<n→(u y).ownBlock≠some gf
 ge:w0.heap.size≤gf∧w0.heap.size≤gb
structure BT (w0 wr:World) (n gf:Nat) (u:Nat→Value) (vq:Value) (qs:List Nat):Prop where
 own:wr.ownsRow w0.heap.size 3 1 vq qs.length (Ct qs)
 sep:∀y,y<n→∀g,(u y).ownBlock=some g→vq.ownBlock≠some g
 fsep:vq.ownBlock≠some gf
section
variable {w0 wr w1:World} {n gf gb:Nat} {far:List Int} {u:Nat→Value} {l:Nat→List Nat} {vq:Value} {qs:List Nat}
theorem BB.keep (h:BB w0 wr n gf gb far u l) (f:Below wr.heap.size wr w1):BB w0 w1 n gf gb far u l:=
 ⟨h.below.trans (f.mono h.below.size),h.farB.below f,h.top.below f,fun y z=>B5 (h.own y z) f,h.sep,h.fsep,h.ge⟩
theorem BT.keep (h:BT w0 wr n gf u vq qs) (f:Below wr.heap.size wr w1):BT w0 w1 n gf u vq qs:=⟨B5 h.own f,h.sep,h.fsep⟩
theorem BB.ne (h:BB w0 wr n gf gb far u l):gf≠gb:=h.farB.ne_ h.top (by decide)
theorem BB.setF (h:BB w0 wr n gf gb far u l) (s:Nat) (x:Int):BB w0 (wr.setCell ⟨gf,s,none⟩ (.int .i64 x)) n gf gb (far.set s x) u l:=by
 have hk:=(Ae.refl wr (fun k=>k=gf)).setCell (p:=⟨gf,s,none⟩) (fun _=>rfl) (.int .i64 x)
 refine⟨h.below.trans (hk.below h.below.size fun b C e=>by have:=h.ge.1; omega),?_,h.top.kept hk (fun e=>h.ne e.symm),fun y f=>hk.ownsRow (h.own y f) (fun g z e=>h.fsep y f (by rw [z,e])),h.sep,h.fsep,h.ge⟩
 have:=h.farB.set_ s (.int .i64 x)
 rwa [Ov] at this
theorem BT.setF (h:BT w0 wr n gf u vq qs) (s:Nat) (x:Value):BT w0 (wr.setCell ⟨gf,s,none⟩ x) n gf u vq qs:=
 ⟨((Ae.refl wr (fun k=>k=gf)).setCell (p:=⟨gf,s,none⟩) (fun _=>rfl) x).ownsRow h.own (fun _ f e=>h.fsep (by rw [f,e])),h.sep,h.fsep⟩
theorem BB.push (h:BB w0 wr n gf gb far u l) {y s:Nat} (M:y<n) {E:Value} (hk:Ae wr w1 (fun k=>(u y).ownBlock=some k)) (ho:w1.ownsRow w0.heap.size 3 1 E ((l y).length+1) (Ct (l y)++[.int .i64 (s:Int)])) (Z:BX wr (u y) E):
  BB w0 (w1.setCell ⟨gb,y,none⟩ E) n gf gb far (up1 u y E) (up1 l y (l y++[s])):=by
 have a2:=h.own y M
 have hs:=h.below.size
 have O:=(Ae.refl w1 (fun k=>k=gb)).setCell (p:=⟨gb,y,none⟩) (fun _=>rfl) E
 have U:Blk w1 gb 24 (Bf n u):=h.top.kept hk (AK a2 h.top (by decide))
 have a7:Blk w1 gf 3 (Dy far):=h.farB.kept hk (h.fsep y M)
 have a8:∀z,z<n→∀g,(u z).ownBlock=some g→g<wr.heap.size:=fun z C g f=>Cm (h.own z C) f
 have a3:∀z,z<n→z≠y→∀g,E.ownBlock=some g→(u z).ownBlock≠some g:=fun z C a9 g f e=>by
  rcases Z with I | ⟨g',I,h2⟩
  ·exact a9 (h.sep z C y M g e (by rw [←I]; exact f))
  ·rw [f] at I
   have:=a8 z C g e
   injection I with I
   omega
 refine⟨(h.below.trans (hk.below hs fun b hb e=>by have:=Bm a2 e; omega)).trans (O.below (by have:=hk.size; omega) fun b hb e=>by have:=h.ge.2; omega),a7.kept O h.ne,?_,fun z C=>?_,fun z C V a4 g f J=>?_,fun z C=>?_,h.ge⟩
 ·have I:=U.set_ y E
  rw [Ff] at I
  exact I
 ·by_cases e:z=y
  ·subst e
   have F:up1 u z E z=E:=by simp [up1]
   have G:up1 l z (l z++[s]) z=l z++[s]:=by simp [up1]
   rw [F,G,List.length_append,Hb]
   exact AX O ho (fun g cs f W=>by subst f; exact W.ne_ U (by decide) rfl)
  ·have F:up1 u y E z=u z:=by simp [up1,e]
   have G:up1 l y (l y++[s]) z=l z:=by simp [up1,e]
   rw [F,G]
   exact AX O (hk.ownsRow (h.own z C) fun g f hx=>e (h.sep z C y M g f hx)) (fun g cs f W=>by subst f; exact W.ne_ U (by decide) rfl)
 ·unfold up1 at f J
  by_cases F:z=y <;> by_cases G:V=y
  ·exact F.trans G.symm
  ·rw [if_pos F] at f
   rw [if_neg G] at J
   exact absurd J (a3 V a4 G g f)
  ·rw [if_neg F] at f
   rw [if_pos G] at J
   exact absurd f (a3 z C F g J)
  ·rw [if_neg F] at f
   rw [if_neg G] at J
   exact h.sep z C V a4 g f J
 ·unfold up1
  split
  ·exact Z.ne h.farB.lt (h.fsep y M)
  ·exact h.fsep z C
theorem BT.push (h:BT w0 wr n gf u vq qs) (F:BB w0 wr n gf gb far u l) {y:Nat} (G:y<n) {E:Value} (hk:Ae wr w1 (fun k=>(u y).ownBlock=some k)) (I:BX wr (u y) E):
  BT w0 (w1.setCell ⟨gb,y,none⟩ E) n gf (up1 u y E) vq qs:=by
 have J:=(Ae.refl w1 (fun k=>k=gb)).setCell (p:=⟨gb,y,none⟩) (fun _=>rfl) E
 have M:Blk w1 gb 24 (Bf n u):=F.top.kept hk (AK (F.own y G) F.top (by decide))
 refine⟨AX J (hk.ownsRow h.own fun g f O=>h.sep y G g O f) (fun g cs f U=>by subst f; exact U.ne_ M (by decide) rfl),fun z V g f=>?_,h.fsep⟩
 unfold up1 at f
 split at f
 ·intro e
  rcases I with C | ⟨W,C,Z⟩
  ·exact h.sep y G g (by rw [←C]; exact f) e
  ·rw [f] at C
   injection C with C
   have:=Cm h.own e
   omega
 ·exact h.sep z V g f
theorem BT.join (h:BT w0 wr n gf u vq qs) (f:BB w0 wr n gf gb far u l) {s:Nat} {F:Value} (hk:Ae wr w1 (fun k=>vq.ownBlock=some k)) (I:w1.ownsRow w0.heap.size 3 1 F (qs.length+1) (Ct qs++[.int .i64 (s:Int)])) (G:BX wr vq F):
  BT w0 w1 n gf u F (qs++[s])∧BB w0 w1 n gf gb far u l:=by
 refine⟨⟨by rw [List.length_append,Hb]; exact I,fun y z g E e=>?_,G.ne f.farB.lt h.fsep⟩,?_⟩
 ·rcases G with C | ⟨J,C,M⟩
  ·exact h.sep y z g E (by rw [←C]; exact e)
  ·rw [e] at C
   injection C with C
   have:=Cm (f.own y z) E
   omega
 ·exact⟨f.below.trans (hk.below f.below.size fun b O e=>by have:=Bm h.own e; omega),f.farB.kept hk h.fsep,f.top.kept hk (AK h.own f.top (by decide)),fun y z=>hk.ownsRow (f.own y z) (fun g E e=>h.sep y z g E e),f.sep,f.fsep,f.ge⟩
end
structure Cs (w0 wr:World) (n gf:Nat) (u:Nat→Value) (A:Option Addr) (c:Nat) (qs:List Nat):Prop where
 row:qs≠[]→∃g off,A=some ⟨g,off,none⟩∧B9 wr w0.heap.size g off qs.length c qs∧(∀y,y<n→(u y).ownBlock≠some g)∧g≠gf
section
variable {w0 wr w1:World} {n gf gb:Nat} {far:List Int} {u:Nat→Value} {l:Nat→List Nat} {A:Option Addr} {c:Nat} {qs:List Nat}
theorem BT.cut (h:BT w0 wr n gf u (.slice A qs.length c) qs):Cs w0 wr n gf u A c qs:=by
 refine⟨fun z=>?_⟩
 have C:qs.length≠0:=fun e=>z (List.length_eq_zero_iff.1 e)
 rcases h.own.2 with⟨f,_⟩ | ⟨g,I,J,f,_⟩
 ·injection f with _ e _
  exact absurd e C
 ·injection f with E _ F
  subst E F
  have:=h.own
  exact⟨g,0,rfl,B9.of_own this,fun y G e=>h.sep y G g e rfl,fun e=>h.fsep (by rw [←e]; rfl)⟩
theorem Cs.keep (h:Cs w0 wr n gf u A c qs) (f:Below wr.heap.size wr w1):Cs w0 w1 n gf u A c qs:=by
 refine⟨fun y=>?_⟩
 obtain⟨g,z,e,C,E,F⟩:=h.row y
 exact⟨g,z,e,C.keep (Ae.of_below f (fun _=>False)) id,E,F⟩
theorem Cs.setF (h:Cs w0 wr n gf u A c qs) (s:Nat) (x:Value):Cs w0 (wr.setCell ⟨gf,s,none⟩ x) n gf u A c qs:=by
 refine⟨fun y=>?_⟩
 obtain⟨g,z,e,C,E,f⟩:=h.row y
 exact⟨g,z,e,C.keep ((Ae.refl wr (fun k=>k=gf)).setCell (p:=⟨gf,s,none⟩) (fun _=>rfl) x) f,E,f⟩
theorem Cs.tail {q g f:Nat} (h:Cs w0 wr n gf u (some ⟨g,f,none⟩) c (q::qs)):Cs w0 wr n gf u (some ⟨g,f+1,none⟩) (c - 1) qs:=by
 refine⟨fun _=>?_⟩
 obtain⟨G,I,e,y,z,C⟩:=h.row (by simp)
 injection e with e
 injection e with E F
 subst E F
 exact⟨g,f+1,rfl,y.tail,z,C⟩
theorem Cs.join {q g O z F G:Nat} {s:Nat} (h:Cs w0 wr n gf u (some ⟨g,O,none⟩) c (q::qs)) (f:BB w0 wr n gf gb far u l) (U:B9 w1 w0.heap.size z F (qs.length+1+1) G (q::qs++[s])) (hk:Ae wr w1 (fun k=>k=g)) (E:z=g∨wr.heap.size≤z):
  Cs w0 w1 n gf u (some ⟨z,F,none⟩) G (q::qs++[s])∧BB w0 w1 n gf gb far u l:=by
 obtain⟨g2,a3,e,I,J,M⟩:=h.row (by simp)
 injection e with e
 injection e with V W
 subst V W
 have Z:w0.heap.size≤g:=I.1
 have ht:Blk wr g 3 _:=I.2.2.2.choose_spec.1
 refine⟨⟨fun _=>⟨z,F,rfl,by simpa using U,fun y C e=>?_,fun e=>?_⟩⟩,?_⟩
 ·rcases E with rfl | E
  ·exact J y C e
  ·have:=Cm (f.own y C) e; omega
 ·rcases E with rfl | E
  ·exact M e
  ·have:=f.farB.lt; omega
 ·exact⟨f.below.trans (hk.below f.below.size fun b Z e=>by omega),f.farB.kept hk (fun e=>M e.symm),f.top.kept hk (f.top.ne_ ht (by decide)),fun y C=>hk.ownsRow (f.own y C) (fun z a2 e=>J y C (by rw [a2,e])),f.sep,f.fsep,f.ge⟩
end
end Go.Proofs.YtlakpndhhelliaaGreatDoor
namespace Go.Proofs.YtlakpndhhelliaaGreatDoor
open Go.RowKit
set_option maxHeartbeats 16000000
set_option maxRecDepth 100000
theorem NF.row_at {w:World} {B:Nat} {a:NF} {F:Option Addr} (h:VSl R2 w B F a.nx) (I:a.OK) {s:Nat} (J:s<a.n):
  ∃b f A c,F=some ⟨b,f,none⟩∧b<B∧w.cell? ⟨b,f+s,none⟩=some (.slice A a.L c)∧
   ∀x,x<a.L→∃b2 y z C,A=some ⟨b2,y,none⟩∧b2<B∧w.cell? ⟨b2,y+x,none⟩=some (.slice z (a.to s x).length C)∧Sl w B 1 Ai z (a.to s x):=by
 obtain⟨r,E⟩:=Ay (l:=a.nx) (i:=s) J
 obtain⟨b,f,v,M,O,U,A,c,rfl,V⟩:=h.at E
 have W:=I.row r (List.mem_of_getElem? E)
 refine⟨b,f,A,c,M,O,by rw [U,W],fun x hx=>?_⟩
 obtain⟨l,G⟩:=Ay (l:=r) (i:=x) (by omega)
 obtain⟨b2,y,v2,Z,e2,e3,z,C,rfl,e4⟩:=V.at G
 have:a.to s x=l:=by unfold NF.to; rw [getD_some E,getD_some G]
 rw [this]
 exact⟨b2,y,z,C,Z,e2,e3,e4⟩
theorem NF.to_in {a:NF} (h:a.OK) {s x:Nat} (E:s<a.n) (F:x<a.L) {y:Int} (z:y∈a.to s x):inN a.n y=true:=by
 obtain⟨r,f⟩:=Ay (l:=a.nx) (i:=s) E
 have G:=h.row r (List.mem_of_getElem? f)
 obtain⟨l,C⟩:=Ay (l:=r) (i:=x) (by omega)
 have:a.to s x=l:=by unfold NF.to; rw [getD_some f,getD_some C]
 rw [this] at z
 exact h.to r (List.mem_of_getElem? f) l (List.mem_of_getElem? C) y z
theorem NC {wI w1 w:World} {a:NF} {n s x gf gb m c':Nat} {M:Option Addr} {far:List Int} {O:Nat→Value} {vq:Value} {qs:List Nat} (U:a.OK) (V:m=(a.to s x).length) (a7:n=a.n) (cM:s<n) (W:x<a.L)
  (hS:Sl wI wI.heap.size 1 Ai M (a.to s x)) (Z:Below wI.heap.size wI w1) (hE:(a.psS a.n).length≤3000000) (a8:BB w1 w n gf gb far O (Bk (a.ps s x 0))) (a9:BT w1 w n gf O vq qs)
  {u0 u1 u2 u3 u5 u7 u8 u9 ai bO aj ak al am an ao ap aq ar au av aw ax ay az aA aB aC aD aE aF aG aH aJ aK aL aM bP bQ bR bS bT bU bV bW bX bY bZ c0 c1 c3 aN aO aP aQ aR aS aT aU u64 aV aW aX aY aZ b0 b1 b2 b4 b5 b6 b7 b8 b9 ba bb bc bd be bf bg bh bi bj bk bl bm bn bo bp bq br bs bt bu bv bw bx bz bA bB bC:Value} {Q:Exit→Act→World→Prop}
  (c4:∀(c5 c6 c7 c8 c9 ca cb cc cd ce cf cg ch ci cj ck:Value) (w':World) (C:Nat→Value),BB w1 w' n gf gb far C (Bk (a.ps s (x+1) 0))→BT w1 w' n gf C vq qs→Q (.exit 4) ⟨List.toArray (u0::u1::u2::u3::(.slice (some ⟨gb,0,none⟩) n n)::u5::(.int .i64 (s:Int))::u7::u8::u9::ai::c5::aj::ak::al::am::an::ao::ap::aq::ar::au::av::aw::ax::ay::az::aA::aB::aC::aD::aE::
   aF::aG::aH::aJ::aK::aL::aM::(.slice M m c')::(.int .i64 (m:Int))::c6::c7::c8::c9::ca::cb::cc::cd::ce::cf::cg::ch::ci::cj::ck::aN::aO::aP::aQ::aR::aS::aT::aU::u64::
   aV::aW::aX::aY::aZ::b0::b1::b2::b4::b5::b6::b7::b8::b9::ba::bb::bc::bd::be::bf::bg::bh::bi::bj::bk::bl::bm::bn::bo::bp::bq::br::bs::bt::bu::bv::bw::
   bx::bz::bA::bB::bC::[]),[]⟩ w'):
  (Code.loop (Eb Tryz.f40 2)).wp Tryz.prog Q ⟨List.toArray (u0::u1::u2::u3::(.slice (some ⟨gb,0,none⟩) n n)::u5::(.int .i64 (s:Int))::u7::u8::u9::ai::bO::aj::ak::al::am::an::ao::ap::aq::ar::au::av::aw::ax::ay::az::aA::aB::aC::aD::aE::
   aF::aG::aH::aJ::aK::aL::aM::(.slice M m c')::(.int .i64 (m:Int))::(.int .i64 0)::bP::bQ::bR::bS::bT::bU::bV::bW::bX::bY::bZ::c0::c1::c3::aN::aO::aP::aQ::aR::aS::aT::
   aU::u64::aV::aW::aX::aY::aZ::b0::b1::b2::b4::b5::b6::b7::b8::b9::ba::bb::bc::bd::be::bf::bg::bh::bi::bj::bk::bl::bm::bn::bo::bp::bq::br::bs::bt::bu::
   bv::bw::bx::bz::bA::bB::bC::[]),[]⟩ w:=by
 conv=>arg 2; arg 1; whnf
 have cO:m≤3000000:=by rw [V]; exact Nat.le_trans (a.to_len (by omega) W) hE
 have cQ:=hide U
 have bD:=hide V
 have cm:=hide a7
 have cn:=hide hS
 have co:=hide Z
 have cp:=hide hE
 have cq:=hide a8
 have cr:=hide a9
 have ct:=Z.size
 have bE:s<a.n:=by omega
 have cv:=hide (fun y (f:y∈a.to s x)=>NF.to_in U bE W f)
 have cw:=hide (fun j=>a.ps_len (j:=j) bE W)
 clear U V a7 hS Z hE a8 a9
 go_loopw [41] (fun jj wz=>∃(j:Nat) (u:Nat→Value),jj=.int .i64 (j:Int)∧j≤m∧Hid (BB w1 wz n gf gb far u (Bk (a.ps s x j)))∧Hid (BT w1 wz n gf u vq qs)) (fun jj _=>m - (intOf jj).toNat)
 case atStart=>exact⟨0,O,rfl,Nat.zero_le _,cq,cr⟩
 case round=>
  obtain⟨j,C,rfl,hj,h,bG⟩:=hrel
  have cx:=hide (co.out.trans (h.out.below.mono ct))
  by_cases cy:j<m
  ·obtain⟨z,G⟩:=Ay (l:=a.to s x) (i:=j) (by rw [←bD.out]; exact cy)
   obtain⟨y,rfl,f⟩:=Dc (cv.out z (List.mem_of_getElem? G))
   simp only [Int.toNat_natCast] at f
   rw [←cm.out] at f
   obtain⟨b3,o3,rfl,cA,bH⟩:=Fo cn.out G
   have cS:=(cx.out.cell (p:=⟨b3,o3+j,none⟩) cA).trans bH
   have cB:=hide (a.ps_step G)
   have E:=h.out.own y f
   obtain⟨Au,cu,F⟩:=AV E
   rw [F] at E
   have cD:wr.cell? ⟨gb,y,none⟩=some (.slice Au (Bk (a.ps s x j) y).length cu):=by rw [h.out.top.cell,CP _ f,F]
   have cE:(Bk (a.ps s x j) y).length≤3000000:=Nat.le_trans (JS _ _) (Nat.le_trans (cw.out j) cp.out)
   obtain⟨k,hk⟩:∃k,k=(Bk (a.ps s x j) y).length:=⟨_,rfl⟩
   have cF:=hide hk
   rw [←hk] at E cD cE F
   have cG:=h.out.below.size
   have bK:=hide F
   have cH:=hide E
   clear G bH F hk E
   go_wp2_with (
    at_builtin
    refine CO (w:=wr) DS rfl _ _ rfl w1.heap.size (.slice Au k cu) k _ rfl cH.out [.int .i64 (s:Int)] 1 rfl rfl (by simp [Value.oneCell']) (by omega) cG ?_
    intro g cJ w6 bL bM bN cT
    have I:Ae wr w6 (fun b=>(C y).ownBlock=some b):=by rw [bK.out]; exact bM
    have a5:BX wr (C y) (.slice (some ⟨g,0,none⟩) (k+1) cJ):=by rw [bK.out]; exact bN
    have cK:=hide (h.out.push (s:=s) f I (by rw [←cF.out]; exact bL) a5)
    have cL:=hide (bG.out.push h.out f I a5)
    have J:Blk w6 gb 24 (Bf n C):=h.out.top.kept I (AK (h.out.own y f) h.out.top (by decide))
    have cU:w6.cell? ⟨gb,y,none⟩=some (C y):=by rw [J.cell,CP _ f]
    have cV:=J.frozen y
    have cW:=J.lt
    clear bL bM bN I a5 J)
   refine⟨⟨j+1,_,by go_num,by omega,?_,cL⟩,by simp [intOf]; omega⟩
   have e:Bk (a.ps s x (j+1))=up1 (Bk (a.ps s x j)) y (Bk (a.ps s x j) y++[s]):=by
    funext z
    rw [cB.out,Mx]
    unfold up1
    by_cases e:z=y
    ·subst e; simp
    ·simp [e]
   show BB _ _ _ _ _ _ _ _
   rw [e]
   exact cK.out
  ·obtain rfl:j=m:=by omega
   go_wp2_with fail
   refine c4 _ _ _ _ _ _ _ _ _ _ _ _ _ _ _ _ _ C ?_ bG.out
   have:=h.out
   rw [NF.ps_row (by rw [←bD.out]; exact Nat.le_refl _)] at this
   exact this
theorem KX {wI w1 w:World} {a:NF} {n L s gf gb I:Nat} {y:Option Addr} {far:List Int} {f:Nat→Value} {vq:Value} {qs:List Nat} (J:a.OK) (M:n=a.n) (O:L=a.L) (cH:L≤8) (bz:s<n)
  (U:∀x,x<a.L→∃b2 V z W,y=some ⟨b2,V,none⟩∧b2<wI.heap.size∧wI.cell? ⟨b2,V+x,none⟩=some (.slice z (a.to s x).length W)∧Sl wI wI.heap.size 1 Ai z (a.to s x)) (C:Below wI.heap.size wI w1) (Z:(a.psS a.n).length≤3000000)
  (a2:BB w1 w n gf gb far f (Bk (a.ps s 0 0))) (a3:BT w1 w n gf f vq qs)
  {u0 u1 u2 u3 u5 u7 u8 u9 aa bB ab ad ae af ag ah ai aj ak al am an ao ap aq ar au av aw ax ay bC bD bE bF bG bH bI bJ bK bL bM bN bO bP bQ bR bS bT bU bV bW az aA aB aC aD aE aF u64 aG aH aJ aK aL aM aN aO aP aQ aR aS aT aU aV aW aX aY aZ b0 b1 b3 b4 b5 b6 b7 b8 b9 ba bb bc bd be bf bg bh bi bj bk bl bm bn:Value} {Q:Exit→Act→World→Prop}
  (bo:∀(x9 bY bZ c0 c1 c3 c4 c5 c6 c7 c8 c9 ca cb cc cd ce cf cg ch ci cj ck cm:Value) (w':World) (h:Nat→Value),BB w1 w' n gf gb far h (Bk (a.ps (s+1) 0 0))→BT w1 w' n gf h vq qs→Q (.exit 2) ⟨List.toArray (u0::u1::u2::u3::(.slice (some ⟨gb,0,none⟩) n n)::u5::(.int .i64 (s:Int))::u7::u8::x9::aa::bY::ab::ad::ae::af::ag::ah::ai::aj::ak::al::am::an::ao::ap::aq::ar::au::av::aw::ax::
   ay::(.slice y L I)::(.int .i64 (L:Int))::bZ::c0::c1::c3::c4::c5::c6::c7::c8::c9::ca::cb::cc::cd::ce::cf::cg::ch::ci::cj::ck::cm::az::aA::aB::aC::aD::aE::aF::u64::
   aG::aH::aJ::aK::aL::aM::aN::aO::aP::aQ::aR::aS::aT::aU::aV::aW::aX::aY::aZ::b0::b1::b3::b4::b5::b6::b7::b8::b9::ba::bb::bc::bd::be::bf::bg::bh::bi::
   bj::bk::bl::bm::bn::[]),[]⟩ w'):
  (Code.loop (Eb Tryz.f40 1)).wp Tryz.prog Q ⟨List.toArray (u0::u1::u2::u3::(.slice (some ⟨gb,0,none⟩) n n)::u5::(.int .i64 (s:Int))::u7::u8::u9::aa::bB::ab::ad::ae::af::ag::ah::ai::aj::ak::al::am::an::ao::ap::aq::ar::au::av::aw::ax::
   ay::(.slice y L I)::(.int .i64 (L:Int))::(.int .i64 0)::bC::bD::bE::bF::bG::bH::bI::bJ::bK::bL::bM::bN::bO::bP::bQ::bR::bS::bT::bU::bV::bW::az::aA::aB::aC::aD::aE::
   aF::u64::aG::aH::aJ::aK::aL::aM::aN::aO::aP::aQ::aR::aS::aT::aU::aV::aW::aX::aY::aZ::b0::b1::b3::b4::b5::b6::b7::b8::b9::ba::bb::bc::bd::be::bf::bg::
   bh::bi::bj::bk::bl::bm::bn::[]),[]⟩ w:=by
 conv=>arg 2; arg 1; whnf
 have cn:=hide J
 have co:=hide M
 have bp:=hide O
 have cp:=hide U
 have bq:=hide C
 have cq:=hide Z
 have ct:=hide a2
 have cu:=hide a3
 have cv:=C.size
 have cw:=hide bo
 clear J M O U C Z a2 a3 bo
 go_loopw [35] (fun E wz=>∃(x:Nat) (u:Nat→Value),E=.int .i64 (x:Int)∧x≤L∧Hid (BB w1 wz n gf gb far u (Bk (a.ps s x 0)))∧Hid (BT w1 wz n gf u vq qs)) (fun E _=>L - (intOf E).toNat)
 case atStart=>exact⟨0,f,rfl,Nat.zero_le _,ct,cu⟩
 case round=>
  obtain⟨x,f,rfl,hx,F,bs⟩:=hrel
  have cx:=hide (bq.out.trans (F.out.below.mono cv))
  by_cases cy:x<L
  ·have bt:x<a.L:=by rw [←bp.out]; exact cy
   obtain⟨b2,o2,z,W,rfl,cA,bu,bv⟩:=cp.out x bt
   have cB:=(cx.out.cell (p:=⟨b2,o2+x,none⟩) cA).trans bu
   have cD:=hide bv
   obtain⟨m,G⟩:∃m,m=(a.to s x).length:=⟨_,rfl⟩
   have cE:=hide G
   rw [←G] at cB
   clear bv bu G
   go_wp2_with fail
   refine NC cn.out cE.out co.out bz bt cD.out bq.out cq.out F.out bs.out ?_
   iterate 16 (intro _)
   intro w' h bw bx
   have cF:=hide bw
   have cG:=hide bx
   clear bw bx
   go_wp2_with fail
   exact⟨⟨x+1,h,by go_num,by omega,cF,cG⟩,by simp [intOf]; omega⟩
  ·obtain rfl:x=L:=by omega
   go_wp2_with fail
   refine cw.out _ _ _ _ _ _ _ _ _ _ _ _ _ _ _ _ _ _ _ _ _ _ _ _ _ f ?_ bs.out
   have:=F.out
   rw [bp.out,NF.ps_state] at this
   exact this
theorem QO {w1 w:World} {a:NF} {n gf gb hd y m m0 h c cu:Nat} {A Au:Option Addr} {far:List Int} {u:Nat→Value} {t:List Nat} (ak:n=a.n) (hn:n≤200000) (c0:hd<n) (dr:y≤200000) (al:m=(Bk (a.psS a.n) hd).length) (dt:m≤3000000) (hu:u hd=.slice Au m cu)
  (c1:h≤200000) (an:h=t.length+1) (ao:BB w1 w n gf gb far u (Bk (a.psS a.n))) (ap:Cs w1 w n gf u A c (hd::t)) (aq:a.BfsJ far hd t y m0 0)
  {u0 u1 u2 u4 u6 u7 u8 u9 aA aB aC c3 aD aE aF aG aH aJ aK aL aM aN aO aP aQ aR aS aT aU aV aW aX aY aZ b0 b1 b2 b3 b4 b5 b6 b7 b8 b9 ba bb bc bd be bf bg bh bi bj bk bl bm bn bo bp bq br u64 bs bt bu bv bw bx bz bA bB bC bD bE bF bG bH c4 c6 c7 c8 ca cb cc cd ce cf cg ch ci cj ck cm cn co cp cq cr ct cv bI:Value} {Q:Exit→Act→World→Prop}
  (bJ:∀(cw cx cy cz cA cB cD cE cF cG cH cJ cK cL cM cO cQ cR cS cT cU cV cW cX cY:Value) (w':World) (far:List Int) (t:List Nat) (h c g bK:Nat),h=t.length→h+1≤c→h≤200000→BB w1 w' n gf gb far u (Bk (a.psS a.n))→Cs w1 w' n gf u (some ⟨g,bK+1,none⟩) (c - 1) t→a.Bfs far t→t.length+und far=m0→Q (.exit 8) ⟨List.toArray (u0::u1::u2::(.slice (some ⟨gf,0,none⟩) n n)::u4::(.slice (some ⟨g,bK,none⟩) (h+1) c)::u6::u7::u8::u9::aA::aB::aC::cw::aD::aE::aF::aG::aH::aJ::aK::aL::aM::aN::aO::aP::aQ::aR::aS::
   aT::aU::aV::aW::aX::aY::aZ::b0::b1::b2::b3::b4::b5::b6::b7::b8::b9::ba::bb::bc::bd::be::bf::bg::bh::bi::bj::bk::bl::bm::bn::bo::bp::bq::br::u64::bs::
   bt::bu::bv::bw::bx::bz::bA::bB::bC::bD::bE::bF::bG::bH::(.slice Au m cu)::(.int .i64 (m:Int))::cx::cy::cz::cA::cB::cD::cE::cF::cG::cH::cJ::cK::cL::cM::cO::cQ::cR::
   cS::cT::cU::cV::cW::cX::cY::bI::[]),[]⟩ w'):
  (Code.loop (Eb Tryz.f40 4)).wp Tryz.prog Q ⟨List.toArray (u0::u1::u2::(.slice (some ⟨gf,0,none⟩) n n)::u4::(.slice A h c)::u6::u7::u8::u9::aA::aB::aC::c3::aD::aE::aF::aG::aH::aJ::aK::aL::aM::aN::aO::aP::aQ::aR::aS::aT::aU::aV::
   aW::aX::aY::aZ::b0::b1::b2::b3::b4::b5::b6::b7::b8::b9::ba::bb::bc::bd::be::bf::bg::bh::bi::bj::bk::bl::bm::bn::bo::bp::bq::br::u64::bs::bt::bu::bv::
   bw::bx::bz::bA::bB::bC::bD::bE::bF::bG::bH::(.slice Au m cu)::(.int .i64 (m:Int))::(.int .i64 0)::c4::c6::c7::c8::ca::cb::cc::cd::ce::cf::cg::ch::ci::cj::ck::cm::cn::
   co::cp::cq::cr::ct::cv::bI::[]),[]⟩ w:=by
 conv=>arg 2; arg 1; whnf
 have cZ:hd<a.n:=by omega
 have bL:=hide ak
 have ab:=hide al
 have d0:=hide hu
 have d1:=hide an
 have d2:=hide ao
 have d3:=hide ap
 have d4:=hide aq
 have d5:=hide bJ
 clear ak al hu an ao ap aq bJ
 go_loopw [5,82] (fun qq jj wz=>∃(far:List Int) (t:List Nat) (h c j:Nat) (A:Option Addr),qq=.slice A h c∧h≤200000∧Hid (h=t.length+1)∧jj=.int .i64 (j:Int)∧j≤m∧Hid (BB w1 wz n gf gb far u (Bk (a.psS a.n)))∧Hid (Cs w1 wz n gf u A c (hd::t))∧Hid (a.BfsJ far hd t y m0 j)) (fun _ jj _=>m - (intOf jj).toNat)
 case atStart=>exact⟨far,t,h,c,0,_,rfl,c1,d1,rfl,Nat.zero_le _,d2,d3,d4⟩
 case round=>
  obtain⟨J,M,G,O,j,A5,rfl,d7,C,rfl,hj,E,Z,F⟩:=hrel
  obtain⟨g5,o5,rfl,U,dw,dx⟩:=Z.out.row (by simp)
  by_cases d8:j<m
  ·obtain⟨r,I⟩:=Ay (l:=Bk (a.psS a.n) hd) (i:=j) (by rw [←ab.out]; exact d8)
   have a2:=E.out.own hd c0
   rw [d0.out,←ab.out] at a2
   obtain⟨gu,dz,e,dA⟩:=EJ a2 (Bq (f:=Value.int .i64) (Bq (f:=fun x:Nat=>(x:Int)) I))
   injection e with e1 _ e3
   subst e1 e3
   have af:r<a.n:=(NF.mem_back.1 (List.mem_of_getElem? I)).1
   obtain⟨z,hz⟩:=Ay (l:=J) (i:=r) (by rw [F.out.bfs.len]; exact af)
   have dB:wr.cell? ⟨gf,r,none⟩=some (.int .i64 z):=by rw [E.out.farB.cell,Fc hz]
   have V:J.getD r (-1)=z:=getD_some hz
   have dC:=E.out.farB.frozen r
   have dD:=E.out.farB.lt
   have dE:r<n:=by rw [bL.out]; exact af
   have dF:=hide I
   rcases F.out.bfs.ge r af with ag | ⟨kz,ag,_⟩
   ·have dc:z= -1:=by omega
    subst dc
    have dG:=hide V
    have dH:wr.cell? ⟨g5,o5,none⟩=some (.int .i64 (hd:Int)):=U.cell (j:=0) rfl
    obtain⟨zh,ah⟩:=Ay (l:=J) (i:=hd) (by rw [F.out.bfs.len]; exact cZ)
    have ai:zh=(y:Int):=by have:=F.out.hk; rw [getD_some ah] at this; exact this
    subst ai
    have dI:wr.cell? ⟨gf,hd,none⟩=some (.int .i64 (y:Int)):=by rw [E.out.farB.cell,Fc ah]
    obtain⟨w8,df⟩:∃w8,wr.setCell ⟨gf,r,none⟩ (.int .i64 ((y:Int)+1))=w8:=⟨_,rfl⟩
    have a5:=E.out.setF r ((y:Int)+1)
    have a6:=Z.out.setF (gf:=gf) r (.int .i64 ((y:Int)+1))
    rw [df] at a5 a6
    have dg:=hide a5
    have dh:=hide a6
    obtain⟨g8,o8,e8,bN,-,-⟩:=a6.row (by simp)
    injection e8 with e8
    injection e8 with di dj
    subst di dj
    have dk:=hide (show B9 w8 w1.heap.size g5 o5 G O (hd::M) from by have:=C.out; rw [this]; exact bN)
    have dl:=a5.below.size
    have a7:=hide (F.out.found I V)
    have dL:0<G:=by have:=C.out; omega
    clear I hz V ag ah a5 a6 bN U a2
    go_wp2_with (
     at_builtin
     refine Ly (w:=w8) (x:=r) (base:=w1.heap.size) DS rfl _ _ rfl g5 o5 G O (hd::M) rfl dk.out 1 rfl (by omega) dl ?_
     intro g9 o9 c9 w9 bO bP bQ dn
     have bR:=hide (dh.out.join dg.out (s:=r) (by have:=C.out; rw [←this]; exact bO) bP bQ)
     clear bO bP bQ dn)
    refine⟨⟨J.set r ((y:Int)+1),M++[r],G+1,c9,j+1,_,rfl,?_,?_,by go_num,by omega,bR.out.2,bR.out.1,a7⟩,by simp [intOf]; omega⟩
    ·have:=a7.out.bfs.size
     have:=C.out
     have:=bL.out
     simp only [List.length_cons,List.length_append,List.length_nil] at*
     omega
    ·show _=_
     rw [C.out]; simp
   ·have ai:z=(kz:Int):=by omega
    subst ai
    have a7:=hide (F.out.skip I (by rw [V]; omega))
    clear I hz V ag U a2
    go_wp2_with fail
    exact⟨⟨J,M,G,O,j+1,_,rfl,d7,C,by go_num,by omega,E,Z,a7⟩,by simp [intOf]; omega⟩
  ·obtain rfl:j=m:=by omega
   have bS:=hide (F.out.done (by rw [←ab.out]; exact Nat.le_refl _))
   have bT:=hide Z.out.tail
   have bU:=hide F.out.size
   obtain⟨W,rfl⟩:∃W,G=W+1:=⟨G - 1,by have:=C.out; omega⟩
   have bV:Hid (W=M.length):=by have:=C.out; show _=_; omega
   have dp:W+1≤O:=by have:=U.2.2.1; have:=C.out; simp at*; omega
   clear U
   have bW:=bV.out
   have bX:=bS.out
   have bY:=bT.out
   have bZ:=bU.out
   have dP:=hide (And.intro bW (And.intro bX (And.intro bY bZ)))
   clear bW bX bY bZ
   go_wp2_with fail
   exact d5.out _ _ _ _ _ _ _ _ _ _ _ _ _ _ _ _ _ _ _ _ _ _ _ _ _ _ J M W O _ _ bV.out dp (by omega) E.out bT.out bS.out bU.out
theorem N0 {w1 w:World} {a:NF} {s gf gb f c:Nat} {A:Option Addr} {far:List Int} {u:Nat→Value} {qs:List Nat} (a3:s=a.n) (hn:s≤200000) (hE:(a.psS a.n).length≤3000000) (U:f≤200000) (a5:f=qs.length)
  (V:BB w1 w s gf gb far u (Bk (a.psS a.n))) (a6:Cs w1 w s gf u A c qs) (a7:a.Bfs far qs)
  {u0 u1 u2 u6 u7 u8 u9 af ag ah bE ai aj ak al am an ao ap aq ar au av aw ax ay az aA aB aC aD aE aF aG aH aJ aK aL aM aN aO aP aQ aR aS aT aU aV aW aX aY aZ b0 b1 b2 b3 b4 b5 b6 b7 b8 u64 b9 ba bb bc bd bF bG bH bI bJ bK bL bM bN bO bP bQ bR bS bT bU bV bW bX bY bZ c0 c1 c3 c4 c6 c7 c8 c9 ca cb cc cd ce cf cg be:Value} {Q:Exit→Act→World→Prop}
  (bf:∀(x5 ci cj ck cm cn co cp cq cr ct cv cw cx cy cz cA cB cD cE cF cG cH cJ cK cL cM cO cQ cR cS cT cU cV cW cX cY cZ:Value) (w':World) (far:List Int),Below w1.heap.size w1 w'→Blk w' gf 3 (Dy far)→far.length=s→a.Far far→Q (.exit 6) ⟨List.toArray (u0::u1::u2::(.slice (some ⟨gf,0,none⟩) s s)::(.slice (some ⟨gb,0,none⟩) s s)::x5::u6::u7::u8::u9::af::ag::ah::ci::ai::aj::ak::al::am::an::ao::ap::aq::ar::au::av::aw::ax::ay::az::
   aA::aB::aC::aD::aE::aF::aG::aH::aJ::aK::aL::aM::aN::aO::aP::aQ::aR::aS::aT::aU::aV::aW::aX::aY::aZ::b0::b1::b2::b3::b4::b5::b6::b7::b8::u64::b9::ba::
   bb::bc::bd::cj::ck::cm::cn::co::cp::cq::cr::ct::cv::cw::cx::cy::cz::cA::cB::cD::cE::cF::cG::cH::cJ::cK::cL::cM::cO::cQ::cR::cS::cT::cU::cV::cW::cX::
   cY::cZ::be::[]),[]⟩ w'):
  (Code.loop (Eb Tryz.f40 3)).wp Tryz.prog Q ⟨List.toArray (u0::u1::u2::(.slice (some ⟨gf,0,none⟩) s s)::(.slice (some ⟨gb,0,none⟩) s s)::(.slice A f c)::u6::u7::u8::u9::af::ag::ah::bE::ai::aj::ak::al::am::an::ao::ap::aq::ar::au::av::aw::ax::
   ay::az::aA::aB::aC::aD::aE::aF::aG::aH::aJ::aK::aL::aM::aN::aO::aP::aQ::aR::aS::aT::aU::aV::aW::aX::aY::aZ::b0::b1::b2::b3::b4::b5::b6::b7::b8::u64::
   b9::ba::bb::bc::bd::bF::bG::bH::bI::bJ::bK::bL::bM::bN::bO::bP::bQ::bR::bS::bT::bU::bV::bW::bX::bY::bZ::c0::c1::c3::c4::c6::c7::c8::c9::ca::cb::cc::
   cd::ce::cf::cg::be::[]),[]⟩ w:=by
 conv=>arg 2; arg 1; whnf
 have d0:=hide (fun y (hy:y<s)=>AV (V.own y hy))
 have G:=hide a3
 have d2:=hide hE
 have d3:=hide a5
 have hD:=hide V
 have d5:=hide a6
 have d6:=hide a7
 have d7:=hide bf
 clear a3 hE a5 V a6 a7 bf
 go_loopg [5] (f+und far) (fun k qq wz=>∃(far:List Int) (qs:List Nat) (f c:Nat) (A:Option Addr),qq=.slice A f c∧f≤200000∧Hid (f=qs.length)∧Hid (BB w1 wz s gf gb far u (Bk (a.psS a.n)))∧Hid (Cs w1 wz s gf u A c qs)∧Hid (a.Bfs far qs)∧Hid (k=f+und far))
 case atStart=>exact⟨far,qs,f,c,A,rfl,U,d3,hD,d5,d6,rfl⟩
 case round=>
  obtain⟨far,qs,f,c,A,rfl,U,bh,I,bi,z,d9⟩:=hrel
  rcases qs with _ | ⟨hd,t⟩
  ·have hz:f=0:=bh.out
   subst hz
   go_wp2_with fail
   exact d7.out _ _ _ _ _ _ _ _ _ _ _ _ _ _ _ _ _ _ _ _ _ _ _ _ _ _ _ _ _ _ _ _ _ _ _ _ _ _ _ far I.out.below I.out.farB (by rw [z.out.len,G.out]) z.out.isFar
  ·obtain⟨g,db,rfl,bj,dq,dr⟩:=bi.out.row (by simp)
   have dt:wr.cell? ⟨g,db,none⟩=some (.int .i64 (hd:Int)):=bj.cell (j:=0) rfl
   obtain⟨W,bk⟩:=z.out.q hd List.mem_cons_self
   have Z:hd<s:=by rw [G.out]; exact W
   obtain⟨C,bl,bm⟩:∃C:Nat,far.getD hd (-1)=(C:Int)∧a.Dist hd C:=by
    rcases z.out.ge hd W with h | h
    ·exact absurd h bk
    ·exact h
   have dc:C≤200000:=by have:=bm.lt W; have:=G.out; omega
   obtain⟨Au,cu,J⟩:=d0.out hd Z
   have bn:f=t.length+1:=bh.out
   have dg:wr.cell? ⟨gb,hd,none⟩=some (.slice Au (Bk (a.psS a.n) hd).length cu):=by rw [I.out.top.cell,CP _ Z,J]
   obtain⟨m,M⟩:∃m,m=(Bk (a.psS a.n) hd).length:=⟨_,rfl⟩
   have dh:=hide M
   rw [←M] at dg J
   have di:=hide J
   have dj:m≤3000000:=by rw [M]; exact Nat.le_trans (JS _ _) d2.out
   have bo:=hide (show a.BfsJ far hd t C (t.length+und far) 0 from⟨z.out,bl,fun q hq=>by simp at hq,rfl⟩)
   have a2:Hid (gk=t.length+und far+1):=by have:=d9.out; show _=_; omega
   have dl:=hide bn
   obtain⟨m0,bq⟩:∃m0,m0=t.length+und far:=⟨_,rfl⟩
   rw [←bq] at bo a2
   have du:0<f:=by omega
   clear M J bl bm bk bj bq bn
   go_wp2_with fail
   refine QO G.out hn Z dc dh.out dj di.out U dl.out I.out bi.out bo.out ?_
   iterate 25 (intro _)
   intro w' O E q6 c5 g5 o5 bt dw bu bv bw bx bz
   have F:=hide bt
   have bA:=hide bv
   have dm:=hide bw
   have bB:=hide bx
   have bC:=hide bz
   clear bt bv bw bx bz
   by_cases dn:c5=1
   ·subst dn
    have dp:E=[]:=List.length_eq_zero_iff.1 (by have:=F.out; omega)
    obtain rfl:q6=0:=by omega
    go_wp2_with fail
    go_roundg (E.length+und O)
    case measure=>have:=a2.out; have:=bC.out; omega
    case rel=>exact⟨O,E,0,0,_,rfl,bu,F,bA,⟨fun h=>absurd dp h⟩,bB,by show _=_; rw [F.out]⟩
   ·go_wp2_with fail
    go_roundg (E.length+und O)
    case measure=>have:=a2.out; have:=bC.out; omega
    case rel=>exact⟨O,E,q6,c5 - 1,_,rfl,bu,F,bA,dm,bB,by show _=_; rw [F.out]⟩
theorem OQ {w:World} {v:Value} {a:NF} (h:Cc w w.heap.size v a) (a6:a.OK) (hn:a.n≤200000) (hL:a.L≤8) (hE:(a.psS a.n).length≤3000000):
  Calls Tryz.prog 40 #[v] w (Ret fun r w'=>Below w.heap.size w w'∧∃far A c,r=.slice A far.length c∧a.Far far∧Sl w' w'.heap.size 1 Ai A far):=by
 obtain⟨A1,c1,A2,c2,A3,c3,rfl,h1,h2,h3,h4⟩:=h
 have a7:=a6.acc
 have av:a.nx.length=a.n:=rfl
 obtain⟨n,V⟩:∃n,n=a.n:=⟨_,rfl⟩
 obtain⟨L,a8⟩:∃L,L=a.L:=⟨_,rfl⟩
 have G:=hide V
 have aw:=hide a8
 rw [av,a7]
 rw [←V] at hn ⊢
 rw [←a8] at hL ⊢
 obtain⟨w1,bM,a9,I,b7⟩:=Ag w #[.int .i64 (L:Int),.slice A1 n c1,.slice A2 a.start.length c2,.slice A3 n c3] 63
 obtain⟨gf,w2,bN,ax,W,b8⟩:=Fp w1 n (by omega)
 obtain⟨gb,w3,bO,az,aa,bP⟩:=Kl w2 n (by omega)
 have ab:=a9.size
 have b9:=W.size
 have ad:=W.trans (aa.mono b9)
 have bb:=hide (show BB w1 w3 n gf gb (a.far0 0) (fun _=>.slice none 0 0) (Bk (a.ps 0 0 0)) from by
  have e0:a.ps 0 0 0=[]:=by simp [NF.ps,NF.psS,NF.psR]
  have e1:a.far0 0=List.replicate n 0:=by
   apply List.ext_getElem?
   intro q
   rcases Nat.lt_or_ge q a.n with hq | hq
   ·have e3:q<n:=by omega
    rw [NF.far0_at hq,List.getElem?_replicate]
    simp [e3]
   ·rw [List.getElem?_eq_none (by rw [NF.far0_len]; exact hq),List.getElem?_eq_none (by simp; omega)]
  rw [e0,e1]
  refine⟨ad,?_,?_,fun y _=>CT,fun y _ y' _ g E=>by simp [Value.ownBlock] at E,fun y _ E=>by simp [Value.ownBlock] at E,⟨b8,by omega⟩⟩
  ·rw [←P0]; exact ax.below aa
  ·rw [←EZ]; exact az)
 have bf:=hide (show BT w1 w3 n gf (fun _=>.slice none 0 0) (.slice none 0 0) (a.que0 0) from⟨CT,fun y _ g E=>by simp [Value.ownBlock] at E,fun E=>by simp [Value.ownBlock] at E⟩)
 have bR:=(I.below W).cell
 have bS:=I.cell
 have bT:=(I.below ad).cell
 have af:=hide I
 have Z:=hide a9
 have bg:=hide h1
 have bh:=hide h3
 have aA:=hide a6
 have aB:=hide hE
 have ag:=I.lt
 have bi:=hide a7
 clear h1 h2 h3 h4 V a8 a6 hE b7 ax az W aa ad I a7 av a9
 go_enter Tryz.func40,Tryz.ntmps40
 go_wp2_with fail
 go_loopw [5,25] (fun qq ii wr=>∃(s:Nat) (u:Nat→Value),ii=.int .i64 (s:Int)∧s≤n∧Hid (BB w1 wr n gf gb (a.far0 s) u (Bk (a.ps s 0 0)))∧Hid (BT w1 wr n gf u qq (a.que0 s))) (fun _ ii _=>n - (intOf ii).toNat)
 case atStart=>exact⟨0,_,rfl,Nat.zero_le _,bb,bf⟩
 case round=>
  obtain⟨s,u,rfl,hs,z,hQ⟩:=hrel
  have aC:=af.out.at ag z.out.below
  have bV:=aC.cell
  have bk:=hide (Z.out.trans (z.out.below.mono ab))
  obtain⟨Aq,cq,rfl⟩:=AV hQ.out.own
  by_cases aD:s<n
  ·have M:s<a.n:=by rw [←G.out]; exact aD
   obtain⟨bt,ot,Ar,cr,rfl,bn,aE,aF⟩:=NF.row_at bg.out aA.out M
   have bo:=(bk.out.cell (p:=⟨bt,ot+s,none⟩) bn).trans aE
   rw [←aw.out] at bo
   have bp:=hide aF
   have bq:wr.cell? ⟨gf,s,none⟩=some (.int .i64 0):=by
    rw [z.out.farB.cell,Fc (NF.far0_at M),if_neg (by omega)]
   have br:=z.out.farB.frozen s
   have bs:=z.out.farB.lt
   obtain⟨w7,bu⟩:∃w7,wr.setCell ⟨gf,s,none⟩ (.int .i64 (-1))=w7:=⟨_,rfl⟩
   have a2:=z.out.setF s (-1)
   have ak:=hQ.out.setF (gf:=gf) s (.int .i64 (-1))
   rw [bu] at a2 ak
   have bY:=(af.out.at ag a2.below).cell
   have bv:=hide a2
   have bw:=hide ak
   clear a2 ak aF aE aC
   go_wp2_with fail
   refine KX (vq:=.slice Aq (a.que0 s).length cq) (qs:=a.que0 s) aA.out G.out aw.out hL aD bp.out Z.out aB.out bv.out bw.out ?_
   iterate 24 (intro _)
   intro wz uA al aK
   have J:=hide al
   have am:=hide aK
   have bx:=hide (Z.out.trans (al.below.mono ab))
   clear al aK
   obtain⟨b,an⟩:=Ay (l:=a.acc) (i:=s) (by rw [bi.out]; exact M)
   obtain⟨ba,oa,rfl,bB,aL⟩:=Gd bh.out an
   have bZ:=(bx.out.cell (p:=⟨ba,oa+s,none⟩) bB).trans aL
   have c0:=(af.out.at ag J.out.below).cell
   have a3:Hid (a.acc.getD s false=b):=getD_some an
   have br:=J.out.farB.frozen s
   have bs:=J.out.farB.lt
   have bq:wz.cell? ⟨gf,s,none⟩=some (.int .i64 (-1)):=by
    rw [J.out.farB.cell]
    exact Fc (by rw [List.getElem?_set_self (by rw [NF.far0_len]; exact M)])
   have aM:=hide (NF.far0_step M)
   have aN:=hide (a.que0_step (s:=s))
   have bC:(a.que0 s).length≤200000:=by
    unfold NF.que0
    have:=List.length_filter_le (fun q=>a.acc.getD q false) (List.range s)
    rw [List.length_range] at this
    omega
   obtain⟨C,F⟩:∃C,C=(a.que0 s).length:=⟨_,rfl⟩
   have O:=hide F
   rw [←F] at bC am ⊢
   clear an aL F
   cases b
   ·go_wp2_with fail
    refine⟨⟨s+1,uA,by go_num,by omega,?_,?_⟩,by simp [intOf]; omega⟩
    ·have:=J.out
     have f:=aM.out
     rw [a3.out] at f
     rw [show(a.far0 s).set s (-1)=a.far0 (s+1) from f] at this
     exact this
    ·have f:=aN.out
     rw [a3.out] at f
     show BT _ _ _ _ _ _ _
     rw [show a.que0 (s+1)=a.que0 s from f]
     exact am.out
   ·obtain⟨w8,bD⟩:∃w8,wz.setCell ⟨gf,s,none⟩ (.int .i64 0)=w8:=⟨_,rfl⟩
    have U:=J.out.setF s 0
    have a5:=am.out.setF (gf:=gf) s (.int .i64 0)
    rw [bD] at U a5
    rw [List.set_set] at U
    have bE:=U.below.size
    have bF:=hide U
    have bG:=hide a5
    have bH:=hide (show w8.ownsRow w1.heap.size 3 1 (.slice Aq C cq) C (Ct (a.que0 s)) from by have:=a5.own; rw [←O.out] at this; exact this)
    clear U a5
    go_wp2_with (
     at_builtin
     refine CO (w:=w8) DS rfl _ _ rfl w1.heap.size (.slice Aq C cq) C _ rfl bH.out [.int .i64 (s:Int)] 1 rfl rfl (by simp [Value.oneCell']) (by omega) bE ?_
     intro g c4 w9 aO aP aQ c6
     have hJ:=hide (bG.out.join (s:=s) bF.out aP (by rw [←O.out]; exact aO) aQ)
     clear aO aP aQ)
    refine⟨⟨s+1,uA,by go_num,by omega,?_,?_⟩,by simp [intOf]; omega⟩
    ·have:=hJ.out.2
     have f:=aM.out
     rw [a3.out] at f
     rw [show(a.far0 s).set s 0=a.far0 (s+1) from f] at this
     exact this
    ·have f:=aN.out
     rw [a3.out] at f
     show BT _ _ _ _ _ _ _
     rw [show a.que0 (s+1)=a.que0 s++[s] from f]
     exact hJ.out.1
  ·obtain rfl:s=n:=by omega
   have aS:a.ps s 0 0=a.psS a.n:=by rw [←G.out]; simp [NF.ps,NF.psR]
   rw [aS] at z
   have bI:=hide hQ.out.cut
   have aT:=hide (show a.Bfs (a.far0 s) (a.que0 s) from by rw [G.out]; exact a.bfs0)
   obtain⟨C,F⟩:∃C,C=(a.que0 s).length:=⟨_,rfl⟩
   have O:=hide F
   rw [←F]
   have c7:=hide (fun y (hy:y<s)=>AV (z.out.own y hy))
   clear F aS hQ
   go_wp2_with fail
   refine N0 G.out hn aB.out (by have:=aT.out.size; have:=O.out; have:=G.out; omega) O.out z.out bI.out aT.out ?_
   iterate 38 (intro _)
   intro w' far aU aV aW hF
   have aY:=hide aV
   have aZ:=hide aW
   have bK:=hide hF
   have bL:=hide (Z.out.trans (aU.mono ab))
   clear aV aW hF aU
   go_wp2_with fail
   go_ret
   refine⟨bL.out,far,some ⟨gf,0,none⟩,s,by rw [aZ.out]; rfl,bK.out,by have:=aZ.out; omega,fun V=>⟨gf,0,rfl,aY.out.lt,fun k d hd j hj=>?_⟩⟩
   have:j=0:=by omega
   subst this
   rw [aY.out.cell]
   simpa [Ai] using Fc hd
end Go.Proofs.YtlakpndhhelliaaGreatDoor
