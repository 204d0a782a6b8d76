/-
  Part EE of a proof.
-/
import Derived.Test.YtfcfpoemojjglaaGreatDoorPA
import Derived.Test.YtfcfpoemojjglaaGreatDoorEA
import Derived.Test.YtfcfpoemojjglaaGreatDoorPK
set_option maxHeartbeats 16000000
set_option maxRecDepth 100000
set_option linter.unusedVariables false
set_option linter.unusedSimpArgs false
namespace Go.Proofs.YtfcfpoemojjglaaGreatDoor
open Go.RowKit
set_option maxHeartbeats 16000000
set_option maxRecDepth 100000
theorem Ps:(Tryz.prog.info? 76).map (fun i=>(i.zero,i.size,i.bytes))=some (some (.slice none 0 0),1,24):=by kernel_rfl
theorem Rr:Dd Tryz.prog 231 76 1:=EU Tryz.underlying231 Ps rfl (by omega) (by omega)
def D8 (wr:World) (base:Nat) (vA u:Value) (m:List Bool):Prop:=∃g,u=.slice (some ⟨g,0,none⟩) m.length m.length∧base≤g∧Blk wr g 4 (m.map Value.bool).toArray∧vA.ownBlock≠some g
structure SbM (w0 wr:World) (g2 g4 g6:Nat) (cs:Array Value) (vN vA vS:Value) (all:List (List Bool)) (t:List (List Nat)) (as':List Bool) (us ws:List Value) (N:Nat→Prop):Prop where
 below:Below w0.heap.size w0 wr
 b2:Blk wr g2 35 cs
 b4:Blk wr g4 139 #[sn0,sn0]
 b6:Blk wr g6 139 #[vN,vA]
 sets:wr.ownsRow w0.heap.size 76 1 vS all.length us
 setR:F2 (fun u m=>D8 wr w0.heap.size vA u m) us all
 acc:wr.ownsRow w0.heap.size 4 1 vA as'.length (as'.map Value.bool)
 nxt:wr.ownsRow w0.heap.size 24 1 vN t.length ws
 nxtR:Ck wr w0.heap.size N ws (t.map Ak)
 ne:g4≠g6
 ge:w0.heap.size≤g2∧w0.heap.size≤g4∧w0.heap.size≤g6
theorem D8.kept {wr w':World} {base:Nat} {vA vA' u:Value} {m:List Bool} {X:Nat→Prop} (h:D8 wr base vA u m) (hk:Ac wr w' X) (I:∀g cs,X g→Blk wr g 4 cs→vA.ownBlock≠some g→False) (G:∀g,g<wr.heap.size→vA.ownBlock≠some g→vA'.ownBlock≠some g):D8 w' base vA' u m:=by
 obtain⟨g,C,E,y,z⟩:=h
 exact⟨g,C,E,y.kept hk (fun x=>I g _ x y z),G g y.lt z⟩
section
variable {w0 wr w':World} {g2 g4 g6:Nat} {cs:Array Value} {vN vA vS:Value} {all:List (List Bool)} {t:List (List Nat)} {as':List Bool} {us ws:List Value} {N:Nat→Prop}
theorem SbM.keep (h:SbM w0 wr g2 g4 g6 cs vN vA vS all t as' us ws N) (y:Below wr.heap.size wr w'):SbM w0 w' g2 g4 g6 cs vN vA vS all t as' us ws N:=
 ⟨h.below.trans (y.mono h.below.size),h.b2.below y,h.b4.below y,h.b6.below y,Bu h.sets y,h.setR.imp fun _ _ z=>z.kept (Ac.of_below y (fun _=>False)) (fun _ _ x=>x.elim) (fun _ _ x=>x),Bu h.acc y,Bu h.nxt y,
  h.nxtR.keep (Ac.of_below y (fun _=>False)) (fun _ _ _ e=>e.elim) (fun _ _ x=>x) (Nat.le_refl _),h.ne,h.ge⟩
theorem SbM.weak {N':Nat→Prop} (h:SbM w0 wr g2 g4 g6 cs vN vA vS all t as' us ws N) (y:∀g,g<wr.heap.size→N g→N' g):SbM w0 wr g2 g4 g6 cs vN vA vS all t as' us ws N':=
 ⟨h.below,h.b2,h.b4,h.b6,h.sets,h.setR,h.acc,h.nxt,h.nxtR.keep (Ac.refl wr (fun _=>False)) (fun _ _ _ e=>e.elim) y (Nat.le_refl _),h.ne,h.ge⟩
theorem SbM.at (h:SbM w0 wr g2 g4 g6 cs vN vA vS all t as' us ws N) {k:Nat} {m:List Bool} (hk:all[k]?=some m):∃gS c gm,vS=.slice (some ⟨gS,0,none⟩) all.length c∧wr.cell? ⟨gS,k,none⟩=some (.slice (some ⟨gm,0,none⟩) m.length m.length)∧BV wr wr.heap.size (.slice (some ⟨gm,0,none⟩) m.length m.length) m:=by
 obtain⟨u,E,g,e,G,y,I⟩:=F2.at h.setR hk
 obtain⟨gS,c,z,C⟩:=C7 h.sets E
 exact⟨gS,c,g,z,by rw [C,e],g,y.lt,rfl,y⟩
theorem SbM.row {v:Value} {n:Nat} {xs:List Value} (h:SbM w0 wr g2 g4 g6 cs vN vA vS all t as' us ws N) (C:wr.ownsRow w0.heap.size 3 1 v n xs) (I:∀g,N g→v.ownBlock≠some g) (hk:Ac wr w' (fun k=>v.ownBlock=some k)):SbM w0 w' g2 g4 g6 cs vN vA vS all t as' us ws N:=by
 have y:∀{e:TypeId},e≠3→∀g cs,v.ownBlock=some g→¬Blk wr g e cs:=fun G g cs E z=>Aw C z (fun J=>G J.symm) E
 exact⟨h.below.trans (hk.below h.below.size fun b U e=>by have:=AY C e; omega),h.b2.kept hk fun x=>y (by decide) _ _ x h.b2,h.b4.kept hk fun x=>y (by decide) _ _ x h.b4,h.b6.kept hk fun x=>y (by decide) _ _ x h.b6,
  AH hk h.sets (y (by decide)),h.setR.imp fun _ _ O=>O.kept hk (fun g cs x z _=>y (by decide) g cs x z) (fun _ _ x=>x),AH hk h.acc (y (by decide)),AH hk h.nxt (y (by decide)),h.nxtR.keep hk (fun g cs M x _=>I g M x) (fun _ _ x=>x) (Nat.le_refl _),h.ne,h.ge⟩
theorem SbM.addS {m:List Bool} {u vS':Value} (h:SbM w0 wr g2 g4 g6 cs vN vA vS all t as' us ws N) (O:D8 wr w0.heap.size vA u m) (hk:Ac wr w' (fun k=>vS.ownBlock=some k)) (M:w'.ownsRow w0.heap.size 76 1 vS' (all.length+1) (us++[u])):
  SbM w0 w' g2 g4 g6 cs vN vA vS' (all++[m]) t as' (us++[u]) ws N:=by
 have y:∀{e:TypeId},e≠76→∀g cs,vS.ownBlock=some g→¬Blk wr g e cs:=fun I g cs G z=>Aw h.sets z (fun J=>I J.symm) G
 have E:∀{u m},D8 wr w0.heap.size vA u m→D8 w' w0.heap.size vA u m:=fun C=>C.kept hk (fun g cs x z _=>y (by decide) g cs x z) (fun _ _ x=>x)
 refine⟨h.below.trans (hk.below h.below.size fun b U e=>by have:=AY h.sets e; omega),h.b2.kept hk fun x=>y (by decide) _ _ x h.b2,h.b4.kept hk fun x=>y (by decide) _ _ x h.b4,h.b6.kept hk fun x=>y (by decide) _ _ x h.b6,
  by rw [List.length_append]; exact M,F2.snoc (h.setR.imp fun _ _ C=>E C) (E O),AH hk h.acc (y (by decide)),AH hk h.nxt (y (by decide)),h.nxtR.keep hk (fun g cs _ x=>y (by decide) g cs x) (fun _ _ x=>x) (Nat.le_refl _),h.ne,h.ge⟩
theorem SbM.addR {row:List Nat} {v vN':Value} {w1:World} (h:SbM w0 wr g2 g4 g6 cs vN vA vS all t as' us ws N) (Z:wr.ownsRow w0.heap.size 3 1 v row.length ((Ak row).map (Value.int .i64)))
  (G:Ac wr w1 (fun k=>vN.ownBlock=some k)) (W:w1.ownsRow w0.heap.size 24 1 vN' (t.length+1) (ws++[v])):
  SbM w0 (w1.setCell ⟨g6,0,none⟩ vN') g2 g4 g6 cs vN' vA vS all (t++[row]) as' us (ws++[v]) (fun _=>True):=by
 have J:=h.b6.kept G (Aw h.nxt h.b6 (by decide))
 have I:=(Ac.refl w1 (fun k=>k=g6)).setCell (p:=⟨g6,0,none⟩) (fun _=>rfl) vN'
 have y:Ac wr (w1.setCell ⟨g6,0,none⟩ vN') (fun k=>vN.ownBlock=some k∨k=g6):=(G.mono fun _ _ e=>.inl e).trans I fun _ _ e=>.inr e
 have C:∀{e:TypeId},e≠24→e≠139→∀g cs,(vN.ownBlock=some g∨g=g6)→¬Blk wr g e cs:=by
  rintro e O U g cs (E | E) z
  ·exact Aw h.nxt z (fun V=>O V.symm) E
  ·exact z.ne_ h.b6 U E
 refine⟨h.below.trans (y.below h.below.size ?_),h.b2.kept y fun x=>C (by decide) (by decide) _ _ x h.b2,h.b4.kept y ?_,J.set_ 0 vN',AH y h.sets (C (by decide) (by decide)),h.setR.imp fun _ _ hs=>hs.kept y (fun g cs x z _=>C (by decide) (by decide) g cs x z) (fun _ _ x=>x),AH y h.acc (C (by decide) (by decide)),?_,?_,h.ne,h.ge⟩
 ·rintro b hb (e | e)
  ·have:=AY h.nxt e; omega
  ·have:=h.ge; omega
 ·rintro(e | e)
  ·exact Aw h.nxt h.b4 (by decide) e
  ·exact h.ne e
 ·rw [List.length_append]
  exact AH I W (fun g cs e z=>by subst e; exact z.ne_ J (by decide) rfl)
 ·rw [List.map_append]
  refine Ck.snoc (h.nxtR.keep y (fun g cs _ e=>C (by decide) (by decide) g cs e) (fun _ _ _=>trivial) (Nat.le_refl _)) ?_ (fun _ _=>trivial)
  have:=AH y Z (C (by decide) (by decide))
  have M:(Ak row).length=row.length:=by simp [Ak]
  rw [M]
  exact this
theorem SbM.addA {b:Bool} {vA':Value} {w1:World} (h:SbM w0 wr g2 g4 g6 cs vN vA vS all t as' us ws N) (J:Ac wr w1 (fun k=>vA.ownBlock=some k)) (Z:w1.ownsRow w0.heap.size 4 1 vA' (as'.length+1) (as'.map Value.bool++[.bool b])) (W:BJ wr vA vA'):
  SbM w0 (w1.setCell ⟨g6,1,none⟩ vA') g2 g4 g6 cs vN vA' vS all t (as'++[b]) us ws N:=by
 have O:=h.b6.kept J (Aw h.acc h.b6 (by decide))
 have M:=(Ac.refl w1 (fun k=>k=g6)).setCell (p:=⟨g6,1,none⟩) (fun _=>rfl) vA'
 have y:Ac wr (w1.setCell ⟨g6,1,none⟩ vA') (fun k=>vA.ownBlock=some k∨k=g6):=(J.mono fun _ _ e=>.inl e).trans M fun _ _ e=>.inr e
 have E:∀{e:TypeId},e≠4→e≠139→∀g cs,(vA.ownBlock=some g∨g=g6)→¬Blk wr g e cs:=by
  rintro e U V g cs (G | G) z
  ·exact Aw h.acc z (fun C=>U C.symm) G
  ·exact z.ne_ h.b6 V G
 refine⟨h.below.trans (y.below h.below.size ?_),h.b2.kept y fun x=>E (by decide) (by decide) _ _ x h.b2,h.b4.kept y ?_,O.set_ 1 vA',AH y h.sets (E (by decide) (by decide)),h.setR.imp fun _ _ hs=>hs.kept y ?_ ?_,?_,AH y h.nxt (E (by decide) (by decide)),h.nxtR.keep y (fun g cs _ e=>E (by decide) (by decide) g cs e) (fun _ _ x=>x) (Nat.le_refl _),h.ne,h.ge⟩
 ·rintro b hb (e | e)
  ·have:=AY h.acc e; omega
  ·have:=h.ge; omega
 ·rintro(e | e)
  ·exact Aw h.acc h.b4 (by decide) e
  ·exact h.ne e
 ·rintro g cs (e | e) z I
  ·exact I e
  ·exact z.ne_ h.b6 (by decide) e
 ·intro g hg I e
  rcases W with C | ⟨g',C,a6⟩
  ·exact I (by rw [←C]; exact e)
  ·rw [e] at C
   have:=Option.some.inj C
   omega
 ·rw [List.length_append,List.map_append]
  exact AH M Z (fun g cs e z=>by subst e; exact z.ne_ O (by decide) rfl)
theorem SbM.fin {wF:World} (h:SbM w0 wr g2 g4 g6 cs vN vA vS all t as' us ws N) (hk:Ac wr wF (fun k=>k=g4∨k<w0.heap.size)):Dl wF w0.heap.size (.agg #[vN,vA]) t as':=by
 have I:=h.ge
 have z:∀{e:TypeId} {v:Value} {n:Nat} {xs:List Value},e≠139→wr.ownsRow w0.heap.size e 1 v n xs→wF.ownsRow w0.heap.size e 1 v n xs:=fun E y=>hk.ownsRow y fun g C e=>by
  rcases e with e | e
  ·exact Aw y h.b4 E (by rw [C,e])
  ·have:=AY y C; omega
 exact⟨vN,vA,ws,rfl,z (by decide) h.acc,z (by decide) h.nxt,h.nxtR.imp fun v d G=>⟨z (by decide) G.1,fun _ _=>trivial⟩⟩
end
theorem RU {w0 w:World} {g2 g4 g6 S V:Nat} {cs:Array Value} {vN vA vT:Value} {U:Option Addr} {all:List (List Bool)} {t:List (List Nat)} {as':List Bool} {us ws:List Value} {N:Nat→Prop} {m:List Bool}
  (hM:SbM w0 w g2 g4 g6 cs vN vA (.slice U all.length V) all t as' us ws N) (hT:BV w w.heap.size vT m) (hS:S≤200000) (hl:∀x∈all,x.length=S) (I:m.length=S) (bJ:all.length≤200000)
  {u0 u1 u2 u3 u4 u5 u6 u8 u9 ai ak al am an ao ap aq au av aw ax ay az aA aB aC aD aF aG aH aJ aK aL aM aN aO aP aR aS aT aU aV aW aX bO bP bQ bR bS bT bU bV bW bX bY bZ c0 c1 c3 b0 b1 u64 b2 b3 b4 b5 b6 b7 b8 b9 ba bb bd be bf bg bh bi bj bk bl bm bn bo bp bq br bt bu bv bw bx bz bA bB bC bD aj:Value}
  {Q:Exit→Act→World→Prop}
  (hQ:∀(c4 c5 c6 c7 c8 c9 ca cb cc cd ce cf cg ch ci:Value) (w':World) (k:Nat),Below w.heap.size w w'→k≤all.length→(∀p,p<k→all[p]?≠some m)→(∀x,all[k]?=some x→x=m)→
   Q (.exit 4) ⟨List.toArray (u0::u1::u2::u3::u4::u5::u6::(.slice U all.length V)::u8::u9::ai::vT::(.int .i64 k)::ak::al::am::an::ao::ap::aq::au::av::aw::ax::ay::az::aA::aB::aC::aD::aF::aG::aH::aJ::
   aK::aL::aM::aN::aO::aP::aR::aS::aT::aU::aV::aW::aX::c4::c5::c6::c7::c8::c9::ca::cb::cc::cd::ce::cf::cg::ch::ci::b0::b1::u64::b2::b3::b4::b5::b6::b7::
   b8::b9::ba::bb::bd::be::bf::bg::bh::bi::bj::bk::bl::bm::bn::bo::bp::bq::br::bt::bu::bv::bw::bx::bz::bA::bB::bC::bD::aj::[]),[]⟩ w'):
  (Code.loop (CS Tryz.f125 2)).wp Tryz.prog Q ⟨List.toArray (u0::u1::u2::u3::u4::u5::u6::(.slice U all.length V)::u8::u9::ai::vT::(.int .i64 0)::ak::al::am::an::ao::ap::aq::au::av::aw::ax::ay::az::aA::aB::aC::aD::aF::aG::aH::aJ::
   aK::aL::aM::aN::aO::aP::aR::aS::aT::aU::aV::aW::aX::bO::bP::bQ::bR::bS::bT::bU::bV::bW::bX::bY::bZ::c0::c1::c3::b0::b1::u64::b2::b3::b4::b5::b6::b7::
   b8::b9::ba::bb::bd::be::bf::bg::bh::bi::bj::bk::bl::bm::bn::bo::bp::bq::br::bt::bu::bv::bw::bx::bz::bA::bB::bC::bD::aj::[]),[]⟩ w:=by
 conv=>arg 2; arg 1; whnf
 have bI:=hide hM
 have ab:=hide hT
 obtain⟨gT,bK,rfl,bH⟩:=hT
 have bL:=hide hl
 have bN:=hide I
 obtain⟨n,J⟩:∃n,n=all.length:=⟨_,rfl⟩
 have ae:=hide J
 rw [I] at ab ⊢
 simp only [I] at hQ
 rw [←J] at bJ ⊢
 simp only [←J] at hQ
 clear hM hl I J bH bK
 go_loopw [12] (fun kk wr=>∃(k:Nat),kk=.int .i64 (k:Int)∧k≤n∧Below w.heap.size w wr∧Hid (∀p,p<k→all[p]?≠some m)) (fun kk _=>n - (intOf kk).toNat)
 case atStart=>exact⟨0,rfl,Nat.zero_le _,Below.refl _ _,fun p h=>absurd h (by omega)⟩
 case round=>
  obtain⟨k,rfl,hk,z,hE⟩:=hrel
  by_cases bM:k<n
  ·obtain⟨x,M⟩:=Ap (l:=all) (i:=k) (by rw [←ae.out]; exact bM)
   obtain⟨gS,c,gm,W,Z,e3⟩:=(bI.out.keep z).at M
   injection W with W bF bG
   subst W bG
   have a6:=bL.out x (List.mem_of_getElem? M)
   rw [a6] at Z e3
   have G:=RT e3 (ab.out.keep z z.size) a6 bN.out (by omega)
   have C:=hide z
   have af:=hide M
   clear z M e3 bF a6
   by_cases e:x=m
   ·rw [decide_eq_true e] at G
    have a5:=hide e
    clear e
    go_wp2_with (go_at_call 176; refine Calls.ret G ?_; rintro r w4 ⟨rfl,E⟩; have a4:=hide (C.out.trans (E.mono C.out.size)); clear E)
    refine hQ _ _ _ _ _ _ _ _ _ _ _ _ _ _ _ w4 k a4.out hk hE.out (fun y O=>?_)
    rw [af.out] at O
    exact(Option.some.inj O).symm.trans a5.out
   ·rw [decide_eq_false e] at G
    have a5:=hide e
    clear e
    go_wp2_with (go_at_call 176; refine Calls.ret G ?_; rintro r w4 ⟨rfl,E⟩; have a4:=hide (C.out.trans (E.mono C.out.size)); clear E)
    refine⟨⟨k+1,by go_num,by omega,a4.out,fun p hp=>?_⟩,by simp [intOf]; omega⟩
    by_cases Z:p=k
    ·subst Z
     rw [af.out]
     exact fun h=>a5.out (Option.some.inj h)
    ·exact hE.out p (by omega)
  ·obtain rfl:k=n:=by omega
   have C:=hide z
   clear z
   go_wp2_with fail
   refine hQ _ _ _ _ _ _ _ _ _ _ _ _ _ _ _ wr k C.out (Nat.le_refl _) hE.out (fun y O=>?_)
   have:=AM O
   have:=ae.out
   omega
end Go.Proofs.YtfcfpoemojjglaaGreatDoor
namespace Go.Proofs.YtfcfpoemojjglaaGreatDoor
open Go.RowKit
set_option maxHeartbeats 16000000
set_option maxRecDepth 100000
theorem Ko {S:Type} [DecidableEq S] (δ:S→Nat→S) (s:S) (l:List S):∀k,(AW δ s l k).length≤l.length+k
 | 0=>Nat.le_refl _
 | k+1=>by
  have h:=Ko δ s l k
  rw [Cr]
  unfold Bt
  split
  ·omega
  ·rw [List.length_append,List.length_singleton]; omega
def Di {S:Type} [DecidableEq S] (δ:S→Nat→S) (all:List S) (m:S) (x:Nat):List Nat:=(List.range x).map fun y=>Ax all (δ m y)
theorem Rx {S:Type} [DecidableEq S] (δ:S→Nat→S) (all:List S) (m:S) (x:Nat):(Di δ all m x).length=x:=by simp [Di]
theorem Ry {S:Type} [DecidableEq S] (δ:S→Nat→S) (all:List S) (m:S) (x:Nat):Di δ (AW δ m all (x+1)) m (x+1)=Di δ (AW δ m all x) m x++[Ax (AW δ m all (x+1)) (δ m x)]:=by
 unfold Di
 rw [List.range_succ,List.map_append]
 congr 1
 exact List.map_congr_left fun y h=>J4 (List.mem_range.1 h)
theorem RX {w0 w:World} {g2 g4 g6 i cS l1 c1 l2 c2 l3 c3:Nat} {st:Int} {A1 A2 A3 AS:Option Addr} {a:WA} {vN vA:Value} {all:List (List Bool)} {t:List (List Nat)} {as':List Bool} {us ws:List Value} {y:List Bool}
    (hM:SbM w0 w g2 g4 g6 #[.int .i64 (a.L:Int),.int .i64 st,.slice A1 l1 c1,.slice A2 l2 c2,.slice A3 l3 c3] vN vA (.slice AS all.length cS) all t as' us ws (fun _=>True)) (b4:Bk w0 w0.heap.size (.agg #[.int .i64 (a.L:Int),.int .i64 st,.slice A1 l1 c1,.slice A2 l2 c2,.slice A3 l3 c3]) a) (b9:a.In) (hS:0≤a.states∧a.states≤200000) (hL:a.L≤8)
    (hq:all[i]?=some y) (hl:∀x∈all,x.length=a.n) (ev:all.length≤100000)
    {u0 u1 u3 u4 u5 u6 cZ d0 br bs bt bu bv bw bx bz bA bB bC bD bE bF bG bH bI bK bL bM bN d1 d2 d3 d4 d5 d6 d7 d8 d9 da db dc de df dg dh di dj dk dl dm dn dp dq dr dt du dv dw dx u64 dy dz dA dB dC dD dE dF dG bR bS bT bU bV bW bX bY bZ c0 c4 c5 c6 c7 c8 c9 ca cb cc cd ce cf cg ch ci cj bq:Value}
    {Q:Exit→Act→World→Prop} (hN:Reg.NoQ Q)
    (hQ:∀(dJ dK dL dM dN dO dP dQ dR dS dT dU dV dW dX dY dZ e0 e4 e5 e6 e7 e8 e9 ea eb ec ed ee ef eg eh ei ej ek el em en eo ep eq er et:Value) (w':World) (vS' vR:Value) (all':List (List Bool)) (O:List Value),SbM w0 w' g2 g4 g6 #[.int .i64 (a.L:Int),.int .i64 st,.slice A1 l1 c1,.slice A2 l2 c2,.slice A3 l3 c3] vN vA vS' all' t as' O ws (fun g=>vR.ownBlock≠some g)→w'.ownsRow w0.heap.size 3 1 vR a.L ((Ak (Di a.nf.after all' y a.L)).map (Value.int .i64))→all'=AW a.nf.after y all a.L→(∀x∈all',x.length=a.n)→
      Q (.exit 2) ⟨List.toArray (u0::u1::(.pointer (some ⟨g2,0,none⟩))::u3::u4::u5::u6::vS'::(.int .i64 i)::vR::dJ::dK::dL::br::bs::bt::bu::bv::bw::bx::bz::bA::bB::bC::bD::bE::bF::bG::bH::bI::bK::bL::bM::
      bN::dM::dN::dO::dP::dQ::dR::dS::dT::dU::dV::dW::dX::dY::dZ::e0::e4::e5::e6::e7::e8::e9::ea::eb::ec::ed::ee::ef::eg::eh::ei::ej::ek::el::em::en::eo::
      ep::eq::er::et::bR::bS::bT::bU::bV::bW::bX::bY::bZ::c0::c4::c5::c6::c7::c8::c9::ca::cb::cc::cd::ce::cf::cg::ch::ci::cj::bq::[]),[]⟩ w'):
    (Code.loop (CS Tryz.f125 1)).wp Tryz.prog Q ⟨List.toArray (u0::u1::(.pointer (some ⟨g2,0,none⟩))::u3::u4::u5::u6::(.slice AS all.length cS)::(.int .i64 i)::(.slice none 0 0)::(.int .i64 0)::cZ::d0::br::bs::bt::bu::bv::bw::bx::bz::bA::bB::bC::bD::bE::
      bF::bG::bH::bI::bK::bL::bM::bN::d1::d2::d3::d4::d5::d6::d7::d8::d9::da::db::dc::de::df::dg::dh::di::dj::dk::dl::dm::dn::dp::dq::dr::dt::du::dv::dw::
      dx::u64::dy::dz::dA::dB::dC::dD::dE::dF::dG::bR::bS::bT::bU::bV::bW::bX::bY::bZ::c0::c4::c5::c6::c7::c8::c9::ca::cb::cc::cd::ce::cf::cg::ch::ci::cj::
      bq::[]),[]⟩ w:=by
  conv=>arg 2; arg 1; whnf
  have aZ:=hide (hM.weak (N':=fun g=>(Value.slice none 0 0).ownBlock≠some g) (fun g _ _=>by simp [Value.ownBlock]))
  have b5:=hide b4
  have cF:=hide b9
  have cQ:=hide hq
  have cJ:=hide hl
  have cx:=hide hS
  have bf:a.n≤200000:=by unfold WA.n; omega
  obtain⟨L,W⟩:∃L,L=a.L:=⟨_,rfl⟩
  have aA:=hide W
  rw [←W] at hL
  have b0:=aZ
  have b6:=b5
  rw [←W] at b0 b6
  simp only [←W] at hQ
  clear hM b4 b9 hq hl hS aZ b5 W
  go_loopw [7,9,10] (fun vv rr xx wr=>∃(x:Nat) (all':List (List Bool)) (O:List Value),xx=.int .i64 (x:Int)∧x≤L∧Hid (SbM w0 wr g2 g4 g6 #[.int .i64 (L:Int),.int .i64 st,.slice A1 l1 c1,.slice A2 l2 c2,.slice A3 l3 c3] vN vA vv all' t as' O ws (fun g=>rr.ownBlock≠some g))∧Hid (wr.ownsRow w0.heap.size 3 1 rr x ((Ak (Di a.nf.after all' y x)).map (Value.int .i64)))∧Hid (all'=AW a.nf.after y all x)∧Hid (∀z∈all',z.length=a.n)) (fun _ _ xx _=>L - (intOf xx).toNat)
  case atStart=>exact⟨0,all,us,rfl,Nat.zero_le _,b0,hide Ca,hide rfl,cJ⟩
  case round=>
    obtain⟨x,all',O,rfl,hx,hI,hR,hk,hz⟩:=hrel
    obtain⟨eu,cm,rfl⟩:=AG hI.out.sets
    obtain⟨AR,cR,rfl⟩:=AG hR.out
    have cy:=hI.out.b2.cell
    by_cases cX:x<L
    · have ak:all'[i]?=some y:=by rw [hk.out]; exact Dp (DJ _ _ _) cQ.out
      have cE:=AM ak
      have cK:all'.length≤100008:=by
        rw [hk.out]
        have:=Ko a.nf.after y all x
        omega
      have aX:=hide (hI.out.keep (As wr))
      obtain⟨gS,c,gm,e1,e2,e3⟩:=hI.out.at ak
      injection e1 with e1 co cp
      subst e1 cp
      have aj:=hz.out y (List.mem_of_getElem? ak)
      have bd:BV wr.drew wr.drew.heap.size (.slice (some ⟨gm,0,none⟩) y.length y.length) y:=e3.keep (As wr) (Nat.le_refl _)
      have ax:=hI.out.below.trans ((As wr).mono hI.out.below.size)
      have ai:=Ly (x:=x) (b6.out.keep (w':=wr.drew) (fun p hp=>ax.cell hp) ax.size) cF.out cx.out bd aj (by rw [←aA.out]; exact cX)
      obtain⟨M,aG⟩:∃M,M=all'.length:=⟨_,rfl⟩
      rw [aj] at ai e2
      rw [←aG] at cK cE ⊢
      have E:=hide aG
      obtain⟨I,aM⟩:∃I,I=a.n:=⟨_,rfl⟩
      have aN:=hide aM
      rw [←aM] at ai e2 bf
      have ey:=hide aj
      clear ak e3 bd ax aG co aM aj
      go_wp2_with fail
      refine Reg.cP [0,0,0,6,14,0,63,127] ?_ (by kernel_rfl) (by repeat (first | exact hN | refine Reg.NoQ.then ?_ | refine Reg.NoQ.inBlock ?_))
      go_wp2_with fail
      refine Calls.ret ai ?_
      rintro vT w3 ⟨aC,Z,b8⟩
      obtain⟨gT,cB,rfl,af⟩:=Z
      have aD:(a.nf.after y x).length=I:=by rw [NF.after_len,a.nf_n,aN.out]
      have cD:=b8 gT rfl
      have ay:=hide (aX.out.keep aC)
      have b1:=hide (Bu hR.out ((As wr).trans aC))
      have cV:wr.heap.size≤gT:=cD
      have aK:Hid (D8 w3 w0.heap.size vA (.slice (some ⟨gT,0,none⟩) (a.nf.after y x).length (a.nf.after y x).length) (a.nf.after y x)):=⟨gT,rfl,Nat.le_trans hI.out.below.size cV,af,fun e=>by have:=Ci hI.out.acc e; omega⟩
      have Z:=hide (show BV w3 w3.heap.size (.slice (some ⟨gT,0,none⟩) (a.nf.after y x).length (a.nf.after y x).length) (a.nf.after y x) from⟨gT,af.lt,rfl,af⟩)
      rw [aD] at Z aK ⊢
      have b7:=hide aD
      clear ai aC b8 cB af aX cy e2 aD
      go_wp2_with fail
      rw [E.out]
      refine RU (S:=I) (m:=a.nf.after y x) ay.out Z.out bf (fun z J=>by rw [aN.out]; exact hz.out z J) b7.out (by rw [←E.out]; omega) ?_
      iterate 15 (intro _)
      intro w4 k ah ba bg bm
      have V:=hide (ay.out.keep ah)
      have b3:=hide (Bu b1.out ah)
      have cU:Hid (D8 w4 w0.heap.size vA (.slice (some ⟨gT,0,none⟩) I I) (a.nf.after y x)):=aK.out.kept (Ac.of_below ah (fun _=>False)) (fun _ _ x=>x.elim) (fun _ _ x=>x)
      have bh:=hide bg
      have cY:=hide bm
      have ex:k≤M:=by rw [E.out]; exact ba
      have bl:=hide (Ry a.nf.after all y x)
      clear bg bm ba ah ay b1 aK Z
      by_cases cH:k<M
      · obtain⟨s,hs⟩:=Ap (l:=all') (i:=k) (by rw [←E.out]; exact cH)
        have cT:=cY.out s hs
        subst cT
        have be:=List.mem_of_getElem? hs
        have a5:Ax all' (a.nf.after y x)=k:=HG hs fun j hj=>bh.out j hj
        have ez:((k:Int)==(M:Int))=false:=by simp; omega
        have a6:Hid (all'=AW a.nf.after y all (x+1)):=by
          show _=_
          rw [Cr,←hk.out]
          unfold Bt
          rw [if_pos be]
        have aJ:Hid (Di a.nf.after all' y (x+1)=Di a.nf.after all' y x++[k]):=by
          show _=_
          have U:=bl.out
          rw [←a6.out,←hk.out,a5] at U
          exact U
        have al:=b3.out
        have aO:=V.out.below.size
        have aP:x+1≤4000000:=by omega
        rw [←E.out]
        clear hs a5 be
        go_wp2_with (
          at_builtin
          refine BO (w:=w4) C9 rfl _ _ rfl w0.heap.size (.slice AR x cR) x _ rfl al [.int .i64 (k:Int)] 1 rfl rfl (by simp [Value.oneCell']) aP aO ?_
          intro g' ar w7 a4 a2 a3 cA
          have az:=hide (((V.out.weak (N':=fun g=>(Value.slice AR x cR).ownBlock≠some g∧g<w4.heap.size) (fun g C h=>⟨h,C⟩)).row al (fun g C=>C.1) a2).weak (N':=fun g=>(Value.slice (some ⟨g',0,none⟩) (x+1) ar).ownBlock≠some g) (fun g _ C e=>by
            rcases a3 with G | ⟨cq,G,cL⟩
            · exact C.1 (by rw [←G]; exact e)
            · rw [e] at G
              have:=Option.some.inj G
              have:=C.2
              omega))
          have aB:=hide a4
          clear a4 a2 a3)
        refine⟨⟨x+1,all',O,by go_num,by omega,?_,?_,a6,hz⟩,by simp [intOf]; omega⟩
        · have:=az.out
          rw [←E.out] at this
          exact this
        · rw [aJ.out,EK,List.map_append]
          exact aB.out
      · obtain rfl:k=M:=by omega
        have aH:a.nf.after y x∉all':=Qm fun j hj=>bh.out j (by rw [E.out]; exact hj)
        have ew:((k:Int)==(k:Int))=true:=by simp
        have a6:Hid (all'++[a.nf.after y x]=AW a.nf.after y all (x+1)):=by
          show _=_
          rw [Cr,←hk.out]
          unfold Bt
          rw [if_neg aH]
        have a5:Ax (all'++[a.nf.after y x]) (a.nf.after y x)=k:=by
          rw [EQ aH,E.out]
        have aJ:Hid (Di a.nf.after (all'++[a.nf.after y x]) y (x+1)=Di a.nf.after all' y x++[k]):=by
          show _=_
          have U:=bl.out
          rw [←a6.out,←hk.out,a5] at U
          exact U
        have aL:=V.out.sets
        rw [←E.out] at aL
        have al:=b3.out
        have aO:=V.out.below.size
        have aP:x+1≤4000000:=by omega
        have cG:k+1≤4000000:=by omega
        rw [←E.out]
        clear aH a5
        go_wp2_with (
          at_builtin
          first
          | (refine BO (w:=w4) Rr rfl _ _ rfl w0.heap.size (.slice (some ⟨gS,0,none⟩) k cm) k _ rfl aL [.slice (some ⟨gT,0,none⟩) I I] 1 rfl rfl (by simp [Value.oneCell']) cG aO ?_
             intro g5 cn w5 bi aF cM cz
             have aW:=hide (V.out.addS (vS':=.slice (some ⟨g5,0,none⟩) (k+1) cn) cU.out (by rw [←E.out]; exact aF) (by rw [←E.out]; exact bi))
             have bk:=AH aF al (fun g cs e hB=>Aw aL hB (by decide) e)
             have cW:=aW.out.below.size
             clear bi aF cM cz)
          | (refine BO (w:=w5) C9 rfl _ _ rfl w0.heap.size (.slice AR x cR) x _ rfl bk [.int .i64 (k:Int)] 1 rfl rfl (by simp [Value.oneCell']) aP cW ?_
             intro g' ar w7 a4 a2 a3 cA
             have az:=hide (((aW.out.weak (N':=fun g=>(Value.slice AR x cR).ownBlock≠some g∧g<w5.heap.size) (fun g C h=>⟨h,C⟩)).row bk (fun g C=>C.1) a2).weak (N':=fun g=>(Value.slice (some ⟨g',0,none⟩) (x+1) ar).ownBlock≠some g) (fun g _ C e=>by
               rcases a3 with G | ⟨cq,G,cL⟩
               · exact C.1 (by rw [←G]; exact e)
               · rw [e] at G
                 have:=Option.some.inj G
                 have:=C.2
                 omega))
             have aB:=hide a4
             clear a4 a2 a3))
        refine⟨⟨x+1,all'++[a.nf.after y x],_,by go_num,by omega,az,?_,a6,hide fun z J=>?_⟩,by simp [intOf]; omega⟩
        · show World.ownsRow _ _ _ _ _ _ _
          rw [aJ.out,EK,List.map_append]
          exact aB.out
        · rcases List.mem_append.1 J with J | J
          · exact hz.out z J
          · rw [List.mem_singleton.1 J,b7.out,aN.out]
    · obtain rfl:x=L:=by omega
      have cw:=hR.out
      rw [aA.out] at cw
      have ct:=hI.out
      go_wp2_with fail
      refine hQ _ _ _ _ _ _ _ _ _ _ _ _ _ _ _ _ _ _ _ _ _ _ _ _ _ _ _ _ _ _ _ _ _ _ _ _ _ _ _ _ _ _ _ wr _ _ all' O ct hR.out (by rw [hk.out,aA.out]) hz.out
end Go.Proofs.YtfcfpoemojjglaaGreatDoor
