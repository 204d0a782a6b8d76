/-
  Part TJ of a proof.
-/
import Derived.Test.YtfcfpoemojjglaaGreatDoorPA
import Derived.Test.YtfcfpoemojjglaaGreatDoorTI
import Derived.Test.YtfcfpoemojjglaaGreatDoorTG
import Derived.Test.YtfcfpoemojjglaaGreatDoorTH
import Derived.Test.YtfcfpoemojjglaaGreatDoorTF
import Derived.Test.YtfcfpoemojjglaaGreatDoorPE
import Derived.Test.YtfcfpoemojjglaaGreatDoorCE
set_option maxHeartbeats 16000000
set_option maxRecDepth 100000
set_option linter.unusedVariables false
set_option linter.unusedSimpArgs false
namespace Go.Proofs.YtfcfpoemojjglaaGreatDoor
open Go.RowKit
open K (Am Az At AW Fc BR Ah Du)
attribute [-go_sem] loadCellsFrom
set_option maxHeartbeats 16000000
set_option maxRecDepth 100000
theorem XF {w:World} {cs:List Value} {p:Am} {r:Az} {n m cap i:Nat} {k:Int} {A:Option Addr} {l:List Int} (h:At w w.heap.size cs p) (ht:p.topo=2∨p.topo=3) (x:p.rules[n]?=some r) (C:WU p.topo p.states.length r) (J:p.rules.length≤30) (F:Sl w w.heap.size 1 Ai A l) (G:m=l.length) (I:m≤8) (E:l[i]?=some r.fr) (hk:-1≤k∧k<m):
  Calls Tryz.prog 65 #[.agg cs.toArray,.agg #[.int .i64 (m:Int),.int .i64 0,.int .i64 0],.agg #[.slice none 0 0,.slice A m cap,.int .i64 (m:Int),.slice none 0 0,.slice none 0 0,.int .i64 0],.agg #[.int .i64 (n:Int),.int .i64 (i:Int),.int .i64 k],.bool false] w (Ret fun v w'=>(∃b,v=.bool b∧(b=true↔EnS p l (n,i,k)))∧Below w.heap.size w w'):=by
 have O:EnS p l (n,i,k)↔EnR p.topo r l i k:=⟨fun⟨U,h1,M⟩=>by rw [Option.some.inj (x.symm.trans h1)]; exact M,fun h=>⟨r,x,h⟩⟩
 rw [O]
 rcases C.kind with y | y
 ·exact YD h ht x C J F G I E hk y
 ·exact YE h ht x C J F G I E hk y
theorem aAG {w0 E:World} {g3 g4 g5 m cap nr c7:Nat} {A7:Option Addr} {pc:Array Value} {A:Option Addr} {p:Am} {l:List Int} {vS:Value} {S:List Stp}
  (G:Blk w0 g3 27 pc) (J:Blk w0 g4 44 #[.int .i64 (m:Int),.int .i64 0,.int .i64 0]) (M:Blk w0 g5 46 #[.slice none 0 0,.slice A m cap,.int .i64 (m:Int),.slice none 0 0,.slice none 0 0,.int .i64 0]) (aa:pc.size=10)
  (aA:m≤8) (aD:nr≤30) (ac:pc[9]?=some (.slice A7 nr c7)) (hl:Sl w0 w0.heap.size 1 Ai A l) (hm:m=l.length)
  (ab:∀r,r<nr→∃b off fr,A7=some ⟨b,off,none⟩∧b<w0.heap.size∧w0.cell? ⟨b,off+r*18+2,none⟩=some (.int .i64 fr)∧(∀i x,l[i]?=some x→x≠fr→∀k,¬EnS p l (r,i,k))∧
   ∀(h:World) (i:Nat) (k:Int),Below w0.heap.size w0 h→i<m→l[i]?=some fr→-1≤k→k<m→Calls Tryz.prog 65 #[.agg pc,.agg #[.int .i64 (m:Int),.int .i64 0,.int .i64 0],.agg #[.slice none 0 0,.slice A m cap,.int .i64 (m:Int),.slice none 0 0,.slice none 0 0,.int .i64 0],.agg #[.int .i64 (r:Int),.int .i64 (i:Int),.int .i64 k],.bool false] h (Ret fun v w'=>(∃b,v=.bool b∧(b=true↔EnS p l (r,i,k)))∧Below h.heap.size h w'))
  (O:E.ownsRow w0.heap.size 63 3 vS S.length (S.flatMap sC)) (hb:Below w0.heap.size w0 E) (hS:Au p l 0 0 (-1) S)
  {u0 u1 u2 u6 u9 aG aH aJ aK aL aM aN aO aP aQ aR aS aT aU aV aW aX aY aZ b0 b4 b5 b6 b7 b8 b9 ba bb bc bd be bf bg bh bi bj bk bl bm bn bo bp bq br bs bt bu bv ag:Value}
  {Q:Exit→Act→World→Prop} (hN:Reg.NoQ Q)
  (hQ:∀(x9 bz bA bB bC bD bE bF bG bH bI bJ bK bL bM bN bO bP bQ bR bS bT bU bV bW bX bY bZ c0 c4 c5 c6 c8 c9 ca cb cc cd ce cf cg ch ci cj ck cl cm cn co:Value) (w':World) (ai:Value) (S':List Stp),w'.ownsRow w0.heap.size 63 3 ai S'.length (S'.flatMap sC)→Below w0.heap.size w0 w'→Au p l nr 0 (-1) S'→Q (.exit 0) ⟨List.toArray (u0::u1::u2::(.pointer (some ⟨g3,0,none⟩))::(.pointer (some ⟨g4,0,none⟩))::(.pointer (some ⟨g5,0,none⟩))::u6::ai::(.int .i64 (nr:Int))::x9::bz::bA::bB::bC::bD::bE::bF::bG::bH::bI::bJ::bK::bL::
   bM::bN::bO::bP::bQ::bR::bS::bT::bU::bV::bW::bX::bY::bZ::c0::c4::c5::c6::c8::c9::ca::cb::cc::cd::ce::cf::cg::ch::ci::cj::ck::cl::cm::cn::co::ag::[]),[]⟩ w'):
  (Code.loop (CG Tryz.f64 0)).wp Tryz.prog Q ⟨List.toArray (u0::u1::u2::(.pointer (some ⟨g3,0,none⟩))::(.pointer (some ⟨g4,0,none⟩))::(.pointer (some ⟨g5,0,none⟩))::u6::vS::(.int .i64 0)::u9::aG::aH::aJ::aK::aL::aM::aN::aO::aP::aQ::aR::aS::aT::aU::aV::
   aW::aX::aY::aZ::b0::b4::b5::b6::b7::b8::b9::ba::bb::bc::bd::be::bf::bg::bh::bi::bj::bk::bl::bm::bn::bo::bp::bq::br::bs::bt::bu::bv::ag::[]),[]⟩ E:=by
 conv=>arg 2; arg 1; whnf
 have I:=hide G
 have al:=hide J
 have am:=hide M
 have aE:=hide aa
 have aF:=hide ab
 have ap:=hide O
 have av:=hide hb
 have ar:=hide hS
 have az:=hide hl
 have aB:=hide hm
 have ad:=hide ac
 clear G J M aa ab O hb hS hl hm ac
 go_loopw [7,8] (fun vv C wr=>∃(r:Nat) (S':List Stp),C=.int .i64 (r:Int)∧r≤nr∧Hid (wr.ownsRow w0.heap.size 63 3 vv S'.length (S'.flatMap sC))∧Hid (Below w0.heap.size w0 wr)∧Hid (Au p l r 0 (-1) S')) (fun _ C _=>nr - (intOf C).toNat)
 case atStart=>exact⟨0,S,rfl,Nat.zero_le _,ap,av,ar⟩
 case round=>
  obtain⟨r,S',rfl,hr,U,y,W⟩:=hrel
  have c3:=((I.out.below y.out).cell 9).trans ad.out
  by_cases a7:r<nr
  ·obtain⟨b,off,fr,F,aw,a5,a9,a4⟩:=aF.out r a7
   have ay:=hide a5
   have aC:=hide a9
   have ax:=hide a4
   have ak:=hide F
   have cr:(r:Int)<(nr:Int):=by omega
   clear a5 a9 a4 F
   go_wp2_with fail
   refine aAE (w0:=w0) (m:=m) (cap:=cap) (r:=r) (nr:=nr) (b:=b) (off:=off) (c7:=c7) I.out al.out am.out aE.out aA a7 aD (by rw [←ak.out]; exact ad.out) aw ay.out az.out aB.out aC.out ax.out U.out y.out W.out ?_ ?_
   ·repeat (first | exact hN | refine Reg.NoQ.then ?_ | refine Reg.NoQ.inBlock ?_)
   iterate 41 (intro _)
   intro w6 ct S6 V a3 Z
   have ao:=hide V
   have au:=hide a3
   have aq:=hide Z
   clear V a3 Z
   go_wp2_with fail
   exact⟨⟨r+1,S6,by go_num,by omega,ao,au,aq⟩,by simp [intOf]; omega⟩
  ·obtain rfl:nr=r:=by omega
   go_wp2_with fail
   exact hQ _ _ _ _ _ _ _ _ _ _ _ _ _ _ _ _ _ _ _ _ _ _ _ _ _ _ _ _ _ _ _ _ _ _ _ _ _ _ _ _ _ _ _ _ _ _ _ _ _ _ _ S' U.out y.out W.out
section
variable {w:World} {cs:List Value} {p:Am} {m cap:Nat} {A:Option Addr} {l:List Int}
def WW (p:Am) (l:List Int) (v:Value) (w':World):Prop:=∃(S:List Stp) (A':Option Addr) (c:Nat),v=.slice A' S.length c∧Sl w' w'.heap.size 3 BE A' S∧∀t,t∈S↔EnS p l t
theorem aAI (h:At w w.heap.size cs p) (hrel:AC p=0) (a3:p.rules.length≤30) (Z:Sl w w.heap.size 1 Ai A l) (hm:m=l.length) (an:m≤8):
  Calls Tryz.prog 64 #[.agg cs.toArray,.agg #[.int .i64 (m:Int),.int .i64 0,.int .i64 0],.agg #[.slice none 0 0,.slice A m cap,.int .i64 (m:Int),.slice none 0 0,.slice none 0 0,.int .i64 0]] w (Ret fun v w'=>Below w.heap.size w w'∧WW p l v w'):=by
 obtain⟨A1,c1,A2,c2,A3,c3,A4,c4,A5,c5,A6,c6,A7,c7,aN,q0,q1,q2,q3,q4,q5,q6,q7,q8,q9,-,-,-,-,-,-,h7,aD⟩:=h.cells
 obtain⟨w1,br,V,aa,-⟩:=Ae w cs.toArray 27
 obtain⟨w2,bs,W,ab,-⟩:=Ae w1 #[.int .i64 (m:Int),.int .i64 0,.int .i64 0] 44
 obtain⟨C,bt,G,ac,-⟩:=Ae w2 #[.slice none 0 0,.slice A m cap,.int .i64 (m:Int),.slice none 0 0,.slice none 0 0,.int .i64 0] 46
 have U:=V.trans (W.mono V.size)
 have y:=U.trans (G.mono U.size)
 have af:=(aa.below W).below G
 have ag:=ab.below G
 have ah:=ac
 have am:=Z.keep (w':=C) (B':=C.heap.size) (fun q E=>y.cell E) y.size
 have ht:=(W2 hrel).topo
 have ap:∀r,r<p.rules.length→∃b off fr,A7=some ⟨b,off,none⟩∧b<C.heap.size∧C.cell? ⟨b,off+r*18+2,none⟩=some (.int .i64 fr)∧(∀i x,l[i]?=some x→x≠fr→∀k,¬EnS p l (r,i,k))∧
   ∀(F:World) (i:Nat) (k:Int),Below C.heap.size C F→i<m→l[i]?=some fr→-1≤k→k<m→Calls Tryz.prog 65 #[.agg cs.toArray,.agg #[.int .i64 (m:Int),.int .i64 0,.int .i64 0],.agg #[.slice none 0 0,.slice A m cap,.int .i64 (m:Int),.slice none 0 0,.slice none 0 0,.int .i64 0],.agg #[.int .i64 (r:Int),.int .i64 (i:Int),.int .i64 k],.bool false] F (Ret fun v w'=>(∃b,v=.bool b∧(b=true↔EnS p l (r,i,k)))∧Below F.heap.size F w'):=by
  intro r hr
  obtain⟨rl,J⟩:=An (l:=p.rules) hr
  have hR:=Xm hrel J
  obtain⟨b,off,rc,av,al,hC,aE,-⟩:=Du h7 J
  obtain⟨E1,f1,E2,f2,E3,f3,E4,f4,E5,f5,E6,f6,E7,f7,E8,f8,⟨rz,r0,r1,r2,-⟩,-⟩:=K.AW.cells hC.is
  simp only [Array.toArray_toList] at r2
  refine⟨b,off,rl.fr,av,Nat.lt_of_lt_of_le al y.size,(y.cell al).trans (aE 2 _ r2),fun i x hx aM k hE=>?_,fun F i k hx hi aF aG aH=>?_⟩
  ·obtain⟨r',h1,h2⟩:=hE
   have e:rl=r':=Option.some.inj (J.symm.trans h1)
   subst e
   exact aM (Option.some.inj (hx.symm.trans h2.fr))
  ·have I:=y.trans (hx.mono y.size)
   exact XF (h.keep (fun q E=>I.cell E) I.size) ht J hR a3 (Z.keep (fun q E=>I.cell E) I.size) hm an aF ⟨aG,aH⟩
 have ak:=hide y
 have aA:=hide af
 have aB:=hide ag
 have aC:=hide ah
 have aJ:=hide am
 have aq:=hide ap
 have ai:Hid (∀S,Au p l p.rules.length 0 (-1) S→∀t,t∈S↔EnS p l t):=hide fun S hS=>hS.all
 obtain⟨nr,ao⟩:∃x,x=p.rules.length:=⟨_,rfl⟩
 rw [←ao] at aq a3 q9 ai
 have aL:=hide hm
 have aY:=hide q9
 generalize cs.toArray=pc at*
 clear h h7 aD hrel Z hm af ag ah V W G U y aa ab ac am ap ht q0 q1 q2 q3 q4 q5 q6 q7 q8 q9 ao
 go_enter Tryz.func64,Tryz.ntmps64
 go_wp2_with fail
 refine aAG (w0:=C) (m:=m) (cap:=cap) (nr:=nr) (c7:=c7) (A7:=A7) (S:=[]) aA.out aB.out aC.out aN an a3 aY.out aJ.out aL.out aq.out (World.ownsRow_nil _ _ _ _) (Below.refl _ _) Au.start ?_ ?_
 ·repeat (first | refine Reg.NoQ.then ?_ | refine Reg.NoQ.inBlock ?_ | exact Reg.NoQ.body (fun _ _ h=>h) (fun _ h=>h))
 iterate 49 (intro _)
 intro w6 bw M ad aj O
 have aK:=O.len
 obtain⟨a7,a8,rfl,ae⟩:=Z2 (B:=w6.heap.size) ad rfl (Nat.le_refl _) (by omega)
 have hF:=hide (show Below w.heap.size w w6∧WW p l (.slice a7 M.length a8) w6 from⟨ak.out.trans (aj.mono ak.out.size),M,a7,a8,rfl,ae,ai.out M O⟩)
 clear ad aj O ae aK
 go_wp2_with fail
 go_ret
 exact hF.out
theorem Yo (h:At w w.heap.size cs p) (ad:p.Small) (hT:K.SpOK w) (hrel:AC p=0) (hl:Sl w w.heap.size 1 Ai A l) (hm:m=l.length) (ao:∀x∈l,inN (p.states.length:Int) x=true) (aa:m≤8):
  Calls Tryz.prog 24 #[.agg cs.toArray,.agg #[.int .i64 (m:Int),.int .i64 0,.int .i64 0],.agg #[.slice none 0 0,.slice A m cap,.int .i64 (m:Int),.slice none 0 0,.slice none 0 0,.int .i64 0]] w (Ret fun v w'=>Below w.heap.size w w'∧∃(u:Value) (e:Int),v=.tuple #[u,.int .i64 e]∧WW p l u w'):=by
 have ac:=h.rules_at.1
 obtain⟨ab,ht⟩:=Xb hrel
 obtain⟨w1,aH,a2,ah,-⟩:=Ae w cs.toArray 27
 obtain⟨w2,aF,a3,ai,-⟩:=Ae w1 #[.int .i64 (m:Int),.int .i64 0,.int .i64 0] 44
 obtain⟨G,aG,M,aj,-⟩:=Ae w2 #[.slice none 0 0,.slice A m cap,.int .i64 (m:Int),.slice none 0 0,.slice none 0 0,.int .i64 0] 46
 have Z:=a2.trans (a3.mono a2.size)
 have am:=Z.trans (M.mono Z.size)
 have F:=hide am
 have U:=(ah.below a3).below M
 have V:=ai.below M
 have W:=aj
 have aq:=(W2 hrel).topo
 have O:Hid (∀y,Below G.heap.size G y→Calls Tryz.prog 63 #[.agg cs.toArray,.agg #[.int .i64 (m:Int),.int .i64 0,.int .i64 0],.agg #[.slice none 0 0,.slice A m cap,.int .i64 (m:Int),.slice none 0 0,.slice none 0 0,.int .i64 0]] y (Ret fun v w'=>v=.int .i64 (if m=0 then 8 else 0)∧Below y.heap.size y w')):=hide (fun y hx=>by
  have C:=F.out.trans (hx.mono F.out.size)
  exact Xx (h.keep (fun p I=>C.cell I) C.size) ad (hT.below C) ab (Ml ab aq) (hl.keep (fun p I=>C.cell I) C.size) hm ao aa)
 have aE:Hid (∀y,Below G.heap.size G y→Calls Tryz.prog 64 #[.agg cs.toArray,.agg #[.int .i64 (m:Int),.int .i64 0,.int .i64 0],.agg #[.slice none 0 0,.slice A m cap,.int .i64 (m:Int),.slice none 0 0,.slice none 0 0,.int .i64 0]] y (Ret fun v w'=>Below y.heap.size y w'∧WW p l v w')):=hide (fun y hx=>by
  have C:=F.out.trans (hx.mono F.out.size)
  exact aAI (h.keep (fun p I=>C.cell I) C.size) hrel ad.rules (hl.keep (fun p I=>C.cell I) C.size) hm aa)
 generalize cs.toArray=pc at*
 have av:=hide U
 have aw:=hide V
 have ax:=hide W
 have aD:=hide ac
 have ap:=Ah U ac
 have a7:(loadCellsFrom ⟨w1.heap.size,0,none⟩ 0 3 #[]).run Tryz.prog G=.ok _ G:=Ah V rfl
 have a8:(loadCellsFrom ⟨w2.heap.size,0,none⟩ 0 6 #[]).run Tryz.prog G=.ok _ G:=Ah W rfl
 have ay:(m=0∧Hid (∀t,¬EnS p l t))∨0<m:=by
  by_cases h0:m=0
  ·exact .inl ⟨h0,hide fun t ht=>by have:=ht.range; omega⟩
  ·exact .inr (by omega)
 clear h ad hT hl hm ao aa U V W a2 a3 M ah ai aj Z am ac ab ht aq hrel
 rcases ay with⟨rfl,aC⟩ | h1
 ·rw [if_pos rfl,show((0:Nat):Int)=0 from rfl] at O
  rw [show((0:Nat):Int)=0 from rfl] at a7 a8 aF aG
  rw [show((0:Nat):Int)=0 from rfl]
  go_enter Tryz.func24,Tryz.ntmps24
  go_wp2_with fail
  refine Calls.ret (O.out _ (Below.refl _ _)) ?_
  rintro v J ⟨rfl,E⟩
  have a5:=hide (F.out.trans (E.mono F.out.size))
  clear E ap a7 a8
  go_wp2_with fail
  exact bodyPost_ret (v:=.tuple #[.slice none 0 0,.int .i64 8]) (by simp [results,Tryz.results24,go_sem]) rfl ⟨a5.out,_,_,rfl,[],none,0,rfl,Sl.nil rfl,fun t=>⟨fun h=>(by cases h),fun h=>absurd h (aC.out t)⟩⟩
 ·rw [if_neg (by omega)] at O
  clear h1
  go_enter Tryz.func24,Tryz.ntmps24
  go_wp2_with fail
  refine Calls.ret (O.out _ (Below.refl _ _)) ?_
  rintro v J ⟨rfl,E⟩
  have a4:=hide E
  have az:=Ah (av.out.below E) aD.out
  have aA:(loadCellsFrom ⟨w1.heap.size,0,none⟩ 0 3 #[]).run Tryz.prog J=.ok _ J:=Ah (aw.out.below E) rfl
  have aB:(loadCellsFrom ⟨w2.heap.size,0,none⟩ 0 6 #[]).run Tryz.prog J=.ok _ J:=Ah (ax.out.below E) rfl
  clear E ap a7 a8
  go_wp2_with fail
  refine Calls.ret (aE.out _ a4.out) ?_
  rintro v w6 ⟨an,ak⟩
  have a5:=hide (F.out.trans ((a4.out.trans (an.mono a4.out.size)).mono F.out.size))
  have au:=hide ak
  obtain⟨S,A',c,rfl,-⟩:=ak
  clear an az aA aB
  go_wp2_with fail
  exact bodyPost_ret (v:=.tuple #[.slice A' S.length c,.int .i64 0]) (by simp [results,Tryz.results24,go_sem]) rfl ⟨a5.out,_,_,rfl,au.out⟩
end
end Go.Proofs.YtfcfpoemojjglaaGreatDoor
namespace Go.Proofs.YtfcfpoemojjglaaGreatDoor
open Go.RowKit
open K (Am AB At Ba Ah)
attribute [-go_sem] loadCellsFrom
set_option maxHeartbeats 16000000
set_option maxRecDepth 100000
section
variable {w:World} {cs ds:List Value} {p:Am} {q:AB} {m:Nat}
def Lh (w:World) (g:Nat) (v0 v1 v2 v3 v4 v5:Value):World:=(((((w.setCell ⟨g,0,none⟩ v0).setCell ⟨g,1,none⟩ v1).setCell ⟨g,2,none⟩ v2).setCell ⟨g,3,none⟩ v3).setCell ⟨g,4,none⟩ v4).setCell ⟨g,5,none⟩ v5
theorem SV {w:World} {g:Nat} {e:TypeId} {a0 a1 J M O U:Value} (h:Blk w g e #[a0,a1,J,M,O,U]) (x y C E F G:Value):∃I,Lh w g x y C E F G=I∧Blk I g e #[x,y,C,E,F,G]∧Ac w I (fun k=>k=g):=
 ⟨_,rfl,(((((h.set_ 0 x).set_ 1 y).set_ 2 C).set_ 3 E).set_ 4 F).set_ 5 G,((((((Ac.refl w (fun k=>k=g)).setCell (p:=⟨g,0,none⟩) (fun _=>rfl) _).setCell (p:=⟨g,1,none⟩) (fun _=>rfl) _).setCell (p:=⟨g,2,none⟩) (fun _=>rfl) _).setCell (p:=⟨g,3,none⟩) (fun _=>rfl) _).setCell (p:=⟨g,4,none⟩) (fun _=>rfl) _).setCell (p:=⟨g,5,none⟩) (fun _=>rfl) _⟩
theorem Yz {A:Option Addr} {c m:Nat} {l:List Int} (V:Sl w w.heap.size 1 Ai A l) (M:m=l.length) (ah:m≤60):
  Calls Tryz.prog 18 #[.slice A m c] w (Ret fun v w'=>Below w.heap.size w w'∧∃h cap,v=.agg #[.slice none 0 0,.slice h m cap,.int .i64 (m:Int),.slice none 0 0,.slice none 0 0,.int .i64 0]∧w'.ownsRow w.heap.size 3 1 (.slice h m cap) m (l.map fun x=>.int .i64 x)):=by
 obtain⟨Z,ak,E,G,a8⟩:=Ae w #[.slice none 0 0,.slice none 0 0,.int .i64 0,.slice none 0 0,.slice none 0 0,.int .i64 0] 46
 have J:=Hh (c:=c) (V.keep (w':=Z) (B':=Z.heap.size) (fun _ hp=>E.cell hp) E.size) (Nat.le_refl _) (by omega)
 rw [←M] at J
 have a6:=hide J
 have U:=hide E
 have a3:=hide G
 have ai:=hide M
 have ag:=G.lt
 clear E G a8 V J M
 go_enter Tryz.func18,Tryz.ntmps18
 go_wp2_with fail
 refine Calls.ret a6.out ?_
 rintro v w2 ⟨F,C⟩
 obtain⟨h,cap,rfl⟩:=AH C
 have y:=a3.out.below F
 have hf:=y.frozen
 have af:=y.lt
 have hc:=y.cell
 obtain⟨wF,ab,O,I⟩:=SV y (.slice none 0 0) (.slice h m cap) (.int .i64 (m:Int)) (.slice none 0 0) (.slice none 0 0) (.int .i64 0)
 have W:=U.out.size
 have aj:=F.size
 have a9:(loadCellsFrom ⟨w.heap.size,0,none⟩ 0 6 #[]).run Tryz.prog wF=.ok _ wF:=Ah O rfl
 have a5:=hide ((U.out.trans (F.mono W)).trans (I.below (by omega) fun b hb (e:b=w.heap.size)=>by omega))
 have a4:=hide (K.Kc (I.ownsRow C fun g hg e=>by have h1:=Bb C hg; have h2:g=w.heap.size:=e; omega) W)
 unfold Lh at ab
 clear F C O I y
 go_wp2_with fail
 refine bodyPost_ret (v:=.agg #[.slice none 0 0,.slice h m cap,.int .i64 (m:Int),.slice none 0 0,.slice none 0 0,.int .i64 0]) (by simp [results,Tryz.results18,go_sem,a9]) rfl ⟨a5.out,h,cap,rfl,a4.out⟩
end
end Go.Proofs.YtfcfpoemojjglaaGreatDoor
