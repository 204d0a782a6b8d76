/-
  Part GC of a proof.
-/
import Derived.Test.YtfcfpoemojjglaaGreatDoorPA
import Derived.Test.YtfcfpoemojjglaaGreatDoorGB
import Derived.Test.YtfcfpoemojjglaaGreatDoorFJ
import Derived.Test.YtfcfpoemojjglaaGreatDoorFB
import Derived.Test.YtfcfpoemojjglaaGreatDoorGA
import Derived.Test.YtfcfpoemojjglaaGreatDoorPM
import Derived.Test.YtfcfpoemojjglaaGreatDoorCX
set_option maxHeartbeats 16000000
set_option maxRecDepth 100000
set_option linter.unusedVariables false
set_option linter.unusedSimpArgs false
namespace Go.Proofs.YtfcfpoemojjglaaGreatDoor
open Go.RowKit
open K (Am AB At Ba PQX Ah DY Gr)
attribute [-go_sem] loadCellsFrom
set_option maxHeartbeats 16000000
set_option maxRecDepth 100000
section
variable {w:World} {cs ds:List Value} {p:Am} {q:AB} {m:Nat}
def Lh (w:World) (g:Nat) (v0 v1 v2 v3 v4 v5:Value):World:=(((((w.setCell ⟨g,0,none⟩ v0).setCell ⟨g,1,none⟩ v1).setCell ⟨g,2,none⟩ v2).setCell ⟨g,3,none⟩ v3).setCell ⟨g,4,none⟩ v4).setCell ⟨g,5,none⟩ v5
theorem SV {w:World} {g:Nat} {e:TypeId} {a0 a1 z C E G:Value} (h:Blk w g e #[a0,a1,z,C,E,G]) (v0 v1 v2 v3 y v5:Value):∃wF,Lh w g v0 v1 v2 v3 y v5=wF∧Blk wF g e #[v0,v1,v2,v3,y,v5]∧Ac w wF (fun k=>k=g):=
 ⟨_,rfl,(((((h.set_ 0 v0).set_ 1 v1).set_ 2 v2).set_ 3 v3).set_ 4 y).set_ 5 v5,((((((Ac.refl w (fun k=>k=g)).setCell (p:=⟨g,0,none⟩) (fun _=>rfl) _).setCell (p:=⟨g,1,none⟩) (fun _=>rfl) _).setCell (p:=⟨g,2,none⟩) (fun _=>rfl) _).setCell (p:=⟨g,3,none⟩) (fun _=>rfl) _).setCell (p:=⟨g,4,none⟩) (fun _=>rfl) _).setCell (p:=⟨g,5,none⟩) (fun _=>rfl) _⟩
theorem M5 {A:Option Addr} {c m:Nat} {l:List Int} (hl:Sl w w.heap.size 1 Ai A l) (O:m=l.length) (am:m≤60):
  Calls Tryz.prog 18 #[.slice A m c] w (Ret fun v w'=>Below w.heap.size w w'∧∃h y,v=.agg #[.slice none 0 0,.slice h m y,.int .i64 (m:Int),.slice none 0 0,.slice none 0 0,.int .i64 0]∧Sl w' w'.heap.size 1 Ai h l):=by
 obtain⟨w1,ao,E,I,aa⟩:=Ae w #[.slice none 0 0,.slice none 0 0,.int .i64 0,.slice none 0 0,.slice none 0 0,.int .i64 0] 46
 have M:=Hh (c:=c) (hl.keep (w':=w1) (B':=w1.heap.size) (fun _ hp=>E.cell hp) E.size) (Nat.le_refl _) (by omega)
 rw [←O] at M
 have a8:=hide M
 have a2:=hide E
 have a5:=hide I
 have U:=hide O
 have al:=I.lt
 clear E I aa hl M O
 go_enter Tryz.func18,Tryz.ntmps18
 go_wp2_with fail
 refine Calls.ret a8.out ?_
 rintro v w2 ⟨G,C⟩
 obtain⟨h,y,V,hS⟩:=B8 (B:=w2.heap.size) C (by rw [U.out]) (Nat.le_refl _) (by omega)
 rw [←U.out] at V
 subst V
 have z:=a5.out.below G
 have hf:=z.frozen
 have ak:=z.lt
 have hc:=z.cell
 obtain⟨wF,af,Z,J⟩:=SV z (.slice none 0 0) (.slice h m y) (.int .i64 (m:Int)) (.slice none 0 0) (.slice none 0 0) (.int .i64 0)
 have ae:=a2.out.size
 have an:=G.size
 have ab:(loadCellsFrom ⟨w.heap.size,0,none⟩ 0 6 #[]).run Tryz.prog wF=.ok _ wF:=Ah Z rfl
 have a7:=hide ((a2.out.trans (G.mono ae)).trans (J.below (by omega) fun b hb (e:b=w.heap.size)=>by omega))
 have a6:=hide (show Sl wF wF.heap.size 1 Ai h l from(by
  obtain⟨A2,c2,e2,W⟩:=B8 (B:=wF.heap.size) (J.ownsRow C fun g hg e=>by have h1:=Bb C hg; have W:g=w.heap.size:=e; omega) (by rw [U.out]) (Nat.le_refl _) (by omega)
  cases e2
  exact W))
 unfold Lh at af
 clear G C hS Z J z
 go_wp2_with fail
 refine bodyPost_ret (v:=.agg #[.slice none 0 0,.slice h m y,.int .i64 (m:Int),.slice none 0 0,.slice none 0 0,.int .i64 0]) (by simp [results,Tryz.results18,go_sem,ab]) rfl ⟨a7.out,h,y,rfl,a6.out⟩
theorem LS {A:Option Addr} {V:Nat} {l:List Int} (h:At w w.heap.size cs p) (M:Ba w w.heap.size ds q) (ad:p.Small) (ae:q.Small) (hT:K.SpOK w) (h0:K.protE K.nameOK p=0) (h1:K.propE K.nameOK p q=0) (hb:Ek p) (hl:Sl w w.heap.size 1 Ai A l) (hm:m=l.length) (ar:∀x∈l,inN (p.states.length:Int) x=true) (a9:1≤m∧m≤8):
  Calls Tryz.prog 17 #[.agg cs.toArray,.agg ds.toArray,.agg #[.int .i64 (m:Int),.int .i64 0,.int .i64 0],.agg #[.slice none 0 0,.slice A m V,.int .i64 (m:Int),.slice none 0 0,.slice none 0 0,.int .i64 0]] w (Ret fun v w'=>Below w.heap.size w w'∧∃b:Bool,v=.bool b∧(b=true↔∀i x,l[i]?=some x→x∈Dr p q i)):=by
 have aa:=h.rules_at.1
 obtain⟨B1,d1,B2,d2,B3,d3,B4,d4,ab,-⟩:=M.cells
 obtain⟨w1,b1,a6,ai,aE⟩:=Ae w cs.toArray 27
 obtain⟨w2,b2,a7,aj,aF⟩:=Ae w1 ds.toArray 30
 obtain⟨w3,b3,O,ak,aG⟩:=Ae w2 #[.int .i64 (m:Int),.int .i64 0,.int .i64 0] 44
 obtain⟨I,b4,J,al,aH⟩:=Ae w3 #[.slice none 0 0,.slice A m V,.int .i64 (m:Int),.slice none 0 0,.slice none 0 0,.int .i64 0] 46
 have a4:=a6.trans (a7.mono a6.size)
 have a5:=a4.trans (O.mono a4.size)
 have ao:=a5.trans (J.mono a5.size)
 have G:=hide ao
 have W:=(((ai.below a7).below O).below J)
 have Z:=((aj.below O).below J)
 have a2:=(ak.below J)
 have an:=al
 have aS:Hid (∀z,Below I.heap.size I z→Calls Tryz.prog 45 #[.agg cs.toArray,.agg ds.toArray,.agg #[.int .i64 (m:Int),.int .i64 0,.int .i64 0]] z (Ret fun v w'=>v=.int .i64 0∧Below z.heap.size z w')):=hide (fun z hx=>by
  have y:=G.out.trans (hx.mono G.out.size)
  exact S8 (h.keep (fun p C=>y.cell C) y.size) (M.keep (fun p C=>y.cell C) y.size) ad ae (hT.below y) h0 h1 hb a9)
 have aD:Hid (∀z,Below I.heap.size I z→Calls Tryz.prog 46 #[.agg cs.toArray,.agg ds.toArray,.agg #[.int .i64 (m:Int),.int .i64 0,.int .i64 0],.agg #[.slice none 0 0,.slice A m V,.int .i64 (m:Int),.slice none 0 0,.slice none 0 0,.int .i64 0]] z (Ret fun v w'=>Below z.heap.size z w'∧∃b:Bool,v=.bool b∧(b=true↔∀i x,l[i]?=some x→x∈Dr p q i))):=hide (fun z hx=>by
  have y:=G.out.trans (hx.mono G.out.size)
  exact Qx (h.keep (fun p C=>y.cell C) y.size) (M.keep (fun p C=>y.cell C) y.size) ad ae hb (hl.keep (fun p C=>y.cell C) y.size) hm ar a9.2)
 generalize cs.toArray=pc at*
 generalize ds.toArray=qc at*
 have ax:=hide W
 have ay:=hide Z
 have az:=hide a2
 have aA:=hide an
 have aQ:=hide aa
 have aR:=hide ab
 have aJ:=Ah W aa
 have aL:=Ah Z ab
 have aN:(loadCellsFrom ⟨w2.heap.size,0,none⟩ 0 3 #[]).run Tryz.prog I=.ok _ I:=Ah a2 rfl
 clear h M ad ae hT h0 h1 hb hl hm ar a9 W Z a2 an a6 a7 O J ai aj ak al aE aF aG aH a4 a5 ao aa ab
 go_enter Tryz.func17,Tryz.ntmps17
 go_wp2_with fail
 refine Calls.ret (aS.out _ (Below.refl _ _)) ?_
 rintro v U ⟨rfl,E⟩
 have a8:=hide E
 have aK:=Ah (ax.out.below E) aQ.out
 have aM:=Ah (ay.out.below E) aR.out
 have aO:(loadCellsFrom ⟨w2.heap.size,0,none⟩ 0 3 #[]).run Tryz.prog U=.ok _ U:=Ah (az.out.below E) rfl
 have aP:(loadCellsFrom ⟨w3.heap.size,0,none⟩ 0 6 #[]).run Tryz.prog U=.ok _ U:=Ah (aA.out.below E) rfl
 clear E aJ aL aN
 go_wp2_with fail
 refine Calls.ret (aD.out _ a8.out) ?_
 rintro v w6 ⟨ap,b,rfl,aq⟩
 have aB:=hide (G.out.trans ((a8.out.trans (ap.mono a8.out.size)).mono G.out.size))
 have aC:=hide aq
 clear ap aq aK aM aO aP
 go_wp2_with fail
 go_ret
 exact⟨aB.out,b,rfl,aC.out⟩
end
theorem Qr {p:Am} {q:AB} {u:List Nat} (M:u≠[]):C6 (BS p q) (AU p q) u=true↔∀i x,(Ak u)[i]?=some x→x∈Dr p q i:=by
 cases u with
 | nil=>exact absurd rfl M
 | cons y u=>
  show(decide ((y:Int)∈BS p q)&&u.all fun y:Nat=>decide ((y:Int)∈AU p q))=true↔_
  rw [Bool.and_eq_true,decide_eq_true_eq,List.all_eq_true]
  constructor
  ·rintro⟨G,I⟩ i x E
   cases i with
   | zero=>
    have:x=(y:Int):=by simpa [Ak] using E.symm
    rw [this]; exact G
   | succ i=>
    have O:(Ak u)[i]?=some x:=by simpa [Ak] using E
    obtain⟨z,C,rfl⟩:=List.mem_map.1 (List.mem_of_getElem? O)
    exact of_decide_eq_true (I z C)
  ·intro h
   refine⟨h 0 y (by simp [Ak]),fun z C=>decide_eq_true ?_⟩
   obtain⟨i,J⟩:=List.mem_iff_getElem?.1 C
   exact h (i+1) z (by simp [Ak,J])
theorem QO {w:World} {cs ds:List Value} {p:Am} {q:AB} {A:Option Addr} {c:Nat} {l:List Int} (h:At w w.heap.size cs p) (h':Ba w w.heap.size ds q) (hf:p.Fits) (hg:q.Fits) (hl:Sl w w.heap.size 1 Ai A l) (hT:K.SpOK w) (hP:BV w):
  Calls Tryz.prog 5 #[.agg cs.toArray,.agg ds.toArray,.slice A l.length c] w (Ret fun v w'=>v=.bool true∧Below w.heap.size w w'):=by
 have b7:=h.rules_at.1
 obtain⟨B1,d1,B2,d2,B3,d3,B4,d4,b9,-⟩:=h'.cells
 obtain⟨w1,cm,ao,bj,bU⟩:=Ae w cs.toArray 27
 obtain⟨w2,cn,aU,bk,bV⟩:=Ae w1 ds.toArray 30
 have ab:=hide (ao.trans (aU.mono ao.size))
 have a9:=hide (show PQX w2 w.heap.size w1.heap.size cs.toArray ds.toArray p q from⟨h.keep (fun _ hp=>ab.out.cell hp) ab.out.size,h'.keep (fun _ hp=>ab.out.cell hp) ab.out.size,bj.below aU,bk,hT.below ab.out⟩)
 generalize cs.toArray=pc at*
 generalize ds.toArray=qc at*
 obtain⟨m,hm⟩:∃m,m=l.length:=⟨_,rfl⟩
 rw [←hm]
 have av:=hide hm
 have bG:=hide hl
 have c1:=hl.1
 rw [←hm] at c1
 have bu:Hid (Calls Tryz.prog 9 #[.agg pc,.agg qc] w2 (Ret fun v w'=>DY v (p.Small∧q.Small)∧Below w2.heap.size w2 w')):=hide (Gr (cs:=pc.toList) (ds:=qc.toList) a9.out.pr a9.out.qr hf hg)
 have bJ:=hide b7
 have bK:=hide b9
 have bW:=Ah a9.out.b2 b7
 have bY:=Ah a9.out.b3 b9
 have a8:=hide hP
 clear h h' ao aU bj bk bU bV hf hg b7 b9 hT hP hl hm
 go_enter Tryz.func5,Tryz.ntmps5
 go_wp2_with fail
 refine Calls.ret bu.out ?_
 rintro v w3 ⟨⟨b1,rfl,ao⟩,aV⟩
 have bR:=hide ao
 have an:=hide (a9.out.at aV)
 have Z:=hide (ab.out.trans (aV.mono ab.out.size))
 clear ao aV bW bY bu
 cases b1
 case true=>
  go_wp2_with fail
  refine Calls.ret (Er (a8.out.below Z.out)) ?_
  rintro v w4 ⟨rfl,a3⟩
  have aT:=hide (Z.out.trans (a3.mono Z.out.size))
  clear a3
  go_wp2_with fail
  go_ret
  exact⟨rfl,aT.out⟩
 by_cases bH:8<m
 ·have bI:(8:Int)<(m:Int):=by omega
  go_wp2_with fail
  refine Calls.ret (Er (a8.out.below Z.out)) ?_
  rintro v w4 ⟨rfl,a3⟩
  have aT:=hide (Z.out.trans (a3.mono Z.out.size))
  clear a3
  go_wp2_with fail
  go_ret
  exact⟨rfl,aT.out⟩
 have bI:¬(8:Int)<(m:Int):=by omega
 have aH:=hide (bR.out rfl)
 obtain⟨ec,aE⟩:∃e,Hid (K.checkW K.nameOK p q=e):=⟨_,rfl⟩
 have c3:Hid (∀E,Hid (PQX E w.heap.size w1.heap.size pc qc p q)→Below w.heap.size w E→Calls Tryz.prog 11 #[.agg pc,.agg qc] E (Ret fun v w'=>Ej E ec p.states.length (C6 (BS p q) (AU p q)) v w')):=hide (fun E V aD=>by
  rw [←aE.out]
  exact Iy (cs:=pc.toList) (ds:=qc.toList) V.out.pr V.out.qr aH.out.1 aH.out.2 V.out.tab (a8.out.below aD))
 have bX:=Ah an.out.b2 bJ.out
 have bZ:=Ah an.out.b3 bK.out
 go_wp2_with fail
 refine Calls.ret (c3.out _ an Z.out) ?_
 intro r w4 hr
 obtain⟨a3,C,dv,rfl,bn,-,hM⟩:=hr.get
 obtain⟨E1,h1,E2,h2,E3,h3,w5,rfl,co,bs,bl,bo⟩:=Hw bn
 have aL:=a3.trans (bs.mono a3.size)
 have aB:=hide (Z.out.trans (aL.mono Z.out.size))
 have aQ:=hide (an.out.at aL)
 have c0:(loadCellsFrom ⟨w4.heap.size,0,none⟩ 0 5 #[]).run Tryz.prog w5=.ok _ w5:=Ah bl rfl
 have bb:C.edges.length≤3000000∧C.start.length≤4000000:=by
  by_cases I:ec=0
  ·obtain⟨t,ac,hC,ar,rfl⟩:=hM I
   have bQ:=(FK (aE.out.trans I)).L.2
   have e2:ac.length*p.states.length≤1024*6:=Nat.mul_le_mul ar bQ
   exact⟨by rw [Rv]; omega,by simp [AG]⟩
  ·obtain⟨hb,⟨g1,e⟩ | ⟨g1,-⟩⟩:=hr
   ·have he:∀{a b:Nat} {A B:Option Addr} {x y:Nat},Value.slice A a x=Value.slice B b y→a=b:=fun e=>by cases e; rfl
    have e2:#[Value.agg #[.int .i64 C.letters,.int .i64 C.states,.slice E1 C.start.length h1,.slice E2 C.accept.length h2,.slice E3 C.edges.length h3],.int .i64 ec]=#[.agg BQ,.int .i64 ec]:=by injection e
    have e3:Value.agg #[.int .i64 C.letters,.int .i64 C.states,.slice E1 C.start.length h1,.slice E2 C.accept.length h2,.slice E3 C.edges.length h3]=.agg BQ:=congrArg (fun a:Array Value=>a.getD 0 undef) e2
    have e4:#[.int .i64 C.letters,.int .i64 C.states,Value.slice E1 C.start.length h1,.slice E2 C.accept.length h2,.slice E3 C.edges.length h3]=BQ:=by injection e3
    have e5:=he (congrArg (fun a:Array Value=>a.getD 4 undef) e4:Value.slice E3 C.edges.length h3=.slice none 0 0)
    have e6:=he (congrArg (fun a:Array Value=>a.getD 2 undef) e4:Value.slice E1 C.start.length h1=.slice none 0 0)
    omega
   ·exact absurd g1 I
 have au:=LN (c:=c) bo bb.1 bb.2 (bG.out.keep (w':=w5) (B':=w5.heap.size) (fun p hp=>aB.out.cell hp) aB.out.size) (Nat.le_refl _)
 rw [←av.out] at au
 have br:=hide au
 have aA:=hide hM
 clear hr a3 bn bs bl bo aL bX bZ bb au hM
 go_wp2_with fail
 refine Calls.ret br.out ?_
 rintro r w6 ⟨rfl,aW⟩
 have ad:=hide (aB.out.trans (aW.mono aB.out.size))
 have aR:=hide (aQ.out.at aW)
 clear aW br c0
 have bC:=hide (Er (a8.out.below ad.out))
 by_cases I:ec=0
 case neg=>
  have c4:(ec != 0)=true:=by simp [I]
  have W:C.accR l=.tuple #[.bool (C.acc l),.int .i64 (De (C.accV l))]:=rfl
  rw [W]
  generalize C.acc l=bA
  generalize De (C.accV l)=eA
  clear I W
  go_wp2_with fail
  refine Calls.ret bC.out ?_
  rintro v w7 ⟨rfl,G⟩
  have a2:=hide (ad.out.trans (G.mono ad.out.size))
  clear G
  go_wp2_with fail
  go_ret
  exact⟨rfl,a2.out⟩
 have c4:(ec != 0)=false:=by simp [I]
 obtain⟨t,ac,hC,ar,aG⟩:=aA.out I
 have b5:=FK (aE.out.trans I)
 have ai:=Hf (aE.out.trans I)
 cases hv:C.accV l
 ·have W:C.accR l=.tuple #[.bool (C.acc l),.int .i64 1]:=by show Value.tuple #[.bool (C.acc l),.int .i64 (De (C.accV l))]=_; rw [hv]; rfl
  rw [W]
  generalize C.acc l=bA
  clear I W hC ar aG b5 ai hv aA
  go_wp2_with fail
  refine Calls.ret bC.out ?_
  rintro v w7 ⟨rfl,G⟩
  have a2:=hide (ad.out.trans (G.mono ad.out.size))
  clear G
  go_wp2_with fail
  go_ret
  exact⟨rfl,a2.out⟩
 ·have b6:C.ok=true:=by
   unfold WA.accV at hv
   exact(Bool.and_eq_true _ _ ▸ hv).1
  obtain⟨u,hu,a4,bL,aC⟩:∃u,l=Ak u∧okW p.states.length u∧∃b,C.acc l=b∧b=C6 (BS p q) (AU p q) u:=by
   rcases WA.acc_cases b6 l with⟨g1,-⟩ | ⟨u,hu,a4,-,au⟩
   ·rw [hv] at g1; cases g1
   ·subst aG
    rw [GF] at a4
    exact⟨u,hu,a4,_,rfl,by rw [au,Kl hC.ok a4]; exact hC.can.lang u a4⟩
  have W:C.accR l=.tuple #[.bool bL,.int .i64 0]:=by show Value.tuple #[.bool (C.acc l),.int .i64 (De (C.accV l))]=_; rw [hv,aC.1]; rfl
  rw [W]
  have U:=aC.2
  have b0:m=u.length:=by rw [av.out,hu]; simp [Ak]
  have aY:∀x∈l,inN (p.states.length:Int) x=true:=fun x V=>by
   rw [hu] at V
   obtain⟨y,hy,rfl⟩:=List.mem_map.1 V
   rw [D3]
   have:=a4 y hy
   omega
  have aa:=hide (aR.out.at (Ap w6))
  have J:=hide (ad.out.trans ((Ap w6).mono ad.out.size))
  by_cases b4:m=0
  ·have bS:bL=false:=by
    rw [U]
    have:u=[]:=List.length_eq_zero_iff.1 (by omega)
    rw [this]; rfl
   subst b4 bS
   have bD:=hide (Er (a8.out.below J.out))
   clear I W hC ar aG b5 ai hv aA b6 U b0 aY hu a4 aC av bH bI aR aa aQ an a9
   go_wp2_with fail
   refine Reg.region_spl [0,0,2,6,14,30,30,30,158,414,30,1054,4094,8190,16383,32767,65535,131071,262143] (.node 9 11 (.leaf [0,1,2,3,4,5,6,7,8,10,9,11,12,13,14,15,16,17,18]) (.leaf [0,1,2,3,4,5,6,7,8,10,11,9,12,13,14,15,16,17,18])) (by kernel_rfl) (by repeat (first | exact Reg.NoQ.body (fun _ _ h=>h) (fun _ h=>h) | refine Reg.NoQ.then ?_ | refine Reg.NoQ.inBlock ?_)) ?_
   dsimp only [Reg.Spl.goal]
   repeat' (with_reducible refine And.intro ?_ ?_)
   ·refine Reg.rest_walk' [0,1,2,3,4,5,6,7,8,10] [9,11,12,13,14,15,16,17,18] rfl (by kernel_rfl) ?_
    intro Qf z
    go_wp2_with fail
    first | refine z _ _ ?_ | skip
    try clear z
    refine Reg.rest_act' 9 [11,12,13,14,15,16,17,18] [5,6] rfl (by kernel_rfl) ?_
    intro Qf z
    simp only [gT,gS,gZ]
    go_wp2_with fail
    first | refine z _ _ ⟨Reg.same_below (Below.refl _ _) [5,6] rfl,?_⟩ | refine⟨Reg.same_below (Below.refl _ _) [5,6] rfl,?_⟩
    try clear z
    refine Reg.rest_act' 11 [12,13,14,15,16,17,18] [5,6] rfl (by kernel_rfl) ?_
    intro Qf z
    simp only [gT,gS,gZ]
    go_wp2_with fail
    first | refine z _ _ ⟨Reg.same_below (Below.refl _ _) [5,6] rfl,?_⟩ | refine⟨Reg.same_below (Below.refl _ _) [5,6] rfl,?_⟩
    try clear z
    refine Reg.rest_act' 12 [13,14,15,16,17,18] [] rfl (by kernel_rfl) ?_
    intro Qf z
    simp only [gT,gS,gZ]
    go_wp2_with fail
    first | refine z _ _ ⟨Reg.nm,?_⟩ | refine⟨Reg.nm,?_⟩
    try clear z
    refine Reg.rest_walk' [13,14,15] [16,17,18] rfl (by kernel_rfl) ?_
    intro Qf z
    go_wp2_with fail
    first | refine z _ _ ?_ | skip
    try clear z
    refine Reg.rest_act' 16 [17,18] [] rfl (by kernel_rfl) ?_
    intro Qf z
    simp only [gT,gS,gZ]
    go_wp2_with fail
    refine Calls.ret bD.out ?_
    rintro v w9 ⟨rfl,M⟩
    go_wp2_with fail
    first | refine z _ _ ⟨Reg.nm,?_⟩ | refine⟨Reg.nm,?_⟩
    try clear z
    have af:=hide (J.out.trans (M.mono J.out.size))
    clear M
    refine Reg.rest_walk' [17,18] [] rfl (by kernel_rfl) ?_
    intro Qf z
    go_wp2_with fail
    first | refine z _ _ ?_ | skip
    try clear z
    first | refine Reg.rest_end ?_ | skip
    go_wp2_with fail
    go_ret
    exact⟨rfl,af.out⟩
   ·refine Reg.rest_walk' [0,1,2,3,4,5,6,7,8,10] [11,9,12,13,14,15,16,17,18] rfl (by kernel_rfl) ?_
    intro Qf z
    go_wp2_with fail
    first | refine z _ _ ?_ | skip
    try clear z
    refine Reg.rest_act' 11 [9,12,13,14,15,16,17,18] [5,6] rfl (by kernel_rfl) ?_
    intro Qf z
    simp only [gT,gS,gZ]
    go_wp2_with fail
    first | refine z _ _ ⟨Reg.same_below (Below.refl _ _) [5,6] rfl,?_⟩ | refine⟨Reg.same_below (Below.refl _ _) [5,6] rfl,?_⟩
    try clear z
    refine Reg.rest_act' 9 [12,13,14,15,16,17,18] [5,6] rfl (by kernel_rfl) ?_
    intro Qf z
    simp only [gT,gS,gZ]
    go_wp2_with fail
    first | refine z _ _ ⟨Reg.same_below (Below.refl _ _) [5,6] rfl,?_⟩ | refine⟨Reg.same_below (Below.refl _ _) [5,6] rfl,?_⟩
    try clear z
    refine Reg.rest_act' 12 [13,14,15,16,17,18] [] rfl (by kernel_rfl) ?_
    intro Qf z
    simp only [gT,gS,gZ]
    go_wp2_with fail
    first | refine z _ _ ⟨Reg.nm,?_⟩ | refine⟨Reg.nm,?_⟩
    try clear z
    refine Reg.rest_walk' [13,14,15] [16,17,18] rfl (by kernel_rfl) ?_
    intro Qf z
    go_wp2_with fail
    first | refine z _ _ ?_ | skip
    try clear z
    refine Reg.rest_act' 16 [17,18] [] rfl (by kernel_rfl) ?_
    intro Qf z
    simp only [gT,gS,gZ]
    go_wp2_with fail
    refine Calls.ret bD.out ?_
    rintro v w9 ⟨rfl,M⟩
    go_wp2_with fail
    first | refine z _ _ ⟨Reg.nm,?_⟩ | refine⟨Reg.nm,?_⟩
    try clear z
    have af:=hide (J.out.trans (M.mono J.out.size))
    clear M
    refine Reg.rest_walk' [17,18] [] rfl (by kernel_rfl) ?_
    intro Qf z
    go_wp2_with fail
    first | refine z _ _ ?_ | skip
    try clear z
    first | refine Reg.rest_end ?_ | skip
    go_wp2_with fail
    go_ret
    exact⟨rfl,af.out⟩
  ·have ck:(0:Int)<(m:Int):=by omega
   have bM:u≠[]:=fun e=>b4 (by rw [b0,e]; rfl)
   have bm:Hid (∀O:Bool,(O=true↔∀i x,l[i]?=some x→x∈Dr p q i)→(bL==O)=true):=hide (fun O ag=>by
    rw [hu,←Qr bM,←U] at ag
    cases O <;> cases bL <;> simp_all)
   have bt:=Ml (AY.1 ai.1).1 ai.2.1
   have bv:Hid (∀E,Hid (PQX E w.heap.size w1.heap.size pc qc p q)→Below w.heap.size w E→Calls Tryz.prog 18 #[.slice A m c] E (Ret fun v w'=>Below E.heap.size E w'∧∃A' bO,v=.agg #[.slice none 0 0,.slice A' m bO,.int .i64 (m:Int),.slice none 0 0,.slice none 0 0,.int .i64 0]∧Sl w' w'.heap.size 1 Ai A' l)):=hide (fun E _ aD=>M5 (bG.out.keep (fun p hp=>aD.cell hp) aD.size) av.out (by omega))
   have bB:Hid (∀E A7 al,Hid (PQX E w.heap.size w1.heap.size pc qc p q)→Sl E E.heap.size 1 Ai A7 l→Calls Tryz.prog 17 #[.agg pc,.agg qc,.agg #[.int .i64 (m:Int),.int .i64 0,.int .i64 0],.agg #[.slice none 0 0,.slice A7 m al,.int .i64 (m:Int),.slice none 0 0,.slice none 0 0,.int .i64 0]] E (Ret fun v w'=>Below E.heap.size E w'∧∃b:Bool,v=.bool b∧(b=true↔∀i x,l[i]?=some x→x∈Dr p q i))):=hide (fun E A7 al V hs=>LS (cs:=pc.toList) (ds:=qc.toList) V.out.pr V.out.qr aH.out.1 aH.out.2 V.out.tab (AY.1 ai.1).1 ai.1 bt hs av.out aY ⟨by omega,by omega⟩)
   have bE:=Ah aa.out.b2 bJ.out
   have bF:=Ah aa.out.b3 bK.out
   clear I W hC ar aG b5 ai hv aA b6 U b0 aY hu a4 aC bH aR aQ an a9 bM bt b4
   go_wp2_with fail
   refine Reg.region_spl [0,0,2,6,14,30,30,30,158,414,30,1054,4094,8190,16383,32767,65535,131071,262143] (.node 9 11 (.leaf [0,1,2,3,4,5,6,7,8,10,9,11,12,13,14,15,16,17,18]) (.leaf [0,1,2,3,4,5,6,7,8,10,11,9,12,13,14,15,16,17,18])) (by kernel_rfl) (by repeat (first | exact Reg.NoQ.body (fun _ _ h=>h) (fun _ h=>h) | refine Reg.NoQ.then ?_ | refine Reg.NoQ.inBlock ?_)) ?_
   dsimp only [Reg.Spl.goal]
   repeat' (with_reducible refine And.intro ?_ ?_)
   ·refine Reg.rest_walk' [0,1,2,3,4,5,6,7,8,10] [9,11,12,13,14,15,16,17,18] rfl (by kernel_rfl) ?_
    intro Qf z
    go_wp2_with fail
    first | refine z _ _ ?_ | skip
    try clear z
    refine Reg.rest_act' 9 [11,12,13,14,15,16,17,18] [5,6] rfl (by kernel_rfl) ?_
    intro Qf z
    simp only [gT,gS,gZ]
    go_wp2_with fail
    first | refine z _ _ ⟨Reg.same_below (Below.refl _ _) [5,6] rfl,?_⟩ | refine⟨Reg.same_below (Below.refl _ _) [5,6] rfl,?_⟩
    try clear z
    refine Reg.rest_act' 11 [12,13,14,15,16,17,18] [5,6] rfl (by kernel_rfl) ?_
    intro Qf z
    simp only [gT,gS,gZ]
    go_wp2_with fail
    refine Calls.ret (bv.out _ aa.out J.out) ?_
    rintro v w7 ⟨G,A7,al,rfl,aq⟩
    go_wp2_with fail
    first | refine z _ _ ⟨Reg.same_below (G) [5,6] rfl,?_⟩ | refine⟨Reg.same_below (G) [5,6] rfl,?_⟩
    try clear z
    have a2:=hide (J.out.trans (G.mono J.out.size))
    have aS:=hide (aa.out.at G)
    have aP:=hide aq
    clear G aq
    refine Reg.rest_act' 12 [13,14,15,16,17,18] [] rfl (by kernel_rfl) ?_
    intro Qf z
    simp only [gT,gS,gZ]
    go_wp2_with fail
    refine Calls.ret (bB.out _ A7 al aS aP.out) ?_
    rintro v w8 ⟨ag,O,rfl,U⟩
    go_wp2_with fail
    first | refine z _ _ ⟨Reg.nm,?_⟩ | refine⟨Reg.nm,?_⟩
    try clear z
    have ae:=hide (a2.out.trans (ag.mono a2.out.size))
    have aX:Hid ((bL==O)=true):=hide (bm.out O U)
    have bT:=aX.out
    clear ag U bF bE
    refine Reg.rest_walk' [13,14,15] [16,17,18] rfl (by kernel_rfl) ?_
    intro Qf z
    go_wp2_with fail
    first | refine z _ _ ?_ | skip
    try clear z
    refine Reg.rest_act' 16 [17,18] [] rfl (by kernel_rfl) ?_
    intro Qf z
    simp only [gT,gS,gZ]
    go_wp2_with fail
    refine Calls.ret (Er (a8.out.below ae.out)) ?_
    rintro v w9 ⟨rfl,M⟩
    go_wp2_with fail
    first | refine z _ _ ⟨Reg.nm,?_⟩ | refine⟨Reg.nm,?_⟩
    try clear z
    have af:=hide (ae.out.trans (M.mono ae.out.size))
    clear M
    refine Reg.rest_walk' [17,18] [] rfl (by kernel_rfl) ?_
    intro Qf z
    go_wp2_with fail
    first | refine z _ _ ?_ | skip
    try clear z
    first | refine Reg.rest_end ?_ | skip
    go_wp2_with fail
    go_ret
    exact⟨rfl,af.out⟩
   ·refine Reg.rest_walk' [0,1,2,3,4,5,6,7,8,10] [11,9,12,13,14,15,16,17,18] rfl (by kernel_rfl) ?_
    intro Qf z
    go_wp2_with fail
    first | refine z _ _ ?_ | skip
    try clear z
    refine Reg.rest_act' 11 [9,12,13,14,15,16,17,18] [5,6] rfl (by kernel_rfl) ?_
    intro Qf z
    simp only [gT,gS,gZ]
    go_wp2_with fail
    refine Calls.ret (bv.out _ aa.out J.out) ?_
    rintro v w7 ⟨G,A7,al,rfl,aq⟩
    go_wp2_with fail
    first | refine z _ _ ⟨Reg.same_below (G) [5,6] rfl,?_⟩ | refine⟨Reg.same_below (G) [5,6] rfl,?_⟩
    try clear z
    have a2:=hide (J.out.trans (G.mono J.out.size))
    have aS:=hide (aa.out.at G)
    have aP:=hide aq
    clear G aq
    refine Reg.rest_act' 9 [12,13,14,15,16,17,18] [5,6] rfl (by kernel_rfl) ?_
    intro Qf z
    simp only [gT,gS,gZ]
    go_wp2_with fail
    first | refine z _ _ ⟨Reg.same_below (Below.refl _ _) [5,6] rfl,?_⟩ | refine⟨Reg.same_below (Below.refl _ _) [5,6] rfl,?_⟩
    try clear z
    refine Reg.rest_act' 12 [13,14,15,16,17,18] [] rfl (by kernel_rfl) ?_
    intro Qf z
    simp only [gT,gS,gZ]
    go_wp2_with fail
    refine Calls.ret (bB.out _ A7 al aS aP.out) ?_
    rintro v w8 ⟨ag,O,rfl,U⟩
    go_wp2_with fail
    first | refine z _ _ ⟨Reg.nm,?_⟩ | refine⟨Reg.nm,?_⟩
    try clear z
    have ae:=hide (a2.out.trans (ag.mono a2.out.size))
    have aX:Hid ((bL==O)=true):=hide (bm.out O U)
    have bT:=aX.out
    clear ag U bF bE
    refine Reg.rest_walk' [13,14,15] [16,17,18] rfl (by kernel_rfl) ?_
    intro Qf z
    go_wp2_with fail
    first | refine z _ _ ?_ | skip
    try clear z
    refine Reg.rest_act' 16 [17,18] [] rfl (by kernel_rfl) ?_
    intro Qf z
    simp only [gT,gS,gZ]
    go_wp2_with fail
    refine Calls.ret (Er (a8.out.below ae.out)) ?_
    rintro v w9 ⟨rfl,M⟩
    go_wp2_with fail
    first | refine z _ _ ⟨Reg.nm,?_⟩ | refine⟨Reg.nm,?_⟩
    try clear z
    have af:=hide (ae.out.trans (M.mono ae.out.size))
    clear M
    refine Reg.rest_walk' [17,18] [] rfl (by kernel_rfl) ?_
    intro Qf z
    go_wp2_with fail
    first | refine z _ _ ?_ | skip
    try clear z
    first | refine Reg.rest_end ?_ | skip
    go_wp2_with fail
    go_ret
    exact⟨rfl,af.out⟩
end Go.Proofs.YtfcfpoemojjglaaGreatDoor
