/-
  Part CX of a proof.
-/
import Derived.Test.YtjejejmeddkciaaGreatDoorPA
import Derived.Test.YtjejejmeddkciaaGreatDoorCQ
import Derived.Test.YtjejejmeddkciaaGreatDoorCR
import Derived.Test.YtjejejmeddkciaaGreatDoorCJ
import Derived.Test.YtjejejmeddkciaaGreatDoorAC
import Derived.Test.YtjejejmeddkciaaGreatDoorCI
set_option maxHeartbeats 16000000
set_option maxRecDepth 100000
set_option linter.unusedVariables false
set_option linter.unusedSimpArgs false
namespace Go.Proofs.YtjejejmeddkciaaGreatDoor.K
open Go.RowKit
theorem aCg {w:World} {cs:List Value} {p:Am} (h:At w w.heap.size cs p) (E:p.Small) (C:SpOK w):
  Calls Tryz.prog 123 #[.agg cs.toArray] w (Ret fun v w'=>v=.int .i64 (protE nameOK p)/\Below w.heap.size w w'):=by
 by_cases ht:p.topo=1
 ·exact RT h E C ht
 ·exact RU h E C ht
end Go.Proofs.YtjejejmeddkciaaGreatDoor.K
namespace Go.Proofs.YtjejejmeddkciaaGreatDoor.K
open Go.RowKit
attribute [-go_sem] loadCellsFrom storeCells
def DY (v:Value) (Q:Prop):Prop:=∃b:Bool,v=.bool b/\(b=false->Q)
theorem Mq {w:World} {cs:List Value} {r:Az} (h:AW w w.heap.size cs r) (a4:r.name.size<=9223372036854775807):
  Calls Tryz.prog 43 #[.agg cs.toArray] w (Ret fun v w'=>DY v (r.Small/\r.name.size<=500)/\Below w.heap.size w w'):=by
 obtain⟨E1,f1,E2,f2,E3,f3,E4,f4,E5,f5,E6,f6,E7,f7,E8,f8,⟨ag,a5,a6,ab,ad,ae,af,aD,aE,aF,aG,a7,a8,az,a9,aA,aB,aC,aa⟩,⟨I,J,M,O,U,V,W,Z⟩⟩:=h.cells;obtain⟨w1,aH,F,E,a3⟩:=Ae w cs.toArray 109;have ay:=E.cell;have a2:=hide F;have t1:=I.1;have t2:=J.1;have t3:=M.1;have t4:=O.1;have t5:=U.1;have t6:=V.1;have t7:=W.1;have t8:=Z.1;generalize cs.toArray=rc at*;unfold Az.Small;generalize r.resp.length=n1 at*;generalize r.guards.length=n2 at*;generalize r.ex.length=n3 at*;generalize r.fa.length=n4 at*;generalize r.send.length=n5 at*;generalize r.left.length=n6 at*;generalize r.right.length=n7 at*;generalize r.parent.length=n8 at*;clear E a3 F ag h I J M O U V W Z a6 ab ad ae af a7 a8 a9 aa;obtain⟨z,G⟩:∃z,z=r.name:=⟨_,rfl⟩;rw [<-G] at a5 a4 ⊢;clear G;go_enter Tryz.func43,Tryz.ntmps43;go_wp2_with fail
 all_goals
  go_ret;refine⟨⟨_,rfl,fun C=>?_⟩,a2.out⟩
  first
   | (exact absurd C (by decide))
   | (simp at C;omega)
   | (simp at C;done)
theorem He {w:World} {A:Option Addr} {c:Nat} {l:List ByteArray} (h:Sl w w.heap.size 1 BE A l) (M:∀s∈l,s.size<=9223372036854775807):
  Calls Tryz.prog 44 #[.slice A l.length c] w (Ret fun v w'=>DY v (∀s∈l,s.size<=500)/\w=w'):=by
 have W:=hide h;have hn:=h.1;have a5:=hide M;clear h M;go_enter Tryz.func44,Tryz.ntmps44;go_wp2_with fail;go_loopw [3] (fun I wr=>∃(k:Nat),I=.int .i64 (k:Int)/\k<=l.length/\w=wr/\Hid (∀s∈l.take k,s.size<=500)) (fun I _=>l.length - (intOf I).toNat)
 case atStart=>exact⟨0,rfl,Nat.zero_le _,(by first|rfl|trivial),by intro s C;simp at C⟩
 case round=>
  obtain⟨k,rfl,hk,rfl,E⟩:=hrel;by_cases a3:k<l.length
  ·obtain⟨b,off,e,U,a7,G,J⟩:=W.out.at a3;have O:=J 0 (by omega);simp only [Nat.add_zero,Nat.mul_one,BE] at O;have a2:=hide G;have a8:=a5.out e (List.mem_of_getElem? G);subst U;clear J G;by_cases h5:(500:Int)<(e.size:Int)
   ·go_wp2_with fail;go_ret;exact⟨⟨true,rfl,fun Z=>absurd Z (by decide)⟩,rfl⟩
   ·have a4:=hide (show ∀s∈l.take (k+1),s.size<=500 from by
     rw [show l.take (k+1)=l.take k++[e] by rw [List.take_add_one,a2.out];rfl];intro s C;rcases List.mem_append.1 C with C|C
     ·exact E.out s C
     ·rw [List.mem_singleton.1 C];omega)
    go_wp2_with fail;exact⟨⟨k+1,by go_num,by omega,(by first|rfl|trivial),a4.out⟩,by simp [intOf];omega⟩
  ·have F:=E.out;rw [List.take_of_length_le (by omega)] at F;have V:=hide F;clear F E;go_wp2_with fail;go_ret;exact⟨⟨false,rfl,fun _=>V.out⟩,rfl⟩
end Go.Proofs.YtjejejmeddkciaaGreatDoor.K
namespace Go.Proofs.YtjejejmeddkciaaGreatDoor.K
open Go.RowKit
attribute [-go_sem] loadCellsFrom storeCells
structure Am.Fits (p:Am):Prop where
 name:p.name.size<=9223372036854775807
 names:∀s∈Bd p,s.size<=9223372036854775807
 rules:∀r∈p.rules,r.name.size<=9223372036854775807
theorem Mp {w:World} {cs:List Value} {p:Am} (h:At w w.heap.size cs p) (M:p.Fits):
  Calls Tryz.prog 16 #[.agg cs.toArray] w (Ret fun v w'=>DY v p.Small/\Below w.heap.size w w'):=by
 obtain⟨A1,c1,A2,c2,A3,c3,A4,c4,A5,c5,A6,c6,A7,c7,b9,bM,bN,aZ,b0,b4,bO,b5,b6,b7,b8,h1,h2,h3,h4,h5,h6,h7,aS⟩:=h.cells;have bL:=M.name;have t1:=h1.1;have t2:=h2.1;have t3:=h3.1;have t4:=h4.1;have t5:=h5.1;have t6:=h6.1;have t7:=h7.1;obtain⟨w1,bP,V,U,aU⟩:=Ae w cs.toArray 27;have aG:=hide U;have G:=hide V;have bG:=U.cell;have aV:=hide (show ∀s∈p.states,s.size<=9223372036854775807 from fun s E=>M.names s (by simp [Bd,E]));have aW:=hide (show ∀s∈p.messages,s.size<=9223372036854775807 from fun s E=>M.names s (by simp [Bd,E]));have aX:=hide (show ∀s∈p.values,s.size<=9223372036854775807 from fun s E=>M.names s (by simp [Bd,E]));have bc:=hide M.rules;have aJ:=hide h7;have aK:=hide h1;have aL:=hide h2;have aM:=hide h3;generalize cs.toArray=pc at*;obtain⟨ns,ab⟩:∃n,n=p.states.length:=⟨_,rfl⟩;obtain⟨nm,a9⟩:∃n,n=p.messages.length:=⟨_,rfl⟩;obtain⟨nv,ae⟩:∃n,n=p.values.length:=⟨_,rfl⟩;obtain⟨nr,aa⟩:∃n,n=p.res.length:=⟨_,rfl⟩;obtain⟨ni,a7⟩:∃n,n=p.initial.length:=⟨_,rfl⟩;obtain⟨nl,a8⟩:∃n,n=p.leader.length:=⟨_,rfl⟩;obtain⟨nu,ad⟩:∃n,n=p.rules.length:=⟨_,rfl⟩;obtain⟨nz,ao⟩:∃n,n=p.name.size:=⟨_,rfl⟩;have J:=hide (show ns=p.states.length/\nm=p.messages.length/\nv=p.values.length/\nr=p.res.length/\ni=p.initial.length/\nl=p.leader.length/\nu=p.rules.length/\nz=p.name.size from⟨ab,a9,ae,aa,a7,a8,ad,ao⟩);rw [<-ab] at aZ t1;rw [<-a9] at b0 t2;rw [<-ae] at b4 t3;rw [<-aa] at b5 t4;rw [<-a7] at b6 t5;rw [<-a8] at b7 t6;rw [<-ad] at b8 t7 aS;clear ab a9 ae aa a7 a8 ad h h1 h2 h3 h4 h5 h6 h7 U aU V M b9;by_cases az:500<(p.name.size:Int)
 case pos=>
  go_enter Tryz.func16,Tryz.ntmps16;go_wp2_with fail;go_ret;exact⟨⟨true,rfl,fun C=>absurd C (by decide)⟩,G.out⟩
 by_cases U:60<(ns:Int)
 case pos=>
  go_enter Tryz.func16,Tryz.ntmps16;go_wp2_with fail;go_ret;exact⟨⟨true,rfl,fun C=>absurd C (by decide)⟩,G.out⟩
 by_cases aA:60<(nm:Int)
 case pos=>
  go_enter Tryz.func16,Tryz.ntmps16;go_wp2_with fail;go_ret;exact⟨⟨true,rfl,fun C=>absurd C (by decide)⟩,G.out⟩
 by_cases aB:60<(nv:Int)
 case pos=>
  go_enter Tryz.func16,Tryz.ntmps16;go_wp2_with fail;go_ret;exact⟨⟨true,rfl,fun C=>absurd C (by decide)⟩,G.out⟩
 by_cases aC:60<(nr:Int)
 case pos=>
  go_enter Tryz.func16,Tryz.ntmps16;go_wp2_with fail;go_ret;exact⟨⟨true,rfl,fun C=>absurd C (by decide)⟩,G.out⟩
 by_cases aD:60<(ni:Int)
 case pos=>
  go_enter Tryz.func16,Tryz.ntmps16;go_wp2_with fail;go_ret;exact⟨⟨true,rfl,fun C=>absurd C (by decide)⟩,G.out⟩
 by_cases aE:60<(nl:Int)
 case pos=>
  go_enter Tryz.func16,Tryz.ntmps16;go_wp2_with fail;go_ret;exact⟨⟨true,rfl,fun C=>absurd C (by decide)⟩,G.out⟩
 by_cases aF:30<(nu:Int)
 case pos=>
  go_enter Tryz.func16,Tryz.ntmps16;go_wp2_with fail;go_ret;exact⟨⟨true,rfl,fun C=>absurd C (by decide)⟩,G.out⟩
 go_enter Tryz.func16,Tryz.ntmps16;go_wp2_with fail;have ay:=hide (show nz<=500/\ns<=60/\nm<=60/\nv<=60/\nr<=60/\ni<=60/\nl<=60/\nu<=30 from by have:=ao;omega);clear az U aA aB aC aD aE aF;go_loopw [3] (fun ii wr=>∃(k:Nat),ii=.int .i64 (k:Int)/\k<=nu/\Hid (Below w1.heap.size w1 wr)/\Hid (∀r∈p.rules.take k,r.Small/\r.name.size<=500)) (fun ii _=>nu - (intOf ii).toNat)
 case atStart=>exact⟨0,rfl,Nat.zero_le _,Below.refl _ _,by intro r O;simp at O⟩
 case round=>
  obtain⟨k,rfl,hk,Z,hE⟩:=hrel;have bH:=(aG.out.below Z.out).cell;have F:=hide (G.out.trans (Z.out.mono G.out.size));by_cases bK:k<nu
  ·obtain⟨r,O⟩:∃r,p.rules[k]?=some r:=⟨_,List.getElem?_eq_getElem (by have:=J.out.2.2.2.2.2.2.1;omega)⟩;obtain⟨b,off,rc,hA,bF,hC,aT,bJ⟩:=Du (aJ.out.keep (w':=wr) (B':=wr.heap.size) (R':=AW wr wr.heap.size) (fun _ I=>F.out.cell I) (fun _ _ h=>h.keep (fun _ I=>F.out.cell I) F.out.size) F.out.size) O;have ba:=hide O;have aR:=hide (Mq (cs:=rc.toList) hC.is (bc.out r (List.mem_of_getElem? O)));subst hA;clear aT hC O;go_wp2_with fail;refine Calls.ret aR.out ?_;rintro v w3 ⟨⟨bb,rfl,an⟩,W⟩;have aQ:=hide an;have al:=hide (Z.out.trans (W.mono Z.out.size));clear an W;cases bb
   ·have aY:=hide (show ∀r∈p.rules.take (k+1),r.Small/\r.name.size<=500 from by
     rw [show p.rules.take (k+1)=p.rules.take k++[r] by rw [List.take_add_one,ba.out];rfl];intro s E;rcases List.mem_append.1 E with E|E
     ·exact hE.out s E
     ·rw [List.mem_singleton.1 E];exact aQ.out rfl)
    go_wp2_with fail;exact⟨⟨k+1,by go_num,by omega,al.out,aY.out⟩,by simp [intOf];omega⟩
   ·go_wp2_with fail;go_ret;exact⟨⟨true,rfl,fun C=>absurd C (by decide)⟩,G.out.trans (al.out.mono G.out.size)⟩
  ·have a6:=hE.out;rw [List.take_of_length_le (by have:=J.out.2.2.2.2.2.2.1;omega)] at a6;have aH:=hide a6;clear a6 hE;have q1:=hide (He (c:=c1) ((aK.out.keep (w':=wr) (B':=wr.heap.size) (fun _ I=>F.out.cell I) F.out.size)) aV.out);have q2:=hide (He (c:=c2) ((aL.out.keep (w':=wr) (B':=wr.heap.size) (fun _ I=>F.out.cell I) F.out.size)) aW.out);have q3:=hide (He (c:=c3) ((aM.out.keep (w':=wr) (B':=wr.heap.size) (fun _ I=>F.out.cell I) F.out.size)) aX.out);rw [<-J.out.1] at q1;rw [<-J.out.2.1] at q2;rw [<-J.out.2.2.1] at q3;go_wp2_with fail;refine Calls.ret q1.out ?_;rintro v w' ⟨⟨b1,rfl,V⟩,rfl⟩;have aN:=hide V;clear V;cases b1
   ·go_wp2_with fail;refine Calls.ret q2.out ?_;rintro v w' ⟨⟨b2,rfl,am⟩,rfl⟩;have aO:=hide am;clear am;cases b2
    ·go_wp2_with fail;refine Calls.ret q3.out ?_;rintro v w' ⟨⟨b3,rfl,W⟩,rfl⟩;have aP:=hide W;clear W;go_wp2_with fail;go_ret;refine⟨⟨b3,rfl,fun C=>?_⟩,F.out⟩;obtain⟨e1,e2,e3,e4,e5,e6,e7,e8⟩:=J.out;obtain⟨f1,f2,f3,f4,f5,f6,f7,f8⟩:=ay.out;exact⟨by omega,by omega,by omega,by omega,by omega,by omega,by omega,by omega,aH.out,fun s E=>by
      simp only [Bd,List.mem_append] at E;rcases E with(E|E)|E
      ·exact aN.out trivial s E
      ·exact aO.out trivial s E
      ·exact aP.out C s E⟩
    ·go_wp2_with fail;go_ret;exact⟨⟨true,rfl,fun C=>absurd C (by decide)⟩,F.out⟩
   ·go_wp2_with fail;go_ret;exact⟨⟨true,rfl,fun C=>absurd C (by decide)⟩,F.out⟩
def AB.Fits (q:AB):Prop:=q.name.size<=9223372036854775807
theorem Mo {w:World} {cs:List Value} {q:AB} (h:Ba w w.heap.size cs q) (hf:q.Fits):
  Calls Tryz.prog 17 #[.agg cs.toArray] w (Ret fun v w'=>DY v q.Small/\Below w.heap.size w w'):=by
 obtain⟨B1,d1,B2,d2,B3,d3,B4,d4,aF,bd,be,aB,aC,aD,aE,k1,k2,k3,k4⟩:=h.cells;have bc:q.name.size<=9223372036854775807:=hf;have t1:=k1.1;have t2:=k2.1;have t3:=k3.1;have t4:=k4.1;obtain⟨w1,bg,ad,F,ay⟩:=Ae w cs.toArray 30;have b6:=hide F;have E:=hide ad;have b8:=F.cell;have bb:=F.lt;have av:=hide k2;generalize cs.toArray=pc at*;obtain⟨nt,a2⟩:∃n,n=q.start.length:=⟨_,rfl⟩;obtain⟨G,V⟩:∃n,n=q.bad.length:=⟨_,rfl⟩;obtain⟨na,U⟩:∃n,n=q.adj.length:=⟨_,rfl⟩;obtain⟨ng,Z⟩:∃n,n=q.goal.length:=⟨_,rfl⟩;have O:=hide (show nt=q.start.length/\G=q.bad.length/\na=q.adj.length/\ng=q.goal.length from⟨a2,V,U,Z⟩);rw [<-a2] at aB t1;rw [<-V] at aC t2;rw [<-U] at aD t3;rw [<-Z] at aE t4;clear a2 V U Z h k1 k2 k3 k4 F ay ad hf aF;by_cases an:500<(q.name.size:Int)
 case pos=>
  go_enter Tryz.func17,Tryz.ntmps17;go_wp2_with fail;go_ret;exact⟨⟨true,rfl,fun C=>absurd C (by decide)⟩,E.out⟩
 by_cases F:60<(nt:Int)
 case pos=>
  go_enter Tryz.func17,Tryz.ntmps17;go_wp2_with fail;go_ret;exact⟨⟨true,rfl,fun C=>absurd C (by decide)⟩,E.out⟩
 by_cases ao:60<(G:Int)
 case pos=>
  go_enter Tryz.func17,Tryz.ntmps17;go_wp2_with fail;go_ret;exact⟨⟨true,rfl,fun C=>absurd C (by decide)⟩,E.out⟩
 by_cases ap:60<(na:Int)
 case pos=>
  go_enter Tryz.func17,Tryz.ntmps17;go_wp2_with fail;go_ret;exact⟨⟨true,rfl,fun C=>absurd C (by decide)⟩,E.out⟩
 by_cases aq:60<(ng:Int)
 case pos=>
  go_enter Tryz.func17,Tryz.ntmps17;go_wp2_with fail;go_ret;exact⟨⟨true,rfl,fun C=>absurd C (by decide)⟩,E.out⟩
 go_enter Tryz.func17,Tryz.ntmps17;go_wp2_with fail;have am:=hide (show q.name.size<=500/\nt<=60/\G<=60/\na<=60/\ng<=60 from by omega);clear an F ao ap aq;go_loopw [3] (fun ii wr=>∃(k:Nat),ii=.int .i64 (k:Int)/\k<=G/\w1=wr/\Hid (∀c∈q.bad.take k,c.states.length<=60)) (fun ii _=>G - (intOf ii).toNat)
 case atStart=>exact⟨0,rfl,Nat.zero_le _,(by first|rfl|trivial),by intro r hr;simp at hr⟩
 case round=>
  obtain⟨k,rfl,hk,rfl,J⟩:=hrel;by_cases ba:k<G
  ·obtain⟨b2,bh,c,aP,al,b7,ae,bf,af,au⟩:=(av.out.keep (w':=w1) (B':=w.heap.size) (R':=Db w1 w.heap.size) (fun _ hp=>E.out.cell hp) (fun _ _ h=>h.keep (fun _ hp=>E.out.cell hp) (Nat.le_refl _)) (Nat.le_refl _)).at (i:=k) (by have:=O.out.2.1;omega);obtain⟨C1,g1,rfl,ab⟩:=au;have d0:=af 0 _ rfl;simp only [Nat.add_zero] at d0;have aw:=hide ae;have ax:=ab.1;obtain⟨nc,W⟩:∃n,n=c.states.length:=⟨_,rfl⟩;have az:=hide W;rw [<-W] at d0 ax;subst al;clear af ae ab W;by_cases h6:(60:Int)<(nc:Int)
   ·go_wp2_with fail;go_ret;exact⟨⟨true,rfl,fun C=>absurd C (by decide)⟩,E.out⟩
   ·have aA:=hide (show ∀c∈q.bad.take (k+1),c.states.length<=60 from by
     rw [show q.bad.take (k+1)=q.bad.take k++[c] by rw [List.take_add_one,aw.out];rfl];intro s I;rcases List.mem_append.1 I with I|I
     ·exact J.out s I
     ·rw [List.mem_singleton.1 I,<-az.out];omega)
    go_wp2_with fail;exact⟨⟨k+1,by go_num,by omega,(by first|rfl|trivial),aA.out⟩,by simp [intOf];omega⟩
  ·have M:=J.out;rw [List.take_of_length_le (by have:=O.out.2.1;omega)] at M;have ar:=hide M;clear M J;go_wp2_with fail;go_ret;refine⟨⟨false,rfl,fun _=>?_⟩,E.out⟩;obtain⟨e1,e2,e3,e4⟩:=O.out;obtain⟨f1,f2,f3,f4,f5⟩:=am.out;exact⟨f1,by omega,by omega,by omega,by omega,ar.out⟩
theorem Gr {w:World} {cs ds:List Value} {p:Am} {q:AB} (h:At w w.heap.size cs p) (M:Ba w w.heap.size ds q) (hf:p.Fits) (hg:q.Fits):
  Calls Tryz.prog 5 #[.agg cs.toArray,.agg ds.toArray] w (Ret fun v w'=>DY v (p.Small/\q.Small)/\Below w.heap.size w w'):=by
 have a4:=h.rules_at.1;obtain⟨B1,d1,B2,d2,B3,d3,B4,d4,a5,-⟩:=M.cells;obtain⟨w1,ax,E,V,ah⟩:=Ae w cs.toArray 27;obtain⟨w2,ay,F,W,ai⟩:=Ae w1 ds.toArray 30;have C:=hide (E.trans (F.mono E.size));have a8:=hide (h.keep (w':=w2) (B':=w2.heap.size) (fun _ G=>C.out.cell G) C.out.size);have a9:=hide (M.keep (w':=w2) (B':=w2.heap.size) (fun _ G=>C.out.cell G) C.out.size);have av:=Ah (V.below F) a4;have a7:=hide W;have af:=hide (Mp a8.out hf);have ag:Hid (∀I,Below w2.heap.size w2 I->Calls Tryz.prog 17 #[.agg ds.toArray] I (Ret fun v w'=>DY v q.Small/\Below I.heap.size I w')):=hide (fun I hx=>Mo (a9.out.keep (fun _ G=>hx.cell G) hx.size) hg);generalize cs.toArray=pc at*;generalize ds.toArray=qc at*;have aj:=hide a5;clear h M E F V W ah ai hf hg a5 a4;go_enter Tryz.func5,Tryz.ntmps5;go_wp2_with fail;refine Calls.ret af.out ?_;rintro v w3 ⟨⟨b1,rfl,E⟩,J⟩;have ab:=hide E;have aw:=Ah (a7.out.below J) aj.out;have ae:=hide (ag.out _ J);have U:=hide (C.out.trans (J.mono C.out.size));clear E J;cases b1
 ·go_wp2_with fail;refine Calls.ret ae.out ?_;rintro v w4 ⟨⟨b2,rfl,F⟩,Z⟩;have ad:=hide F;have aa:=hide (U.out.trans (Z.mono U.out.size));clear F Z;go_wp2_with fail;go_ret;exact⟨⟨b2,rfl,fun O=>⟨ab.out trivial,ad.out O⟩⟩,aa.out⟩
 ·go_wp2_with fail;go_ret;exact⟨⟨true,rfl,fun O=>absurd O (by decide)⟩,U.out⟩
end Go.Proofs.YtjejejmeddkciaaGreatDoor.K
