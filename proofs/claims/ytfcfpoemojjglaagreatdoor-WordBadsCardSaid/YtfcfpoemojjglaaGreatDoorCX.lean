/-
  Part CX of a proof.
-/
import Derived.Test.YtfcfpoemojjglaaGreatDoorPA
import Derived.Test.YtfcfpoemojjglaaGreatDoorCJ
import Derived.Test.YtfcfpoemojjglaaGreatDoorAC
import Derived.Test.YtfcfpoemojjglaaGreatDoorCI
set_option maxHeartbeats 16000000
set_option maxRecDepth 100000
set_option linter.unusedVariables false
set_option linter.unusedSimpArgs false
namespace Go.Proofs.YtfcfpoemojjglaaGreatDoor.K
open Go.RowKit
attribute [-go_sem] loadCellsFrom storeCells
def DY (v:Value) (Q:Prop):Prop:=∃b:Bool,v=.bool b/\(b=false->Q)
theorem Mq {w:World} {cs:List Value} {r:Az} (h:AW w w.heap.size cs r) (Z:r.name.size<=9223372036854775807):
  Calls Tryz.prog 52 #[.agg cs.toArray] w (Ret fun v w'=>DY v (r.Small/\r.name.size<=500)/\Below w.heap.size w w'):=by
 obtain⟨E1,f1,E2,f2,E3,f3,E4,f4,E5,f5,E6,f6,E7,f7,E8,f8,⟨ad,a2,a3,a8,a9,aa,ab,aA,aB,aC,aD,a4,a5,aw,a6,ax,ay,az,a7⟩,⟨C,E,G,I,J,M,O,U⟩⟩:=h.cells;obtain⟨w1,aE,l,j,W⟩:=Ae w cs.toArray 99;have av:=j.cell;have V:=hide l;have t1:=C.1;have t2:=E.1;have t3:=G.1;have t4:=I.1;have t5:=J.1;have t6:=M.1;have t7:=O.1;have t8:=U.1;generalize cs.toArray=rc at*;unfold Az.Small;generalize r.resp.length=n1 at*;generalize r.guards.length=n2 at*;generalize r.ex.length=n3 at*;generalize r.fa.length=n4 at*;generalize r.send.length=n5 at*;generalize r.left.length=n6 at*;generalize r.right.length=n7 at*;generalize r.parent.length=n8 at*;clear j W l ad h C E G I J M O U a3 a8 a9 aa ab a4 a5 a6 a7;obtain⟨z,y⟩:∃z,z=r.name:=⟨_,rfl⟩;rw [<-y] at a2 Z ⊢;clear y;go_enter Tryz.func52,Tryz.ntmps52;go_wp2_with fail
 all_goals
  go_ret;refine⟨⟨_,rfl,fun d=>?_⟩,V.out⟩
  first
   | (exact absurd d (by decide))
   | (simp at d;omega)
   | (simp at d;done)
theorem He {w:World} {A:Option Addr} {c:Nat} {l:List ByteArray} (h:Sl w w.heap.size 1 BE A l) (G:∀s∈l,s.size<=9223372036854775807):
  Calls Tryz.prog 53 #[.slice A l.length c] w (Ret fun v w'=>DY v (∀s∈l,s.size<=500)/\w=w'):=by
 have O:=hide h;have hn:=h.1;have a2:=hide G;clear h G;go_enter Tryz.func53,Tryz.ntmps53;go_wp2_with fail;go_loopw [3] (fun C wr=>∃(k:Nat),C=.int .i64 (k:Int)/\k<=l.length/\w=wr/\Hid (∀s∈l.take k,s.size<=500)) (fun C _=>l.length - (intOf C).toNat)
 case atStart=>exact⟨0,rfl,Nat.zero_le _,(by first|rfl|trivial),by intro s d;simp at d⟩
 case round=>
  obtain⟨k,rfl,hk,rfl,j⟩:=hrel;by_cases W:k<l.length
  ·obtain⟨b,a8,e,J,a4,he,E⟩:=O.out.at W;have I:=E 0 (by omega);simp only [Nat.add_zero,Nat.mul_one,BE] at I;have V:=hide he;have a5:=a2.out e (List.mem_of_getElem? he);subst J;clear E he;by_cases h5:(500:Int)<(e.size:Int)
   ·go_wp2_with fail;go_ret;exact⟨⟨true,rfl,fun U=>absurd U (by decide)⟩,rfl⟩
   ·have Z:=hide (show ∀s∈l.take (k+1),s.size<=500 from by
     rw [show l.take (k+1)=l.take k++[e] by rw [List.take_add_one,V.out];rfl];intro s d;rcases List.mem_append.1 d with d|d
     ·exact j.out s d
     ·rw [List.mem_singleton.1 d];omega)
    go_wp2_with fail;exact⟨⟨k+1,by go_num,by omega,(by first|rfl|trivial),Z.out⟩,by simp [intOf];omega⟩
  ·have y:=j.out;rw [List.take_of_length_le (by omega)] at y;have M:=hide y;clear y j;go_wp2_with fail;go_ret;exact⟨⟨false,rfl,fun _=>M.out⟩,rfl⟩
end Go.Proofs.YtfcfpoemojjglaaGreatDoor.K
namespace Go.Proofs.YtfcfpoemojjglaaGreatDoor.K
open Go.RowKit
attribute [-go_sem] loadCellsFrom storeCells
structure Am.Fits (p:Am):Prop where
 name:p.name.size<=9223372036854775807
 names:∀s∈Bd p,s.size<=9223372036854775807
 rules:∀r∈p.rules,r.name.size<=9223372036854775807
theorem Mp {w:World} {cs:List Value} {p:Am} (h:At w w.heap.size cs p) (G:p.Fits):
  Calls Tryz.prog 20 #[.agg cs.toArray] w (Ret fun v w'=>DY v p.Small/\Below w.heap.size w w'):=by
 obtain⟨A1,c1,A2,c2,A3,c3,A4,c4,A5,c5,A6,c6,A7,c7,b5,bJ,bK,aV,aW,aX,bL,aY,aZ,b0,b4,V,W,Z,h4,h5,h6,h7,aO⟩:=h.cells;have bI:=G.name;have t1:=V.1;have t2:=W.1;have t3:=Z.1;have t4:=h4.1;have t5:=h5.1;have t6:=h6.1;have t7:=h7.1;obtain⟨w1,bM,M,J,aQ⟩:=Ae w cs.toArray 27;have aC:=hide J;have y:=hide M;have bD:=J.cell;have aR:=hide (show ∀s∈p.states,s.size<=9223372036854775807 from fun s j=>G.names s (by simp [Bd,j]));have aS:=hide (show ∀s∈p.messages,s.size<=9223372036854775807 from fun s j=>G.names s (by simp [Bd,j]));have aT:=hide (show ∀s∈p.values,s.size<=9223372036854775807 from fun s j=>G.names s (by simp [Bd,j]));have b7:=hide G.rules;have aE:=hide h7;have aF:=hide V;have aG:=hide W;have aH:=hide Z;generalize cs.toArray=pc at*;obtain⟨ns,a9⟩:∃n,n=p.states.length:=⟨_,rfl⟩;obtain⟨nm,a7⟩:∃n,n=p.messages.length:=⟨_,rfl⟩;obtain⟨nv,ab⟩:∃n,n=p.values.length:=⟨_,rfl⟩;obtain⟨nr,a8⟩:∃n,n=p.res.length:=⟨_,rfl⟩;obtain⟨ni,a5⟩:∃n,n=p.initial.length:=⟨_,rfl⟩;obtain⟨nl,a6⟩:∃n,n=p.leader.length:=⟨_,rfl⟩;obtain⟨nu,aa⟩:∃n,n=p.rules.length:=⟨_,rfl⟩;obtain⟨nz,am⟩:∃n,n=p.name.size:=⟨_,rfl⟩;have E:=hide (show ns=p.states.length/\nm=p.messages.length/\nv=p.values.length/\nr=p.res.length/\ni=p.initial.length/\nl=p.leader.length/\nu=p.rules.length/\nz=p.name.size from⟨a9,a7,ab,a8,a5,a6,aa,am⟩);rw [<-a9] at aV t1;rw [<-a7] at aW t2;rw [<-ab] at aX t3;rw [<-a8] at aY t4;rw [<-a5] at aZ t5;rw [<-a6] at b0 t6;rw [<-aa] at b4 t7 aO;clear a9 a7 ab a8 a5 a6 aa h V W Z h4 h5 h6 h7 J aQ M G b5;by_cases av:500<(p.name.size:Int)
 case pos=>
  go_enter Tryz.func20,Tryz.ntmps20;go_wp2_with fail;go_ret;exact⟨⟨true,rfl,fun d=>absurd d (by decide)⟩,y.out⟩
 by_cases J:60<(ns:Int)
 case pos=>
  go_enter Tryz.func20,Tryz.ntmps20;go_wp2_with fail;go_ret;exact⟨⟨true,rfl,fun d=>absurd d (by decide)⟩,y.out⟩
 by_cases aw:60<(nm:Int)
 case pos=>
  go_enter Tryz.func20,Tryz.ntmps20;go_wp2_with fail;go_ret;exact⟨⟨true,rfl,fun d=>absurd d (by decide)⟩,y.out⟩
 by_cases ax:60<(nv:Int)
 case pos=>
  go_enter Tryz.func20,Tryz.ntmps20;go_wp2_with fail;go_ret;exact⟨⟨true,rfl,fun d=>absurd d (by decide)⟩,y.out⟩
 by_cases ay:60<(nr:Int)
 case pos=>
  go_enter Tryz.func20,Tryz.ntmps20;go_wp2_with fail;go_ret;exact⟨⟨true,rfl,fun d=>absurd d (by decide)⟩,y.out⟩
 by_cases az:60<(ni:Int)
 case pos=>
  go_enter Tryz.func20,Tryz.ntmps20;go_wp2_with fail;go_ret;exact⟨⟨true,rfl,fun d=>absurd d (by decide)⟩,y.out⟩
 by_cases aA:60<(nl:Int)
 case pos=>
  go_enter Tryz.func20,Tryz.ntmps20;go_wp2_with fail;go_ret;exact⟨⟨true,rfl,fun d=>absurd d (by decide)⟩,y.out⟩
 by_cases aB:30<(nu:Int)
 case pos=>
  go_enter Tryz.func20,Tryz.ntmps20;go_wp2_with fail;go_ret;exact⟨⟨true,rfl,fun d=>absurd d (by decide)⟩,y.out⟩
 go_enter Tryz.func20,Tryz.ntmps20;go_wp2_with fail;have au:=hide (show nz<=500/\ns<=60/\nm<=60/\nv<=60/\nr<=60/\ni<=60/\nl<=60/\nu<=30 from by have:=am;omega);clear av J aw ax ay az aA aB;go_loopw [3] (fun ii wr=>∃(k:Nat),ii=.int .i64 (k:Int)/\k<=nu/\Hid (Below w1.heap.size w1 wr)/\Hid (∀r∈p.rules.take k,r.Small/\r.name.size<=500)) (fun ii _=>nu - (intOf ii).toNat)
 case atStart=>exact⟨0,rfl,Nat.zero_le _,Below.refl _ _,by intro r I;simp at I⟩
 case round=>
  obtain⟨k,rfl,hk,U,hE⟩:=hrel;have bE:=(aC.out.below U.out).cell;have l:=hide (y.out.trans (U.out.mono y.out.size));by_cases bH:k<nu
  ·obtain⟨r,I⟩:∃r,p.rules[k]?=some r:=⟨_,List.getElem?_eq_getElem (by have:=E.out.2.2.2.2.2.2.1;omega)⟩;obtain⟨b,bN,rc,hA,bC,hC,aP,bG⟩:=Du (aE.out.keep (w':=wr) (B':=wr.heap.size) (R':=AW wr wr.heap.size) (fun _ C=>l.out.cell C) (fun _ _ h=>h.keep (fun _ C=>l.out.cell C) l.out.size) l.out.size) I;have b6:=hide I;have aN:=hide (Mq (cs:=rc.toList) hC.is (b7.out r (List.mem_of_getElem? I)));subst hA;clear aP hC I;go_wp2_with fail;refine Calls.ret aN.out ?_;rintro v w3 ⟨⟨bb,rfl,al⟩,O⟩;have aM:=hide al;have aj:=hide (U.out.trans (O.mono U.out.size));clear al O;cases bb
   ·have aU:=hide (show ∀r∈p.rules.take (k+1),r.Small/\r.name.size<=500 from by
     rw [show p.rules.take (k+1)=p.rules.take k++[r] by rw [List.take_add_one,b6.out];rfl];intro s j;rcases List.mem_append.1 j with j|j
     ·exact hE.out s j
     ·rw [List.mem_singleton.1 j];exact aM.out rfl)
    go_wp2_with fail;exact⟨⟨k+1,by go_num,by omega,aj.out,aU.out⟩,by simp [intOf];omega⟩
   ·go_wp2_with fail;go_ret;exact⟨⟨true,rfl,fun d=>absurd d (by decide)⟩,y.out.trans (aj.out.mono y.out.size)⟩
  ·have a4:=hE.out;rw [List.take_of_length_le (by have:=E.out.2.2.2.2.2.2.1;omega)] at a4;have aD:=hide a4;clear a4 hE;have q1:=hide (He (c:=c1) ((aF.out.keep (w':=wr) (B':=wr.heap.size) (fun _ C=>l.out.cell C) l.out.size)) aR.out);have q2:=hide (He (c:=c2) ((aG.out.keep (w':=wr) (B':=wr.heap.size) (fun _ C=>l.out.cell C) l.out.size)) aS.out);have q3:=hide (He (c:=c3) ((aH.out.keep (w':=wr) (B':=wr.heap.size) (fun _ C=>l.out.cell C) l.out.size)) aT.out);rw [<-E.out.1] at q1;rw [<-E.out.2.1] at q2;rw [<-E.out.2.2.1] at q3;go_wp2_with fail;refine Calls.ret q1.out ?_;rintro v w' ⟨⟨b1,rfl,M⟩,rfl⟩;have aJ:=hide M;clear M;cases b1
   ·go_wp2_with fail;refine Calls.ret q2.out ?_;rintro v w' ⟨⟨b2,rfl,ak⟩,rfl⟩;have aK:=hide ak;clear ak;cases b2
    ·go_wp2_with fail;refine Calls.ret q3.out ?_;rintro v w' ⟨⟨b3,rfl,O⟩,rfl⟩;have aL:=hide O;clear O;go_wp2_with fail;go_ret;refine⟨⟨b3,rfl,fun d=>?_⟩,l.out⟩;obtain⟨e1,e2,e3,e4,e5,e6,e7,e8⟩:=E.out;obtain⟨f1,f2,f3,f4,f5,f6,f7,f8⟩:=au.out;exact⟨by omega,by omega,by omega,by omega,by omega,by omega,by omega,by omega,aD.out,fun s j=>by
      simp only [Bd,List.mem_append] at j;rcases j with(j|j)|j
      ·exact aJ.out trivial s j
      ·exact aK.out trivial s j
      ·exact aL.out d s j⟩
    ·go_wp2_with fail;go_ret;exact⟨⟨true,rfl,fun d=>absurd d (by decide)⟩,l.out⟩
   ·go_wp2_with fail;go_ret;exact⟨⟨true,rfl,fun d=>absurd d (by decide)⟩,l.out⟩
def AB.Fits (q:AB):Prop:=q.name.size<=9223372036854775807
theorem Mo {w:World} {cs:List Value} {q:AB} (h:Ba w w.heap.size cs q) (hf:q.Fits):
  Calls Tryz.prog 29 #[.agg cs.toArray] w (Ret fun v w'=>DY v q.Small/\Below w.heap.size w w'):=by
 obtain⟨B1,d1,B2,d2,B3,d3,B4,d4,ay,b6,b7,au,av,aw,ax,k1,k2,k3,k4⟩:=h.cells;have b5:q.name.size<=9223372036854775807:=hf;have t1:=k1.1;have t2:=k2.1;have t3:=k3.1;have t4:=k4.1;obtain⟨w1,b9,a7,l,ap⟩:=Ae w cs.toArray 30;have aW:=hide l;have j:=hide a7;have aY:=l.cell;have b4:=l.lt;have am:=hide k2;generalize cs.toArray=pc at*;obtain⟨nt,V⟩:∃n,n=q.start.length:=⟨_,rfl⟩;obtain⟨y,M⟩:∃n,n=q.bad.length:=⟨_,rfl⟩;obtain⟨na,J⟩:∃n,n=q.adj.length:=⟨_,rfl⟩;obtain⟨ng,U⟩:∃n,n=q.goal.length:=⟨_,rfl⟩;have I:=hide (show nt=q.start.length/\y=q.bad.length/\na=q.adj.length/\ng=q.goal.length from⟨V,M,J,U⟩);rw [<-V] at au t1;rw [<-M] at av t2;rw [<-J] at aw t3;rw [<-U] at ax t4;clear V M J U h k1 k2 k3 k4 l ap a7 hf ay;by_cases ag:500<(q.name.size:Int)
 case pos=>
  go_enter Tryz.func29,Tryz.ntmps29;go_wp2_with fail;go_ret;exact⟨⟨true,rfl,fun d=>absurd d (by decide)⟩,j.out⟩
 by_cases l:60<(nt:Int)
 case pos=>
  go_enter Tryz.func29,Tryz.ntmps29;go_wp2_with fail;go_ret;exact⟨⟨true,rfl,fun d=>absurd d (by decide)⟩,j.out⟩
 by_cases ah:60<(y:Int)
 case pos=>
  go_enter Tryz.func29,Tryz.ntmps29;go_wp2_with fail;go_ret;exact⟨⟨true,rfl,fun d=>absurd d (by decide)⟩,j.out⟩
 by_cases ai:60<(na:Int)
 case pos=>
  go_enter Tryz.func29,Tryz.ntmps29;go_wp2_with fail;go_ret;exact⟨⟨true,rfl,fun d=>absurd d (by decide)⟩,j.out⟩
 by_cases aj:60<(ng:Int)
 case pos=>
  go_enter Tryz.func29,Tryz.ntmps29;go_wp2_with fail;go_ret;exact⟨⟨true,rfl,fun d=>absurd d (by decide)⟩,j.out⟩
 go_enter Tryz.func29,Tryz.ntmps29;go_wp2_with fail;have af:=hide (show q.name.size<=500/\nt<=60/\y<=60/\na<=60/\ng<=60 from by omega);clear ag l ah ai aj;go_loopw [3] (fun Z wr=>∃(k:Nat),Z=.int .i64 (k:Int)/\k<=y/\w1=wr/\Hid (∀c∈q.bad.take k,c.states.length<=60)) (fun Z _=>y - (intOf Z).toNat)
 case atStart=>exact⟨0,rfl,Nat.zero_le _,(by first|rfl|trivial),by intro r hr;simp at hr⟩
 case round=>
  obtain⟨k,rfl,hk,rfl,E⟩:=hrel;by_cases b0:k<y
  ·obtain⟨b2,ba,c,aJ,ae,aX,a8,b8,a9,al⟩:=(am.out.keep (w':=w1) (B':=w.heap.size) (R':=Db w1 w.heap.size) (fun _ W=>j.out.cell W) (fun _ _ h=>h.keep (fun _ W=>j.out.cell W) (Nat.le_refl _)) (Nat.le_refl _)).at (i:=k) (by have:=I.out.2.1;omega);obtain⟨C1,g1,rfl,a6⟩:=al;have d0:=a9 0 _ rfl;simp only [Nat.add_zero] at d0;have an:=hide a8;have ao:=a6.1;obtain⟨nc,O⟩:∃n,n=c.states.length:=⟨_,rfl⟩;have aq:=hide O;rw [<-O] at d0 ao;subst ae;clear a9 a8 a6 O;by_cases h6:(60:Int)<(nc:Int)
   ·go_wp2_with fail;go_ret;exact⟨⟨true,rfl,fun d=>absurd d (by decide)⟩,j.out⟩
   ·have ar:=hide (show ∀c∈q.bad.take (k+1),c.states.length<=60 from by
     rw [show q.bad.take (k+1)=q.bad.take k++[c] by rw [List.take_add_one,an.out];rfl];intro s C;rcases List.mem_append.1 C with C|C
     ·exact E.out s C
     ·rw [List.mem_singleton.1 C,<-aq.out];omega)
    go_wp2_with fail;exact⟨⟨k+1,by go_num,by omega,(by first|rfl|trivial),ar.out⟩,by simp [intOf];omega⟩
  ·have G:=E.out;rw [List.take_of_length_le (by have:=I.out.2.1;omega)] at G;have ak:=hide G;clear G E;go_wp2_with fail;go_ret;refine⟨⟨false,rfl,fun _=>?_⟩,j.out⟩;obtain⟨e1,e2,e3,e4⟩:=I.out;obtain⟨f1,f2,f3,f4,f5⟩:=af.out;exact⟨f1,by omega,by omega,by omega,by omega,ak.out⟩
theorem Gr {w:World} {cs ds:List Value} {p:Am} {q:AB} (h:At w w.heap.size cs p) (E:Ba w w.heap.size ds q) (U:p.Fits) (V:q.Fits):
  Calls Tryz.prog 9 #[.agg cs.toArray,.agg ds.toArray] w (Ret fun v w'=>DY v (p.Small/\q.Small)/\Below w.heap.size w w'):=by
 have W:=h.rules_at.1;obtain⟨B1,d1,B2,d2,B3,d3,B4,d4,Z,-⟩:=E.cells;obtain⟨w1,aq,j,J,ad⟩:=Ae w cs.toArray 27;obtain⟨w2,ar,l,M,ae⟩:=Ae w1 ds.toArray 30;have d:=hide (j.trans (l.mono j.size));have a4:=hide (h.keep (w':=w2) (B':=w2.heap.size) (fun _ y=>d.out.cell y) d.out.size);have a5:=hide (E.keep (w':=w2) (B':=w2.heap.size) (fun _ y=>d.out.cell y) d.out.size);have ao:=Ah (J.below l) W;have a3:=hide M;have aa:=hide (Mp a4.out U);have ab:Hid (∀wx,Below w2.heap.size w2 wx->Calls Tryz.prog 29 #[.agg ds.toArray] wx (Ret fun v w'=>DY v q.Small/\Below wx.heap.size wx w')):=hide (fun wx hx=>Mo (a5.out.keep (fun _ y=>hx.cell y) hx.size) V);generalize cs.toArray=pc at*;generalize ds.toArray=qc at*;have af:=hide Z;clear h E j l J M ad ae U V Z W;go_enter Tryz.func9,Tryz.ntmps9;go_wp2_with fail;refine Calls.ret aa.out ?_;rintro v w3 ⟨⟨b1,rfl,j⟩,C⟩;have a7:=hide j;have ap:=Ah (a3.out.below C) af.out;have a9:=hide (ab.out _ C);have I:=hide (d.out.trans (C.mono d.out.size));clear j C;cases b1
 ·go_wp2_with fail;refine Calls.ret a9.out ?_;rintro v w4 ⟨⟨b2,rfl,l⟩,O⟩;have a8:=hide l;have a6:=hide (I.out.trans (O.mono I.out.size));clear l O;go_wp2_with fail;go_ret;exact⟨⟨b2,rfl,fun G=>⟨a7.out trivial,a8.out G⟩⟩,a6.out⟩
 ·go_wp2_with fail;go_ret;exact⟨⟨true,rfl,fun G=>absurd G (by decide)⟩,I.out⟩
end Go.Proofs.YtfcfpoemojjglaaGreatDoor.K
