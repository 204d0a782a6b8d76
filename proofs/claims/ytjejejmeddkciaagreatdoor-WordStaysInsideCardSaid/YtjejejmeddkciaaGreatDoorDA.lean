/-
  Part DA of a proof.
-/
import Derived.Test.YtjejejmeddkciaaGreatDoorPA
import Derived.Test.YtjejejmeddkciaaGreatDoorCJ
import Derived.Test.YtjejejmeddkciaaGreatDoorSO
set_option maxHeartbeats 16000000
set_option maxRecDepth 100000
set_option linter.unusedVariables false
set_option linter.unusedSimpArgs false
namespace Go.Proofs.YtjejejmeddkciaaGreatDoor.K
open Go.RowKit
attribute [-go_sem] loadCellsFrom storeCells
theorem D7 {w M w2:World} {I J:Array Value} {p:Am} {q:AB} {A1 O U V W Z:Option Addr} {c1 c5 d1 d2 d3 d4 ns ni nt nb na ng:Nat} {kq:Int} (H:PQH w M w2 I J p q A1 c1 O c5 U d1 V d2 W d3 Z d4 ns ni nt nb na ng kq):
    (∀C,Hid (PQX C w.heap.size M.heap.size I J p q)->Calls Tryz.prog 86 #[.agg I] C (Ret fun v w'=>v=.int .i64 (protE nameOK p)/\Below C.heap.size C w'))/\
    (∀C,Below w.heap.size w C->Calls Tryz.prog 88 #[.slice U nt d1,.int .i64 (ns:Int)] C (Ret fun r w'=>r=.int .i64 (Aa q.start (ns:Int))/\Below C.heap.size C w'))/\
    (∀C,Below w.heap.size w C->Calls Tryz.prog 88 #[.slice Z ng d4,.int .i64 (ns:Int)] C (Ret fun r w'=>r=.int .i64 (Aa q.goal (ns:Int))/\Below C.heap.size C w'))/\
    (∀C x,Below w.heap.size w C->Calls Tryz.prog 75 #[.slice O ni c5,.int .i64 x] C fun r w'=>r=.returned (.bool (decide (x∈p.initial)))/\C=w')/\
    (∀C,Below w.heap.size w C->Calls Tryz.prog 91 #[.slice V nb d2,.int .i64 (ns:Int)] C (Ret fun r w'=>r=.int .i64 (Aj (AV (ns:Int)) q.bad)/\Below C.heap.size C w'))/\
    (∀C,Hid (PQX C w.heap.size M.heap.size I J p q)->Below w.heap.size w C->Calls Tryz.prog 92 #[.agg I,.slice W na d3] C (Ret fun r w'=>r=.int .i64 (BA p.topo (ns:Int) q.adj)/\Below C.heap.size C w')):=by
  obtain⟨-,-,-,-,-,G,ak,⟨ai,ae,af,ag,ah⟩,-,⟨-,-,-,-,-,am,-⟩,-,-⟩:=H
  exact⟨fun C E=>Kt E.out.pr ak.out E.out.tab,
   fun C E=>by
    rw [G.out.2.2.1];exact DE (ae.out.keep (fun _ F=>E.cell F) E.size),
   fun C E=>by
    rw [G.out.2.2.2.2.2.1];exact DE (ah.out.keep (fun _ F=>E.cell F) E.size),
   fun C x E=>by
    rw [G.out.2.1];exact containsI_any (ai.out.keep (fun _ F=>E.cell F) E.size),
   fun C E=>by
    rw [G.out.2.2.2.1];exact Nb (af.out.keep (fun _ F=>E.cell F) (fun _ _ h=>h.keep (fun _ F=>E.cell F) E.size) E.size),
   fun C aj E=>by
    rw [G.out.2.2.2.2.1,G.out.1];exact L6 aj.out.pr (ag.out.keep (fun _ F=>E.cell F) E.size)⟩
theorem T4 {w:World} {cs ds:List Value} {p:Am} {q:AB} (h:At w w.heap.size cs p) (I:Ba w w.heap.size ds q) (U:p.Small) (V:q.Small) (J:SpOK w) {E:Int} (Z:Hid (protE nameOK p=E)) (aD:(E != 0)=true):
  Calls Tryz.prog 45 #[.agg cs.toArray,.agg ds.toArray] w (Ret fun v w'=>v=.int .i64 (E)/\Below w.heap.size w w'):=by
 obtain⟨w1,w2,A1,c1,A5,c5,B1,d1,B2,d2,B3,d3,B4,d4,ns,ni,nt,nb,na,ng,kq,H⟩:=Dj h I U V J;generalize cs.toArray=pc at*;generalize ds.toArray=qc at*;clear h I U V J;obtain⟨a2,aR,au,aq,ar,al⟩:=D7 H;obtain⟨aS,aT,M,aP,C,aj,aQ,⟨ak,af,ag,ah,ai⟩,O,⟨aE,ax,ay,az,aA,aB,aC⟩,⟨aF,aG,aH⟩,aJ,aK,aL,aM,aN,aO⟩:=H;have am:=C.out.b2.cell;have ao:=C.out.b3.cell;have av:=Ah C.out.b2 O.out;go_enter Tryz.func45,Tryz.ntmps45
 go_wp2_with (first
  | (go_at_call 86;refine Calls.ret (a2 _ C) ?_;rintro v w3 ⟨rfl,G⟩;rw [Z.out];have F:=hide (C.out.at G);have an:=F.out.b2.cell;have ap:=F.out.b3.cell;have aw:=Ah F.out.b2 O.out;have W:=hide (M.out.trans (G.mono M.out.size));clear G))
 go_ret;exact⟨rfl,W.out⟩
theorem T5 {w:World} {cs ds:List Value} {p:Am} {q:AB} (h:At w w.heap.size cs p) (M:Ba w w.heap.size ds q) (W:p.Small) (Z:q.Small) (O:SpOK w) (a3:Hid (protE nameOK p=0)) (a4:Hid (nameOK q.name=false)):
  Calls Tryz.prog 45 #[.agg cs.toArray,.agg ds.toArray] w (Ret fun v w'=>v=.int .i64 (2)/\Below w.heap.size w w'):=by
 obtain⟨w1,w2,A1,c1,A5,c5,B1,d1,B2,d2,B3,d3,B4,d4,ns,ni,nt,nb,na,ng,kq,H⟩:=Dj h M W Z O;generalize cs.toArray=pc at*;generalize ds.toArray=qc at*;clear h M W Z O;obtain⟨a5,aW,az,ax,ay,ao⟩:=D7 H;obtain⟨aX,aY,U,aU,C,am,aV,⟨an,ai,aj,ak,al⟩,J,⟨aK,aD,aE,aF,aG,aH,aJ⟩,⟨aL,aM,aN⟩,aO,aP,aQ,aR,aS,aT⟩:=H;have ap:=C.out.b2.cell;have au:=C.out.b3.cell;have aA:=Ah C.out.b2 J.out;go_enter Tryz.func45,Tryz.ntmps45
 go_wp2_with (first
  | (go_at_call 86;refine Calls.ret (a5 _ C) ?_;rintro v w3 ⟨rfl,G⟩;rw [a3.out];have E:=hide (C.out.at G);have aq:=E.out.b2.cell;have av:=E.out.b3.cell;have aB:=Ah E.out.b2 J.out;have V:=hide (U.out.trans (G.mono U.out.size));clear G)
  | (go_at_call 87;refine Calls.ret (Da q.name _ (by omega) E.out.tab) ?_;rintro v w4 ⟨rfl,I⟩;rw [a4.out];have F:=hide (E.out.at I);have ar:=F.out.b2.cell;have aw:=F.out.b3.cell;have aC:=Ah F.out.b2 J.out;have a2:=hide (V.out.trans (I.mono V.out.size));clear I))
 go_ret;exact⟨rfl,a2.out⟩
theorem T6 {w:World} {cs ds:List Value} {p:Am} {q:AB} (h:At w w.heap.size cs p) (U:Ba w w.heap.size ds q) (a2:p.Small) (a3:q.Small) (V:SpOK w) (a7:Hid (protE nameOK p=0)) (a8:Hid (nameOK q.name=true)) (J:q.kind≠1) (M:q.kind≠2):
  Calls Tryz.prog 45 #[.agg cs.toArray,.agg ds.toArray] w (Ret fun v w'=>v=.int .i64 (1)/\Below w.heap.size w w'):=by
 obtain⟨w1,w2,A1,c1,A5,c5,B1,d1,B2,d2,B3,d3,B4,d4,ns,ni,nt,nb,na,ng,kq,H⟩:=Dj h U a2 a3 V;generalize cs.toArray=pc at*;generalize ds.toArray=qc at*;clear h U a2 a3 V;obtain⟨a9,aZ,aC,aA,aB,ar⟩:=D7 H;obtain⟨b0,b4,W,aX,C,a5,aY,⟨aq,am,an,ao,ap⟩,O,⟨aN,aG,aH,aJ,aK,aL,aM⟩,⟨aO,aP,aQ⟩,aR,aS,aT,aU,aV,aW⟩:=H;have au:=C.out.b2.cell;have ax:=C.out.b3.cell;have aD:=Ah C.out.b2 O.out;rw [<-a5.out.2.2.2.2.2.2] at J M;have b5:(kq==1)=false:=by simp [J]
 have b6:(kq != 2)=true:=by simp [M]
 clear J M;go_enter Tryz.func45,Tryz.ntmps45
 go_wp2_with (first
  | (go_at_call 86;refine Calls.ret (a9 _ C) ?_;rintro v w3 ⟨rfl,G⟩;rw [a7.out];have E:=hide (C.out.at G);have av:=E.out.b2.cell;have ay:=E.out.b3.cell;have aE:=Ah E.out.b2 O.out;have Z:=hide (W.out.trans (G.mono W.out.size));clear G)
  | (go_at_call 87;refine Calls.ret (Da q.name _ (by omega) E.out.tab) ?_;rintro v w4 ⟨rfl,I⟩;rw [a8.out];have F:=hide (E.out.at I);have aw:=F.out.b2.cell;have az:=F.out.b3.cell;have aF:=Ah F.out.b2 O.out;have a6:=hide (Z.out.trans (I.mono Z.out.size));clear I))
 go_ret;exact⟨rfl,a6.out⟩
theorem T7 {w:World} {cs ds:List Value} {p:Am} {q:AB} (h:At w w.heap.size cs p) (M:Ba w w.heap.size ds q) (a2:p.Small) (a3:q.Small) (U:SpOK w) (a5:Hid (protE nameOK p=0)) (a7:Hid (nameOK q.name=true)) (a6:Hid (q.kind=1)) (Z:q.goal.length≠0):
  Calls Tryz.prog 45 #[.agg cs.toArray,.agg ds.toArray] w (Ret fun v w'=>v=.int .i64 (1)/\Below w.heap.size w w'):=by
 obtain⟨w1,w2,A1,c1,A5,c5,B1,d1,B2,d2,B3,d3,B4,d4,ns,ni,nt,nb,na,ng,kq,H⟩:=Dj h M a2 a3 U;generalize cs.toArray=pc at*;generalize ds.toArray=qc at*;clear h M a2 a3 U;obtain⟨a8,b4,aE,aB,aC,au⟩:=D7 H;obtain⟨b5,b6,V,aZ,C,O,b0,⟨ar,an,ao,ap,aq⟩,J,⟨aP,aJ,aK,aL,aM,aN,aO⟩,⟨aQ,aR,aS⟩,aT,aU,aV,aW,aX,aY⟩:=H;have av:=C.out.b2.cell;have ay:=C.out.b3.cell;have aF:=Ah C.out.b2 J.out;rw [<-O.out.2.2.2.2.2.1] at Z;have aD:(0:Int)<(ng:Int):=by omega
 clear Z;have b7:(kq==1)=true:=by rw [O.out.2.2.2.2.2.2,a6.out];rfl
 go_enter Tryz.func45,Tryz.ntmps45
 go_wp2_with (first
  | (go_at_call 86;refine Calls.ret (a8 _ C) ?_;rintro v w3 ⟨rfl,G⟩;rw [a5.out];have E:=hide (C.out.at G);have aw:=E.out.b2.cell;have az:=E.out.b3.cell;have aG:=Ah E.out.b2 J.out;have W:=hide (V.out.trans (G.mono V.out.size));clear G)
  | (go_at_call 87;refine Calls.ret (Da q.name _ (by omega) E.out.tab) ?_;rintro v w4 ⟨rfl,I⟩;rw [a7.out];have F:=hide (E.out.at I);have ax:=F.out.b2.cell;have aA:=F.out.b3.cell;have aH:=Ah F.out.b2 J.out;have a4:=hide (W.out.trans (I.mono W.out.size));clear I))
 go_ret;exact⟨rfl,a4.out⟩
theorem T8 {w:World} {cs ds:List Value} {p:Am} {q:AB} (h:At w w.heap.size cs p) (O:Ba w w.heap.size ds q) (a3:p.Small) (a4:q.Small) (U:SpOK w) (a7:Hid (protE nameOK p=0)) (a8:Hid (nameOK q.name=true)) (a2:Hid (q.kind=2)) (Z:q.bad.length≠0):
  Calls Tryz.prog 45 #[.agg cs.toArray,.agg ds.toArray] w (Ret fun v w'=>v=.int .i64 (1)/\Below w.heap.size w w'):=by
 obtain⟨w1,w2,A1,c1,A5,c5,B1,d1,B2,d2,B3,d3,B4,d4,ns,ni,nt,nb,na,ng,kq,H⟩:=Dj h O a3 a4 U;generalize cs.toArray=pc at*;generalize ds.toArray=qc at*;clear h O a3 a4 U;obtain⟨a9,b4,aE,aB,aC,au⟩:=D7 H;obtain⟨b5,b6,V,aZ,C,F,b0,⟨ar,an,ao,ap,aq⟩,M,⟨aP,aJ,aK,aL,aM,aN,aO⟩,⟨aQ,aR,aS⟩,aT,aU,aV,aW,aX,aY⟩:=H;have av:=C.out.b2.cell;have ay:=C.out.b3.cell;have aF:=Ah C.out.b2 M.out;rw [<-F.out.2.2.2.1] at Z;have aD:(0:Int)<(nb:Int):=by omega
 clear Z;have b7:(kq==1)=false:=by rw [F.out.2.2.2.2.2.2,a2.out];rfl
 have b8:(kq != 2)=false:=by rw [F.out.2.2.2.2.2.2,a2.out];rfl
 go_enter Tryz.func45,Tryz.ntmps45
 go_wp2_with (first
  | (go_at_call 86;refine Calls.ret (a9 _ C) ?_;rintro v w3 ⟨rfl,I⟩;rw [a7.out];have E:=hide (C.out.at I);have aw:=E.out.b2.cell;have az:=E.out.b3.cell;have aG:=Ah E.out.b2 M.out;have W:=hide (V.out.trans (I.mono V.out.size));clear I)
  | (go_at_call 87;refine Calls.ret (Da q.name _ (by omega) E.out.tab) ?_;rintro v w4 ⟨rfl,J⟩;rw [a8.out];have G:=hide (E.out.at J);have ax:=G.out.b2.cell;have aA:=G.out.b3.cell;have aH:=Ah G.out.b2 M.out;have a6:=hide (W.out.trans (J.mono W.out.size));clear J))
 go_ret;exact⟨rfl,a6.out⟩
theorem T9 {w:World} {cs ds:List Value} {p:Am} {q:AB} (h:At w w.heap.size cs p) (O:Ba w w.heap.size ds q) (a4:p.Small) (a5:q.Small) (U:SpOK w) (a8:Hid (protE nameOK p=0)) (a9:Hid (nameOK q.name=true)) (a3:Hid (q.kind=2)) (Z:q.bad.length=0) (a2:q.adj.length≠0):
  Calls Tryz.prog 45 #[.agg cs.toArray,.agg ds.toArray] w (Ret fun v w'=>v=.int .i64 (1)/\Below w.heap.size w w'):=by
 obtain⟨w1,w2,A1,c1,A5,c5,B1,d1,B2,d2,B3,d3,B4,d4,ns,ni,nt,nb,na,ng,kq,H⟩:=Dj h O a4 a5 U;generalize cs.toArray=pc at*;generalize ds.toArray=qc at*;clear h O a4 a5 U;obtain⟨aa,b7,aH,aD,aE,aw⟩:=D7 H;obtain⟨b8,b9,V,b5,C,F,b6,⟨av,ap,aq,ar,au⟩,M,⟨aS,aM,aN,aO,aP,aQ,aR⟩,⟨aT,aU,aV⟩,aW,aX,aY,aZ,b0,b4⟩:=H;have ax:=C.out.b2.cell;have aA:=C.out.b3.cell;have aJ:=Ah C.out.b2 M.out;rw [<-F.out.2.2.2.1] at Z;rw [<-F.out.2.2.2.2.1] at a2;have aF:¬(0:Int)<(nb:Int):=by omega
 have aG:(0:Int)<(na:Int):=by omega
 clear Z a2;have ba:(kq==1)=false:=by rw [F.out.2.2.2.2.2.2,a3.out];rfl
 have bb:(kq != 2)=false:=by rw [F.out.2.2.2.2.2.2,a3.out];rfl
 go_enter Tryz.func45,Tryz.ntmps45
 go_wp2_with (first
  | (go_at_call 86;refine Calls.ret (aa _ C) ?_;rintro v w3 ⟨rfl,I⟩;rw [a8.out];have E:=hide (C.out.at I);have ay:=E.out.b2.cell;have aB:=E.out.b3.cell;have aK:=Ah E.out.b2 M.out;have W:=hide (V.out.trans (I.mono V.out.size));clear I)
  | (go_at_call 87;refine Calls.ret (Da q.name _ (by omega) E.out.tab) ?_;rintro v w4 ⟨rfl,J⟩;rw [a9.out];have G:=hide (E.out.at J);have az:=G.out.b2.cell;have aC:=G.out.b3.cell;have aL:=Ah G.out.b2 M.out;have a7:=hide (W.out.trans (J.mono W.out.size));clear J))
 go_ret;exact⟨rfl,a7.out⟩
end Go.Proofs.YtjejejmeddkciaaGreatDoor.K
namespace Go.Proofs.YtjejejmeddkciaaGreatDoor.K
open Go.RowKit
attribute [-go_sem] loadCellsFrom storeCells
theorem Ua {w:World} {cs ds:List Value} {p:Am} {q:AB} (h:At w w.heap.size cs p) (Z:Ba w w.heap.size ds q) (a7:p.Small) (a8:q.Small) (hT:SpOK w) (aa:Hid (protE nameOK p=0)) (ad:Hid (nameOK q.name=true)) (ab:Hid (q.kind=1)) (hg:q.goal.length=0) {I:Int} (a5:Hid (Aa q.start (p.states.length:Int)=I)) (aY:(I != 0)=true):
  Calls Tryz.prog 45 #[.agg cs.toArray,.agg ds.toArray] w (Ret fun v w'=>v=.int .i64 (I)/\Below w.heap.size w w'):=by
 obtain⟨w1,w2,A1,c1,A5,c5,B1,d1,B2,d2,B3,d3,B4,d4,ns,ni,nt,nb,na,ng,kq,H⟩:=Dj h Z a7 a8 hT;generalize cs.toArray=pc at*;generalize ds.toArray=qc at*;clear h Z a7 a8 hT;obtain⟨af,ae,aN,aK,aL,aA⟩:=D7 H;obtain⟨be,bf,a3,bc,C,J,bd,⟨az,av,aw,ax,ay⟩,G,⟨aZ,aS,aT,aU,aV,aW,aX⟩,⟨b0,b4,b5⟩,b6,b7,b8,b9,ba,bb⟩:=H;have aB:=C.out.b2.cell;have aF:=C.out.b3.cell;have aO:=Ah C.out.b2 G.out;rw [<-J.out.1] at a5;rw [<-J.out.2.2.2.2.2.1] at hg;have aM:¬(0:Int)<(ng:Int):=by omega
 clear hg;have bg:(kq==1)=true:=by rw [J.out.2.2.2.2.2.2,ab.out];rfl
 go_enter Tryz.func45,Tryz.ntmps45
 go_wp2_with (first
  | (go_at_call 86;refine Calls.ret (af _ C) ?_;rintro v w3 ⟨rfl,U⟩;rw [aa.out];have E:=hide (C.out.at U);have aC:=E.out.b2.cell;have aG:=E.out.b3.cell;have aP:=Ah E.out.b2 G.out;have a4:=hide (a3.out.trans (U.mono a3.out.size));clear U)
  | (go_at_call 87;refine Calls.ret (Da q.name _ (by omega) E.out.tab) ?_;rintro v w4 ⟨rfl,V⟩;rw [ad.out];have F:=hide (E.out.at V);have aD:=F.out.b2.cell;have aH:=F.out.b3.cell;have aQ:=Ah F.out.b2 G.out;have O:=hide (a4.out.trans (V.mono a4.out.size));clear V)
  | (go_at_call 88;refine Calls.ret (ae _ O.out) ?_;rintro v w5 ⟨rfl,W⟩;rw [a5.out];have M:=hide (F.out.at W);have aE:=M.out.b2.cell;have aJ:=M.out.b3.cell;have aR:=Ah M.out.b2 G.out;have a9:=hide (O.out.trans (W.mono O.out.size));clear W))
 go_ret;exact⟨rfl,a9.out⟩
theorem Ub {w:World} {cs ds:List Value} {p:Am} {q:AB} (h:At w w.heap.size cs p) (h':Ba w w.heap.size ds q) (aN:p.Small) (aO:q.Small) (hT:SpOK w) (aJ:Hid (protE nameOK p=0)) (aM:Hid (nameOK q.name=true)) (aK:Hid (q.kind=1)) (hg:q.goal.length=0) (ao:Hid (Aa q.start (p.states.length:Int)=0)):
  Calls Tryz.prog 45 #[.agg cs.toArray,.agg ds.toArray] w (Ret fun v w'=>v=.int .i64 (aCq nameOK p q)/\Below w.heap.size w w'):=by
 obtain⟨w1,w2,A1,c1,A5,c5,B1,d1,B2,d2,B3,d3,B4,d4,ns,ni,nt,nb,na,ng,kq,H⟩:=Dj h h' aN aO hT;generalize cs.toArray=pc at*;generalize ds.toArray=qc at*;clear h h' aN aO hT;obtain⟨be,bd,bN,b6,aH,aD⟩:=D7 H;obtain⟨ch,ci,aE,cf,a6,E,cg,⟨bA,aV,bw,bx,bz⟩,I,⟨c4,bV,bW,bX,bY,bZ,c0⟩,⟨c6,c7,c8⟩,c9,ca,cb,cc,cd,ce⟩:=H;have bC:=a6.out.b2.cell;have bH:=a6.out.b3.cell;have bP:=Ah a6.out.b2 I.out;have hR:=hide (show aCq nameOK p q=orE (Ad (!CF p q) 5) (DL p q) from by
  rw [HZ aJ.out aM.out aK.out hg,ao.out];rfl)
 rw [<-E.out.1] at ao;rw [<-E.out.2.2.2.2.2.1] at hg;have bM:¬(0:Int)<(ng:Int):=by omega
 clear hg;have cj:(kq==1)=true:=by rw [E.out.2.2.2.2.2.2,aK.out];rfl
 go_enter Tryz.func45,Tryz.ntmps45
 go_wp2_with (first
  | (go_at_call 86;refine Calls.ret (be _ a6) ?_;rintro v w3 ⟨rfl,ak⟩;rw [aJ.out];have a7:=hide (a6.out.at ak);have bD:=a7.out.b2.cell;have bI:=a7.out.b3.cell;have bQ:=Ah a7.out.b2 I.out;have aF:=hide (aE.out.trans (ak.mono aE.out.size));clear ak)
  | (go_at_call 87;refine Calls.ret (Da q.name _ (by omega) a7.out.tab) ?_;rintro v w4 ⟨rfl,al⟩;rw [aM.out];have ab:=hide (a7.out.at al);have bE:=ab.out.b2.cell;have bJ:=ab.out.b3.cell;have bR:=Ah ab.out.b2 I.out;have ai:=hide (aF.out.trans (al.mono aF.out.size));clear al)
  | (go_at_call 88;refine Calls.ret (bd _ ai.out) ?_;rintro v w5 ⟨rfl,am⟩;rw [ao.out];have ad:=hide (ab.out.at am);have bF:=ad.out.b2.cell;have bK:=ad.out.b3.cell;have bS:=Ah ad.out.b2 I.out;have aG:=hide (ai.out.trans (am.mono ai.out.size));clear am))
 go_loopw [67] (fun ii wr=>∃(k:Nat),ii=.int .i64 (k:Int)/\k<=nt/\Hid (Below w5.heap.size w5 wr)/\Hid ((q.start.take k).all (fun x=>decide (x∈p.initial))=true)) (fun ii _=>nt - (intOf ii).toNat)
 case atStart=>exact⟨0,rfl,Nat.zero_le _,Below.refl _ _,by show _=_;simp⟩
 case round=>
  obtain⟨k,rfl,hk,an,hE⟩:=hrel;have a8:=hide (ad.out.at an.out);have bG:=a8.out.b2.cell;have bL:=a8.out.b3.cell;have bT:=Ah a8.out.b2 I.out;have V:=hide (aG.out.trans (an.out.mono aG.out.size));by_cases bU:k<nt
  ·obtain⟨b,off,x,hA,bB,hx,a3⟩:=(aV.out.keep (w':=wr) (B':=w.heap.size) (fun _ hp=>V.out.cell hp) (Nat.le_refl _)).at (k:=k) (by have:=E.out.2.2.1;omega);have d0:=a3 0 (by omega);simp only [Nat.add_zero,Nat.mul_one,Ai] at d0;have aQ:=hide hx;subst hA;clear a3 hx;have a3:=hide (b6 _ x V.out);cases hv:decide (x∈p.initial)
   ·have bc:=hide (show CF p q=false from by
     unfold CF;rw [List.all_eq_false];exact⟨x,List.mem_of_getElem? aQ.out,by rw [hv];decide⟩)
    rw [hv] at a3;clear hv;go_wp2_with (go_at_call 75;refine a3.out.mono ?_;rintro r w' ⟨rfl,rfl⟩);go_ret;exact⟨congrArg (Value.int .i64) (hR.out.trans (by rw [bc.out];rfl)).symm,V.out⟩
   ·have bb:=hide (Cq (p:=fun x=>decide (x∈p.initial)) aQ.out hE.out hv);rw [hv] at a3;clear hv;go_wp2_with (go_at_call 75;refine a3.out.mono ?_;rintro r w' ⟨rfl,rfl⟩);exact⟨⟨k+1,by go_num,by omega,an.out,bb.out⟩,by simp [intOf];omega⟩
  ·have aW:=hide (show CF p q=true from by
    have h1:=E.out.2.2.1;have h2:=hE.out
    rwa [List.take_of_length_le (by omega)] at h2)
   have aB:=hide (show aCq nameOK p q=DL p q from by rw [hR.out,aW.out];rfl);clear hE;cases aL:((nb:Int)==0)
   case true=>
    go_wp2_with fail;have O:=hide (a8.out.at (Ap wr));have aX:=O.out.b2.cell;have b0:=O.out.b3.cell;have b7:=Ah O.out.b2 I.out;have W:=hide (V.out.trans ((Ap wr).mono V.out.size));refine Reg.cI [0,1,3,7,15,31,63,127,255,511,1023,0,2048,6144,14336,32767,0,65536,0,524287,0,0,2097152,8388607,16777215,33554431,67108863] [0,1,2,3,4,5,6,7,8,9,11,12,13,14,16,17,18,20,21,22,10,15,19,23,24,25,26] ?_;refine Reg.wI [0,1,2,3,4,5,6,7,8,9,11,12,13,14,16,17,18,20,21,22] [10,15,19,23,24,25,26] rfl fun Qf C=>?_;go_wp2_with fail;first|refine C _ _ ⟨rfl,?_⟩|refine⟨rfl,?_⟩|refine C _ _ ⟨by simp [Reg.fineT,Reg.intOp,Region.wanted,yielded,Reg.intFine,Reg.isInt,Act.eval],?_⟩
    (try clear C);refine Reg.aI 10 [15,19,23,24,25,26] [12,17,20,22] rfl fun Qf C=>?_;simp only [gT,gS,gZ];go_wp2_with (go_at_call 90;refine Calls.ret (DX _ _ _) ?_;rintro r w' ⟨⟨J,rfl,au⟩,rfl⟩);first|refine C _ _ ⟨Reg.same_below (Below.refl _ _) [12,17,20,22] rfl,?_⟩|refine⟨Reg.same_below (Below.refl _ _) [12,17,20,22] rfl,?_⟩
    (try clear C);refine Reg.aI 15 [19,23,24,25,26] [17,20,22] rfl fun Qf C=>?_;simp only [gT,gS,gZ];go_wp2_with (go_at_call 90;refine Calls.ret (DX _ _ _) ?_;rintro r w' ⟨⟨M,rfl,av⟩,rfl⟩);first|refine C _ _ ⟨Reg.same_below (Below.refl _ _) [17,20,22] rfl,?_⟩|refine⟨Reg.same_below (Below.refl _ _) [17,20,22] rfl,?_⟩
    (try clear C);refine Reg.aI 19 [23,24,25,26] [20,22] rfl fun Qf C=>?_;simp only [gT,gS,gZ];go_wp2_with (go_at_call 91;refine Calls.ret (aH _ W.out) ?_;rintro v w7 ⟨rfl,G⟩);first|refine C _ _ ⟨Reg.same_below (G) [20,22] rfl,?_⟩|refine⟨Reg.same_below (G) [20,22] rfl,?_⟩
    (try clear C);have F:=hide (O.out.at G);have aY:=F.out.b2.cell;have b4:=F.out.b3.cell;have b8:=Ah F.out.b2 I.out;have Z:=hide (W.out.trans (G.mono W.out.size));clear G;refine Reg.aI 23 [24,25,26] [] rfl fun Qf C=>?_;simp only [gT,gS,gZ];go_wp2_with (go_at_call 92;refine Calls.ret (aD _ F Z.out) ?_;rintro v w8 ⟨rfl,a2⟩);first|refine C _ _ ⟨Reg.nm,?_⟩|refine⟨Reg.nm,?_⟩
    (try clear C);have U:=hide (F.out.at a2);have aZ:=U.out.b2.cell;have b5:=U.out.b3.cell;have b9:=Ah U.out.b2 I.out;have a9:=hide (Z.out.trans (a2.mono Z.out.size));clear a2;have aq:=hide (show DL p q=Aj id [J,M,Aj (AV (ns:Int)) q.bad,BA p.topo (ns:Int) q.adj] from by
     unfold DL;simp only [Aj,id_eq,Bk];have e1:J=Ad (q.bad.isEmpty&&q.adj.isEmpty) 1:=by
      rw [au.out];congr 1;rw [Bv q.bad,Bv q.adj,<-E.out.2.2.2.1,<-E.out.2.2.2.2.1,<-EF];rw [aL];simp only [EF,Bool.true_and]
     have e2:M=Ad (decide (3<q.bad.length)) 4:=by
      rw [av.out];congr 1;rw [<-E.out.2.2.2.1]
      first
       | rfl
       | (rw [decide_eq_decide];omega)
     rw [e1,e2,<-E.out.1]
    )
    obtain⟨wz,bf,aa,a5,ar⟩:=Ae w8 #[.int .i64 (J),.int .i64 (M),.int .i64 (Aj (AV (ns:Int)) q.bad),.int .i64 (BA p.topo (ns:Int) q.adj)] 40;have ah:=hide (Ch (l:=[J,M,Aj (AV (ns:Int)) q.bad,BA p.topo (ns:Int) q.adj]) a5 (by simp));have aj:=hide (a9.out.trans (aa.mono a9.out.size));clear a5 ar aa;refine Reg.wI [24] [25,26] rfl fun Qf C=>?_;go_wp2_with fail;first|refine C _ _ ⟨rfl,?_⟩|refine⟨rfl,?_⟩|refine C _ _ ⟨by simp [Reg.fineT,Reg.intOp,Region.wanted,yielded,Reg.intFine,Reg.isInt,Act.eval],?_⟩
    (try clear C);refine Reg.aI 25 [26] [] rfl fun Qf C=>?_;simp only [gT,gS,gZ];go_wp2_with (go_at_call 89;refine(Ci (l:=[J,M,Aj (AV (ns:Int)) q.bad,BA p.topo (ns:Int) q.adj]) ah.out).mono ?_;rintro e w' ⟨rfl,rfl⟩);first|refine C _ _ ⟨Reg.nm,?_⟩|refine⟨Reg.nm,?_⟩
    (try clear C);refine Reg.wI [26] [] rfl fun Qf C=>?_;go_wp2_with fail;first|refine C _ _ ⟨rfl,?_⟩|refine⟨rfl,?_⟩|refine C _ _ ⟨by simp [Reg.fineT,Reg.intOp,Region.wanted,yielded,Reg.intFine,Reg.isInt,Act.eval],?_⟩
    (try clear C);first|refine Reg.restI_end ?_|skip
    go_wp2_with fail;go_ret;exact⟨congrArg (Value.int .i64) (aB.out.trans aq.out).symm,aj.out⟩
   case false=>
    go_wp2_with fail;have O:=hide (a8.out.at (Ap wr));have aX:=O.out.b2.cell;have b0:=O.out.b3.cell;have b7:=Ah O.out.b2 I.out;have W:=hide (V.out.trans ((Ap wr).mono V.out.size));refine Reg.cI [0,1,3,7,15,31,63,127,255,511,1023,0,2048,6144,14336,32767,0,65536,0,524287,0,0,2097152,8388607,16777215,33554431,67108863] [0,1,2,3,4,5,6,7,8,9,11,12,13,14,16,17,18,20,21,22,10,15,19,23,24,25,26] ?_;refine Reg.wI [0,1,2,3,4,5,6,7,8,9,11,12,13,14,16,17,18,20,21,22] [10,15,19,23,24,25,26] rfl fun Qf C=>?_;go_wp2_with fail;first|refine C _ _ ⟨rfl,?_⟩|refine⟨rfl,?_⟩|refine C _ _ ⟨by simp [Reg.fineT,Reg.intOp,Region.wanted,yielded,Reg.intFine,Reg.isInt,Act.eval],?_⟩
    (try clear C);refine Reg.aI 10 [15,19,23,24,25,26] [12,17,20,22] rfl fun Qf C=>?_;simp only [gT,gS,gZ];go_wp2_with (go_at_call 90;refine Calls.ret (DX _ _ _) ?_;rintro r w' ⟨⟨J,rfl,au⟩,rfl⟩);first|refine C _ _ ⟨Reg.same_below (Below.refl _ _) [12,17,20,22] rfl,?_⟩|refine⟨Reg.same_below (Below.refl _ _) [12,17,20,22] rfl,?_⟩
    (try clear C);refine Reg.aI 15 [19,23,24,25,26] [17,20,22] rfl fun Qf C=>?_;simp only [gT,gS,gZ];go_wp2_with (go_at_call 90;refine Calls.ret (DX _ _ _) ?_;rintro r w' ⟨⟨M,rfl,av⟩,rfl⟩);first|refine C _ _ ⟨Reg.same_below (Below.refl _ _) [17,20,22] rfl,?_⟩|refine⟨Reg.same_below (Below.refl _ _) [17,20,22] rfl,?_⟩
    (try clear C);refine Reg.aI 19 [23,24,25,26] [20,22] rfl fun Qf C=>?_;simp only [gT,gS,gZ];go_wp2_with (go_at_call 91;refine Calls.ret (aH _ W.out) ?_;rintro v w7 ⟨rfl,G⟩);first|refine C _ _ ⟨Reg.same_below (G) [20,22] rfl,?_⟩|refine⟨Reg.same_below (G) [20,22] rfl,?_⟩
    (try clear C);have F:=hide (O.out.at G);have aY:=F.out.b2.cell;have b4:=F.out.b3.cell;have b8:=Ah F.out.b2 I.out;have Z:=hide (W.out.trans (G.mono W.out.size));clear G;refine Reg.aI 23 [24,25,26] [] rfl fun Qf C=>?_;simp only [gT,gS,gZ];go_wp2_with (go_at_call 92;refine Calls.ret (aD _ F Z.out) ?_;rintro v w8 ⟨rfl,a2⟩);first|refine C _ _ ⟨Reg.nm,?_⟩|refine⟨Reg.nm,?_⟩
    (try clear C);have U:=hide (F.out.at a2);have aZ:=U.out.b2.cell;have b5:=U.out.b3.cell;have b9:=Ah U.out.b2 I.out;have a9:=hide (Z.out.trans (a2.mono Z.out.size));clear a2;have aq:=hide (show DL p q=Aj id [J,M,Aj (AV (ns:Int)) q.bad,BA p.topo (ns:Int) q.adj] from by
     unfold DL;simp only [Aj,id_eq,Bk];have e1:J=Ad (q.bad.isEmpty&&q.adj.isEmpty) 1:=by
      rw [au.out];congr 1;rw [Bv q.bad,Bv q.adj,<-E.out.2.2.2.1,<-E.out.2.2.2.2.1,<-EF];rw [aL];rfl
     have e2:M=Ad (decide (3<q.bad.length)) 4:=by
      rw [av.out];congr 1;rw [<-E.out.2.2.2.1]
      first
       | rfl
       | (rw [decide_eq_decide];omega)
     rw [e1,e2,<-E.out.1]
    )
    obtain⟨wz,bf,aa,a5,ar⟩:=Ae w8 #[.int .i64 (J),.int .i64 (M),.int .i64 (Aj (AV (ns:Int)) q.bad),.int .i64 (BA p.topo (ns:Int) q.adj)] 40;have ah:=hide (Ch (l:=[J,M,Aj (AV (ns:Int)) q.bad,BA p.topo (ns:Int) q.adj]) a5 (by simp));have aj:=hide (a9.out.trans (aa.mono a9.out.size));clear a5 ar aa;refine Reg.wI [24] [25,26] rfl fun Qf C=>?_;go_wp2_with fail;first|refine C _ _ ⟨rfl,?_⟩|refine⟨rfl,?_⟩|refine C _ _ ⟨by simp [Reg.fineT,Reg.intOp,Region.wanted,yielded,Reg.intFine,Reg.isInt,Act.eval],?_⟩
    (try clear C);refine Reg.aI 25 [26] [] rfl fun Qf C=>?_;simp only [gT,gS,gZ];go_wp2_with (go_at_call 89;refine(Ci (l:=[J,M,Aj (AV (ns:Int)) q.bad,BA p.topo (ns:Int) q.adj]) ah.out).mono ?_;rintro e w' ⟨rfl,rfl⟩);first|refine C _ _ ⟨Reg.nm,?_⟩|refine⟨Reg.nm,?_⟩
    (try clear C);refine Reg.wI [26] [] rfl fun Qf C=>?_;go_wp2_with fail;first|refine C _ _ ⟨rfl,?_⟩|refine⟨rfl,?_⟩|refine C _ _ ⟨by simp [Reg.fineT,Reg.intOp,Region.wanted,yielded,Reg.intFine,Reg.isInt,Act.eval],?_⟩
    (try clear C);first|refine Reg.restI_end ?_|skip
    go_wp2_with fail;go_ret;exact⟨congrArg (Value.int .i64) (aB.out.trans aq.out).symm,aj.out⟩
end Go.Proofs.YtjejejmeddkciaaGreatDoor.K
namespace Go.Proofs.YtjejejmeddkciaaGreatDoor.K
open Go.RowKit
attribute [-go_sem] loadCellsFrom storeCells
theorem Uc {w:World} {cs ds:List Value} {p:Am} {q:AB} (h:At w w.heap.size cs p) (Z:Ba w w.heap.size ds q) (a9:p.Small) (aa:q.Small) (hT:SpOK w) (ae:Hid (protE nameOK p=0)) (af:Hid (nameOK q.name=true)) (a8:Hid (q.kind=2)) (hg:q.bad.length=0) (a7:q.adj.length=0) {J:Int} (a5:Hid (Aa q.start (p.states.length:Int)=J)) (b4:(J != 0)=true):
  Calls Tryz.prog 45 #[.agg cs.toArray,.agg ds.toArray] w (Ret fun v w'=>v=.int .i64 (J)/\Below w.heap.size w w'):=by
 obtain⟨w1,w2,A1,c1,A5,c5,B1,d1,B2,d2,B3,d3,B4,d4,ns,ni,nt,nb,na,ng,kq,H⟩:=Dj h Z a9 aa hT;generalize cs.toArray=pc at*;generalize ds.toArray=qc at*;clear h Z a9 aa hT;obtain⟨ah,ag,aQ,aM,aN,aC⟩:=D7 H;obtain⟨bh,bi,a3,bf,E,C,bg,⟨aB,ax,ay,az,aA⟩,I,⟨b5,aV,aW,aX,aY,aZ,b0⟩,⟨b6,b7,b8⟩,b9,ba,bb,bc,bd,be⟩:=H;have aD:=E.out.b2.cell;have aH:=E.out.b3.cell;have aR:=Ah E.out.b2 I.out;rw [<-C.out.1] at a5;rw [<-C.out.2.2.2.1] at hg;rw [<-C.out.2.2.2.2.1] at a7;have aO:¬(0:Int)<(nb:Int):=by omega
 have aP:¬(0:Int)<(na:Int):=by omega
 clear hg a7;have bj:(kq==1)=false:=by rw [C.out.2.2.2.2.2.2,a8.out];rfl
 have bk:(kq != 2)=false:=by rw [C.out.2.2.2.2.2.2,a8.out];rfl
 go_enter Tryz.func45,Tryz.ntmps45
 go_wp2_with (first
  | (go_at_call 86;refine Calls.ret (ah _ E) ?_;rintro v w3 ⟨rfl,U⟩;rw [ae.out];have F:=hide (E.out.at U);have aE:=F.out.b2.cell;have aJ:=F.out.b3.cell;have aS:=Ah F.out.b2 I.out;have a4:=hide (a3.out.trans (U.mono a3.out.size));clear U)
  | (go_at_call 87;refine Calls.ret (Da q.name _ (by omega) F.out.tab) ?_;rintro v w4 ⟨rfl,V⟩;rw [af.out];have G:=hide (F.out.at V);have aF:=G.out.b2.cell;have aK:=G.out.b3.cell;have aT:=Ah G.out.b2 I.out;have O:=hide (a4.out.trans (V.mono a4.out.size));clear V)
  | (go_at_call 88;refine Calls.ret (ag _ O.out) ?_;rintro v w5 ⟨rfl,W⟩;rw [a5.out];have M:=hide (G.out.at W);have aG:=M.out.b2.cell;have aL:=M.out.b3.cell;have aU:=Ah M.out.b2 I.out;have ad:=hide (O.out.trans (W.mono O.out.size));clear W))
 go_ret;exact⟨rfl,ad.out⟩
theorem Ud {w:World} {cs ds:List Value} {p:Am} {q:AB} (h:At w w.heap.size cs p) (h':Ba w w.heap.size ds q) (aw:p.Small) (ax:q.Small) (hT:SpOK w) (au:Hid (protE nameOK p=0)) (av:Hid (nameOK q.name=true)) (ag:Hid (q.kind=2)) (hg:q.bad.length=0) (af:q.adj.length=0) (ad:Hid (Aa q.start (p.states.length:Int)=0)):
  Calls Tryz.prog 45 #[.agg cs.toArray,.agg ds.toArray] w (Ret fun v w'=>v=.int .i64 (aCq nameOK p q)/\Below w.heap.size w w'):=by
 obtain⟨w1,w2,A1,c1,A5,c5,B1,d1,B2,d2,B3,d3,B4,d4,ns,ni,nt,nb,na,ng,kq,H⟩:=Dj h h' aw ax hT;generalize cs.toArray=pc at*;generalize ds.toArray=qc at*;clear h h' aw ax hT;obtain⟨aT,aS,aN,aL,bw,bg⟩:=D7 H;obtain⟨c4,c6,an,bZ,J,E,c0,⟨bf,aF,bc,bd,be⟩,G,⟨bP,bJ,bK,bL,bM,bN,bO⟩,⟨bQ,bR,bS⟩,bT,bU,bV,bW,bX,bY⟩:=H;have bi:=J.out.b2.cell;have bp:=J.out.b3.cell;have bB:=Ah J.out.b2 G.out;have hR:=hide (show aCq nameOK p q=orE (Ad (!CF p q) 5) (Ez p q) from by
  rw [H7 au.out av.out ag.out hg af,ad.out];rfl)
 rw [<-E.out.1] at ad;rw [<-E.out.2.2.2.1] at hg;rw [<-E.out.2.2.2.2.1] at af;have bx:¬(0:Int)<(nb:Int):=by omega
 have bz:¬(0:Int)<(na:Int):=by omega
 clear hg af;have c8:(kq==1)=false:=by rw [E.out.2.2.2.2.2.2,ag.out];rfl
 have c9:(kq != 2)=false:=by rw [E.out.2.2.2.2.2.2,ag.out];rfl
 go_enter Tryz.func45,Tryz.ntmps45
 go_wp2_with (first
  | (go_at_call 86;refine Calls.ret (aT _ J) ?_;rintro v w3 ⟨rfl,a8⟩;rw [au.out];have M:=hide (J.out.at a8);have bj:=M.out.b2.cell;have bq:=M.out.b3.cell;have bC:=Ah M.out.b2 G.out;have ao:=hide (an.out.trans (a8.mono an.out.size));clear a8)
  | (go_at_call 87;refine Calls.ret (Da q.name _ (by omega) M.out.tab) ?_;rintro v w4 ⟨rfl,a9⟩;rw [av.out];have V:=hide (M.out.at a9);have bk:=V.out.b2.cell;have br:=V.out.b3.cell;have bD:=Ah V.out.b2 G.out;have a6:=hide (ao.out.trans (a9.mono ao.out.size));clear a9)
  | (go_at_call 88;refine Calls.ret (aS _ a6.out) ?_;rintro v w5 ⟨rfl,aa⟩;rw [ad.out];have W:=hide (V.out.at aa);have bl:=W.out.b2.cell;have bs:=W.out.b3.cell;have bE:=Ah W.out.b2 G.out;have ap:=hide (a6.out.trans (aa.mono a6.out.size));clear aa))
 go_loopw [67] (fun ii wr=>∃(k:Nat),ii=.int .i64 (k:Int)/\k<=nt/\Hid (Below w5.heap.size w5 wr)/\Hid ((q.start.take k).all (fun x=>decide (x∈p.initial))=true)) (fun ii _=>nt - (intOf ii).toNat)
 case atStart=>exact⟨0,rfl,Nat.zero_le _,Below.refl _ _,by show _=_;simp⟩
 case round=>
  obtain⟨k,rfl,hk,ab,hE⟩:=hrel;have Z:=hide (W.out.at ab.out);have bm:=Z.out.b2.cell;have bt:=Z.out.b3.cell;have bF:=Ah Z.out.b2 G.out;have O:=hide (ap.out.trans (ab.out.mono ap.out.size));by_cases bI:k<nt
  ·obtain⟨b,off,x,hA,bh,hx,F⟩:=(aF.out.keep (w':=wr) (B':=w.heap.size) (fun _ hp=>O.out.cell hp) (Nat.le_refl _)).at (k:=k) (by have:=E.out.2.2.1;omega);have d0:=F 0 (by omega);simp only [Nat.add_zero,Nat.mul_one,Ai] at d0;have az:=hide hx;subst hA;clear F hx;have F:=hide (aL _ x O.out);cases I:decide (x∈p.initial)
   ·have aR:=hide (show CF p q=false from by
     unfold CF;rw [List.all_eq_false];exact⟨x,List.mem_of_getElem? az.out,by rw [I];decide⟩)
    rw [I] at F;clear I;go_wp2_with (go_at_call 75;refine F.out.mono ?_;rintro r w' ⟨rfl,rfl⟩);go_ret;exact⟨congrArg (Value.int .i64) (hR.out.trans (by rw [aR.out];rfl)).symm,O.out⟩
   ·have aQ:=hide (Cq (p:=fun x=>decide (x∈p.initial)) az.out hE.out I);rw [I] at F;clear I;go_wp2_with (go_at_call 75;refine F.out.mono ?_;rintro r w' ⟨rfl,rfl⟩);exact⟨⟨k+1,by go_num,by omega,ab.out,aQ.out⟩,by simp [intOf];omega⟩
  ·have aJ:=hide (show CF p q=true from by
    have h1:=E.out.2.2.1;have h2:=hE.out
    rwa [List.take_of_length_le (by omega)] at h2)
   have aG:=hide (show aCq nameOK p q=Ez p q from by rw [hR.out,aJ.out];rfl);clear hE;go_wp2_with fail;have a2:=hide (Z.out.at (Ap wr));have bn:=a2.out.b2.cell;have bu:=a2.out.b3.cell;have bG:=Ah a2.out.b2 G.out;have a7:=hide (O.out.trans ((Ap wr).mono O.out.size));refine Reg.cI [0,1,0,7,0,16,48,112,255,511,1023,2047] [0,1,2,4,5,6,7,3,8,9,10,11] ?_;refine Reg.wI [0,1,2,4,5,6,7] [3,8,9,10,11] rfl fun Qf C=>?_;go_wp2_with fail;first|refine C _ _ ⟨rfl,?_⟩|refine⟨rfl,?_⟩|refine C _ _ ⟨by simp [Reg.fineT,Reg.intOp,Region.wanted,yielded,Reg.intFine,Reg.isInt,Act.eval],?_⟩
   (try clear C);refine Reg.aI 3 [8,9,10,11] [5] rfl fun Qf C=>?_;simp only [gT,gS,gZ];go_wp2_with (go_at_call 88;refine Calls.ret (aN _ a7.out) ?_;rintro v w7 ⟨rfl,U⟩);first|refine C _ _ ⟨Reg.same_below (U) [5] rfl,?_⟩|refine⟨Reg.same_below (U) [5] rfl,?_⟩
   (try clear C);have a5:=hide (a2.out.at U);have bo:=a5.out.b2.cell;have bv:=a5.out.b3.cell;have bH:=Ah a5.out.b2 G.out;have aq:=hide (a7.out.trans (U.mono a7.out.size));clear U;refine Reg.aI 8 [9,10,11] [] rfl fun Qf C=>?_;simp only [gT,gS,gZ];go_wp2_with (go_at_call 90;refine Calls.ret (DX _ _ _) ?_;rintro r w' ⟨⟨x1,rfl,aU⟩,rfl⟩);first|refine C _ _ ⟨Reg.nm,?_⟩|refine⟨Reg.nm,?_⟩
   (try clear C);have aM:=hide (show Ez p q=Aj id [Aa q.goal (ns:Int),x1] from by
    unfold Ez;simp only [Aj,id_eq,Bk];rw [aU.out,Bv q.goal,<-E.out.2.2.2.2.2.1,<-E.out.1];simp only [EF]
   )
   obtain⟨wz,c7,ar,ak,aO⟩:=Ae w7 #[.int .i64 (Aa q.goal (ns:Int)),.int .i64 (x1)] 40;have aH:=hide (Ch (l:=[Aa q.goal (ns:Int),x1]) ak (by simp));have aK:=hide (aq.out.trans (ar.mono aq.out.size));clear ak aO ar;refine Reg.wI [9] [10,11] rfl fun Qf C=>?_;go_wp2_with fail;first|refine C _ _ ⟨rfl,?_⟩|refine⟨rfl,?_⟩|refine C _ _ ⟨by simp [Reg.fineT,Reg.intOp,Region.wanted,yielded,Reg.intFine,Reg.isInt,Act.eval],?_⟩
   (try clear C);refine Reg.aI 10 [11] [] rfl fun Qf C=>?_;simp only [gT,gS,gZ];go_wp2_with (go_at_call 89;refine(Ci (l:=[Aa q.goal (ns:Int),x1]) aH.out).mono ?_;rintro e w' ⟨rfl,rfl⟩);first|refine C _ _ ⟨Reg.nm,?_⟩|refine⟨Reg.nm,?_⟩
   (try clear C);refine Reg.wI [11] [] rfl fun Qf C=>?_;go_wp2_with fail;first|refine C _ _ ⟨rfl,?_⟩|refine⟨rfl,?_⟩|refine C _ _ ⟨by simp [Reg.fineT,Reg.intOp,Region.wanted,yielded,Reg.intFine,Reg.isInt,Act.eval],?_⟩
   (try clear C);first|refine Reg.restI_end ?_|skip
   go_wp2_with fail;go_ret;exact⟨congrArg (Value.int .i64) (aG.out.trans aM.out).symm,aK.out⟩
end Go.Proofs.YtjejejmeddkciaaGreatDoor.K
namespace Go.Proofs.YtjejejmeddkciaaGreatDoor.K
open Go.RowKit
attribute [-go_sem] loadCellsFrom storeCells
theorem EN {P:Program} {f:FuncId} {args:Array Value} {w:World} {a b:Int} {K:World->Prop} (h:Calls P f args w (Ret fun v w'=>v=.int .i64 a/\K w')) (e:b=a):Calls P f args w (Ret fun v w'=>v=.int .i64 b/\K w'):=by
 subst e;exact h
theorem aCc {w:World} {cs ds:List Value} {p:Am} {q:AB} (h:At w w.heap.size cs p) (E:Ba w w.heap.size ds q) (G:p.Small) (I:q.Small) (F:SpOK w):
  Calls Tryz.prog 45 #[.agg cs.toArray,.agg ds.toArray] w (Ret fun v w'=>v=.int .i64 (aCq nameOK p q)/\Below w.heap.size w w'):=by
 by_cases h0:protE nameOK p=0
 case neg=>exact EN (T4 h E G I F (hide rfl) (by simpa using h0)) (Ky h0)
 cases C:nameOK q.name with
 | false=>exact EN (T5 h E G I F h0 C) (Kx h0 C)
 | true=>
  by_cases O:q.kind=1
  ·by_cases W:q.goal.length=0
   ·by_cases M:Aa q.start (p.states.length:Int)=0
    ·exact Ub h E G I F h0 C O W M
    ·exact EN (Ua h E G I F h0 C O W (hide rfl) (by simpa using M)) (by rw [HZ h0 C O W,BF M])
   ·exact EN (T7 h E G I F h0 C O W) (Kv h0 C O W)
  ·by_cases J:q.kind=2
   ·by_cases U:q.bad.length=0
    ·by_cases V:q.adj.length=0
     ·by_cases M:Aa q.start (p.states.length:Int)=0
      ·exact Ud h E G I F h0 C J U V M
      ·exact EN (Uc h E G I F h0 C J U V (hide rfl) (by simpa using M)) (by rw [H7 h0 C J U V,BF M])
     ·exact EN (T9 h E G I F h0 C J U V) (GJ h0 C J (.inr V))
    ·exact EN (T8 h E G I F h0 C J U) (GJ h0 C J (.inl U))
   ·exact EN (T6 h E G I F h0 C O J) (Kw h0 C O J)
end Go.Proofs.YtjejejmeddkciaaGreatDoor.K
namespace Go.Proofs.YtjejejmeddkciaaGreatDoor.K
open Go.RowKit
attribute [-go_sem] loadCellsFrom storeCells
def aCt (ok:ByteArray->Bool) (p:Am) (q:AB):Int:=orE (aCq ok p q) (Ad (!(p.topo==2||p.topo==3)||q.kind != 1) 7)
theorem check_any {w:World} {cs ds:List Value} {p:Am} {q:AB} (h:At w w.heap.size cs p) (V:Ba w w.heap.size ds q) (ae:p.Small) (ap:q.Small) (hT:SpOK w):
  Calls Tryz.prog 18 #[.agg cs.toArray,.agg ds.toArray] w (Ret fun v w'=>v=.int .i64 (aCt nameOK p q)/\Below w.heap.size w w'):=by
 obtain⟨B1,d1,B2,d2,B3,d3,B4,d4,ao,aG,aH,aJ,aK,aL,ad,k1,k2,k3,k4⟩:=V.cells;obtain⟨A1,c1,A2,c2,A3,c3,A4,c4,A5,c5,A6,c6,A7,c7,ab,aC,aD,-⟩:=h.cells;obtain⟨O,bh,a2,af,ay⟩:=Ae w cs.toArray 27;obtain⟨w2,bi,a3,ag,az⟩:=Ae O ds.toArray 30;have F:=hide (a2.trans (a3.mono a2.size));have J:=hide (show PQX w2 w.heap.size O.heap.size cs.toArray ds.toArray p q from⟨h.keep (fun _ hp=>F.out.cell hp) F.out.size,V.keep (fun _ hp=>F.out.cell hp) F.out.size,af.below a3,ag,hT.below F.out⟩);generalize aE:cs.toArray=pc at*;generalize aM:ds.toArray=qc at*;obtain⟨I,a7⟩:∃e,Hid (aCq nameOK p q=e):=⟨_,rfl⟩;have aq:∀C,Hid (PQX C w.heap.size O.heap.size pc qc p q)->Calls Tryz.prog 45 #[.agg pc,.agg qc] C (Ret fun v w'=>v=.int .i64 I/\Below C.heap.size C w'):=fun C G=>by
  rw [<-a7.out];exact aCc G.out.pr G.out.qr ae ap G.out.tab
 have aN:=hide aq;have al:protE nameOK p=0->∀C,Hid (PQX C w.heap.size O.heap.size pc qc p q)->Calls Tryz.prog 46 #[.agg pc] C (Ret fun v w'=>v=.int .i64 (Ad (!(p.topo==2||p.topo==3)) 7)/\Below C.heap.size C w'):=fun he C G=>P9 G.out.pr ae G.out.tab he;have am:=hide al;have be:=Ah J.out.b2 ab;have bg:=Ah J.out.b3 ao;obtain⟨M,a9⟩:∃n,n=q.kind:=⟨_,rfl⟩;rw [<-a9] at aH;obtain⟨U,a6⟩:∃b,b=(p.topo==2||p.topo==3):=⟨_,rfl⟩;rw [<-a6] at am;have ak:=hide (show aCt nameOK p q=orE I (Ad (!U||M != 1) 7) from by
  unfold aCt;rw [a7.out,a6,a9])
 have aF:=hide ab;clear k1 k2 k3 k4 h V ae ap a2 a3 af ag ay az aE aM hT ab ao aq al aG aJ aK aL ad a9 a6 aC aD;go_enter Tryz.func18,Tryz.ntmps18;go_wp2_with fail;refine Calls.ret (aN.out _ J) ?_;rintro v w3 ⟨rfl,a4⟩;have W:=hide (J.out.at a4);have bf:=Ah W.out.b2 aF.out;have Z:=hide (F.out.trans (a4.mono F.out.size));clear a4;by_cases E:I=0
 case neg=>
  have ad:(I != 0)=true:=by simp [E]
  have ar:=hide E;clear E;go_wp2_with fail;go_ret;exact⟨congrArg (Value.int .i64) (ak.out.trans (BF ar.out)).symm,Z.out⟩
 have ad:(I != 0)=false:=by simp [E]
 have aj:=hide (show aCt nameOK p q=Ad (!U||M != 1) 7 from ak.out.trans (by rw [E];rfl));have an:protE nameOK p=0:=by
  have h1:=a7.out;rw [E] at h1;unfold aCq orE at h1;split at h1
  ·assumption
  ·exact absurd h1 ‹_›
 have av:=hide (am.out an _ W);clear E an;go_wp2_with fail;refine Calls.ret av.out ?_;rintro v w4 ⟨rfl,a5⟩;have au:=hide (W.out.at a5);have bd:=au.out.b3.cell;have ai:=hide (Z.out.trans (a5.mono Z.out.size));clear a5;cases U
 ·have g1:(Ad (!false) 7 != 0)=true:=rfl;have a8:=hide (show aCt nameOK p q=7 from aj.out.trans rfl);rw [show Ad (!false) 7=7 from rfl];go_wp2_with fail;go_ret;exact⟨congrArg (Value.int .i64) a8.out.symm,ai.out⟩
 ·rw [show Ad (!true) 7=0 from rfl];have a8:=hide (show aCt nameOK p q=Ad (M != 1) 7 from aj.out.trans (by rw [Bool.not_true,Bool.false_or]));cases aA:(M != 1)
  all_goals
   have ax:=hide (a8.out);have aB:=hide aA;go_wp2_with fail;go_ret;exact⟨congrArg (Value.int .i64) (ax.out.trans (by rw [aB.out];rfl)).symm,ai.out⟩
end Go.Proofs.YtjejejmeddkciaaGreatDoor.K
