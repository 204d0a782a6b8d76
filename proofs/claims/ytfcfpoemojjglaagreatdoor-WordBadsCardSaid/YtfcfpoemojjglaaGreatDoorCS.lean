/-
  Part CS of a proof.
-/
import Derived.Test.YtfcfpoemojjglaaGreatDoorPA
import Derived.Test.YtfcfpoemojjglaaGreatDoorCQ
import Derived.Test.YtfcfpoemojjglaaGreatDoorCR
import Derived.Test.YtfcfpoemojjglaaGreatDoorCJ
set_option maxHeartbeats 16000000
set_option maxRecDepth 100000
set_option linter.unusedVariables false
set_option linter.unusedSimpArgs false
namespace Go.Proofs.YtfcfpoemojjglaaGreatDoor.K
open Go.RowKit
theorem aCg {w:World} {cs:List Value} {p:Am} (h:At w w.heap.size cs p) (j:p.Small) (d:SpOK w):
  Calls Tryz.prog 95 #[.agg cs.toArray] w (Ret fun v w'=>v=.int .i64 (protE nameOK p)/\Below w.heap.size w w'):=by
 by_cases ht:p.topo=1
 ·exact RT h j d ht
 ·exact RU h j d ht
end Go.Proofs.YtfcfpoemojjglaaGreatDoor.K
namespace Go.Proofs.YtfcfpoemojjglaaGreatDoor.K
open Go.RowKit
attribute [-go_sem] loadCellsFrom storeCells
theorem Gc {w w1 w2:World} {pc qc:Array Value} {p:Am} {q:AB} {A1 l y U V C:Option Addr} {c1 E G W Z I ns M O nb na J:Nat} {kq:Int} (H:PQH w w1 w2 pc qc p q A1 c1 l E y G U W V Z C I ns M O nb na J kq):
    (∀wx,Hid (PQX wx w.heap.size w1.heap.size pc qc p q)->Calls Tryz.prog 95 #[.agg pc] wx (Ret fun v w'=>v=.int .i64 (protE nameOK p)/\Below wx.heap.size wx w'))/\
    (∀wx,Below w.heap.size w wx->Calls Tryz.prog 97 #[.slice y O G,.int .i64 (ns:Int)] wx (Ret fun r w'=>r=.int .i64 (Aa q.start (ns:Int))/\Below wx.heap.size wx w'))/\
    (∀wx,Below w.heap.size w wx->Calls Tryz.prog 97 #[.slice C J I,.int .i64 (ns:Int)] wx (Ret fun r w'=>r=.int .i64 (Aa q.goal (ns:Int))/\Below wx.heap.size wx w'))/\
    (∀wx x,Below w.heap.size w wx->Calls Tryz.prog 93 #[.slice l M E,.int .i64 x] wx fun r w'=>r=.returned (.bool (decide (x∈p.initial)))/\wx=w'):=by
  obtain⟨-,-,-,-,-,j,a5,⟨a4,a2,a9,aa,a3⟩,-,⟨-,-,-,-,-,ab,-⟩,-,-⟩:=H
  exact⟨fun wx d=>aCg d.out.pr a5.out d.out.tab,
   fun wx d=>by
    rw [j.out.2.2.1];exact B0 (by omega) (a2.out.keep (fun _ h=>d.cell h) d.size),
   fun wx d=>by
    rw [j.out.2.2.2.2.2.1];exact B0 (by omega) (a3.out.keep (fun _ h=>d.cell h) d.size),
   fun wx x d=>by
    rw [j.out.2.1];exact aA0 (a4.out.keep (fun _ h=>d.cell h) d.size)⟩
theorem SA {w:World} {cs ds:List Value} {p:Am} {q:AB} (h:At w w.heap.size cs p) (C:Ba w w.heap.size ds q) (J:p.Small) (M:q.Small) (E:SpOK w) {y:Int} (l:Hid (protE nameOK p=y)) (U:(y != 0)=true):
  Calls Tryz.prog 48 #[.agg cs.toArray,.agg ds.toArray] w (Ret fun v w'=>v=.int .i64 (propE nameOK p q)/\Below w.heap.size w w'):=by
 obtain⟨w1,w2,A1,c1,Z,c5,B1,d1,B2,d2,B3,d3,B4,d4,ns,ni,nt,nb,na,ng,kq,H⟩:=Dj h C J M E;generalize cs.toArray=pc at*;generalize ds.toArray=qc at*;clear h C J M E;obtain⟨W,aK,an,am⟩:=Gc H;obtain⟨aL,aM,I,aH,d,ag,aJ,⟨ah,ab,ad,ae,af⟩,V,⟨ax,ap,aq,ar,au,av,aw⟩,⟨ay,az,aA⟩,aB,aC,aD,aE,aF,aG⟩:=H;have ai:=d.out.b2.cell;have ak:=d.out.b3.cell;have ao:=Ah d.out.b2 V.out;go_enter Tryz.func48,Tryz.ntmps48;go_wp2_with fail;refine Calls.ret (W _ d) ?_;rintro v w3 ⟨rfl,j⟩;rw [l.out];have G:=hide (d.out.at j);have aj:=G.out.b2.cell;have al:=G.out.b3.cell;have O:=hide (I.out.trans (j.mono I.out.size));clear j;go_wp2_with fail;go_ret;exact⟨congrArg (Value.int .i64) ((Ky (by rw [l.out];simpa using U)).trans l.out).symm,O.out⟩
theorem SB {w:World} {cs ds:List Value} {p:Am} {q:AB} (h:At w w.heap.size cs p) (C:Ba w w.heap.size ds q) (U:p.Small) (V:q.Small) (E:SpOK w) (M:Hid (protE nameOK p=0)) (O:Hid (nameOK q.name=false)):
  Calls Tryz.prog 48 #[.agg cs.toArray,.agg ds.toArray] w (Ret fun v w'=>v=.int .i64 (propE nameOK p q)/\Below w.heap.size w w'):=by
 obtain⟨w1,w2,A1,c1,A5,c5,B1,d1,B2,d2,B3,d3,B4,d4,ns,ni,nt,nb,na,ng,kq,H⟩:=Dj h C U V E;generalize cs.toArray=pc at*;generalize ds.toArray=qc at*;clear h C U V E;obtain⟨a2,aO,ar,aq⟩:=Gc H;obtain⟨aP,aQ,I,aM,d,ai,aN,⟨aj,ae,af,ag,ah⟩,Z,⟨aB,av,aw,ax,ay,az,aA⟩,⟨aC,aD,aE⟩,aF,aG,aH,aJ,aK,aL⟩:=H;have ak:=d.out.b2.cell;have an:=d.out.b3.cell;have au:=Ah d.out.b2 Z.out;go_enter Tryz.func48,Tryz.ntmps48;go_wp2_with fail;refine Calls.ret (a2 _ d) ?_;rintro v w3 ⟨rfl,l⟩;rw [M.out];have j:=hide (d.out.at l);have al:=j.out.b2.cell;have ao:=j.out.b3.cell;have J:=hide (I.out.trans (l.mono I.out.size));clear l;go_wp2_with fail;refine Calls.ret (Cm q.name _ (by omega)) ?_;rintro v w4 ⟨rfl,y⟩;rw [O.out];have G:=hide (j.out.at y);have am:=G.out.b2.cell;have ap:=G.out.b3.cell;have W:=hide (J.out.trans (y.mono J.out.size));clear y;go_wp2_with fail;go_ret;exact⟨congrArg (Value.int .i64) (Kx M.out O.out).symm,W.out⟩
theorem SC {w:World} {cs ds:List Value} {p:Am} {q:AB} (h:At w w.heap.size cs p) (G:Ba w w.heap.size ds q) (W:p.Small) (Z:q.Small) (I:SpOK w) (U:Hid (protE nameOK p=0)) (V:Hid (nameOK q.name=true)) (j:q.kind≠1) (l:q.kind≠2):
  Calls Tryz.prog 48 #[.agg cs.toArray,.agg ds.toArray] w (Ret fun v w'=>v=.int .i64 (propE nameOK p q)/\Below w.heap.size w w'):=by
 obtain⟨w1,w2,A1,c1,A5,c5,B1,d1,B2,d2,B3,d3,B4,d4,ns,ni,nt,nb,na,ng,kq,H⟩:=Dj h G W Z I;generalize cs.toArray=pc at*;generalize ds.toArray=qc at*;clear h G W Z I;obtain⟨a7,aS,ax,aw⟩:=Gc H;obtain⟨aT,aU,M,aQ,d,a3,aR,⟨an,aj,ak,al,am⟩,a6,⟨aF,az,aA,aB,aC,aD,aE⟩,⟨aG,aH,aJ⟩,aK,aL,aM,aN,aO,aP⟩:=H;have ao:=d.out.b2.cell;have ar:=d.out.b3.cell;have ay:=Ah d.out.b2 a6.out;have a5:=hide (Kw U.out V.out j l);rw [<-a3.out.2.2.2.2.2.2] at j l;have aV:(kq != 1)=true:=by simp [j]
 have aW:(kq != 2)=true:=by simp [l]
 clear j l;go_enter Tryz.func48,Tryz.ntmps48;go_wp2_with fail;refine Calls.ret (a7 _ d) ?_;rintro v w3 ⟨rfl,C⟩;rw [U.out];have y:=hide (d.out.at C);have ap:=y.out.b2.cell;have au:=y.out.b3.cell;have O:=hide (M.out.trans (C.mono M.out.size));clear C;go_wp2_with fail;refine Calls.ret (Cm q.name _ (by omega)) ?_;rintro v w4 ⟨rfl,E⟩;rw [V.out];have J:=hide (y.out.at E);have aq:=J.out.b2.cell;have av:=J.out.b3.cell;have a4:=hide (O.out.trans (E.mono O.out.size));clear E;go_wp2_with fail;go_ret;exact⟨congrArg (Value.int .i64) (a5.out).symm,a4.out⟩
end Go.Proofs.YtfcfpoemojjglaaGreatDoor.K
namespace Go.Proofs.YtfcfpoemojjglaaGreatDoor.K
open Go.RowKit
attribute [-go_sem] loadCellsFrom storeCells
theorem Sz {w:World} {cs ds:List Value} {p:Am} {q:AB} (h:At w w.heap.size cs p) (h':Ba w w.heap.size ds q) (aF:p.Small) (aG:q.Small) (hT:SpOK w) (ad:Hid (protE nameOK p=0)) (a3:Hid (nameOK q.name=true)) (M:Hid (q.kind=2)):
  Calls Tryz.prog 48 #[.agg cs.toArray,.agg ds.toArray] w (Ret fun v w'=>v=.int .i64 (propE nameOK p q)/\Below w.heap.size w w'):=by
 obtain⟨w1,w2,A1,c1,A5,c5,B1,d1,B2,d2,B3,d3,B4,d4,ns,ni,nt,nb,na,ng,kq,H⟩:=Dj h h' aF aG hT;generalize cs.toArray=pc at*;generalize ds.toArray=qc at*;clear h h' aF aG hT;obtain⟨b8,aH,ao,aY⟩:=Gc H;obtain⟨bY,bZ,az,bW,a5,d,bX,⟨bu,aS,br,bs,bt⟩,b5,⟨bM,bG,bH,bI,bJ,bK,bL⟩,⟨bN,bO,bP⟩,bQ,bR,bS,bT,bU,bV⟩:=H;have bw:=a5.out.b2.cell;have bA:=a5.out.b3.cell;have bE:=Ah a5.out.b2 b5.out;have b9:(kq != 1)=true:=by rw [d.out.2.2.2.2.2.2,M.out];rfl
 have ba:(kq != 2)=false:=by rw [d.out.2.2.2.2.2.2,M.out];rfl
 have bd:(kq==1)=false:=by rw [d.out.2.2.2.2.2.2,M.out];rfl
 have c0:(kq==2)=true:=by rw [d.out.2.2.2.2.2.2,M.out];rfl
 go_enter Tryz.func48,Tryz.ntmps48;go_wp2_with fail;refine Calls.ret (b8 _ a5) ?_;rintro v w3 ⟨rfl,an⟩;rw [ad.out];have a6:=hide (a5.out.at an);have bx:=a6.out.b2.cell;have bB:=a6.out.b3.cell;have W:=hide (az.out.trans (an.mono az.out.size));clear an;go_wp2_with fail;by_cases b0:(0:Int)<(nb:Int)
 case pos=>
  refine Calls.ret (Cm q.name _ (by omega)) ?_;rintro v w4 ⟨rfl,l⟩;rw [a3.out];have C:=hide (a6.out.at l);have aB:=C.out.b2.cell;have aD:=C.out.b3.cell;have E:=hide (W.out.trans (l.mono W.out.size));clear l;go_wp2_with fail;go_ret;exact⟨congrArg (Value.int .i64) (GJ ad.out a3.out M.out (.inl (by have:=d.out.2.2.2.1;omega))).symm,E.out⟩
 by_cases aZ:(0:Int)<(na:Int)
 case pos=>
  refine Calls.ret (Cm q.name _ (by omega)) ?_;rintro v w4 ⟨rfl,l⟩;rw [a3.out];have C:=hide (a6.out.at l);have aB:=C.out.b2.cell;have aD:=C.out.b3.cell;have E:=hide (W.out.trans (l.mono W.out.size));clear l;go_wp2_with fail;go_ret;exact⟨congrArg (Value.int .i64) (GJ ad.out a3.out M.out (.inr (by have:=d.out.2.2.2.2.1;omega))).symm,E.out⟩
 have hV:=hide (H7 ad.out a3.out M.out (by have:=d.out.2.2.2.1;omega) (by have:=d.out.2.2.2.2.1;omega));refine Calls.ret (Cm q.name _ (by omega)) ?_;rintro v w4 ⟨rfl,l⟩;rw [a3.out];have C:=hide (a6.out.at l);have aB:=C.out.b2.cell;have aD:=C.out.b3.cell;have E:=hide (W.out.trans (l.mono W.out.size));clear l;go_wp2_with fail;clear b0 aZ b9 ba bd;obtain⟨e6,ae⟩:∃e,Hid (Aa q.start (ns:Int)=e):=⟨_,rfl⟩;by_cases O:e6=0
 case neg=>
  have Q6:(e6 != 0)=true:=by simp [O]
  have H6:=hide O;clear O;refine Calls.ret (aH _ E.out) ?_;rintro v w5 ⟨rfl,I⟩;rw [ae.out];have V:=hide (C.out.at I);have aW:=V.out.b2.cell;have aX:=V.out.b3.cell;have aa:=hide (E.out.trans (I.mono E.out.size));clear I;go_wp2_with fail;go_ret;exact⟨congrArg (Value.int .i64) (hV.out.trans (by rw [<-d.out.1,ae.out];exact BF H6.out)).symm,aa.out⟩
 have Q6:(e6 != 0)=false:=by simp [O]
 have H6:=hide O;clear O;have hR:=hide (show propE nameOK p q=orE (Ad (!CF p q) 5) (Ez p q) from hV.out.trans (by rw [<-d.out.1,ae.out,H6.out];rfl));refine Calls.ret (aH _ E.out) ?_;rintro v w5 ⟨rfl,I⟩;rw [ae.out];have V:=hide (C.out.at I);have aW:=V.out.b2.cell;have aX:=V.out.b3.cell;have aa:=hide (E.out.trans (I.mono E.out.size));clear I;go_wp2_with fail;clear Q6;go_loopw [8] (fun ii wr=>∃(k:Nat),ii=.int .i64 (k:Int)/\k<=nt/\Hid (Below w5.heap.size w5 wr)/\Hid ((q.start.take k).all (fun x=>decide (x∈p.initial))=true)) (fun ii _=>nt - (intOf ii).toNat)
 case atStart=>exact⟨0,rfl,Nat.zero_le _,Below.refl _ _,by show _=_;simp⟩
 case round=>
  obtain⟨k,rfl,hk,ab,hE⟩:=hrel;have a7:=hide (V.out.at ab.out);have bz:=a7.out.b2.cell;have bC:=a7.out.b3.cell;have j:=hide (aa.out.trans (ab.out.mono aa.out.size));by_cases bF:k<nt
  ·obtain⟨b,c7,x,hA,bv,hx,J⟩:=(aS.out.keep (w':=wr) (B':=w.heap.size) (fun _ hp=>j.out.cell hp) (Nat.le_refl _)).at (k:=k) (by have:=d.out.2.2.1;omega);have d0:=J 0 (by omega);simp only [Nat.add_zero,Nat.mul_one,Ai] at d0;have aK:=hide hx;have aV:=hide (ab.out.trans ((Ap wr).mono ab.out.size));have aA:=hide (j.out.trans ((Ap wr).mono j.out.size));subst hA;clear J hx;have J:=hide (aY _ x aA.out);cases hv:decide (x∈p.initial)
   ·have b7:=hide (show CF p q=false from by
     unfold CF;rw [List.all_eq_false];exact⟨x,List.mem_of_getElem? aK.out,by rw [hv];decide⟩)
    rw [hv] at J;clear hv;go_wp2_with fail;refine Reg.cP [0,1,0,4,0,28,60,127,255] ?_;go_wp2_with (go_at_call 93;refine J.out.mono ?_;rintro r w' ⟨rfl,rfl⟩);go_ret;exact⟨congrArg (Value.int .i64) (hR.out.trans (by rw [b7.out];rfl)).symm,aA.out⟩
   ·have b6:=hide (Cq (p:=fun x=>decide (x∈p.initial)) aK.out hE.out hv);rw [hv] at J;clear hv;go_wp2_with fail;refine Reg.cP [0,1,0,4,0,28,60,127,255] ?_;go_wp2_with (go_at_call 93;refine J.out.mono ?_;rintro r w' ⟨rfl,rfl⟩);exact⟨⟨k+1,by go_num,by omega,aV.out,b6.out⟩,by simp [intOf];omega⟩
  ·have aU:=hide (show CF p q=true from by
    have h1:=d.out.2.2.1;have h2:=hE.out
    rwa [List.take_of_length_le (by omega)] at h2)
   have aT:=hide (show propE nameOK p q=Ez p q from by rw [hR.out,aU.out];rfl);clear hE;go_wp2_with fail;have am:=hide (show propE nameOK p q=orE (Aa q.goal (ns:Int)) (Ad (decide (ng=0)) 1) from aT.out.trans (by
    unfold Ez;rw [Bv q.goal,<-d.out.2.2.2.2.2.1,<-d.out.1]))
   obtain⟨eg,Z⟩:∃e,Hid (Aa q.goal (ns:Int)=e):=⟨_,rfl⟩;by_cases U:eg=0
   case neg=>
    have Qg:(eg != 0)=true:=by simp [U]
    have Hg:=hide U;clear U;refine Calls.ret (ao _ j.out) ?_;rintro v w7 ⟨rfl,y⟩;rw [Z.out];have G:=hide (a7.out.at y);have aC:=G.out.b2.cell;have aE:=G.out.b3.cell;have a8:=hide (j.out.trans (y.mono j.out.size));clear y;go_wp2_with fail;go_ret;exact⟨congrArg (Value.int .i64) (am.out.trans (by rw [Z.out];exact BF Hg.out)).symm,a8.out⟩
   have Qg:(eg != 0)=false:=by simp [U]
   have Hg:=hide U;clear U;by_cases a2:ng=0
   ·have Qn:((ng:Int)==0)=true:=by simp [a2]
    have Hn:=hide a2;clear a2;refine Calls.ret (ao _ j.out) ?_;rintro v w7 ⟨rfl,y⟩;rw [Z.out];have G:=hide (a7.out.at y);have aC:=G.out.b2.cell;have aE:=G.out.b3.cell;have a8:=hide (j.out.trans (y.mono j.out.size));clear y;go_wp2_with fail;go_ret;exact⟨congrArg (Value.int .i64) (am.out.trans (by rw [Z.out,Hg.out,decide_eq_true Hn.out];rfl)).symm,a8.out⟩
   ·have Qn:((ng:Int)==0)=false:=by simp [a2]
    have Hn:=hide a2;clear a2;refine Calls.ret (ao _ j.out) ?_;rintro v w7 ⟨rfl,y⟩;rw [Z.out];have G:=hide (a7.out.at y);have aC:=G.out.b2.cell;have aE:=G.out.b3.cell;have a8:=hide (j.out.trans (y.mono j.out.size));clear y;go_wp2_with fail;go_ret;exact⟨congrArg (Value.int .i64) (am.out.trans (by rw [Z.out,Hg.out,decide_eq_false Hn.out];rfl)).symm,a8.out⟩
end Go.Proofs.YtfcfpoemojjglaaGreatDoor.K
namespace Go.Proofs.YtfcfpoemojjglaaGreatDoor.K
open Go.RowKit
attribute [-go_sem] loadCellsFrom storeCells
theorem Sy {w:World} {cs ds:List Value} {p:Am} {q:AB} (h:At w w.heap.size cs p) (h':Ba w w.heap.size ds q) (bW:p.Small) (bX:q.Small) (hT:SpOK w) (bE:Hid (protE nameOK p=0)) (bo:Hid (nameOK q.name=true)) (b7:Hid (q.kind=1)):
  Calls Tryz.prog 48 #[.agg cs.toArray,.agg ds.toArray] w (Ret fun v w'=>v=.int .i64 (propE nameOK p q)/\Below w.heap.size w w'):=by
 obtain⟨w1,w2,A1,c1,A5,c5,B1,d1,B2,d2,B3,d3,B4,d4,ns,ni,nt,nb,l,ng,kq,H⟩:=Dj h h' bW bX hT;generalize cs.toArray=pc at*;generalize ds.toArray=qc at*;clear h h' bW bX hT;obtain⟨cx,bY,cZ,cp⟩:=Gc H;obtain⟨dt,du,bU,dq,aX,j,dr,⟨cR,cd,bP,bQ,cQ⟩,cu,⟨df,d8,d9,da,db,dc,de⟩,⟨dg,dh,di⟩,dj,dk,dl,dm,dn,dp⟩:=H;have cT:=aX.out.b2.cell;have cW:=aX.out.b3.cell;have d6:=Ah aX.out.b2 cu.out;have cy:(kq != 1)=false:=by rw [j.out.2.2.2.2.2.2,b7.out];rfl
 have cz:(kq==1)=true:=by rw [j.out.2.2.2.2.2.2,b7.out];rfl
 have dv:(kq==2)=false:=by rw [j.out.2.2.2.2.2.2,b7.out];rfl
 go_enter Tryz.func48,Tryz.ntmps48;go_wp2_with fail;refine Calls.ret (cx _ aX) ?_;rintro v w3 ⟨rfl,bD⟩;rw [bE.out];have bi:=hide (aX.out.at bD);have cU:=bi.out.b2.cell;have cX:=bi.out.b3.cell;have bk:=hide (bU.out.trans (bD.mono bU.out.size));clear bD;go_wp2_with fail;by_cases cq:(0:Int)<(ng:Int)
 case pos=>
  refine Calls.ret (Cm q.name _ (by omega)) ?_;rintro v w4 ⟨rfl,aC⟩;rw [bo.out];have aB:=hide (bi.out.at aC);have ci:=aB.out.b2.cell;have cm:=aB.out.b3.cell;have au:=hide (bk.out.trans (aC.mono bk.out.size));clear aC;go_wp2_with fail;go_ret;exact⟨congrArg (Value.int .i64) (Kv bE.out bo.out b7.out (by have:=j.out.2.2.2.2.2.1;omega)).symm,au.out⟩
 have hV:=hide (HZ bE.out bo.out b7.out (by have:=j.out.2.2.2.2.2.1;omega));refine Calls.ret (Cm q.name _ (by omega)) ?_;rintro v w4 ⟨rfl,aC⟩;rw [bo.out];have aB:=hide (bi.out.at aC);have ci:=aB.out.b2.cell;have cm:=aB.out.b3.cell;have au:=hide (bk.out.trans (aC.mono bk.out.size));clear aC;go_wp2_with fail;clear cq cy cz;obtain⟨e6,bn⟩:∃e,Hid (Aa q.start (ns:Int)=e):=⟨_,rfl⟩;by_cases aM:e6=0
 case neg=>
  have Q6:(e6 != 0)=true:=by simp [aM]
  have H6:=hide aM;clear aM;refine Calls.ret (bY _ au.out) ?_;rintro v w5 ⟨rfl,aD⟩;rw [bn.out];have aN:=hide (aB.out.at aD);have cj:=aN.out.b2.cell;have cn:=aN.out.b3.cell;have bl:=hide (au.out.trans (aD.mono au.out.size));clear aD;go_wp2_with fail;go_ret;exact⟨congrArg (Value.int .i64) (hV.out.trans (by rw [<-j.out.1,bn.out];exact BF H6.out)).symm,bl.out⟩
 have Q6:(e6 != 0)=false:=by simp [aM]
 have H6:=hide aM;clear aM;have hR:=hide (show propE nameOK p q=orE (Ad (!CF p q) 5) (DL p q) from hV.out.trans (by rw [<-j.out.1,bn.out,H6.out];rfl));refine Calls.ret (bY _ au.out) ?_;rintro v w5 ⟨rfl,aD⟩;rw [bn.out];have aN:=hide (aB.out.at aD);have cj:=aN.out.b2.cell;have cn:=aN.out.b3.cell;have bl:=hide (au.out.trans (aD.mono au.out.size));clear aD;go_wp2_with fail;clear Q6;go_loopw [8] (fun E wr=>∃(k:Nat),E=.int .i64 (k:Int)/\k<=nt/\Hid (Below w5.heap.size w5 wr)/\Hid ((q.start.take k).all (fun x=>decide (x∈p.initial))=true)) (fun E _=>nt - (intOf E).toNat)
 case atStart=>exact⟨0,rfl,Nat.zero_le _,Below.refl _ _,by show _=_;simp⟩
 case round=>
  obtain⟨k,rfl,hk,bm,hE⟩:=hrel;have bj:=hide (aN.out.at bm.out);have cV:=bj.out.b2.cell;have cY:=bj.out.b3.cell;have a9:=hide (bl.out.trans (bm.out.mono bl.out.size));by_cases d7:k<nt
  ·obtain⟨b,dx,x,hA,cS,hx,aG⟩:=(cd.out.keep (w':=wr) (B':=w.heap.size) (fun _ J=>a9.out.cell J) (Nat.le_refl _)).at (k:=k) (by have:=j.out.2.2.1;omega);have d0:=aG 0 (by omega);simp only [Nat.add_zero,Nat.mul_one,Ai] at d0;have bZ:=hide hx;have cf:=hide (bm.out.trans ((Ap wr).mono bm.out.size));have bV:=hide (a9.out.trans ((Ap wr).mono a9.out.size));subst hA;clear aG hx;have aG:=hide (cp _ x bV.out);cases hv:decide (x∈p.initial)
   ·have bd:=hide (show CF p q=false from by
     unfold CF;rw [List.all_eq_false];exact⟨x,List.mem_of_getElem? bZ.out,by rw [hv];decide⟩)
    rw [hv] at aG;clear hv;go_wp2_with fail;refine Reg.cP [0,1,0,4,0,28,60,127,255] ?_;go_wp2_with (go_at_call 93;refine aG.out.mono ?_;rintro r w' ⟨rfl,rfl⟩);go_ret;exact⟨congrArg (Value.int .i64) (hR.out.trans (by rw [bd.out];rfl)).symm,bV.out⟩
   ·have cv:=hide (Cq (p:=fun x=>decide (x∈p.initial)) bZ.out hE.out hv);rw [hv] at aG;clear hv;go_wp2_with fail;refine Reg.cP [0,1,0,4,0,28,60,127,255] ?_;go_wp2_with (go_at_call 93;refine aG.out.mono ?_;rintro r w' ⟨rfl,rfl⟩);exact⟨⟨k+1,by go_num,by omega,cf.out,cv.out⟩,by simp [intOf];omega⟩
  ·have ce:=hide (show CF p q=true from by
    have d:=j.out.2.2.1;have h2:=hE.out
    rwa [List.take_of_length_le (by omega)] at h2)
   have bA:=hide (show propE nameOK p q=DL p q from by rw [hR.out,ce.out];rfl);clear hE;by_cases ar:nb=0
   ·have Q1:((nb:Int)==0)=true:=by simp [ar]
    by_cases aO:l=0
    ·have Q2:((l:Int)==0)=true:=by simp [aO]
     have HH:=hide (show nb=0/\l=0 from⟨ar,aO⟩);clear ar aO;go_wp2_with fail;go_ret;exact⟨congrArg (Value.int .i64) (bA.out.trans (by unfold DL;rw [Bv q.bad,Bv q.adj,<-j.out.2.2.2.1,<-j.out.2.2.2.2.1,decide_eq_true HH.out.1,decide_eq_true HH.out.2];rfl)).symm,a9.out⟩
    ·have Q2:((l:Int)==0)=false:=by simp [aO]
     have HH:=hide (show nb=0/\l≠0 from⟨ar,aO⟩);clear ar aO;have aV:=hide (show propE nameOK p q=orE (Ad (decide (3<q.bad.length)) 4) (orE (Aj (AV (ns:Int)) q.bad) (BA p.topo (ns:Int) q.adj)) from bA.out.trans (by
      unfold DL;rw [Bv q.bad,Bv q.adj,<-j.out.2.2.2.1,<-j.out.2.2.2.2.1,<-j.out.1];rw [decide_eq_true HH.out.1,decide_eq_false HH.out.2];rfl))
     by_cases bv:(3:Int)<(nb:Int)
     case pos=>
      go_wp2_with fail;go_ret;exact⟨congrArg (Value.int .i64) (aV.out.trans (by rw [decide_eq_true (show 3<q.bad.length by have:=j.out.2.2.2.1;omega)];rfl)).symm,a9.out⟩
     have aW:=hide (show propE nameOK p q=orE (Aj (AV (ns:Int)) q.bad) (BA p.topo (ns:Int) q.adj) from aV.out.trans (by rw [decide_eq_false (show ¬3<q.bad.length by have:=j.out.2.2.2.1;omega)];rfl));go_wp2_with fail;obtain⟨aq,bI⟩:∃x,x=wr:=⟨_,rfl⟩;subst bI;have G:=a9;clear bv;go_loopw [10] (fun E wr=>∃(k:Nat),E=.int .i64 (k:Int)/\k<=nb/\Hid (Below aq.heap.size aq wr)/\Hid (Aj (AV (ns:Int)) (q.bad.take k)=0)) (fun E _=>nb - (intOf E).toNat)
     case atStart=>exact⟨0,rfl,Nat.zero_le _,Below.refl _ _,by show _=_;rfl⟩
     case round=>
      obtain⟨k2,rfl,cr,I,al⟩:=hrel;have ae:=hide (bj.out.at I.out);have ck:=ae.out.b2.cell;have co:=ae.out.b3.cell;have y:=hide (a9.out.trans (I.out.mono a9.out.size));by_cases ct:k2<nb
      ·obtain⟨b2,W,c,c8,bw,cg,b0,cw,aF,bB⟩:=(bP.out.keep (w':=aq) (B':=w.heap.size) (R':=Db aq w.heap.size) (fun _ J=>G.out.cell J) (fun _ _ h=>h.keep (fun _ J=>G.out.cell J) (Nat.le_refl _)) (Nat.le_refl _)).at (i:=k2) (by have:=j.out.2.2.2.1;omega);obtain⟨C1,g1,rfl,aA⟩:=bB;have a3:=aF 0 _ rfl;have aj:=aF 1 _ rfl;simp only [Nat.add_zero] at a3;have b5:=hide b0;obtain⟨nc,ap⟩:∃n,n=c.states.length:=⟨_,rfl⟩;have ba:=hide ap;rw [<-ap] at a3;have ca:=(I.out.cell (p:=⟨b2,W+k2*2,none⟩) (by show b2<_;have:=G.out.size;omega)).trans a3;have cb:=(I.out.cell (p:=⟨b2,W+k2*2+1,none⟩) (by show b2<_;have:=G.out.size;omega)).trans aj;have bH:=aA.1;rw [<-ap] at bH;have bC:=hide (aA.keep (w':=w) (B':=w.heap.size) (fun _ J=>(G.out.cell J).symm) (Nat.le_refl _));have aJ:∀wx,Below w.heap.size w wx->Calls Tryz.prog 97 #[.slice C1 nc g1,.int .i64 (ns:Int)] wx (Ret fun r w'=>r=.int .i64 (Aa c.states (ns:Int))/\Below wx.heap.size wx w'):=fun wx hx=>by
        rw [ba.out];exact B0 (by omega) (bC.out.keep (fun _ J=>hx.cell J) hx.size)
       subst bw;clear aF b0 aA ap;have aK:=hide (show AV (ns:Int) c≠0->propE nameOK p q=AV (ns:Int) c from fun a5=>by
        rw [aW.out,Ct (AV (ns:Int)) b5.out al.out a5,BF a5])
       go_wp2_with fail;obtain⟨ec,ag⟩:∃e,Hid (Aa c.states (ns:Int)=e):=⟨_,rfl⟩;by_cases U:ec=0
       case neg=>
        have Qc:(ec != 0)=true:=by simp [U]
        have O:=hide (show propE nameOK p q=ec from by
         have d:AV (ns:Int) c=ec:=by unfold AV;rw [ag.out,BF U]
         exact(aK.out (by rw [d];exact U)).trans d)
        clear U;refine Calls.ret (aJ _ y.out) ?_;rintro v w8 ⟨rfl,C⟩;rw [ag.out];have V:=hide (ae.out.at C);have aY:=V.out.b2.cell;have aZ:=V.out.b3.cell;have af:=hide (y.out.trans (C.mono y.out.size));have M:=hide (I.out.trans (C.mono I.out.size));have aT:=(M.out.cell (p:=⟨b2,W+k2*2,none⟩) (by show b2<_;have:=G.out.size;omega)).trans a3;have aU:=(M.out.cell (p:=⟨b2,W+k2*2+1,none⟩) (by show b2<_;have:=G.out.size;omega)).trans aj;clear C;go_wp2_with fail;go_ret;exact⟨congrArg (Value.int .i64) O.out.symm,af.out⟩
       have Qc:(ec != 0)=false:=by simp [U]
       have aE:=hide (show AV (ns:Int) c=Ad (decide (nc=0)||!inC c.least 1 3) 1 from by
        unfold AV;rw [ag.out,U,AY,Bv,<-ba.out];rfl)
       have c0:=hide U;clear U;by_cases a2:nc=0
       case pos=>
        have Qn:((nc:Int)==0)=true:=by simp [a2]
        have O:=hide (show propE nameOK p q=1 from by
         have d:AV (ns:Int) c=1:=by rw [aE.out,decide_eq_true a2];rfl
         exact(aK.out (by rw [d];decide)).trans d)
        have Hn:=hide a2;clear a2;refine Calls.ret (aJ _ y.out) ?_;rintro v w8 ⟨rfl,C⟩;rw [ag.out];have V:=hide (ae.out.at C);have aY:=V.out.b2.cell;have aZ:=V.out.b3.cell;have af:=hide (y.out.trans (C.mono y.out.size));have M:=hide (I.out.trans (C.mono I.out.size));have aT:=(M.out.cell (p:=⟨b2,W+k2*2,none⟩) (by show b2<_;have:=G.out.size;omega)).trans a3;have aU:=(M.out.cell (p:=⟨b2,W+k2*2+1,none⟩) (by show b2<_;have:=G.out.size;omega)).trans aj;clear C;go_wp2_with fail;go_ret;exact⟨congrArg (Value.int .i64) O.out.symm,af.out⟩
       have Qn:((nc:Int)==0)=false:=by simp [a2]
       have Hn:=hide a2;clear a2;refine Calls.ret (aJ _ y.out) ?_;rintro v w8 ⟨rfl,C⟩;rw [ag.out];have V:=hide (ae.out.at C);have aY:=V.out.b2.cell;have aZ:=V.out.b3.cell;have af:=hide (y.out.trans (C.mono y.out.size));have M:=hide (I.out.trans (C.mono I.out.size));have aT:=(M.out.cell (p:=⟨b2,W+k2*2,none⟩) (by show b2<_;have:=G.out.size;omega)).trans a3;have aU:=(M.out.cell (p:=⟨b2,W+k2*2+1,none⟩) (by show b2<_;have:=G.out.size;omega)).trans aj;clear C;go_wp2_with fail;cases ao:inC c.least 1 3
       ·have aa:=hide ao;clear ao;have O:=hide (show propE nameOK p q=1 from by
         have d:AV (ns:Int) c=1:=by rw [aE.out,decide_eq_false Hn.out,aa.out];rfl
         exact(aK.out (by rw [d];decide)).trans d)
        refine(Aq _ _ _ _).mono ?_;rintro e w' ⟨rfl,rfl⟩;rw [aa.out];go_wp2_with fail;go_ret;exact⟨congrArg (Value.int .i64) O.out.symm,af.out⟩
       ·have aa:=hide ao;clear ao;have aH:=hide (show Aj (AV (ns:Int)) (q.bad.take (k2+1))=0 from by
         rw [CD (AV (ns:Int)) b5.out al.out,aE.out,decide_eq_false Hn.out,aa.out];rfl)
        refine(Aq _ _ _ _).mono ?_;rintro e w' ⟨rfl,rfl⟩;rw [aa.out];go_wp2_with fail;exact⟨⟨k2+1,by go_num,by omega,M.out,aH.out⟩,by simp [intOf];omega⟩
      ·have hA:=hide (show propE nameOK p q=BA p.topo (ns:Int) q.adj from aW.out.trans (by
        have d:=al.out;rw [List.take_of_length_le (by have:=j.out.2.2.2.1;omega)] at d;rw [d,AY]))
       clear al;obtain⟨aL,bJ⟩:∃x,x=wr:=⟨_,rfl⟩;subst bJ;by_cases am:l=0
       case pos=>
        have G1:¬(0:Int)<(l:Int):=by omega
        have G2:((l:Int) != 0)=false:=by simp [am]
        have hB:=hide (show propE nameOK p q=Aj (fun x=>Ad (!inE x (ns:Int)) 5) q.adj from hA.out.trans (by
         have d:q.adj=[]:=List.length_eq_zero_iff.1 (by have:=j.out.2.2.2.2.1;omega);rw [d];rfl))
        have br:=hide am;clear am;go_wp2_with fail;clear G1 G2;go_loopw [12] (fun E wr=>∃(k:Nat),E=.int .i64 (k:Int)/\k<=l/\aL=wr/\Hid (Aj (fun x=>Ad (!inE x (ns:Int)) 5) (q.adj.take k)=0)) (fun E _=>l - (intOf E).toNat)
        case atStart=>exact⟨0,rfl,Nat.zero_le _,(by first|rfl|trivial),by show _=_;rfl⟩
        case round=>
         obtain⟨k4,rfl,bF,rfl,Z⟩:=hrel;by_cases bG:k4<l
         ·exfalso;have:=br.out;omega
         ·have O:=hide (show propE nameOK p q=0 from hB.out.trans (by
           have d:=Z.out
           rwa [List.take_of_length_le (by have:=j.out.2.2.2.2.1;omega)] at d))
          clear Z;go_wp2_with fail;go_ret;exact⟨congrArg (Value.int .i64) O.out.symm,y.out⟩
       have G1:(0:Int)<(l:Int):=by omega
       have a5:=hide (show q.adj.isEmpty=false from by rw [Bv];exact decide_eq_false (by have:=j.out.2.2.2.2.1;omega));by_cases a6:p.topo=1
       case pos=>
        have G3:(p.topo==1)=true:=by simp [a6]
        have ai:=hide a6;clear a6;go_wp2_with fail;go_ret;exact⟨congrArg (Value.int .i64) (hA.out.trans (by unfold BA;rw [a5.out,decide_eq_true ai.out];rfl)).symm,y.out⟩
       have G3:(p.topo==1)=false:=by simp [a6]
       have ai:=hide a6;clear a6;have G2:((l:Int) != 0)=true:=by simp [am]
       have b8:q.adj.length=l:=j.out.2.2.2.2.1.symm;have b9:=hide b8;clear b8;by_cases a4:l=2
       case neg=>
        have G4:((l:Int) != 2)=true:=by
         have:((l:Int)==2)=false:=by
          simp;omega
         simp [bne,this]
        have aS:=hide a4;clear a4;go_wp2_with fail;go_ret;exact⟨congrArg (Value.int .i64) (hA.out.trans (by unfold BA;rw [a5.out,decide_eq_false ai.out,b9.out,decide_eq_false aS.out];rfl)).symm,y.out⟩
       have G4:((l:Int) != 2)=false:=by simp [a4]
       have hB:=hide (show propE nameOK p q=Aj (fun x=>Ad (!inE x (ns:Int)) 5) q.adj from hA.out.trans (by unfold BA;rw [a5.out,decide_eq_false ai.out,b9.out,decide_eq_true a4];rfl));have aS:=hide a4;clear a4;go_wp2_with fail;clear G1 G2 G3 G4;go_loopw [12] (fun E wr=>∃(k:Nat),E=.int .i64 (k:Int)/\k<=l/\aL=wr/\Hid (Aj (fun x=>Ad (!inE x (ns:Int)) 5) (q.adj.take k)=0)) (fun E _=>l - (intOf E).toNat)
       case atStart=>exact⟨0,rfl,Nat.zero_le _,(by first|rfl|trivial),by show _=_;rfl⟩
       case round=>
        obtain⟨k4,rfl,bF,rfl,Z⟩:=hrel;by_cases bG:k4<l
        ·obtain⟨b4,cB,x,bx,ch,be,b6⟩:=(bQ.out.keep (w':=aL) (B':=w.heap.size) (fun _ J=>y.out.cell J) (Nat.le_refl _)).at (k:=k4) (by have:=j.out.2.2.2.2.1;omega);have d4:=b6 0 (by omega);simp only [Nat.add_zero,Nat.mul_one,Ai] at d4;have bf:=hide be;subst bx;clear b6 be;go_wp2_with fail;cases an:inC x 0 ((ns:Int) - 1)
         ·have Fin:=hide an;clear an;have bd:=hide (show Aj (fun x=>Ad (!inE x (ns:Int)) 5) q.adj=5 from by
           have d:Ad (!inE x (ns:Int)) 5=5:=by rw [C5,Fin.out];rfl
           rw [Ct (fun x=>Ad (!inE x (ns:Int)) 5) bf.out Z.out (by rw [d];decide),d])
          refine(Aq _ _ _ _).mono ?_;rintro e w' ⟨rfl,rfl⟩;rw [Fin.out];go_wp2_with fail;go_ret;exact⟨congrArg (Value.int .i64) (hB.out.trans bd.out).symm,y.out⟩
         ·have Fin:=hide an;clear an;have aH:=hide (show Aj (fun x=>Ad (!inE x (ns:Int)) 5) (q.adj.take (k4+1))=0 from by
           rw [CD (fun x=>Ad (!inE x (ns:Int)) 5) bf.out Z.out,C5,Fin.out];rfl)
          refine(Aq _ _ _ _).mono ?_;rintro e w' ⟨rfl,rfl⟩;rw [Fin.out];go_wp2_with fail;exact⟨⟨k4+1,by go_num,by omega,(by first|rfl|trivial),aH.out⟩,by simp [intOf];omega⟩
        ·have O:=hide (show propE nameOK p q=0 from hB.out.trans (by
          have d:=Z.out
          rwa [List.take_of_length_le (by have:=j.out.2.2.2.2.1;omega)] at d))
         clear Z;go_wp2_with fail;go_ret;exact⟨congrArg (Value.int .i64) O.out.symm,y.out⟩
   ·have Q1:((nb:Int)==0)=false:=by simp [ar]
    have HH:=hide ar;clear ar;have aV:=hide (show propE nameOK p q=orE (Ad (decide (3<q.bad.length)) 4) (orE (Aj (AV (ns:Int)) q.bad) (BA p.topo (ns:Int) q.adj)) from bA.out.trans (by
     unfold DL;rw [Bv q.bad,Bv q.adj,<-j.out.2.2.2.1,<-j.out.2.2.2.2.1,<-j.out.1];rw [decide_eq_false HH.out];rfl))
    by_cases bv:(3:Int)<(nb:Int)
    case pos=>
     go_wp2_with fail;go_ret;exact⟨congrArg (Value.int .i64) (aV.out.trans (by rw [decide_eq_true (show 3<q.bad.length by have:=j.out.2.2.2.1;omega)];rfl)).symm,a9.out⟩
    have aW:=hide (show propE nameOK p q=orE (Aj (AV (ns:Int)) q.bad) (BA p.topo (ns:Int) q.adj) from aV.out.trans (by rw [decide_eq_false (show ¬3<q.bad.length by have:=j.out.2.2.2.1;omega)];rfl));go_wp2_with fail;obtain⟨aq,bI⟩:∃x,x=wr:=⟨_,rfl⟩;subst bI;have G:=a9;clear bv;go_loopw [10] (fun E wr=>∃(k:Nat),E=.int .i64 (k:Int)/\k<=nb/\Hid (Below aq.heap.size aq wr)/\Hid (Aj (AV (ns:Int)) (q.bad.take k)=0)) (fun E _=>nb - (intOf E).toNat)
    case atStart=>exact⟨0,rfl,Nat.zero_le _,Below.refl _ _,by show _=_;rfl⟩
    case round=>
     obtain⟨k2,rfl,cr,I,al⟩:=hrel;have ae:=hide (bj.out.at I.out);have ck:=ae.out.b2.cell;have co:=ae.out.b3.cell;have y:=hide (a9.out.trans (I.out.mono a9.out.size));by_cases ct:k2<nb
     ·obtain⟨b2,W,c,c8,bw,cg,b0,cw,aF,bB⟩:=(bP.out.keep (w':=aq) (B':=w.heap.size) (R':=Db aq w.heap.size) (fun _ J=>G.out.cell J) (fun _ _ h=>h.keep (fun _ J=>G.out.cell J) (Nat.le_refl _)) (Nat.le_refl _)).at (i:=k2) (by have:=j.out.2.2.2.1;omega);obtain⟨C1,g1,rfl,aA⟩:=bB;have a3:=aF 0 _ rfl;have aj:=aF 1 _ rfl;simp only [Nat.add_zero] at a3;have b5:=hide b0;obtain⟨nc,ap⟩:∃n,n=c.states.length:=⟨_,rfl⟩;have ba:=hide ap;rw [<-ap] at a3;have ca:=(I.out.cell (p:=⟨b2,W+k2*2,none⟩) (by show b2<_;have:=G.out.size;omega)).trans a3;have cb:=(I.out.cell (p:=⟨b2,W+k2*2+1,none⟩) (by show b2<_;have:=G.out.size;omega)).trans aj;have bH:=aA.1;rw [<-ap] at bH;have bC:=hide (aA.keep (w':=w) (B':=w.heap.size) (fun _ J=>(G.out.cell J).symm) (Nat.le_refl _));have aJ:∀wx,Below w.heap.size w wx->Calls Tryz.prog 97 #[.slice C1 nc g1,.int .i64 (ns:Int)] wx (Ret fun r w'=>r=.int .i64 (Aa c.states (ns:Int))/\Below wx.heap.size wx w'):=fun wx hx=>by
       rw [ba.out];exact B0 (by omega) (bC.out.keep (fun _ J=>hx.cell J) hx.size)
      subst bw;clear aF b0 aA ap;have aK:=hide (show AV (ns:Int) c≠0->propE nameOK p q=AV (ns:Int) c from fun a5=>by
       rw [aW.out,Ct (AV (ns:Int)) b5.out al.out a5,BF a5])
      go_wp2_with fail;obtain⟨ec,ag⟩:∃e,Hid (Aa c.states (ns:Int)=e):=⟨_,rfl⟩;by_cases U:ec=0
      case neg=>
       have Qc:(ec != 0)=true:=by simp [U]
       have O:=hide (show propE nameOK p q=ec from by
        have d:AV (ns:Int) c=ec:=by unfold AV;rw [ag.out,BF U]
        exact(aK.out (by rw [d];exact U)).trans d)
       clear U;refine Calls.ret (aJ _ y.out) ?_;rintro v w8 ⟨rfl,C⟩;rw [ag.out];have V:=hide (ae.out.at C);have aY:=V.out.b2.cell;have aZ:=V.out.b3.cell;have af:=hide (y.out.trans (C.mono y.out.size));have M:=hide (I.out.trans (C.mono I.out.size));have aT:=(M.out.cell (p:=⟨b2,W+k2*2,none⟩) (by show b2<_;have:=G.out.size;omega)).trans a3;have aU:=(M.out.cell (p:=⟨b2,W+k2*2+1,none⟩) (by show b2<_;have:=G.out.size;omega)).trans aj;clear C;go_wp2_with fail;go_ret;exact⟨congrArg (Value.int .i64) O.out.symm,af.out⟩
      have Qc:(ec != 0)=false:=by simp [U]
      have aE:=hide (show AV (ns:Int) c=Ad (decide (nc=0)||!inC c.least 1 3) 1 from by
       unfold AV;rw [ag.out,U,AY,Bv,<-ba.out];rfl)
      have c0:=hide U;clear U;by_cases a2:nc=0
      case pos=>
       have Qn:((nc:Int)==0)=true:=by simp [a2]
       have O:=hide (show propE nameOK p q=1 from by
        have d:AV (ns:Int) c=1:=by rw [aE.out,decide_eq_true a2];rfl
        exact(aK.out (by rw [d];decide)).trans d)
       have Hn:=hide a2;clear a2;refine Calls.ret (aJ _ y.out) ?_;rintro v w8 ⟨rfl,C⟩;rw [ag.out];have V:=hide (ae.out.at C);have aY:=V.out.b2.cell;have aZ:=V.out.b3.cell;have af:=hide (y.out.trans (C.mono y.out.size));have M:=hide (I.out.trans (C.mono I.out.size));have aT:=(M.out.cell (p:=⟨b2,W+k2*2,none⟩) (by show b2<_;have:=G.out.size;omega)).trans a3;have aU:=(M.out.cell (p:=⟨b2,W+k2*2+1,none⟩) (by show b2<_;have:=G.out.size;omega)).trans aj;clear C;go_wp2_with fail;go_ret;exact⟨congrArg (Value.int .i64) O.out.symm,af.out⟩
      have Qn:((nc:Int)==0)=false:=by simp [a2]
      have Hn:=hide a2;clear a2;refine Calls.ret (aJ _ y.out) ?_;rintro v w8 ⟨rfl,C⟩;rw [ag.out];have V:=hide (ae.out.at C);have aY:=V.out.b2.cell;have aZ:=V.out.b3.cell;have af:=hide (y.out.trans (C.mono y.out.size));have M:=hide (I.out.trans (C.mono I.out.size));have aT:=(M.out.cell (p:=⟨b2,W+k2*2,none⟩) (by show b2<_;have:=G.out.size;omega)).trans a3;have aU:=(M.out.cell (p:=⟨b2,W+k2*2+1,none⟩) (by show b2<_;have:=G.out.size;omega)).trans aj;clear C;go_wp2_with fail;cases ao:inC c.least 1 3
      ·have aa:=hide ao;clear ao;have O:=hide (show propE nameOK p q=1 from by
        have d:AV (ns:Int) c=1:=by rw [aE.out,decide_eq_false Hn.out,aa.out];rfl
        exact(aK.out (by rw [d];decide)).trans d)
       refine(Aq _ _ _ _).mono ?_;rintro e w' ⟨rfl,rfl⟩;rw [aa.out];go_wp2_with fail;go_ret;exact⟨congrArg (Value.int .i64) O.out.symm,af.out⟩
      ·have aa:=hide ao;clear ao;have aH:=hide (show Aj (AV (ns:Int)) (q.bad.take (k2+1))=0 from by
        rw [CD (AV (ns:Int)) b5.out al.out,aE.out,decide_eq_false Hn.out,aa.out];rfl)
       refine(Aq _ _ _ _).mono ?_;rintro e w' ⟨rfl,rfl⟩;rw [aa.out];go_wp2_with fail;exact⟨⟨k2+1,by go_num,by omega,M.out,aH.out⟩,by simp [intOf];omega⟩
     ·have hA:=hide (show propE nameOK p q=BA p.topo (ns:Int) q.adj from aW.out.trans (by
       have d:=al.out;rw [List.take_of_length_le (by have:=j.out.2.2.2.1;omega)] at d;rw [d,AY]))
      clear al;obtain⟨aL,bJ⟩:∃x,x=wr:=⟨_,rfl⟩;subst bJ;by_cases am:l=0
      case pos=>
       have G1:¬(0:Int)<(l:Int):=by omega
       have G2:((l:Int) != 0)=false:=by simp [am]
       have hB:=hide (show propE nameOK p q=Aj (fun x=>Ad (!inE x (ns:Int)) 5) q.adj from hA.out.trans (by
        have d:q.adj=[]:=List.length_eq_zero_iff.1 (by have:=j.out.2.2.2.2.1;omega);rw [d];rfl))
       have br:=hide am;clear am;go_wp2_with fail;clear G1 G2;go_loopw [12] (fun E wr=>∃(k:Nat),E=.int .i64 (k:Int)/\k<=l/\aL=wr/\Hid (Aj (fun x=>Ad (!inE x (ns:Int)) 5) (q.adj.take k)=0)) (fun E _=>l - (intOf E).toNat)
       case atStart=>exact⟨0,rfl,Nat.zero_le _,(by first|rfl|trivial),by show _=_;rfl⟩
       case round=>
        obtain⟨k4,rfl,bF,rfl,Z⟩:=hrel;by_cases bG:k4<l
        ·exfalso;have:=br.out;omega
        ·have O:=hide (show propE nameOK p q=0 from hB.out.trans (by
          have d:=Z.out
          rwa [List.take_of_length_le (by have:=j.out.2.2.2.2.1;omega)] at d))
         clear Z;go_wp2_with fail;go_ret;exact⟨congrArg (Value.int .i64) O.out.symm,y.out⟩
      have G1:(0:Int)<(l:Int):=by omega
      have a5:=hide (show q.adj.isEmpty=false from by rw [Bv];exact decide_eq_false (by have:=j.out.2.2.2.2.1;omega));by_cases a6:p.topo=1
      case pos=>
       have G3:(p.topo==1)=true:=by simp [a6]
       have ai:=hide a6;clear a6;go_wp2_with fail;go_ret;exact⟨congrArg (Value.int .i64) (hA.out.trans (by unfold BA;rw [a5.out,decide_eq_true ai.out];rfl)).symm,y.out⟩
      have G3:(p.topo==1)=false:=by simp [a6]
      have ai:=hide a6;clear a6;have G2:((l:Int) != 0)=true:=by simp [am]
      have b8:q.adj.length=l:=j.out.2.2.2.2.1.symm;have b9:=hide b8;clear b8;by_cases a4:l=2
      case neg=>
       have G4:((l:Int) != 2)=true:=by
        have:((l:Int)==2)=false:=by
         simp;omega
        simp [bne,this]
       have aS:=hide a4;clear a4;go_wp2_with fail;go_ret;exact⟨congrArg (Value.int .i64) (hA.out.trans (by unfold BA;rw [a5.out,decide_eq_false ai.out,b9.out,decide_eq_false aS.out];rfl)).symm,y.out⟩
      have G4:((l:Int) != 2)=false:=by simp [a4]
      have hB:=hide (show propE nameOK p q=Aj (fun x=>Ad (!inE x (ns:Int)) 5) q.adj from hA.out.trans (by unfold BA;rw [a5.out,decide_eq_false ai.out,b9.out,decide_eq_true a4];rfl));have aS:=hide a4;clear a4;go_wp2_with fail;clear G1 G2 G3 G4;go_loopw [12] (fun E wr=>∃(k:Nat),E=.int .i64 (k:Int)/\k<=l/\aL=wr/\Hid (Aj (fun x=>Ad (!inE x (ns:Int)) 5) (q.adj.take k)=0)) (fun E _=>l - (intOf E).toNat)
      case atStart=>exact⟨0,rfl,Nat.zero_le _,(by first|rfl|trivial),by show _=_;rfl⟩
      case round=>
       obtain⟨k4,rfl,bF,rfl,Z⟩:=hrel;by_cases bG:k4<l
       ·obtain⟨b4,cB,x,bx,ch,be,b6⟩:=(bQ.out.keep (w':=aL) (B':=w.heap.size) (fun _ J=>y.out.cell J) (Nat.le_refl _)).at (k:=k4) (by have:=j.out.2.2.2.2.1;omega);have d4:=b6 0 (by omega);simp only [Nat.add_zero,Nat.mul_one,Ai] at d4;have bf:=hide be;subst bx;clear b6 be;go_wp2_with fail;cases an:inC x 0 ((ns:Int) - 1)
        ·have Fin:=hide an;clear an;have bd:=hide (show Aj (fun x=>Ad (!inE x (ns:Int)) 5) q.adj=5 from by
          have d:Ad (!inE x (ns:Int)) 5=5:=by rw [C5,Fin.out];rfl
          rw [Ct (fun x=>Ad (!inE x (ns:Int)) 5) bf.out Z.out (by rw [d];decide),d])
         refine(Aq _ _ _ _).mono ?_;rintro e w' ⟨rfl,rfl⟩;rw [Fin.out];go_wp2_with fail;go_ret;exact⟨congrArg (Value.int .i64) (hB.out.trans bd.out).symm,y.out⟩
        ·have Fin:=hide an;clear an;have aH:=hide (show Aj (fun x=>Ad (!inE x (ns:Int)) 5) (q.adj.take (k4+1))=0 from by
          rw [CD (fun x=>Ad (!inE x (ns:Int)) 5) bf.out Z.out,C5,Fin.out];rfl)
         refine(Aq _ _ _ _).mono ?_;rintro e w' ⟨rfl,rfl⟩;rw [Fin.out];go_wp2_with fail;exact⟨⟨k4+1,by go_num,by omega,(by first|rfl|trivial),aH.out⟩,by simp [intOf];omega⟩
       ·have O:=hide (show propE nameOK p q=0 from hB.out.trans (by
         have d:=Z.out
         rwa [List.take_of_length_le (by have:=j.out.2.2.2.2.1;omega)] at d))
        clear Z;go_wp2_with fail;go_ret;exact⟨congrArg (Value.int .i64) O.out.symm,y.out⟩
end Go.Proofs.YtfcfpoemojjglaaGreatDoor.K
