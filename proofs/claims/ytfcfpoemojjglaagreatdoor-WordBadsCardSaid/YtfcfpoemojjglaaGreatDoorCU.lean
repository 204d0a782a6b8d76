/-
  Part CU of a proof.
-/
import Derived.Test.YtfcfpoemojjglaaGreatDoorPA
import Derived.Test.YtfcfpoemojjglaaGreatDoorCJ
set_option maxHeartbeats 16000000
set_option maxRecDepth 100000
set_option linter.unusedVariables false
set_option linter.unusedSimpArgs false
namespace Go.Proofs.YtfcfpoemojjglaaGreatDoor.K
open Go.RowKit
attribute [-go_sem] loadCellsFrom storeCells
theorem D7 {w w1 w2:World} {pc qc:Array Value} {p:Am} {q:AB} {A1 y C E G I:Option Addr} {c1 J M O U V ns ni nt Z W ng:Nat} {kq:Int} (H:PQH w w1 w2 pc qc p q A1 c1 y J C M E O G U I V ns ni nt Z W ng kq):
    (∀wx,Hid (PQX wx w.heap.size w1.heap.size pc qc p q)->Calls Tryz.prog 117 #[.agg pc] wx (Ret fun v w'=>v=.int .i64 (protE nameOK p)/\Below wx.heap.size wx w'))/\
    (∀wx,Below w.heap.size w wx->Calls Tryz.prog 119 #[.slice C nt M,.int .i64 (ns:Int)] wx (Ret fun r w'=>r=.int .i64 (Aa q.start (ns:Int))/\Below wx.heap.size wx w'))/\
    (∀wx,Below w.heap.size w wx->Calls Tryz.prog 119 #[.slice I ng V,.int .i64 (ns:Int)] wx (Ret fun r w'=>r=.int .i64 (Aa q.goal (ns:Int))/\Below wx.heap.size wx w'))/\
    (∀wx x,Below w.heap.size w wx->Calls Tryz.prog 74 #[.slice y ni J,.int .i64 x] wx fun r w'=>r=.returned (.bool (decide (x∈p.initial)))/\wx=w')/\
    (∀wx,Below w.heap.size w wx->Calls Tryz.prog 122 #[.slice E Z O,.int .i64 (ns:Int)] wx (Ret fun r w'=>r=.int .i64 (Aj (AV (ns:Int)) q.bad)/\Below wx.heap.size wx w'))/\
    (∀wx,Hid (PQX wx w.heap.size w1.heap.size pc qc p q)->Below w.heap.size w wx->Calls Tryz.prog 123 #[.agg pc,.slice G W U] wx (Ret fun r w'=>r=.int .i64 (BA p.topo (ns:Int) q.adj)/\Below wx.heap.size wx w')):=by
  obtain⟨-,-,-,-,-,l,ab,⟨a9,a5,a6,a7,a8⟩,-,⟨-,-,-,-,-,ae,-⟩,-,-⟩:=H
  exact⟨fun wx d=>Kt d.out.pr ab.out d.out.tab,
   fun wx d=>by
    rw [l.out.2.2.1];exact DE (a5.out.keep (fun _ j=>d.cell j) d.size),
   fun wx d=>by
    rw [l.out.2.2.2.2.2.1];exact DE (a8.out.keep (fun _ j=>d.cell j) d.size),
   fun wx x d=>by
    rw [l.out.2.1];exact containsI_any (a9.out.keep (fun _ j=>d.cell j) d.size),
   fun wx d=>by
    rw [l.out.2.2.2.1];exact Nb (a6.out.keep (fun _ j=>d.cell j) (fun _ _ h=>h.keep (fun _ j=>d.cell j) d.size) d.size),
   fun wx aa d=>by
    rw [l.out.2.2.2.2.1,l.out.1];exact L6 aa.out.pr (a7.out.keep (fun _ j=>d.cell j) d.size)⟩
theorem T4 {w:World} {cs ds:List Value} {p:Am} {q:AB} (h:At w w.heap.size cs p) (C:Ba w w.heap.size ds q) (J:p.Small) (M:q.Small) (E:SpOK w) {j:Int} (U:Hid (protE nameOK p=j)) (az:(j != 0)=true):
  Calls Tryz.prog 71 #[.agg cs.toArray,.agg ds.toArray] w (Ret fun v w'=>v=.int .i64 (j)/\Below w.heap.size w w'):=by
 obtain⟨w1,w2,A1,c1,W,c5,Z,d1,B2,d2,B3,d3,B4,d4,ns,ni,nt,nb,na,ng,kq,H⟩:=Dj h C J M E;generalize cs.toArray=pc at*;generalize ds.toArray=qc at*;clear h C J M E;obtain⟨V,aN,ao,am,an,ah⟩:=D7 H;obtain⟨aO,aP,G,aL,d,af,aM,⟨ag,aa,ab,ad,ae⟩,I,⟨aA,ar,au,av,aw,ax,ay⟩,⟨aB,aC,aD⟩,aE,aF,aG,aH,aJ,aK⟩:=H;have ai:=d.out.b2.cell;have ak:=d.out.b3.cell;have ap:=Ah d.out.b2 I.out;go_enter Tryz.func71,Tryz.ntmps71
 go_wp2_with (first
  | (go_at_call 117;refine Calls.ret (V _ d) ?_;rintro v w3 ⟨rfl,y⟩;rw [U.out];have l:=hide (d.out.at y);have aj:=l.out.b2.cell;have al:=l.out.b3.cell;have aq:=Ah l.out.b2 I.out;have O:=hide (G.out.trans (y.mono G.out.size));clear y))
 go_ret;exact⟨rfl,O.out⟩
theorem T5 {w:World} {cs ds:List Value} {p:Am} {q:AB} (h:At w w.heap.size cs p) (G:Ba w w.heap.size ds q) (O:p.Small) (U:q.Small) (I:SpOK w) (W:Hid (protE nameOK p=0)) (Z:Hid (nameOK q.name=false)):
  Calls Tryz.prog 71 #[.agg cs.toArray,.agg ds.toArray] w (Ret fun v w'=>v=.int .i64 (2)/\Below w.heap.size w w'):=by
 obtain⟨w1,w2,A1,c1,A5,c5,B1,d1,B2,d2,B3,d3,B4,d4,ns,ni,nt,nb,na,ng,kq,H⟩:=Dj h G O U I;generalize cs.toArray=pc at*;generalize ds.toArray=qc at*;clear h G O U I;obtain⟨a2,aS,av,ar,au,ak⟩:=D7 H;obtain⟨aT,aU,J,aQ,d,ai,aR,⟨aj,ae,af,ag,ah⟩,E,⟨aF,az,aA,aB,aC,aD,aE⟩,⟨aG,aH,aJ⟩,aK,aL,aM,aN,aO,aP⟩:=H;have al:=d.out.b2.cell;have ao:=d.out.b3.cell;have aw:=Ah d.out.b2 E.out;go_enter Tryz.func71,Tryz.ntmps71
 go_wp2_with (first
  | (go_at_call 117;refine Calls.ret (a2 _ d) ?_;rintro v w3 ⟨rfl,y⟩;rw [W.out];have j:=hide (d.out.at y);have am:=j.out.b2.cell;have ap:=j.out.b3.cell;have ax:=Ah j.out.b2 E.out;have M:=hide (J.out.trans (y.mono J.out.size));clear y)
  | (go_at_call 118;refine Calls.ret (Da q.name _ (by omega) j.out.tab) ?_;rintro v w4 ⟨rfl,C⟩;rw [Z.out];have l:=hide (j.out.at C);have an:=l.out.b2.cell;have aq:=l.out.b3.cell;have ay:=Ah l.out.b2 E.out;have V:=hide (M.out.trans (C.mono M.out.size));clear C))
 go_ret;exact⟨rfl,V.out⟩
theorem T6 {w:World} {cs ds:List Value} {p:Am} {q:AB} (h:At w w.heap.size cs p) (J:Ba w w.heap.size ds q) (V:p.Small) (W:q.Small) (M:SpOK w) (a4:Hid (protE nameOK p=0)) (a5:Hid (nameOK q.name=true)) (E:q.kind≠1) (G:q.kind≠2):
  Calls Tryz.prog 71 #[.agg cs.toArray,.agg ds.toArray] w (Ret fun v w'=>v=.int .i64 (1)/\Below w.heap.size w w'):=by
 obtain⟨w1,w2,A1,c1,A5,c5,B1,d1,B2,d2,B3,d3,B4,d4,ns,ni,nt,nb,na,ng,Z,H⟩:=Dj h J V W M;generalize cs.toArray=pc at*;generalize ds.toArray=qc at*;clear h J V W M;obtain⟨a6,aV,ay,aw,ax,an⟩:=D7 H;obtain⟨aW,aX,O,aT,d,a2,aU,⟨am,ai,aj,ak,al⟩,I,⟨aJ,aC,aD,aE,aF,aG,aH⟩,⟨aK,aL,aM⟩,aN,aO,aP,aQ,aR,aS⟩:=H;have ao:=d.out.b2.cell;have ar:=d.out.b3.cell;have az:=Ah d.out.b2 I.out;rw [<-a2.out.2.2.2.2.2.2] at E G;have aY:(Z==1)=false:=by simp [E]
 have aZ:(Z != 2)=true:=by simp [G]
 clear E G;go_enter Tryz.func71,Tryz.ntmps71
 go_wp2_with (first
  | (go_at_call 117;refine Calls.ret (a6 _ d) ?_;rintro v w3 ⟨rfl,y⟩;rw [a4.out];have j:=hide (d.out.at y);have ap:=j.out.b2.cell;have au:=j.out.b3.cell;have aA:=Ah j.out.b2 I.out;have U:=hide (O.out.trans (y.mono O.out.size));clear y)
  | (go_at_call 118;refine Calls.ret (Da q.name _ (by omega) j.out.tab) ?_;rintro v w4 ⟨rfl,C⟩;rw [a5.out];have l:=hide (j.out.at C);have aq:=l.out.b2.cell;have av:=l.out.b3.cell;have aB:=Ah l.out.b2 I.out;have a3:=hide (U.out.trans (C.mono U.out.size));clear C))
 go_ret;exact⟨rfl,a3.out⟩
theorem T7 {w:World} {cs ds:List Value} {p:Am} {q:AB} (h:At w w.heap.size cs p) (G:Ba w w.heap.size ds q) (V:p.Small) (W:q.Small) (J:SpOK w) (a2:Hid (protE nameOK p=0)) (a4:Hid (nameOK q.name=true)) (a3:Hid (q.kind=1)) (U:q.goal.length≠0):
  Calls Tryz.prog 71 #[.agg cs.toArray,.agg ds.toArray] w (Ret fun v w'=>v=.int .i64 (1)/\Below w.heap.size w w'):=by
 obtain⟨w1,w2,A1,c1,A5,c5,B1,d1,B2,d2,B3,d3,B4,d4,ns,ni,nt,nb,na,ng,kq,H⟩:=Dj h G V W J;generalize cs.toArray=pc at*;generalize ds.toArray=qc at*;clear h G V W J;obtain⟨a5,aX,aA,ax,ay,ao⟩:=D7 H;obtain⟨aY,aZ,M,aV,d,I,aW,⟨an,aj,ak,al,am⟩,E,⟨aL,aE,aF,aG,aH,aJ,aK⟩,⟨aM,aN,aO⟩,aP,aQ,aR,aS,aT,aU⟩:=H;have ap:=d.out.b2.cell;have au:=d.out.b3.cell;have aB:=Ah d.out.b2 E.out;rw [<-I.out.2.2.2.2.2.1] at U;have az:(0:Int)<(ng:Int):=by omega
 clear U;have b0:(kq==1)=true:=by rw [I.out.2.2.2.2.2.2,a3.out];rfl
 go_enter Tryz.func71,Tryz.ntmps71
 go_wp2_with (first
  | (go_at_call 117;refine Calls.ret (a5 _ d) ?_;rintro v w3 ⟨rfl,y⟩;rw [a2.out];have j:=hide (d.out.at y);have aq:=j.out.b2.cell;have av:=j.out.b3.cell;have aC:=Ah j.out.b2 E.out;have O:=hide (M.out.trans (y.mono M.out.size));clear y)
  | (go_at_call 118;refine Calls.ret (Da q.name _ (by omega) j.out.tab) ?_;rintro v w4 ⟨rfl,C⟩;rw [a4.out];have l:=hide (j.out.at C);have ar:=l.out.b2.cell;have aw:=l.out.b3.cell;have aD:=Ah l.out.b2 E.out;have Z:=hide (O.out.trans (C.mono O.out.size));clear C))
 go_ret;exact⟨rfl,Z.out⟩
theorem T8 {w:World} {cs ds:List Value} {p:Am} {q:AB} (h:At w w.heap.size cs p) (I:Ba w w.heap.size ds q) (W:p.Small) (Z:q.Small) (J:SpOK w) (a4:Hid (protE nameOK p=0)) (a5:Hid (nameOK q.name=true)) (V:Hid (q.kind=2)) (U:q.bad.length≠0):
  Calls Tryz.prog 71 #[.agg cs.toArray,.agg ds.toArray] w (Ret fun v w'=>v=.int .i64 (1)/\Below w.heap.size w w'):=by
 obtain⟨w1,w2,A1,c1,A5,c5,B1,d1,B2,d2,B3,d3,B4,d4,ns,ni,nt,nb,na,ng,kq,H⟩:=Dj h I W Z J;generalize cs.toArray=pc at*;generalize ds.toArray=qc at*;clear h I W Z J;obtain⟨a6,aX,aA,ax,ay,ao⟩:=D7 H;obtain⟨aY,aZ,M,aV,d,l,aW,⟨an,aj,ak,al,am⟩,G,⟨aL,aE,aF,aG,aH,aJ,aK⟩,⟨aM,aN,aO⟩,aP,aQ,aR,aS,aT,aU⟩:=H;have ap:=d.out.b2.cell;have au:=d.out.b3.cell;have aB:=Ah d.out.b2 G.out;rw [<-l.out.2.2.2.1] at U;have az:(0:Int)<(nb:Int):=by omega
 clear U;have b0:(kq==1)=false:=by rw [l.out.2.2.2.2.2.2,V.out];rfl
 have b4:(kq != 2)=false:=by rw [l.out.2.2.2.2.2.2,V.out];rfl
 go_enter Tryz.func71,Tryz.ntmps71
 go_wp2_with (first
  | (go_at_call 117;refine Calls.ret (a6 _ d) ?_;rintro v w3 ⟨rfl,C⟩;rw [a4.out];have j:=hide (d.out.at C);have aq:=j.out.b2.cell;have av:=j.out.b3.cell;have aC:=Ah j.out.b2 G.out;have O:=hide (M.out.trans (C.mono M.out.size));clear C)
  | (go_at_call 118;refine Calls.ret (Da q.name _ (by omega) j.out.tab) ?_;rintro v w4 ⟨rfl,E⟩;rw [a5.out];have y:=hide (j.out.at E);have ar:=y.out.b2.cell;have aw:=y.out.b3.cell;have aD:=Ah y.out.b2 G.out;have a3:=hide (O.out.trans (E.mono O.out.size));clear E))
 go_ret;exact⟨rfl,a3.out⟩
theorem T9 {w:World} {cs ds:List Value} {p:Am} {q:AB} (h:At w w.heap.size cs p) (I:Ba w w.heap.size ds q) (Z:p.Small) (a2:q.Small) (J:SpOK w) (a5:Hid (protE nameOK p=0)) (a6:Hid (nameOK q.name=true)) (W:Hid (q.kind=2)) (U:q.bad.length=0) (V:q.adj.length≠0):
  Calls Tryz.prog 71 #[.agg cs.toArray,.agg ds.toArray] w (Ret fun v w'=>v=.int .i64 (1)/\Below w.heap.size w w'):=by
 obtain⟨w1,w2,A1,c1,A5,c5,B1,d1,B2,d2,B3,d3,B4,d4,ns,ni,nt,nb,na,ng,kq,H⟩:=Dj h I Z a2 J;generalize cs.toArray=pc at*;generalize ds.toArray=qc at*;clear h I Z a2 J;obtain⟨a7,b0,aD,az,aA,aq⟩:=D7 H;obtain⟨b4,b5,M,aY,d,l,aZ,⟨ap,al,am,an,ao⟩,G,⟨aO,aH,aJ,aK,aL,aM,aN⟩,⟨aP,aQ,aR⟩,aS,aT,aU,aV,aW,aX⟩:=H;have ar:=d.out.b2.cell;have aw:=d.out.b3.cell;have aE:=Ah d.out.b2 G.out;rw [<-l.out.2.2.2.1] at U;rw [<-l.out.2.2.2.2.1] at V;have aB:¬(0:Int)<(nb:Int):=by omega
 have aC:(0:Int)<(na:Int):=by omega
 clear U V;have b6:(kq==1)=false:=by rw [l.out.2.2.2.2.2.2,W.out];rfl
 have b7:(kq != 2)=false:=by rw [l.out.2.2.2.2.2.2,W.out];rfl
 go_enter Tryz.func71,Tryz.ntmps71
 go_wp2_with (first
  | (go_at_call 117;refine Calls.ret (a7 _ d) ?_;rintro v w3 ⟨rfl,C⟩;rw [a5.out];have j:=hide (d.out.at C);have au:=j.out.b2.cell;have ax:=j.out.b3.cell;have aF:=Ah j.out.b2 G.out;have O:=hide (M.out.trans (C.mono M.out.size));clear C)
  | (go_at_call 118;refine Calls.ret (Da q.name _ (by omega) j.out.tab) ?_;rintro v w4 ⟨rfl,E⟩;rw [a6.out];have y:=hide (j.out.at E);have av:=y.out.b2.cell;have ay:=y.out.b3.cell;have aG:=Ah y.out.b2 G.out;have a4:=hide (O.out.trans (E.mono O.out.size));clear E))
 go_ret;exact⟨rfl,a4.out⟩
end Go.Proofs.YtfcfpoemojjglaaGreatDoor.K
namespace Go.Proofs.YtfcfpoemojjglaaGreatDoor.K
open Go.RowKit
attribute [-go_sem] loadCellsFrom storeCells
theorem Ua {w:World} {cs ds:List Value} {p:Am} {q:AB} (h:At w w.heap.size cs p) (U:Ba w w.heap.size ds q) (a4:p.Small) (a5:q.Small) (V:SpOK w) (a7:Hid (protE nameOK p=0)) (a9:Hid (nameOK q.name=true)) (a8:Hid (q.kind=1)) (hg:q.goal.length=0) {C:Int} (a2:Hid (Aa q.start (p.states.length:Int)=C)) (aU:(C != 0)=true):
  Calls Tryz.prog 71 #[.agg cs.toArray,.agg ds.toArray] w (Ret fun v w'=>v=.int .i64 (C)/\Below w.heap.size w w'):=by
 obtain⟨w1,w2,A1,c1,A5,c5,B1,d1,B2,d2,B3,d3,B4,d4,ns,ni,nt,nb,na,ng,kq,H⟩:=Dj h U a4 a5 V;generalize cs.toArray=pc at*;generalize ds.toArray=qc at*;clear h U a4 a5 V;obtain⟨ab,aa,aJ,aF,aG,aw⟩:=D7 H;obtain⟨ba,bd,W,b8,d,E,b9,⟨av,ap,aq,ar,au⟩,y,⟨aV,aO,aP,aQ,aR,aS,aT⟩,⟨aW,aX,aY⟩,aZ,b0,b4,b5,b6,b7⟩:=H;have ax:=d.out.b2.cell;have aB:=d.out.b3.cell;have aK:=Ah d.out.b2 y.out;rw [<-E.out.1] at a2;rw [<-E.out.2.2.2.2.2.1] at hg;have aH:¬(0:Int)<(ng:Int):=by omega
 clear hg;have be:(kq==1)=true:=by rw [E.out.2.2.2.2.2.2,a8.out];rfl
 go_enter Tryz.func71,Tryz.ntmps71
 go_wp2_with (first
  | (go_at_call 117;refine Calls.ret (ab _ d) ?_;rintro v w3 ⟨rfl,J⟩;rw [a7.out];have j:=hide (d.out.at J);have ay:=j.out.b2.cell;have aC:=j.out.b3.cell;have aL:=Ah j.out.b2 y.out;have Z:=hide (W.out.trans (J.mono W.out.size));clear J)
  | (go_at_call 118;refine Calls.ret (Da q.name _ (by omega) j.out.tab) ?_;rintro v w4 ⟨rfl,M⟩;rw [a9.out];have l:=hide (j.out.at M);have az:=l.out.b2.cell;have aD:=l.out.b3.cell;have aM:=Ah l.out.b2 y.out;have I:=hide (Z.out.trans (M.mono Z.out.size));clear M)
  | (go_at_call 119;refine Calls.ret (aa _ I.out) ?_;rintro v w5 ⟨rfl,O⟩;rw [a2.out];have G:=hide (l.out.at O);have aA:=G.out.b2.cell;have aE:=G.out.b3.cell;have aN:=Ah G.out.b2 y.out;have a6:=hide (I.out.trans (O.mono I.out.size));clear O))
 go_ret;exact⟨rfl,a6.out⟩
theorem Ub {w:World} {cs ds:List Value} {p:Am} {q:AB} (h:At w w.heap.size cs p) (h':Ba w w.heap.size ds q) (aL:p.Small) (aM:q.Small) (hT:SpOK w) (aG:Hid (protE nameOK p=0)) (aK:Hid (nameOK q.name=true)) (aH:Hid (q.kind=1)) (hg:q.goal.length=0) (am:Hid (Aa q.start (p.states.length:Int)=0)):
  Calls Tryz.prog 71 #[.agg cs.toArray,.agg ds.toArray] w (Ret fun v w'=>v=.int .i64 (propE nameOK p q)/\Below w.heap.size w w'):=by
 obtain⟨w1,w2,A1,c1,A5,c5,B1,d1,B2,d2,B3,d3,B4,d4,ns,ni,nt,nb,na,ng,kq,H⟩:=Dj h h' aL aM hT;generalize cs.toArray=pc at*;generalize ds.toArray=qc at*;clear h h' aL aM hT;obtain⟨be,bd,bN,b4,aF,aB⟩:=D7 H;obtain⟨ci,cj,aC,cg,a4,j,ch,⟨bA,aT,bw,bx,bz⟩,E,⟨c6,bV,bW,bX,bY,bZ,c0⟩,⟨c7,c8,c9⟩,ca,cb,cc,cd,ce,cf⟩:=H;have bC:=a4.out.b2.cell;have bH:=a4.out.b3.cell;have bP:=Ah a4.out.b2 E.out;have hR:=hide (show propE nameOK p q=orE (Ad (!CF p q) 5) (DL p q) from by
  rw [HZ aG.out aK.out aH.out hg,am.out];rfl)
 rw [<-j.out.1] at am;rw [<-j.out.2.2.2.2.2.1] at hg;have bM:¬(0:Int)<(ng:Int):=by omega
 clear hg;have ck:(kq==1)=true:=by rw [j.out.2.2.2.2.2.2,aH.out];rfl
 go_enter Tryz.func71,Tryz.ntmps71
 go_wp2_with (first
  | (go_at_call 117;refine Calls.ret (be _ a4) ?_;rintro v w3 ⟨rfl,ai⟩;rw [aG.out];have a5:=hide (a4.out.at ai);have bD:=a5.out.b2.cell;have bI:=a5.out.b3.cell;have bQ:=Ah a5.out.b2 E.out;have aD:=hide (aC.out.trans (ai.mono aC.out.size));clear ai)
  | (go_at_call 118;refine Calls.ret (Da q.name _ (by omega) a5.out.tab) ?_;rintro v w4 ⟨rfl,aj⟩;rw [aK.out];have a9:=hide (a5.out.at aj);have bE:=a9.out.b2.cell;have bJ:=a9.out.b3.cell;have bR:=Ah a9.out.b2 E.out;have ag:=hide (aD.out.trans (aj.mono aD.out.size));clear aj)
  | (go_at_call 119;refine Calls.ret (bd _ ag.out) ?_;rintro v w5 ⟨rfl,ak⟩;rw [am.out];have aa:=hide (a9.out.at ak);have bF:=aa.out.b2.cell;have bK:=aa.out.b3.cell;have bS:=Ah aa.out.b2 E.out;have aE:=hide (ag.out.trans (ak.mono ag.out.size));clear ak))
 go_loopw [67] (fun ii wr=>∃(k:Nat),ii=.int .i64 (k:Int)/\k<=nt/\Hid (Below w5.heap.size w5 wr)/\Hid ((q.start.take k).all (fun x=>decide (x∈p.initial))=true)) (fun ii _=>nt - (intOf ii).toNat)
 case atStart=>exact⟨0,rfl,Nat.zero_le _,Below.refl _ _,by show _=_;simp⟩
 case round=>
  obtain⟨k,rfl,hk,al,hE⟩:=hrel;have a6:=hide (aa.out.at al.out);have bG:=a6.out.b2.cell;have bL:=a6.out.b3.cell;have bT:=Ah a6.out.b2 E.out;have O:=hide (aE.out.trans (al.out.mono aE.out.size));by_cases bU:k<nt
  ·obtain⟨b,co,x,hA,bB,hx,Z⟩:=(aT.out.keep (w':=wr) (B':=w.heap.size) (fun _ hp=>O.out.cell hp) (Nat.le_refl _)).at (k:=k) (by have:=j.out.2.2.1;omega);have d0:=Z 0 (by omega);simp only [Nat.add_zero,Nat.mul_one,Ai] at d0;have aO:=hide hx;subst hA;clear Z hx;have Z:=hide (b4 _ x O.out);cases hv:decide (x∈p.initial)
   ·have ba:=hide (show CF p q=false from by
     unfold CF;rw [List.all_eq_false];exact⟨x,List.mem_of_getElem? aO.out,by rw [hv];decide⟩)
    rw [hv] at Z;clear hv;go_wp2_with (go_at_call 74;refine Z.out.mono ?_;rintro r w' ⟨rfl,rfl⟩);go_ret;exact⟨congrArg (Value.int .i64) (hR.out.trans (by rw [ba.out];rfl)).symm,O.out⟩
   ·have b9:=hide (Cq (p:=fun x=>decide (x∈p.initial)) aO.out hE.out hv);rw [hv] at Z;clear hv;go_wp2_with (go_at_call 74;refine Z.out.mono ?_;rintro r w' ⟨rfl,rfl⟩);exact⟨⟨k+1,by go_num,by omega,al.out,b9.out⟩,by simp [intOf];omega⟩
  ·have aU:=hide (show CF p q=true from by
    have h1:=j.out.2.2.1;have h2:=hE.out
    rwa [List.take_of_length_le (by omega)] at h2)
   have az:=hide (show propE nameOK p q=DL p q from by rw [hR.out,aU.out];rfl);clear hE;cases aJ:((nb:Int)==0)
   case true=>
    go_wp2_with fail;have J:=hide (a6.out.at (Ap wr));have aV:=J.out.b2.cell;have aY:=J.out.b3.cell;have b5:=Ah J.out.b2 E.out;have U:=hide (O.out.trans ((Ap wr).mono O.out.size));refine Reg.cI [0,1,3,7,15,31,63,127,255,511,1023,0,2048,6144,14336,32767,0,65536,0,524287,0,0,2097152,8388607,16777215,33554431,67108863] [0,1,2,3,4,5,6,7,8,9,11,12,13,14,16,17,18,20,21,22,10,15,19,23,24,25,26] ?_;refine Reg.wI [0,1,2,3,4,5,6,7,8,9,11,12,13,14,16,17,18,20,21,22] [10,15,19,23,24,25,26] rfl fun Qf d=>?_;go_wp2_with fail;first|refine d _ _ ⟨rfl,?_⟩|refine⟨rfl,?_⟩|refine d _ _ ⟨by simp [Reg.fineT,Reg.intOp,Region.wanted,yielded,Reg.intFine,Reg.isInt,Act.eval],?_⟩
    (try clear d);refine Reg.aI 10 [15,19,23,24,25,26] [12,17,20,22] rfl fun Qf d=>?_;simp only [gT,gS,gZ];go_wp2_with (go_at_call 121;refine Calls.ret (DX _ _ _) ?_;rintro r w' ⟨⟨G,rfl,aq⟩,rfl⟩);first|refine d _ _ ⟨Reg.same_below (Below.refl _ _) [12,17,20,22] rfl,?_⟩|refine⟨Reg.same_below (Below.refl _ _) [12,17,20,22] rfl,?_⟩
    (try clear d);refine Reg.aI 15 [19,23,24,25,26] [17,20,22] rfl fun Qf d=>?_;simp only [gT,gS,gZ];go_wp2_with (go_at_call 121;refine Calls.ret (DX _ _ _) ?_;rintro r w' ⟨⟨I,rfl,ar⟩,rfl⟩);first|refine d _ _ ⟨Reg.same_below (Below.refl _ _) [17,20,22] rfl,?_⟩|refine⟨Reg.same_below (Below.refl _ _) [17,20,22] rfl,?_⟩
    (try clear d);refine Reg.aI 19 [23,24,25,26] [20,22] rfl fun Qf d=>?_;simp only [gT,gS,gZ];go_wp2_with (go_at_call 122;refine Calls.ret (aF _ U.out) ?_;rintro v w7 ⟨rfl,C⟩);first|refine d _ _ ⟨Reg.same_below (C) [20,22] rfl,?_⟩|refine⟨Reg.same_below (C) [20,22] rfl,?_⟩
    (try clear d);have y:=hide (J.out.at C);have aW:=y.out.b2.cell;have aZ:=y.out.b3.cell;have b6:=Ah y.out.b2 E.out;have V:=hide (U.out.trans (C.mono U.out.size));clear C;refine Reg.aI 23 [24,25,26] [] rfl fun Qf d=>?_;simp only [gT,gS,gZ];go_wp2_with (go_at_call 123;refine Calls.ret (aB _ y V.out) ?_;rintro v w8 ⟨rfl,W⟩);first|refine d _ _ ⟨Reg.nm,?_⟩|refine⟨Reg.nm,?_⟩
    (try clear d);have M:=hide (y.out.at W);have aX:=M.out.b2.cell;have b0:=M.out.b3.cell;have b7:=Ah M.out.b2 E.out;have a7:=hide (V.out.trans (W.mono V.out.size));clear W;have ao:=hide (show DL p q=Aj id [G,I,Aj (AV (ns:Int)) q.bad,BA p.topo (ns:Int) q.adj] from by
     unfold DL;simp only [Aj,id_eq,Bk];have e1:G=Ad (q.bad.isEmpty&&q.adj.isEmpty) 1:=by
      rw [aq.out];congr 1;rw [Bv q.bad,Bv q.adj,<-j.out.2.2.2.1,<-j.out.2.2.2.2.1,<-EF];rw [aJ];simp only [EF,Bool.true_and]
     have e2:I=Ad (decide (3<q.bad.length)) 4:=by
      rw [ar.out];congr 1;rw [<-j.out.2.2.2.1]
      first
       | rfl
       | (rw [decide_eq_decide];omega)
     rw [e1,e2,<-j.out.1]
    )
    obtain⟨wz,bf,a8,a3,ap⟩:=Ae w8 #[.int .i64 (G),.int .i64 (I),.int .i64 (Aj (AV (ns:Int)) q.bad),.int .i64 (BA p.topo (ns:Int) q.adj)] 36;have af:=hide (Ch (l:=[G,I,Aj (AV (ns:Int)) q.bad,BA p.topo (ns:Int) q.adj]) a3 (by simp));have ah:=hide (a7.out.trans (a8.mono a7.out.size));clear a3 ap a8;refine Reg.wI [24] [25,26] rfl fun Qf d=>?_;go_wp2_with fail;first|refine d _ _ ⟨rfl,?_⟩|refine⟨rfl,?_⟩|refine d _ _ ⟨by simp [Reg.fineT,Reg.intOp,Region.wanted,yielded,Reg.intFine,Reg.isInt,Act.eval],?_⟩
    (try clear d);refine Reg.aI 25 [26] [] rfl fun Qf d=>?_;simp only [gT,gS,gZ];go_wp2_with (go_at_call 120;refine(Ci (l:=[G,I,Aj (AV (ns:Int)) q.bad,BA p.topo (ns:Int) q.adj]) af.out).mono ?_;rintro e w' ⟨rfl,rfl⟩);first|refine d _ _ ⟨Reg.nm,?_⟩|refine⟨Reg.nm,?_⟩
    (try clear d);refine Reg.wI [26] [] rfl fun Qf d=>?_;go_wp2_with fail;first|refine d _ _ ⟨rfl,?_⟩|refine⟨rfl,?_⟩|refine d _ _ ⟨by simp [Reg.fineT,Reg.intOp,Region.wanted,yielded,Reg.intFine,Reg.isInt,Act.eval],?_⟩
    (try clear d);first|refine Reg.restI_end ?_|skip
    go_wp2_with fail;go_ret;exact⟨congrArg (Value.int .i64) (az.out.trans ao.out).symm,ah.out⟩
   case false=>
    go_wp2_with fail;have J:=hide (a6.out.at (Ap wr));have aV:=J.out.b2.cell;have aY:=J.out.b3.cell;have b5:=Ah J.out.b2 E.out;have U:=hide (O.out.trans ((Ap wr).mono O.out.size));refine Reg.cI [0,1,3,7,15,31,63,127,255,511,1023,0,2048,6144,14336,32767,0,65536,0,524287,0,0,2097152,8388607,16777215,33554431,67108863] [0,1,2,3,4,5,6,7,8,9,11,12,13,14,16,17,18,20,21,22,10,15,19,23,24,25,26] ?_;refine Reg.wI [0,1,2,3,4,5,6,7,8,9,11,12,13,14,16,17,18,20,21,22] [10,15,19,23,24,25,26] rfl fun Qf d=>?_;go_wp2_with fail;first|refine d _ _ ⟨rfl,?_⟩|refine⟨rfl,?_⟩|refine d _ _ ⟨by simp [Reg.fineT,Reg.intOp,Region.wanted,yielded,Reg.intFine,Reg.isInt,Act.eval],?_⟩
    (try clear d);refine Reg.aI 10 [15,19,23,24,25,26] [12,17,20,22] rfl fun Qf d=>?_;simp only [gT,gS,gZ];go_wp2_with (go_at_call 121;refine Calls.ret (DX _ _ _) ?_;rintro r w' ⟨⟨G,rfl,aq⟩,rfl⟩);first|refine d _ _ ⟨Reg.same_below (Below.refl _ _) [12,17,20,22] rfl,?_⟩|refine⟨Reg.same_below (Below.refl _ _) [12,17,20,22] rfl,?_⟩
    (try clear d);refine Reg.aI 15 [19,23,24,25,26] [17,20,22] rfl fun Qf d=>?_;simp only [gT,gS,gZ];go_wp2_with (go_at_call 121;refine Calls.ret (DX _ _ _) ?_;rintro r w' ⟨⟨I,rfl,ar⟩,rfl⟩);first|refine d _ _ ⟨Reg.same_below (Below.refl _ _) [17,20,22] rfl,?_⟩|refine⟨Reg.same_below (Below.refl _ _) [17,20,22] rfl,?_⟩
    (try clear d);refine Reg.aI 19 [23,24,25,26] [20,22] rfl fun Qf d=>?_;simp only [gT,gS,gZ];go_wp2_with (go_at_call 122;refine Calls.ret (aF _ U.out) ?_;rintro v w7 ⟨rfl,C⟩);first|refine d _ _ ⟨Reg.same_below (C) [20,22] rfl,?_⟩|refine⟨Reg.same_below (C) [20,22] rfl,?_⟩
    (try clear d);have y:=hide (J.out.at C);have aW:=y.out.b2.cell;have aZ:=y.out.b3.cell;have b6:=Ah y.out.b2 E.out;have V:=hide (U.out.trans (C.mono U.out.size));clear C;refine Reg.aI 23 [24,25,26] [] rfl fun Qf d=>?_;simp only [gT,gS,gZ];go_wp2_with (go_at_call 123;refine Calls.ret (aB _ y V.out) ?_;rintro v w8 ⟨rfl,W⟩);first|refine d _ _ ⟨Reg.nm,?_⟩|refine⟨Reg.nm,?_⟩
    (try clear d);have M:=hide (y.out.at W);have aX:=M.out.b2.cell;have b0:=M.out.b3.cell;have b7:=Ah M.out.b2 E.out;have a7:=hide (V.out.trans (W.mono V.out.size));clear W;have ao:=hide (show DL p q=Aj id [G,I,Aj (AV (ns:Int)) q.bad,BA p.topo (ns:Int) q.adj] from by
     unfold DL;simp only [Aj,id_eq,Bk];have e1:G=Ad (q.bad.isEmpty&&q.adj.isEmpty) 1:=by
      rw [aq.out];congr 1;rw [Bv q.bad,Bv q.adj,<-j.out.2.2.2.1,<-j.out.2.2.2.2.1,<-EF];rw [aJ];rfl
     have e2:I=Ad (decide (3<q.bad.length)) 4:=by
      rw [ar.out];congr 1;rw [<-j.out.2.2.2.1]
      first
       | rfl
       | (rw [decide_eq_decide];omega)
     rw [e1,e2,<-j.out.1]
    )
    obtain⟨wz,bf,a8,a3,ap⟩:=Ae w8 #[.int .i64 (G),.int .i64 (I),.int .i64 (Aj (AV (ns:Int)) q.bad),.int .i64 (BA p.topo (ns:Int) q.adj)] 36;have af:=hide (Ch (l:=[G,I,Aj (AV (ns:Int)) q.bad,BA p.topo (ns:Int) q.adj]) a3 (by simp));have ah:=hide (a7.out.trans (a8.mono a7.out.size));clear a3 ap a8;refine Reg.wI [24] [25,26] rfl fun Qf d=>?_;go_wp2_with fail;first|refine d _ _ ⟨rfl,?_⟩|refine⟨rfl,?_⟩|refine d _ _ ⟨by simp [Reg.fineT,Reg.intOp,Region.wanted,yielded,Reg.intFine,Reg.isInt,Act.eval],?_⟩
    (try clear d);refine Reg.aI 25 [26] [] rfl fun Qf d=>?_;simp only [gT,gS,gZ];go_wp2_with (go_at_call 120;refine(Ci (l:=[G,I,Aj (AV (ns:Int)) q.bad,BA p.topo (ns:Int) q.adj]) af.out).mono ?_;rintro e w' ⟨rfl,rfl⟩);first|refine d _ _ ⟨Reg.nm,?_⟩|refine⟨Reg.nm,?_⟩
    (try clear d);refine Reg.wI [26] [] rfl fun Qf d=>?_;go_wp2_with fail;first|refine d _ _ ⟨rfl,?_⟩|refine⟨rfl,?_⟩|refine d _ _ ⟨by simp [Reg.fineT,Reg.intOp,Region.wanted,yielded,Reg.intFine,Reg.isInt,Act.eval],?_⟩
    (try clear d);first|refine Reg.restI_end ?_|skip
    go_wp2_with fail;go_ret;exact⟨congrArg (Value.int .i64) (az.out.trans ao.out).symm,ah.out⟩
end Go.Proofs.YtfcfpoemojjglaaGreatDoor.K
namespace Go.Proofs.YtfcfpoemojjglaaGreatDoor.K
open Go.RowKit
attribute [-go_sem] loadCellsFrom storeCells
theorem Uc {w:World} {cs ds:List Value} {p:Am} {q:AB} (h:At w w.heap.size cs p) (U:Ba w w.heap.size ds q) (a6:p.Small) (a7:q.Small) (V:SpOK w) (aa:Hid (protE nameOK p=0)) (ab:Hid (nameOK q.name=true)) (a5:Hid (q.kind=2)) (hg:q.bad.length=0) (a4:q.adj.length=0) {E:Int} (a2:Hid (Aa q.start (p.states.length:Int)=E)) (aX:(E != 0)=true):
  Calls Tryz.prog 71 #[.agg cs.toArray,.agg ds.toArray] w (Ret fun v w'=>v=.int .i64 (E)/\Below w.heap.size w w'):=by
 obtain⟨w1,w2,A1,c1,A5,c5,B1,d1,B2,d2,B3,d3,B4,d4,ns,ni,nt,nb,na,ng,kq,H⟩:=Dj h U a6 a7 V;generalize cs.toArray=pc at*;generalize ds.toArray=qc at*;clear h U a6 a7 V;obtain⟨ae,ad,aM,aH,aJ,ay⟩:=D7 H;obtain⟨bf,bg,W,bd,j,d,be,⟨ax,ar,au,av,aw⟩,C,⟨aY,aR,aS,aT,aU,aV,aW⟩,⟨aZ,b0,b4⟩,b5,b6,b7,b8,b9,ba⟩:=H;have az:=j.out.b2.cell;have aD:=j.out.b3.cell;have aN:=Ah j.out.b2 C.out;rw [<-d.out.1] at a2;rw [<-d.out.2.2.2.1] at hg;rw [<-d.out.2.2.2.2.1] at a4;have aK:¬(0:Int)<(nb:Int):=by omega
 have aL:¬(0:Int)<(na:Int):=by omega
 clear hg a4;have bh:(kq==1)=false:=by rw [d.out.2.2.2.2.2.2,a5.out];rfl
 have bi:(kq != 2)=false:=by rw [d.out.2.2.2.2.2.2,a5.out];rfl
 go_enter Tryz.func71,Tryz.ntmps71
 go_wp2_with (first
  | (go_at_call 117;refine Calls.ret (ae _ j) ?_;rintro v w3 ⟨rfl,J⟩;rw [aa.out];have l:=hide (j.out.at J);have aA:=l.out.b2.cell;have aE:=l.out.b3.cell;have aO:=Ah l.out.b2 C.out;have Z:=hide (W.out.trans (J.mono W.out.size));clear J)
  | (go_at_call 118;refine Calls.ret (Da q.name _ (by omega) l.out.tab) ?_;rintro v w4 ⟨rfl,M⟩;rw [ab.out];have y:=hide (l.out.at M);have aB:=y.out.b2.cell;have aF:=y.out.b3.cell;have aP:=Ah y.out.b2 C.out;have I:=hide (Z.out.trans (M.mono Z.out.size));clear M)
  | (go_at_call 119;refine Calls.ret (ad _ I.out) ?_;rintro v w5 ⟨rfl,O⟩;rw [a2.out];have G:=hide (y.out.at O);have aC:=G.out.b2.cell;have aG:=G.out.b3.cell;have aQ:=Ah G.out.b2 C.out;have a9:=hide (I.out.trans (O.mono I.out.size));clear O))
 go_ret;exact⟨rfl,a9.out⟩
theorem Ud {w:World} {cs ds:List Value} {p:Am} {q:AB} (h:At w w.heap.size cs p) (h':Ba w w.heap.size ds q) (au:p.Small) (av:q.Small) (hT:SpOK w) (aq:Hid (protE nameOK p=0)) (ar:Hid (nameOK q.name=true)) (ae:Hid (q.kind=2)) (hg:q.bad.length=0) (ad:q.adj.length=0) (aa:Hid (Aa q.start (p.states.length:Int)=0)):
  Calls Tryz.prog 71 #[.agg cs.toArray,.agg ds.toArray] w (Ret fun v w'=>v=.int .i64 (propE nameOK p q)/\Below w.heap.size w w'):=by
 obtain⟨w1,w2,A1,c1,A5,c5,B1,d1,B2,d2,B3,d3,B4,d4,ns,ni,nt,nb,na,ng,kq,H⟩:=Dj h h' au av hT;generalize cs.toArray=pc at*;generalize ds.toArray=qc at*;clear h h' au av hT;obtain⟨aR,aQ,aL,aJ,bw,bg⟩:=D7 H;obtain⟨c6,c7,al,bZ,G,j,c0,⟨bf,aD,ba,bd,be⟩,C,⟨bP,bJ,bK,bL,bM,bN,bO⟩,⟨bQ,bR,bS⟩,bT,bU,bV,bW,bX,bY⟩:=H;have bi:=G.out.b2.cell;have bp:=G.out.b3.cell;have bB:=Ah G.out.b2 C.out;have hR:=hide (show propE nameOK p q=orE (Ad (!CF p q) 5) (Ez p q) from by
  rw [H7 aq.out ar.out ae.out hg ad,aa.out];rfl)
 rw [<-j.out.1] at aa;rw [<-j.out.2.2.2.1] at hg;rw [<-j.out.2.2.2.2.1] at ad;have bx:¬(0:Int)<(nb:Int):=by omega
 have bz:¬(0:Int)<(na:Int):=by omega
 clear hg ad;have c9:(kq==1)=false:=by rw [j.out.2.2.2.2.2.2,ae.out];rfl
 have ca:(kq != 2)=false:=by rw [j.out.2.2.2.2.2.2,ae.out];rfl
 go_enter Tryz.func71,Tryz.ntmps71
 go_wp2_with (first
  | (go_at_call 117;refine Calls.ret (aR _ G) ?_;rintro v w3 ⟨rfl,a6⟩;rw [aq.out];have I:=hide (G.out.at a6);have bj:=I.out.b2.cell;have bq:=I.out.b3.cell;have bC:=Ah I.out.b2 C.out;have am:=hide (al.out.trans (a6.mono al.out.size));clear a6)
  | (go_at_call 118;refine Calls.ret (Da q.name _ (by omega) I.out.tab) ?_;rintro v w4 ⟨rfl,a7⟩;rw [ar.out];have O:=hide (I.out.at a7);have bk:=O.out.b2.cell;have br:=O.out.b3.cell;have bD:=Ah O.out.b2 C.out;have a4:=hide (am.out.trans (a7.mono am.out.size));clear a7)
  | (go_at_call 119;refine Calls.ret (aQ _ a4.out) ?_;rintro v w5 ⟨rfl,a8⟩;rw [aa.out];have U:=hide (O.out.at a8);have bl:=U.out.b2.cell;have bs:=U.out.b3.cell;have bE:=Ah U.out.b2 C.out;have an:=hide (a4.out.trans (a8.mono a4.out.size));clear a8))
 go_loopw [67] (fun ii wr=>∃(k:Nat),ii=.int .i64 (k:Int)/\k<=nt/\Hid (Below w5.heap.size w5 wr)/\Hid ((q.start.take k).all (fun x=>decide (x∈p.initial))=true)) (fun ii _=>nt - (intOf ii).toNat)
 case atStart=>exact⟨0,rfl,Nat.zero_le _,Below.refl _ _,by show _=_;simp⟩
 case round=>
  obtain⟨k,rfl,hk,a9,hE⟩:=hrel;have V:=hide (U.out.at a9.out);have bm:=V.out.b2.cell;have bt:=V.out.b3.cell;have bF:=Ah V.out.b2 C.out;have J:=hide (an.out.trans (a9.out.mono an.out.size));by_cases bI:k<nt
  ·obtain⟨b,cd,x,hA,bh,hx,y⟩:=(aD.out.keep (w':=wr) (B':=w.heap.size) (fun _ hp=>J.out.cell hp) (Nat.le_refl _)).at (k:=k) (by have:=j.out.2.2.1;omega);have d0:=y 0 (by omega);simp only [Nat.add_zero,Nat.mul_one,Ai] at d0;have ax:=hide hx;subst hA;clear y hx;have y:=hide (aJ _ x J.out);cases E:decide (x∈p.initial)
   ·have aP:=hide (show CF p q=false from by
     unfold CF;rw [List.all_eq_false];exact⟨x,List.mem_of_getElem? ax.out,by rw [E];decide⟩)
    rw [E] at y;clear E;go_wp2_with (go_at_call 74;refine y.out.mono ?_;rintro r w' ⟨rfl,rfl⟩);go_ret;exact⟨congrArg (Value.int .i64) (hR.out.trans (by rw [aP.out];rfl)).symm,J.out⟩
   ·have aO:=hide (Cq (p:=fun x=>decide (x∈p.initial)) ax.out hE.out E);rw [E] at y;clear E;go_wp2_with (go_at_call 74;refine y.out.mono ?_;rintro r w' ⟨rfl,rfl⟩);exact⟨⟨k+1,by go_num,by omega,a9.out,aO.out⟩,by simp [intOf];omega⟩
  ·have aG:=hide (show CF p q=true from by
    have h1:=j.out.2.2.1;have h2:=hE.out
    rwa [List.take_of_length_le (by omega)] at h2)
   have aE:=hide (show propE nameOK p q=Ez p q from by rw [hR.out,aG.out];rfl);clear hE;go_wp2_with fail;have W:=hide (V.out.at (Ap wr));have bn:=W.out.b2.cell;have bu:=W.out.b3.cell;have bG:=Ah W.out.b2 C.out;have a5:=hide (J.out.trans ((Ap wr).mono J.out.size));refine Reg.cI [0,1,0,7,0,16,48,112,255,511,1023,2047] [0,1,2,4,5,6,7,3,8,9,10,11] ?_;refine Reg.wI [0,1,2,4,5,6,7] [3,8,9,10,11] rfl fun Qf d=>?_;go_wp2_with fail;first|refine d _ _ ⟨rfl,?_⟩|refine⟨rfl,?_⟩|refine d _ _ ⟨by simp [Reg.fineT,Reg.intOp,Region.wanted,yielded,Reg.intFine,Reg.isInt,Act.eval],?_⟩
   (try clear d);refine Reg.aI 3 [8,9,10,11] [5] rfl fun Qf d=>?_;simp only [gT,gS,gZ];go_wp2_with (go_at_call 119;refine Calls.ret (aL _ a5.out) ?_;rintro v w7 ⟨rfl,M⟩);first|refine d _ _ ⟨Reg.same_below (M) [5] rfl,?_⟩|refine⟨Reg.same_below (M) [5] rfl,?_⟩
   (try clear d);have a3:=hide (W.out.at M);have bo:=a3.out.b2.cell;have bv:=a3.out.b3.cell;have bH:=Ah a3.out.b2 C.out;have ao:=hide (a5.out.trans (M.mono a5.out.size));clear M;refine Reg.aI 8 [9,10,11] [] rfl fun Qf d=>?_;simp only [gT,gS,gZ];go_wp2_with (go_at_call 121;refine Calls.ret (DX _ _ _) ?_;rintro r w' ⟨⟨Z,rfl,aS⟩,rfl⟩);first|refine d _ _ ⟨Reg.nm,?_⟩|refine⟨Reg.nm,?_⟩
   (try clear d);have aK:=hide (show Ez p q=Aj id [Aa q.goal (ns:Int),Z] from by
    unfold Ez;simp only [Aj,id_eq,Bk];rw [aS.out,Bv q.goal,<-j.out.2.2.2.2.2.1,<-j.out.1];simp only [EF]
   )
   obtain⟨wz,c8,ap,ai,aM⟩:=Ae w7 #[.int .i64 (Aa q.goal (ns:Int)),.int .i64 (Z)] 36;have aF:=hide (Ch (l:=[Aa q.goal (ns:Int),Z]) ai (by simp));have aH:=hide (ao.out.trans (ap.mono ao.out.size));clear ai aM ap;refine Reg.wI [9] [10,11] rfl fun Qf d=>?_;go_wp2_with fail;first|refine d _ _ ⟨rfl,?_⟩|refine⟨rfl,?_⟩|refine d _ _ ⟨by simp [Reg.fineT,Reg.intOp,Region.wanted,yielded,Reg.intFine,Reg.isInt,Act.eval],?_⟩
   (try clear d);refine Reg.aI 10 [11] [] rfl fun Qf d=>?_;simp only [gT,gS,gZ];go_wp2_with (go_at_call 120;refine(Ci (l:=[Aa q.goal (ns:Int),Z]) aF.out).mono ?_;rintro e w' ⟨rfl,rfl⟩);first|refine d _ _ ⟨Reg.nm,?_⟩|refine⟨Reg.nm,?_⟩
   (try clear d);refine Reg.wI [11] [] rfl fun Qf d=>?_;go_wp2_with fail;first|refine d _ _ ⟨rfl,?_⟩|refine⟨rfl,?_⟩|refine d _ _ ⟨by simp [Reg.fineT,Reg.intOp,Region.wanted,yielded,Reg.intFine,Reg.isInt,Act.eval],?_⟩
   (try clear d);first|refine Reg.restI_end ?_|skip
   go_wp2_with fail;go_ret;exact⟨congrArg (Value.int .i64) (aE.out.trans aK.out).symm,aH.out⟩
end Go.Proofs.YtfcfpoemojjglaaGreatDoor.K
