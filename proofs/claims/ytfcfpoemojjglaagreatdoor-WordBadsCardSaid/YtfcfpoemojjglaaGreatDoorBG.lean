/-
  Part BG of a proof.
-/
import Derived.Test.YtfcfpoemojjglaaGreatDoorPA
import Derived.Test.YtfcfpoemojjglaaGreatDoorHF
import Derived.Test.YtfcfpoemojjglaaGreatDoorBF
import Derived.Test.YtfcfpoemojjglaaGreatDoorFB
import Derived.Test.YtfcfpoemojjglaaGreatDoorEG
import Derived.Test.YtfcfpoemojjglaaGreatDoorUB
import Derived.Test.YtfcfpoemojjglaaGreatDoorCX
set_option maxHeartbeats 16000000
set_option maxRecDepth 100000
set_option linter.unusedVariables false
set_option linter.unusedSimpArgs false
namespace Go.Proofs.YtfcfpoemojjglaaGreatDoor
open Go.RowKit
open K (Am AB At Ba PQX Ah DY Gr)
attribute [-go_sem] loadCellsFrom
set_option maxHeartbeats 16000000
set_option maxRecDepth 100000
theorem aB7 {w:World} {cs ds:List Value} {p:Am} {q:AB} (h:At w w.heap.size cs p) (h':Ba w w.heap.size ds q) (hf:p.Fits) (hg:q.Fits) (hT:K.SpOK w) (hP:BV w):
  Calls Tryz.prog 4 #[.agg cs.toArray,.agg ds.toArray] w (Ret fun v w'=>v=.bool true/\Below w.heap.size w w'):=by
 have ab:=h.rules_at.1;obtain⟨B1,d1,B2,d2,B3,d3,B4,d4,ad,-⟩:=h'.cells;obtain⟨w1,bo,y,af,aN⟩:=Ae w cs.toArray 27;obtain⟨w2,bp,a6,ag,aO⟩:=Ae w1 ds.toArray 30;have d:=hide (y.trans (a6.mono y.size));have G:=hide (show PQX w2 w.heap.size w1.heap.size cs.toArray ds.toArray p q from⟨h.keep (fun _ I=>d.out.cell I) d.out.size,h'.keep (fun _ I=>d.out.cell I) d.out.size,af.below a6,ag,hT.below d.out⟩);generalize cs.toArray=pc at*;generalize ds.toArray=qc at*;have aw:Hid (Calls Tryz.prog 9 #[.agg pc,.agg qc] w2 (Ret fun v w'=>DY v (p.Small/\q.Small)/\Below w2.heap.size w2 w')):=hide (Gr (cs:=pc.toList) (ds:=qc.toList) G.out.pr G.out.qr hf hg);have aA:=hide ab;have aB:=hide ad;have aP:=Ah G.out.b2 ab;have aS:=Ah G.out.b3 ad;have U:=hide hP;clear h h' y a6 af ag aN aO hf hg ab ad hT hP;go_enter Tryz.func4,Tryz.ntmps4;go_wp2_with fail;refine Calls.ret aw.out ?_;rintro v w3 ⟨⟨b1,rfl,y⟩,a7⟩;have aM:=hide y;have V:=hide (G.out.at a7);have l:=hide (d.out.trans (a7.mono d.out.size));clear y a7 aP aS aw;cases b1
 case true=>
  go_wp2_with fail;refine Calls.ret (W7 (U.out.below l.out)) ?_;rintro v w4 ⟨rfl,C⟩;have aK:=hide (l.out.trans (C.mono l.out.size));clear C;go_wp2_with fail;go_ret;exact⟨rfl,aK.out⟩
 have W:=hide (aM.out rfl);obtain⟨O,aa⟩:∃e,Hid (K.checkW K.nameOK p q=e):=⟨_,rfl⟩;have aY:Hid (∀wx,Hid (PQX wx w.heap.size w1.heap.size pc qc p q)->Below w.heap.size w wx->Calls Tryz.prog 14 #[.agg pc,.agg qc] wx (Ret fun v w'=>Ej wx O p.states.length (UL p q) v w')):=hide (fun wx j a9=>by
  rw [<-aa.out];exact Vi (cs:=pc.toList) (ds:=qc.toList) j.out.pr j.out.qr W.out.1 W.out.2 j.out.tab (U.out.below a9))
 have aZ:Hid (∀wx,Hid (PQX wx w.heap.size w1.heap.size pc qc p q)->Below w.heap.size w wx->Calls Tryz.prog 15 #[.agg pc,.agg qc] wx (Ret fun v w'=>Ej wx O p.states.length (UL p q) v w')):=hide (fun wx j a9=>by
  rw [<-aa.out];exact aCd (cs:=pc.toList) (ds:=qc.toList) j.out.pr j.out.qr W.out.1 W.out.2 j.out.tab (U.out.below a9))
 have aQ:=Ah V.out.b2 aA.out;have aT:=Ah V.out.b3 aB.out;have bn:(O==O)=true:=by simp
 clear aa;go_wp2_with fail;refine Calls.ret (aY.out _ V l.out) ?_;intro r w4 J;obtain⟨C,mm,dv,rfl,aj,az,-⟩:=J.get;obtain⟨E1,h1,E2,h2,E3,h3,w5,rfl,bq,aq,ah,ak⟩:=Hw aj;have Z:=C.trans (aq.mono C.size);have a4:=hide (l.out.trans (Z.mono l.out.size));have a3:=hide (V.out.at Z);have aR:=Ah a3.out.b2 aA.out;have aU:=Ah a3.out.b3 aB.out;have aX:=hide az;have aG:=hide ah;have aJ:=hide ak;clear J C aj az aq ah ak Z aQ aT;go_wp2_with fail;refine Calls.ret (aZ.out _ a3 a4.out) ?_;intro r w6 J;obtain⟨a8,d2,rfl,al⟩:=aX.out _ _ _ J;obtain⟨G1,g1,G2,g2,G3,g3,M,rfl,br,ar,ai,am⟩:=Hw al;have E:=a8.trans (ar.mono a8.size);have ap:=hide (a4.out.trans (E.mono a4.out.size));have aF:=hide (aG.out.below E);have aH:=hide ai;have aV:(loadCellsFrom ⟨w4.heap.size,0,none⟩ 0 5 #[]).run Tryz.prog M=.ok _ M:=Ah aF.out rfl;have aW:(loadCellsFrom ⟨w6.heap.size,0,none⟩ 0 5 #[]).run Tryz.prog M=.ok _ M:=Ah aH.out rfl;have ae:=SO (aJ.out.keep (w':=M) (fun p I=>E.cell I) E.size) am;rw [decide_eq_true (rfl:mm=mm)] at ae;clear J a8 al ar ai am E aR aU;go_wp2_with fail;refine Calls.ret ae ?_;rintro r w8 ⟨rfl,au⟩;have a5:=hide (ap.out.trans (au.mono ap.out.size));clear au ae aV aW;go_wp2_with fail;refine Calls.ret (W7 (U.out.below a5.out)) ?_;rintro r w9 ⟨rfl,av⟩;have aL:=hide (a5.out.trans (av.mono a5.out.size));clear av;go_wp2_with fail;go_ret;exact⟨rfl,aL.out⟩
end Go.Proofs.YtfcfpoemojjglaaGreatDoor
