/-
  Part CW of a proof.
-/
import Derived.Test.YtfcfpoemojjglaaGreatDoorPA
import Derived.Test.YtfcfpoemojjglaaGreatDoorCU
import Derived.Test.YtfcfpoemojjglaaGreatDoorSO
set_option maxHeartbeats 16000000
set_option maxRecDepth 100000
set_option linter.unusedVariables false
set_option linter.unusedSimpArgs false
namespace Go.Proofs.YtfcfpoemojjglaaGreatDoor.K
open Go.RowKit
attribute [-go_sem] loadCellsFrom storeCells
theorem EN {P:Program} {f:FuncId} {args:Array Value} {w:World} {a b:Int} {K:World->Prop} (h:Calls P f args w (Ret fun v w'=>v=.int .i64 a/\K w')) (e:b=a):Calls P f args w (Ret fun v w'=>v=.int .i64 b/\K w'):=by
 subst e;exact h
theorem aCc {w:World} {cs ds:List Value} {p:Am} {q:AB} (h:At w w.heap.size cs p) (l:Ba w w.heap.size ds q) (C:p.Small) (E:q.Small) (y:SpOK w):
  Calls Tryz.prog 71 #[.agg cs.toArray,.agg ds.toArray] w (Ret fun v w'=>v=.int .i64 (propE nameOK p q)/\Below w.heap.size w w'):=by
 by_cases d:protE nameOK p=0
 case neg=>exact EN (T4 h l C E y (hide rfl) (by simpa using d)) (Ky d)
 cases j:nameOK q.name with
 | false=>exact EN (T5 h l C E y d j) (Kx d j)
 | true=>
  by_cases k1:q.kind=1
  ·by_cases M:q.goal.length=0
   ·by_cases G:Aa q.start (p.states.length:Int)=0
    ·exact Ub h l C E y d j k1 M G
    ·exact EN (Ua h l C E y d j k1 M (hide rfl) (by simpa using G)) (by rw [HZ d j k1 M,BF G])
   ·exact EN (T7 h l C E y d j k1 M) (Kv d j k1 M)
  ·by_cases k2:q.kind=2
   ·by_cases I:q.bad.length=0
    ·by_cases J:q.adj.length=0
     ·by_cases G:Aa q.start (p.states.length:Int)=0
      ·exact Ud h l C E y d j k2 I J G
      ·exact EN (Uc h l C E y d j k2 I J (hide rfl) (by simpa using G)) (by rw [H7 d j k2 I J,BF G])
     ·exact EN (T9 h l C E y d j k2 I J) (GJ d j k2 (.inr J))
    ·exact EN (T8 h l C E y d j k2 I) (GJ d j k2 (.inl I))
   ·exact EN (T6 h l C E y d j k1 k2) (Kw d j k1 k2)
end Go.Proofs.YtfcfpoemojjglaaGreatDoor.K
namespace Go.Proofs.YtfcfpoemojjglaaGreatDoor.K
open Go.RowKit
attribute [-go_sem] loadCellsFrom storeCells
def checkW (ok:ByteArray->Bool) (p:Am) (q:AB):Int:=orE (propE ok p q) (Ad (!(p.topo==2||p.topo==3)||q.kind != 1) 7)
theorem check_any {w:World} {cs ds:List Value} {p:Am} {q:AB} (h:At w w.heap.size cs p) (J:Ba w w.heap.size ds q) (a9:p.Small) (al:q.Small) (hT:SpOK w):
  Calls Tryz.prog 32 #[.agg cs.toArray,.agg ds.toArray] w (Ret fun v w'=>v=.int .i64 (checkW nameOK p q)/\Below w.heap.size w w'):=by
 obtain⟨B1,d1,B2,d2,B3,d3,B4,d4,ak,aB,aC,aD,aE,aF,a8,k1,k2,k3,k4⟩:=J.cells;obtain⟨A1,c1,A2,c2,A3,c3,A4,c4,A5,c5,A6,c6,A7,c7,a7,ax,ay,-⟩:=h.cells;obtain⟨w1,b6,U,aa,ar⟩:=Ae w cs.toArray 27;obtain⟨w2,b7,V,ab,au⟩:=Ae w1 ds.toArray 30;have j:=hide (U.trans (V.mono U.size));have E:=hide (show PQX w2 w.heap.size w1.heap.size cs.toArray ds.toArray p q from⟨h.keep (fun _ hp=>j.out.cell hp) j.out.size,J.keep (fun _ hp=>j.out.cell hp) j.out.size,aa.below V,ab,hT.below j.out⟩);generalize az:cs.toArray=pc at*;generalize aG:ds.toArray=qc at*;obtain⟨y,a3⟩:∃e,Hid (propE nameOK p q=e):=⟨_,rfl⟩;have am:∀wx,Hid (PQX wx w.heap.size w1.heap.size pc qc p q)->Calls Tryz.prog 71 #[.agg pc,.agg qc] wx (Ret fun v w'=>v=.int .i64 y/\Below wx.heap.size wx w'):=fun wx l=>by
  rw [<-a3.out];exact aCc l.out.pr l.out.qr a9 al l.out.tab
 have aH:=hide am;have ah:protE nameOK p=0->∀wx,Hid (PQX wx w.heap.size w1.heap.size pc qc p q)->Calls Tryz.prog 54 #[.agg pc] wx (Ret fun v w'=>v=.int .i64 (Ad (!(p.topo==2||p.topo==3)) 7)/\Below wx.heap.size wx w'):=fun he wx l=>P9 l.out.pr a9 l.out.tab he;have ai:=hide ah;have b0:=Ah E.out.b2 a7;have b5:=Ah E.out.b3 ak;obtain⟨G,a5⟩:∃n,n=q.kind:=⟨_,rfl⟩;rw [<-a5] at aC;obtain⟨I,a2⟩:∃b,b=(p.topo==2||p.topo==3):=⟨_,rfl⟩;rw [<-a2] at ai;have ag:=hide (show checkW nameOK p q=orE y (Ad (!I||G != 1) 7) from by
  unfold checkW;rw [a3.out,a2,a5])
 have aA:=hide a7;clear k1 k2 k3 k4 h J a9 al U V aa ab ar au az aG hT a7 ak am ah aB aD aE aF a8 a5 a2 ax ay;go_enter Tryz.func32,Tryz.ntmps32;go_wp2_with fail;refine Calls.ret (aH.out _ E) ?_;rintro v w3 ⟨rfl,W⟩;have M:=hide (E.out.at W);have b4:=Ah M.out.b2 aA.out;have O:=hide (j.out.trans (W.mono j.out.size));clear W;by_cases d:y=0
 case neg=>
  have a8:(y != 0)=true:=by simp [d]
  have an:=hide d;clear d;go_wp2_with fail;go_ret;exact⟨congrArg (Value.int .i64) (ag.out.trans (BF an.out)).symm,O.out⟩
 have a8:(y != 0)=false:=by simp [d]
 have af:=hide (show checkW nameOK p q=Ad (!I||G != 1) 7 from ag.out.trans (by rw [d];rfl));have aj:protE nameOK p=0:=by
  have C:=a3.out;rw [d] at C;unfold propE orE at C;split at C
  ·assumption
  ·exact absurd C ‹_›
 have ap:=hide (ai.out aj _ M);clear d aj;go_wp2_with fail;refine Calls.ret ap.out ?_;rintro v w4 ⟨rfl,Z⟩;have ao:=hide (M.out.at Z);have aZ:=ao.out.b3.cell;have ae:=hide (O.out.trans (Z.mono O.out.size));clear Z;cases I
 ·have g1:(Ad (!false) 7 != 0)=true:=rfl;have a4:=hide (show checkW nameOK p q=7 from af.out.trans rfl);rw [show Ad (!false) 7=7 from rfl];go_wp2_with fail;go_ret;exact⟨congrArg (Value.int .i64) a4.out.symm,ae.out⟩
 ·rw [show Ad (!true) 7=0 from rfl];have a4:=hide (show checkW nameOK p q=Ad (G != 1) 7 from af.out.trans (by rw [Bool.not_true,Bool.false_or]));cases av:(G != 1)
  all_goals
   have aq:=hide (a4.out);have aw:=hide av;go_wp2_with fail;go_ret;exact⟨congrArg (Value.int .i64) (aq.out.trans (by rw [aw.out];rfl)).symm,ae.out⟩
end Go.Proofs.YtfcfpoemojjglaaGreatDoor.K
