/-
  Part CG of a proof.
-/
import Derived.Test.YtfcfpoemojjglaaGreatDoorPA
import Derived.Test.YtfcfpoemojjglaaGreatDoorCF
set_option maxHeartbeats 16000000
set_option maxRecDepth 100000
set_option linter.unusedVariables false
set_option linter.unusedSimpArgs false
namespace Go.Proofs.YtfcfpoemojjglaaGreatDoor.K
open Go.RowKit
attribute [-go_sem] loadCellsFrom storeCells
theorem Dk {w w':World} {d:Array Value} {e E:Int} (h:d[4]?.getD undef=.int .i64 e) (he:E=e) (j:Below w.heap.size w w'):bodyPost Tryz.prog Tryz.f170 (Ret fun v w'=>v=.int .i64 E/\Below w.heap.size w w') Exit.ret { tmps:=d,defers:=[] } w':=
 bodyPost_ret (v:=.int .i64 e) (by simp [results,Tryz.results170,go_sem,h]) rfl ⟨by rw [he],j⟩
theorem KT {w:World} {cs:List Value} {p:Am} {r:Az} {i:Nat} (h:At w w.heap.size cs p) (hr:p.rules[i]?=some r) (hs:r.Small) (bd:r.name.size<=9223372036854775807) (hT:SpOK w):
  Calls Tryz.prog 170 #[.agg cs.toArray,.int .i64 (i:Int)] w (Ret fun v w'=>v=.int .i64 (Gd nameOK p.topo (p.states.length:Int) (p.messages.length:Int) (p.values.length:Int) ((p.rules.take i).any fun x=>decide (x.name=r.name)) r)/\Below w.heap.size w w'):=by
 obtain⟨A1,c1,A2,c2,A3,c3,A4,c4,A5,c5,A6,c6,A7,c7,E1,f1,E2,f2,E3,f3,E4,f4,E5,f5,E6,f6,E7,f7,E8,f8,b,bV,w1,w2,bS,bN,bO,rfl,rfl,bU,bI,bR,bT,V,ah,ag,b9,a9,aj,bH⟩:=RJ h hr hT;replace ah:=hide ah;replace ag:=hide ag;replace a9:=hide a9;replace aj:=hide aj;have aQ:=hide V;have aS:=V.b2.cell;have aV:=V.b5.cell;have aZ:=V.load2 rfl;have b6:=V.load5 rfl;clear V hT h;have aw:=hide (M7 (c:=c7) ah.out ag.out b9);rw [aj.out] at aw;have C:Hid (Gd nameOK p.topo (p.states.length:Int) (p.messages.length:Int) (p.values.length:Int) ((p.rules.take i).any fun x=>decide (x.name=r.name)) r=orE (Ad (!nameOK r.name||((p.rules.take i).any fun x=>decide (x.name=r.name))) 2) (orE (Ad (!Dx r.kind p.topo||As p.topo r) 6) (orE (orE (AD r.fr (p.states.length:Int)) (AD r.to (p.states.length:Int))) (Cx p.topo (p.states.length:Int) (p.messages.length:Int) (p.values.length:Int) r)))):=hide rfl;generalize Gd nameOK p.topo (p.states.length:Int) (p.messages.length:Int) (p.values.length:Int) ((p.rules.take i).any fun x=>decide (x.name=r.name)) r=E at C ⊢;obtain⟨bt,av⟩:∃b,Hid (((p.rules.take i).any fun x=>decide (x.name=r.name))=b):=⟨_,rfl⟩;obtain⟨bo,ar⟩:∃b,Hid (nameOK r.name=b):=⟨_,rfl⟩;obtain⟨bf,af⟩:∃b,Hid (Dx r.kind p.topo=b):=⟨_,rfl⟩;obtain⟨bs,au⟩:∃b,Hid (As p.topo r=b):=⟨_,rfl⟩;rw [av.out,ar.out,af.out,au.out] at C;have aE:Hid (∀(c:Bool) (x:Int),orE (Ad (!false||c) 2) x=2/\orE (Ad (!true||true) 2) x=2):=hide (by intro c x; simp [orE,Ad]);have aD:Hid (∀(c:Bool) (x:Int),orE (Ad (!false||c) 6) x=6/\orE (Ad (!true||true) 6) x=6):=hide (by intro c x; simp [orE,Ad]);have aC:Hid (∀(e x:Int),orE (Ad (!true||false) e) x=x):=hide (by intro e x; simp [orE,Ad]);go_enter Tryz.func170,Tryz.ntmps170;go_wp2_with (go_at_call 206; refine Calls.ret aw.out ?_; rintro v w3 ⟨rfl,ab⟩; rw [av.out]; have W:=aQ.out.at ab; have aT:=W.b2.cell; have aW:=W.b5.cell; have b0:=W.load2 rfl; have b7:=W.load5 rfl; have am:=hide W; have ao:=hide (a9.out.trans (ab.mono a9.out.size)); clear ab W aS aV aZ b6);refine Calls.ret (Da r.name w3 bd am.out.tab) ?_;rintro v w4 ⟨rfl,ad⟩;rw [ar.out];have Z:=am.out.at ad;have aU:=Z.b2.cell;have aX:=Z.b5.cell;have b4:=Z.load2 rfl;have b8:=Z.load5 rfl;have an:=hide Z;have a6:=hide (ao.out.trans (ad.mono ao.out.size));clear ad Z aT aW b0 b7;cases bo with
 | false=>
  cases bt
  all_goals
   go_wp2_with fail;refine Dk (e:=2) ?_ (C.out.trans (aE.out _ _).1) a6.out;rfl
 | true=>
  cases bt with
  | true=>
   go_wp2_with fail;refine Dk (e:=2) ?_ (C.out.trans (aE.out true _).2) a6.out;rfl
  | false=>
   rw [aC.out] at C;cases bf with
   | false=>
    go_wp2_with (go_at_call 208; refine(Js _ _ _).mono ?_; rintro e w' ⟨rfl,rfl⟩; rw [af.out]);refine Dk (e:=6) ?_ (C.out.trans (aD.out _ _).1) a6.out;rfl
   | true=>
    go_wp2_with (go_at_call 208; refine(Js _ _ _).mono ?_; rintro e w' ⟨rfl,rfl⟩; rw [af.out]);refine Calls.ret (TE an.out.ru hs) ?_;rintro v w5 ⟨rfl,ae⟩;rw [au.out];have a2:=an.out.at ae;have bJ:=a2.b2.cell;have bL:=a2.b5.cell;have bP:=a2.load2 rfl;have bQ:=a2.load5 rfl;have aR:=hide a2;have ap:=hide (a6.out.trans (ae.mono a6.out.size));clear ae a2 aU aX b4 b8;cases bs with
    | true=>
     go_wp2_with fail;refine Dk (e:=6) ?_ (C.out.trans (aD.out true _).2) ap.out;rfl
    | false=>
     rw [aC.out] at C;go_wp2_with fail;refine RN aR.out ap.out ?_ ?_
     ·repeat (first | exact Reg.NoQ.body (fun _ _ h=>h) (fun _ h=>h) | refine Reg.NoQ.then ?_ | refine Reg.NoQ.inBlock ?_)
     iterate 10 (intro _)
     intro w6 a7 aq;have G:=hide aq;have J:=hide a7;have bK:=a7.b2.cell;have bM:=a7.b5.cell;obtain⟨ei,ax⟩:∃e,Hid (Aj id [AD r.fr (p.states.length:Int),AD r.to (p.states.length:Int)]=e):=⟨_,rfl⟩;have aY:Hid (orE (AD r.fr (p.states.length:Int)) (AD r.to (p.states.length:Int))=ei):=hide (by rw [<-ax.out]; simp [Aj,Bk]);rw [aY.out] at C;rw [ax.out];clear a7 aq;by_cases U:ei=0
     case neg=>
      have ba:(ei != 0)=true:=by simp [U]
      have aP:=hide U;clear U;go_wp2_with fail;refine Dk (e:=ei) ?_ (C.out.trans (BF aP.out)) G.out;rfl
     have ba:(ei != 0)=false:=by simp [U]
     have I:Hid (E=Cx p.topo (p.states.length:Int) (p.messages.length:Int) (p.values.length:Int) r):=hide (C.out.trans (by rw [U]; rfl));clear U C;by_cases k1:r.kind=1
     ·have e1:(r.kind==1)=true:=by simp [k1]
      have y:=hide k1;clear k1;go_wp2_with fail;refine RK J.out G.out ?_ ?_
      ·repeat (first | exact Reg.NoQ.body (fun _ _ h=>h) (fun _ h=>h) | refine Reg.NoQ.then ?_ | refine Reg.NoQ.inBlock ?_)
      ·intro M w' d j;go_wp2_with fail;exact Dk d (I.out.trans (by simp [Aj,Bk,Cx,y.out])) j
     have e1:(r.kind==1)=false:=by simp [k1]
     have n1:=hide k1;clear k1;by_cases k2:r.kind=2
     ·have e2:(r.kind==2)=true:=by simp [k2]
      have y:=hide k2;clear k2;go_wp2_with fail;refine RL J.out G.out ?_ ?_
      ·repeat (first | exact Reg.NoQ.body (fun _ _ h=>h) (fun _ h=>h) | refine Reg.NoQ.then ?_ | refine Reg.NoQ.inBlock ?_)
      ·intro M w' d j;go_wp2_with fail;exact Dk d (I.out.trans (by simp [Aj,Bk,Cx,y.out])) j
     have e2:(r.kind==2)=false:=by simp [k2]
     have n2:=hide k2;clear k2;by_cases k3:r.kind=3
     ·have e3:(r.kind==3)=true:=by simp [k3]
      have y:=hide k3;clear k3;go_wp2_with fail;refine RM J.out G.out ?_ ?_
      ·repeat (first | exact Reg.NoQ.body (fun _ _ h=>h) (fun _ h=>h) | refine Reg.NoQ.then ?_ | refine Reg.NoQ.inBlock ?_)
      ·intro M w' d j;go_wp2_with fail;exact Dk d (I.out.trans (by simp [Aj,Bk,Cx,y.out])) j
     have e3:(r.kind==3)=false:=by simp [k3]
     have n3:=hide k3;clear k3;by_cases k4:r.kind=4
     ·have e4:(r.kind==4)=true:=by simp [k4]
      have y:=hide k4;clear k4;by_cases ha:r.at_<0
      ·have l:=hide ha;go_wp2_with fail;refine F8 J.out G.out ?_ ?_
       ·repeat (first | exact Reg.NoQ.body (fun _ _ h=>h) (fun _ h=>h) | refine Reg.NoQ.then ?_ | refine Reg.NoQ.inBlock ?_)
       ·intro M w' d j;go_wp2_with fail;exact Dk d (I.out.trans (by first | (simp [Aj,Bk,Cx,y.out,l.out]; done) | (simp [Aj,Bk,Cx,y.out,l.out]; rw [show(decide (r.at_<0)||decide (2<r.at_))=false from by have q:=l.out; simp; omega]))) j
      by_cases hb:2<r.at_
      ·have l:=hide (And.intro ha hb);go_wp2_with fail;refine F8 J.out G.out ?_ ?_
       ·repeat (first | exact Reg.NoQ.body (fun _ _ h=>h) (fun _ h=>h) | refine Reg.NoQ.then ?_ | refine Reg.NoQ.inBlock ?_)
       ·intro M w' d j;go_wp2_with fail;exact Dk d (I.out.trans (by first | (simp [Aj,Bk,Cx,y.out,l.out]; done) | (simp [Aj,Bk,Cx,y.out,l.out]; rw [show(decide (r.at_<0)||decide (2<r.at_))=false from by have q:=l.out; simp; omega]))) j
      by_cases O:r.at_=0
      ·have l:=hide (And.intro ha (And.intro hb O));have ec:(r.at_ != 0)=false:=by simp [O]
       clear O;go_wp2_with fail;refine F8 J.out G.out ?_ ?_
       ·repeat (first | exact Reg.NoQ.body (fun _ _ h=>h) (fun _ h=>h) | refine Reg.NoQ.then ?_ | refine Reg.NoQ.inBlock ?_)
       ·intro M w' d j;go_wp2_with fail;exact Dk d (I.out.trans (by first | (simp [Aj,Bk,Cx,y.out,l.out]; done) | (simp [Aj,Bk,Cx,y.out,l.out]; rw [show(decide (r.at_<0)||decide (2<r.at_))=false from by have q:=l.out; simp; omega]))) j
      have ec:(r.at_ != 0)=true:=by simp [O]
      by_cases ht:p.topo=3
      ·have l:=hide (And.intro ha (And.intro hb (And.intro O ht)));have et:(p.topo==3)=true:=by simp [ht]
       clear ht O;go_wp2_with fail;refine F8 J.out G.out ?_ ?_
       ·repeat (first | exact Reg.NoQ.body (fun _ _ h=>h) (fun _ h=>h) | refine Reg.NoQ.then ?_ | refine Reg.NoQ.inBlock ?_)
       ·intro M w' d j;go_wp2_with fail;exact Dk d (I.out.trans (by first | (simp [Aj,Bk,Cx,y.out,l.out]; done) | (simp [Aj,Bk,Cx,y.out,l.out]; rw [show(decide (r.at_<0)||decide (2<r.at_))=false from by have q:=l.out; simp; omega]))) j
      ·have l:=hide (And.intro ha (And.intro hb (And.intro O ht)));have et:(p.topo==3)=false:=by simp [ht]
       clear ht O;go_wp2_with fail;refine F8 J.out G.out ?_ ?_
       ·repeat (first | exact Reg.NoQ.body (fun _ _ h=>h) (fun _ h=>h) | refine Reg.NoQ.then ?_ | refine Reg.NoQ.inBlock ?_)
       ·intro M w' d j;go_wp2_with fail;exact Dk d (I.out.trans (by first | (simp [Aj,Bk,Cx,y.out,l.out]; done) | (simp [Aj,Bk,Cx,y.out,l.out]; rw [show(decide (r.at_<0)||decide (2<r.at_))=false from by have q:=l.out; simp; omega]))) j
     have e4:(r.kind==4)=false:=by simp [k4]
     have n4:=hide k4;clear k4;by_cases ht:p.topo=4
     ·have et:(p.topo==4)=true:=by simp [ht]
      have ai:=hide ht;clear ht;go_wp2_with fail;refine KB J.out G.out ?_ ?_
      ·repeat (first | exact Reg.NoQ.body (fun _ _ h=>h) (fun _ h=>h) | refine Reg.NoQ.then ?_ | refine Reg.NoQ.inBlock ?_)
      ·intro M w' d j;go_wp2_with fail;exact Dk d (I.out.trans (by simp [Aj,Bk,Cx,n1.out,n2.out,n3.out,n4.out,ai.out])) j
     ·have et:(p.topo==4)=false:=by simp [ht]
      have ai:=hide ht;clear ht;go_wp2_with fail;refine KB J.out G.out ?_ ?_
      ·repeat (first | exact Reg.NoQ.body (fun _ _ h=>h) (fun _ h=>h) | refine Reg.NoQ.then ?_ | refine Reg.NoQ.inBlock ?_)
      ·intro M w' d j;go_wp2_with fail;exact Dk d (I.out.trans (by simp [Aj,Bk,Cx,n1.out,n2.out,n3.out,n4.out,ai.out])) j
end Go.Proofs.YtfcfpoemojjglaaGreatDoor.K
