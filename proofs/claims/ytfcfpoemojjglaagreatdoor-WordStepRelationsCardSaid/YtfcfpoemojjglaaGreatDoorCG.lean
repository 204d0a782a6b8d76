/-
  Part CG of a proof.
-/
import Derived.Test.YtfcfpoemojjglaaGreatDoorPA
import Derived.Test.YtfcfpoemojjglaaGreatDoorCF
set_option maxHeartbeats 16000000
set_option maxRecDepth 100000
set_option linter.unusedVariables false
set_option linter.unusedSimpArgs false
namespace Go.Proofs.YtfcfpoemojjglaaGreatDoor.K
open Go.RowKit
attribute [-go_sem] loadCellsFrom storeCells
theorem Dk {w w':World} {h:Array Value} {e E:Int} (y:h[4]?.getD undef=.int .i64 e) (C:E=e) (z:Below w.heap.size w w'):bodyPost Tryz.prog Tryz.f170 (Ret fun v w'=>v=.int .i64 E∧Below w.heap.size w w') Exit.ret { tmps:=h,defers:=[] } w':=
 bodyPost_ret (v:=.int .i64 e) (by simp [results,Tryz.results170,go_sem,y]) rfl ⟨by rw [C],z⟩
theorem KT {w:World} {cs:List Value} {p:Am} {r:Az} {i:Nat} (h:At w w.heap.size cs p) (hr:p.rules[i]?=some r) (hs:r.Small) (ba:r.name.size≤9223372036854775807) (hT:A0 w):
  Calls Tryz.prog 170 #[.agg cs.toArray,.int .i64 (i:Int)] w (Ret fun v w'=>v=.int .i64 (Gd Ab p.topo (p.states.length:Int) (p.messages.length:Int) (p.values.length:Int) ((p.rules.take i).any fun x=>decide (x.name=r.name)) r)∧Below w.heap.size w w'):=by
 obtain⟨A1,c1,A2,c2,A3,c3,A4,c4,A5,c5,A6,c6,A7,c7,E1,f1,E2,f2,E3,f3,E4,f4,E5,f5,E6,f6,E7,f7,E8,f8,b,bY,w1,w2,bV,bQ,bR,rfl,rfl,bX,bL,bU,bW,U,aj,ai,b8,ab,al,bK⟩:=RJ h hr hT
 replace aj:=hide aj
 replace ai:=hide ai
 replace ab:=hide ab
 replace al:=hide al
 have aR:=hide U
 have aT:=U.b2.cell
 have aW:=U.b5.cell
 have b0:=U.load2 rfl
 have b4:=U.load5 rfl
 clear U hT h
 have ay:=hide (M7 (c:=c7) aj.out ai.out b8)
 rw [al.out] at ay
 have F:Hid (Gd Ab p.topo (p.states.length:Int) (p.messages.length:Int) (p.values.length:Int) ((p.rules.take i).any fun x=>decide (x.name=r.name)) r=orE (Ad (!Ab r.name||((p.rules.take i).any fun x=>decide (x.name=r.name))) 2) (orE (Ad (!Dx r.kind p.topo||As p.topo r) 6) (orE (orE (AD r.fr (p.states.length:Int)) (AD r.to (p.states.length:Int))) (Cx p.topo (p.states.length:Int) (p.messages.length:Int) (p.values.length:Int) r)))):=hide rfl
 generalize Gd Ab p.topo (p.states.length:Int) (p.messages.length:Int) (p.values.length:Int) ((p.rules.take i).any fun x=>decide (x.name=r.name)) r=E at F ⊢
 obtain⟨bt,ax⟩:∃b,Hid (((p.rules.take i).any fun x=>decide (x.name=r.name))=b):=⟨_,rfl⟩
 obtain⟨bo,av⟩:∃b,Hid (Ab r.name=b):=⟨_,rfl⟩
 obtain⟨bf,ah⟩:∃b,Hid (Dx r.kind p.topo=b):=⟨_,rfl⟩
 obtain⟨bs,aw⟩:∃b,Hid (As p.topo r=b):=⟨_,rfl⟩
 rw [ax.out,av.out,ah.out,aw.out] at F
 have aF:Hid (∀(c:Bool) (x:Int),orE (Ad (!false||c) 2) x=2∧orE (Ad (!true||true) 2) x=2):=hide (by intro c x; simp [orE,Ad])
 have aE:Hid (∀(c:Bool) (x:Int),orE (Ad (!false||c) 6) x=6∧orE (Ad (!true||true) 6) x=6):=hide (by intro c x; simp [orE,Ad])
 have non:Hid (∀(e x:Int),orE (Ad (!true||false) e) x=x):=hide (by intro e x; simp [orE,Ad])
 go_enter Tryz.func170,Tryz.ntmps170
 go_wp2_with (go_at_call 206; refine Calls.ret ay.out ?_; rintro v w3 ⟨rfl,ae⟩; rw [ax.out]; have V:=aR.out.at ae; have aU:=V.b2.cell; have aX:=V.b5.cell; have b1:=V.load2 rfl; have b6:=V.load5 rfl; have ao:=hide V; have aq:=hide (ab.out.trans (ae.mono ab.out.size)); clear ae V aT aW b0 b4)
 refine Calls.ret (Da r.name w3 ba ao.out.tab) ?_
 rintro v w4 ⟨rfl,af⟩
 rw [av.out]
 have W:=ao.out.at af
 have aV:=W.b2.cell
 have aY:=W.b5.cell
 have b3:=W.load2 rfl
 have b7:=W.load5 rfl
 have ap:=hide W
 have a8:=hide (aq.out.trans (af.mono aq.out.size))
 clear af W aU aX b1 b6
 cases bo with
 | false=>
  cases bt
  all_goals
   go_wp2_with fail
   refine Dk (e:=2) ?_ (F.out.trans (aF.out _ _).1) a8.out
   rfl
 | true=>
  cases bt with
  | true=>
   go_wp2_with fail
   refine Dk (e:=2) ?_ (F.out.trans (aF.out true _).2) a8.out
   rfl
  | false=>
   rw [non.out] at F
   cases bf with
   | false=>
    go_wp2_with (go_at_call 208; refine(Js _ _ _).mono ?_; rintro e w' ⟨rfl,rfl⟩; rw [ah.out])
    refine Dk (e:=6) ?_ (F.out.trans (aE.out _ _).1) a8.out
    rfl
   | true=>
    go_wp2_with (go_at_call 208; refine(Js _ _ _).mono ?_; rintro e w' ⟨rfl,rfl⟩; rw [ah.out])
    refine Calls.ret (TE ap.out.ru hs) ?_
    rintro v w5 ⟨rfl,ag⟩
    rw [aw.out]
    have Z:=ap.out.at ag
    have bM:=Z.b2.cell
    have bO:=Z.b5.cell
    have bS:=Z.load2 rfl
    have bT:=Z.load5 rfl
    have aS:=hide Z
    have ar:=hide (a8.out.trans (ag.mono a8.out.size))
    clear ag Z aV aY b3 b7
    cases bs with
    | true=>
     go_wp2_with fail
     refine Dk (e:=6) ?_ (F.out.trans (aE.out true _).2) ar.out
     rfl
    | false=>
     rw [non.out] at F
     go_wp2_with fail
     refine RN aS.out ar.out ?_ ?_
     ·repeat (first | exact Reg.NoQ.body (fun _ _ h=>h) (fun _ h=>h) | refine Reg.NoQ.then ?_ | refine Reg.NoQ.inBlock ?_)
     iterate 10 (intro _)
     intro w6 a9 au
     have G:=hide au
     have J:=hide a9
     have bN:=a9.b2.cell
     have bP:=a9.b5.cell
     obtain⟨ei,az⟩:∃e,Hid (Aj id [AD r.fr (p.states.length:Int),AD r.to (p.states.length:Int)]=e):=⟨_,rfl⟩
     have aZ:Hid (orE (AD r.fr (p.states.length:Int)) (AD r.to (p.states.length:Int))=ei):=hide (by rw [←az.out]; simp [Aj,Bk])
     rw [aZ.out] at F
     rw [az.out]
     clear a9 au
     by_cases h0:ei=0
     case neg=>
      have b9:(ei != 0)=true:=by simp [h0]
      have aQ:=hide h0
      clear h0
      go_wp2_with fail
      refine Dk (e:=ei) ?_ (F.out.trans (BF aQ.out)) G.out
      rfl
     have b9:(ei != 0)=false:=by simp [h0]
     have I:Hid (E=Cx p.topo (p.states.length:Int) (p.messages.length:Int) (p.values.length:Int) r):=hide (F.out.trans (by rw [h0]; rfl))
     clear h0 F
     by_cases k1:r.kind=1
     ·have e1:(r.kind==1)=true:=by simp [k1]
      have hk:=hide k1
      clear k1
      go_wp2_with fail
      refine RK J.out G.out ?_ ?_
      ·repeat (first | exact Reg.NoQ.body (fun _ _ h=>h) (fun _ h=>h) | refine Reg.NoQ.then ?_ | refine Reg.NoQ.inBlock ?_)
      ·intro M w' y z
       go_wp2_with fail
       exact Dk y (I.out.trans (by simp [Aj,Bk,Cx,hk.out])) z
     have e1:(r.kind==1)=false:=by simp [k1]
     have n1:=hide k1
     clear k1
     by_cases k2:r.kind=2
     ·have e2:(r.kind==2)=true:=by simp [k2]
      have hk:=hide k2
      clear k2
      go_wp2_with fail
      refine RL J.out G.out ?_ ?_
      ·repeat (first | exact Reg.NoQ.body (fun _ _ h=>h) (fun _ h=>h) | refine Reg.NoQ.then ?_ | refine Reg.NoQ.inBlock ?_)
      ·intro M w' y z
       go_wp2_with fail
       exact Dk y (I.out.trans (by simp [Aj,Bk,Cx,hk.out])) z
     have e2:(r.kind==2)=false:=by simp [k2]
     have n2:=hide k2
     clear k2
     by_cases k3:r.kind=3
     ·have e3:(r.kind==3)=true:=by simp [k3]
      have hk:=hide k3
      clear k3
      go_wp2_with fail
      refine RM J.out G.out ?_ ?_
      ·repeat (first | exact Reg.NoQ.body (fun _ _ h=>h) (fun _ h=>h) | refine Reg.NoQ.then ?_ | refine Reg.NoQ.inBlock ?_)
      ·intro M w' y z
       go_wp2_with fail
       exact Dk y (I.out.trans (by simp [Aj,Bk,Cx,hk.out])) z
     have e3:(r.kind==3)=false:=by simp [k3]
     have n3:=hide k3
     clear k3
     by_cases k4:r.kind=4
     ·have e4:(r.kind==4)=true:=by simp [k4]
      have hk:=hide k4
      clear k4
      by_cases ha:r.at_<0
      ·have C:=hide ha
       go_wp2_with fail
       refine F8 J.out G.out ?_ ?_
       ·repeat (first | exact Reg.NoQ.body (fun _ _ h=>h) (fun _ h=>h) | refine Reg.NoQ.then ?_ | refine Reg.NoQ.inBlock ?_)
       ·intro M w' y z
        go_wp2_with fail
        exact Dk y (I.out.trans (by first | (simp [Aj,Bk,Cx,hk.out,C.out]; done) | (simp [Aj,Bk,Cx,hk.out,C.out]; rw [show(decide (r.at_<0)||decide (2<r.at_))=false from by have q:=C.out; simp; omega]))) z
      by_cases hb:2<r.at_
      ·have C:=hide (And.intro ha hb)
       go_wp2_with fail
       refine F8 J.out G.out ?_ ?_
       ·repeat (first | exact Reg.NoQ.body (fun _ _ h=>h) (fun _ h=>h) | refine Reg.NoQ.then ?_ | refine Reg.NoQ.inBlock ?_)
       ·intro M w' y z
        go_wp2_with fail
        exact Dk y (I.out.trans (by first | (simp [Aj,Bk,Cx,hk.out,C.out]; done) | (simp [Aj,Bk,Cx,hk.out,C.out]; rw [show(decide (r.at_<0)||decide (2<r.at_))=false from by have q:=C.out; simp; omega]))) z
      by_cases O:r.at_=0
      ·have C:=hide (And.intro ha (And.intro hb O))
       have ec:(r.at_ != 0)=false:=by simp [O]
       clear O
       go_wp2_with fail
       refine F8 J.out G.out ?_ ?_
       ·repeat (first | exact Reg.NoQ.body (fun _ _ h=>h) (fun _ h=>h) | refine Reg.NoQ.then ?_ | refine Reg.NoQ.inBlock ?_)
       ·intro M w' y z
        go_wp2_with fail
        exact Dk y (I.out.trans (by first | (simp [Aj,Bk,Cx,hk.out,C.out]; done) | (simp [Aj,Bk,Cx,hk.out,C.out]; rw [show(decide (r.at_<0)||decide (2<r.at_))=false from by have q:=C.out; simp; omega]))) z
      have ec:(r.at_ != 0)=true:=by simp [O]
      by_cases ht:p.topo=3
      ·have C:=hide (And.intro ha (And.intro hb (And.intro O ht)))
       have et:(p.topo==3)=true:=by simp [ht]
       clear ht O
       go_wp2_with fail
       refine F8 J.out G.out ?_ ?_
       ·repeat (first | exact Reg.NoQ.body (fun _ _ h=>h) (fun _ h=>h) | refine Reg.NoQ.then ?_ | refine Reg.NoQ.inBlock ?_)
       ·intro M w' y z
        go_wp2_with fail
        exact Dk y (I.out.trans (by first | (simp [Aj,Bk,Cx,hk.out,C.out]; done) | (simp [Aj,Bk,Cx,hk.out,C.out]; rw [show(decide (r.at_<0)||decide (2<r.at_))=false from by have q:=C.out; simp; omega]))) z
      ·have C:=hide (And.intro ha (And.intro hb (And.intro O ht)))
       have et:(p.topo==3)=false:=by simp [ht]
       clear ht O
       go_wp2_with fail
       refine F8 J.out G.out ?_ ?_
       ·repeat (first | exact Reg.NoQ.body (fun _ _ h=>h) (fun _ h=>h) | refine Reg.NoQ.then ?_ | refine Reg.NoQ.inBlock ?_)
       ·intro M w' y z
        go_wp2_with fail
        exact Dk y (I.out.trans (by first | (simp [Aj,Bk,Cx,hk.out,C.out]; done) | (simp [Aj,Bk,Cx,hk.out,C.out]; rw [show(decide (r.at_<0)||decide (2<r.at_))=false from by have q:=C.out; simp; omega]))) z
     have e4:(r.kind==4)=false:=by simp [k4]
     have n4:=hide k4
     clear k4
     by_cases ht:p.topo=4
     ·have et:(p.topo==4)=true:=by simp [ht]
      have ak:=hide ht
      clear ht
      go_wp2_with fail
      refine KB J.out G.out ?_ ?_
      ·repeat (first | exact Reg.NoQ.body (fun _ _ h=>h) (fun _ h=>h) | refine Reg.NoQ.then ?_ | refine Reg.NoQ.inBlock ?_)
      ·intro M w' y z
       go_wp2_with fail
       exact Dk y (I.out.trans (by simp [Aj,Bk,Cx,n1.out,n2.out,n3.out,n4.out,ak.out])) z
     ·have et:(p.topo==4)=false:=by simp [ht]
      have ak:=hide ht
      clear ht
      go_wp2_with fail
      refine KB J.out G.out ?_ ?_
      ·repeat (first | exact Reg.NoQ.body (fun _ _ h=>h) (fun _ h=>h) | refine Reg.NoQ.then ?_ | refine Reg.NoQ.inBlock ?_)
      ·intro M w' y z
       go_wp2_with fail
       exact Dk y (I.out.trans (by simp [Aj,Bk,Cx,n1.out,n2.out,n3.out,n4.out,ak.out])) z
end Go.Proofs.YtfcfpoemojjglaaGreatDoor.K
