/-
  Part CG of a proof.
-/
import Derived.Test.YtfcfpoemojjglaaGreatDoorPA
import Derived.Test.YtfcfpoemojjglaaGreatDoorCF
set_option maxHeartbeats 16000000
set_option maxRecDepth 100000
set_option linter.unusedVariables false
set_option linter.unusedSimpArgs false
namespace Go.Proofs.YtfcfpoemojjglaaGreatDoor.K
open Go.RowKit
attribute [-go_sem] loadCellsFrom storeCells
theorem Dk {w w':World} {h:Array Value} {e E:Int} (x:h[4]?.getD undef=.int .i64 e) (C:E=e) (y:Below w.heap.size w w'):bodyPost Tryz.prog Tryz.f170 (Ret fun v w'=>v=.int .i64 E∧Below w.heap.size w w') Exit.ret { tmps:=h,defers:=[] } w':=
 bodyPost_ret (v:=.int .i64 e) (by simp [results,Tryz.results170,go_sem,x]) rfl ⟨by rw [C],y⟩
theorem KT {w:World} {cs:List Value} {p:Am} {r:Az} {i:Nat} (h:At w w.heap.size cs p) (hr:p.rules[i]?=some r) (hs:r.Small) (b8:r.name.size≤9223372036854775807) (hT:SpOK w):
  Calls Tryz.prog 170 #[.agg cs.toArray,.int .i64 (i:Int)] w (Ret fun v w'=>v=.int .i64 (Gd nameOK p.topo (p.states.length:Int) (p.messages.length:Int) (p.values.length:Int) ((p.rules.take i).any fun x=>decide (x.name=r.name)) r)∧Below w.heap.size w w'):=by
 obtain⟨A1,c1,A2,c2,A3,c3,A4,c4,A5,c5,A6,c6,A7,c7,E1,f1,E2,f2,E3,f3,E4,f4,E5,f5,E6,f6,E7,f7,E8,f8,b,off,w1,w2,bN,bI,bJ,rfl,rfl,bP,bD,bM,bO,V,ag,af,b6,a9,ai,bC⟩:=RJ h hr hT
 replace ag:=hide ag
 replace af:=hide af
 replace a9:=hide a9
 replace ai:=hide ai
 have aN:=hide V
 have aP:=V.b2.cell
 have aS:=V.b5.cell
 have aW:=V.load2 rfl
 have aZ:=V.load5 rfl
 clear V hT h
 have av:=hide (M7 (c:=c7) ag.out af.out b6)
 rw [ai.out] at av
 have G:Hid (Gd nameOK p.topo (p.states.length:Int) (p.messages.length:Int) (p.values.length:Int) ((p.rules.take i).any fun x=>decide (x.name=r.name)) r=orE (Ad (!nameOK r.name||((p.rules.take i).any fun x=>decide (x.name=r.name))) 2) (orE (Ad (!Dx r.kind p.topo||As p.topo r) 6) (orE (orE (AD r.fr (p.states.length:Int)) (AD r.to (p.states.length:Int))) (Cx p.topo (p.states.length:Int) (p.messages.length:Int) (p.values.length:Int) r)))):=hide rfl
 generalize Gd nameOK p.topo (p.states.length:Int) (p.messages.length:Int) (p.values.length:Int) ((p.rules.take i).any fun x=>decide (x.name=r.name)) r=E at G ⊢
 obtain⟨bt,au⟩:∃b,Hid (((p.rules.take i).any fun x=>decide (x.name=r.name))=b):=⟨_,rfl⟩
 obtain⟨bo,aq⟩:∃b,Hid (nameOK r.name=b):=⟨_,rfl⟩
 obtain⟨bf,ae⟩:∃b,Hid (Dx r.kind p.topo=b):=⟨_,rfl⟩
 obtain⟨bs,ar⟩:∃b,Hid (As p.topo r=b):=⟨_,rfl⟩
 rw [au.out,aq.out,ae.out,ar.out] at G
 have aD:Hid (∀(c:Bool) (x:Int),orE (Ad (!false||c) 2) x=2∧orE (Ad (!true||true) 2) x=2):=hide (by intro c x; simp [orE,Ad])
 have aC:Hid (∀(c:Bool) (x:Int),orE (Ad (!false||c) 6) x=6∧orE (Ad (!true||true) 6) x=6):=hide (by intro c x; simp [orE,Ad])
 have aB:Hid (∀(e x:Int),orE (Ad (!true||false) e) x=x):=hide (by intro e x; simp [orE,Ad])
 go_enter Tryz.func170,Tryz.ntmps170
 go_wp2_with (go_at_call 206; refine Calls.ret av.out ?_; rintro v w3 ⟨rfl,ab⟩; rw [au.out]; have W:=aN.out.at ab; have aQ:=W.b2.cell; have aT:=W.b5.cell; have aX:=W.load2 rfl; have b0:=W.load5 rfl; have al:=hide W; have an:=hide (a9.out.trans (ab.mono a9.out.size)); clear ab W aP aS aW aZ)
 refine Calls.ret (Da r.name w3 b8 al.out.tab) ?_
 rintro v w4 ⟨rfl,ac⟩
 rw [aq.out]
 have Z:=al.out.at ac
 have aR:=Z.b2.cell
 have aU:=Z.b5.cell
 have aY:=Z.load2 rfl
 have b4:=Z.load5 rfl
 have am:=hide Z
 have a6:=hide (an.out.trans (ac.mono an.out.size))
 clear ac Z aQ aT aX b0
 cases bo with
 | false=>
  cases bt
  all_goals
   go_wp2_with fail
   refine Dk (e:=2) ?_ (G.out.trans (aD.out _ _).1) a6.out
   rfl
 | true=>
  cases bt with
  | true=>
   go_wp2_with fail
   refine Dk (e:=2) ?_ (G.out.trans (aD.out true _).2) a6.out
   rfl
  | false=>
   rw [aB.out] at G
   cases bf with
   | false=>
    go_wp2_with (go_at_call 208; refine(Js _ _ _).mono ?_; rintro e w' ⟨rfl,rfl⟩; rw [ae.out])
    refine Dk (e:=6) ?_ (G.out.trans (aC.out _ _).1) a6.out
    rfl
   | true=>
    go_wp2_with (go_at_call 208; refine(Js _ _ _).mono ?_; rintro e w' ⟨rfl,rfl⟩; rw [ae.out])
    refine Calls.ret (TE am.out.ru hs) ?_
    rintro v w5 ⟨rfl,ad⟩
    rw [ar.out]
    have a2:=am.out.at ad
    have bE:=a2.b2.cell
    have bG:=a2.b5.cell
    have bK:=a2.load2 rfl
    have bL:=a2.load5 rfl
    have aO:=hide a2
    have ao:=hide (a6.out.trans (ad.mono a6.out.size))
    clear ad a2 aR aU aY b4
    cases bs with
    | true=>
     go_wp2_with fail
     refine Dk (e:=6) ?_ (G.out.trans (aC.out true _).2) ao.out
     rfl
    | false=>
     rw [aB.out] at G
     go_wp2_with fail
     refine RN aO.out ao.out ?_ ?_
     ·repeat (first | exact Reg.NoQ.body (fun _ _ h=>h) (fun _ h=>h) | refine Reg.NoQ.then ?_ | refine Reg.NoQ.inBlock ?_)
     iterate 10 (intro _)
     intro w6 a7 ap
     have I:=hide ap
     have M:=hide a7
     have bF:=a7.b2.cell
     have bH:=a7.b5.cell
     obtain⟨ei,aw⟩:∃e,Hid (Aj id [AD r.fr (p.states.length:Int),AD r.to (p.states.length:Int)]=e):=⟨_,rfl⟩
     have aV:Hid (orE (AD r.fr (p.states.length:Int)) (AD r.to (p.states.length:Int))=ei):=hide (by rw [←aw.out]; simp [Aj,Bk])
     rw [aV.out] at G
     rw [aw.out]
     clear a7 ap
     by_cases h0:ei=0
     case neg=>
      have b7:(ei != 0)=true:=by simp [h0]
      have aM:=hide h0
      clear h0
      go_wp2_with fail
      refine Dk (e:=ei) ?_ (G.out.trans (BF aM.out)) I.out
      rfl
     have b7:(ei != 0)=false:=by simp [h0]
     have J:Hid (E=Cx p.topo (p.states.length:Int) (p.messages.length:Int) (p.values.length:Int) r):=hide (G.out.trans (by rw [h0]; rfl))
     clear h0 G
     by_cases k1:r.kind=1
     ·have e1:(r.kind==1)=true:=by simp [k1]
      have hk:=hide k1
      clear k1
      go_wp2_with fail
      refine RK M.out I.out ?_ ?_
      ·repeat (first | exact Reg.NoQ.body (fun _ _ h=>h) (fun _ h=>h) | refine Reg.NoQ.then ?_ | refine Reg.NoQ.inBlock ?_)
      ·intro O w' y C
       go_wp2_with fail
       exact Dk y (J.out.trans (by simp [Aj,Bk,Cx,hk.out])) C
     have e1:(r.kind==1)=false:=by simp [k1]
     have n1:=hide k1
     clear k1
     by_cases k2:r.kind=2
     ·have e2:(r.kind==2)=true:=by simp [k2]
      have hk:=hide k2
      clear k2
      go_wp2_with fail
      refine RL M.out I.out ?_ ?_
      ·repeat (first | exact Reg.NoQ.body (fun _ _ h=>h) (fun _ h=>h) | refine Reg.NoQ.then ?_ | refine Reg.NoQ.inBlock ?_)
      ·intro O w' y C
       go_wp2_with fail
       exact Dk y (J.out.trans (by simp [Aj,Bk,Cx,hk.out])) C
     have e2:(r.kind==2)=false:=by simp [k2]
     have n2:=hide k2
     clear k2
     by_cases k3:r.kind=3
     ·have e3:(r.kind==3)=true:=by simp [k3]
      have hk:=hide k3
      clear k3
      go_wp2_with fail
      refine RM M.out I.out ?_ ?_
      ·repeat (first | exact Reg.NoQ.body (fun _ _ h=>h) (fun _ h=>h) | refine Reg.NoQ.then ?_ | refine Reg.NoQ.inBlock ?_)
      ·intro O w' y C
       go_wp2_with fail
       exact Dk y (J.out.trans (by simp [Aj,Bk,Cx,hk.out])) C
     have e3:(r.kind==3)=false:=by simp [k3]
     have n3:=hide k3
     clear k3
     by_cases k4:r.kind=4
     ·have e4:(r.kind==4)=true:=by simp [k4]
      have hk:=hide k4
      clear k4
      by_cases ha:r.at_<0
      ·have F:=hide ha
       go_wp2_with fail
       refine F8 M.out I.out ?_ ?_
       ·repeat (first | exact Reg.NoQ.body (fun _ _ h=>h) (fun _ h=>h) | refine Reg.NoQ.then ?_ | refine Reg.NoQ.inBlock ?_)
       ·intro O w' y C
        go_wp2_with fail
        exact Dk y (J.out.trans (by first | (simp [Aj,Bk,Cx,hk.out,F.out]; done) | (simp [Aj,Bk,Cx,hk.out,F.out]; rw [show(decide (r.at_<0)||decide (2<r.at_))=false from by have q:=F.out; simp; omega]))) C
      by_cases hb:2<r.at_
      ·have F:=hide (And.intro ha hb)
       go_wp2_with fail
       refine F8 M.out I.out ?_ ?_
       ·repeat (first | exact Reg.NoQ.body (fun _ _ h=>h) (fun _ h=>h) | refine Reg.NoQ.then ?_ | refine Reg.NoQ.inBlock ?_)
       ·intro O w' y C
        go_wp2_with fail
        exact Dk y (J.out.trans (by first | (simp [Aj,Bk,Cx,hk.out,F.out]; done) | (simp [Aj,Bk,Cx,hk.out,F.out]; rw [show(decide (r.at_<0)||decide (2<r.at_))=false from by have q:=F.out; simp; omega]))) C
      by_cases U:r.at_=0
      ·have F:=hide (And.intro ha (And.intro hb U))
       have ec:(r.at_ != 0)=false:=by simp [U]
       clear U
       go_wp2_with fail
       refine F8 M.out I.out ?_ ?_
       ·repeat (first | exact Reg.NoQ.body (fun _ _ h=>h) (fun _ h=>h) | refine Reg.NoQ.then ?_ | refine Reg.NoQ.inBlock ?_)
       ·intro O w' y C
        go_wp2_with fail
        exact Dk y (J.out.trans (by first | (simp [Aj,Bk,Cx,hk.out,F.out]; done) | (simp [Aj,Bk,Cx,hk.out,F.out]; rw [show(decide (r.at_<0)||decide (2<r.at_))=false from by have q:=F.out; simp; omega]))) C
      have ec:(r.at_ != 0)=true:=by simp [U]
      by_cases ht:p.topo=3
      ·have F:=hide (And.intro ha (And.intro hb (And.intro U ht)))
       have et:(p.topo==3)=true:=by simp [ht]
       clear ht U
       go_wp2_with fail
       refine F8 M.out I.out ?_ ?_
       ·repeat (first | exact Reg.NoQ.body (fun _ _ h=>h) (fun _ h=>h) | refine Reg.NoQ.then ?_ | refine Reg.NoQ.inBlock ?_)
       ·intro O w' y C
        go_wp2_with fail
        exact Dk y (J.out.trans (by first | (simp [Aj,Bk,Cx,hk.out,F.out]; done) | (simp [Aj,Bk,Cx,hk.out,F.out]; rw [show(decide (r.at_<0)||decide (2<r.at_))=false from by have q:=F.out; simp; omega]))) C
      ·have F:=hide (And.intro ha (And.intro hb (And.intro U ht)))
       have et:(p.topo==3)=false:=by simp [ht]
       clear ht U
       go_wp2_with fail
       refine F8 M.out I.out ?_ ?_
       ·repeat (first | exact Reg.NoQ.body (fun _ _ h=>h) (fun _ h=>h) | refine Reg.NoQ.then ?_ | refine Reg.NoQ.inBlock ?_)
       ·intro O w' y C
        go_wp2_with fail
        exact Dk y (J.out.trans (by first | (simp [Aj,Bk,Cx,hk.out,F.out]; done) | (simp [Aj,Bk,Cx,hk.out,F.out]; rw [show(decide (r.at_<0)||decide (2<r.at_))=false from by have q:=F.out; simp; omega]))) C
     have e4:(r.kind==4)=false:=by simp [k4]
     have n4:=hide k4
     clear k4
     by_cases ht:p.topo=4
     ·have et:(p.topo==4)=true:=by simp [ht]
      have ah:=hide ht
      clear ht
      go_wp2_with fail
      refine KB M.out I.out ?_ ?_
      ·repeat (first | exact Reg.NoQ.body (fun _ _ h=>h) (fun _ h=>h) | refine Reg.NoQ.then ?_ | refine Reg.NoQ.inBlock ?_)
      ·intro O w' y C
       go_wp2_with fail
       exact Dk y (J.out.trans (by simp [Aj,Bk,Cx,n1.out,n2.out,n3.out,n4.out,ah.out])) C
     ·have et:(p.topo==4)=false:=by simp [ht]
      have ah:=hide ht
      clear ht
      go_wp2_with fail
      refine KB M.out I.out ?_ ?_
      ·repeat (first | exact Reg.NoQ.body (fun _ _ h=>h) (fun _ h=>h) | refine Reg.NoQ.then ?_ | refine Reg.NoQ.inBlock ?_)
      ·intro O w' y C
       go_wp2_with fail
       exact Dk y (J.out.trans (by simp [Aj,Bk,Cx,n1.out,n2.out,n3.out,n4.out,ah.out])) C
end Go.Proofs.YtfcfpoemojjglaaGreatDoor.K
