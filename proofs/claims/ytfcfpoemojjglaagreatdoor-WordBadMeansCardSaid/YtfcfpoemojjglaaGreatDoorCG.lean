/-
  Part CG of a proof.
-/
import Derived.Test.YtfcfpoemojjglaaGreatDoorPA
import Derived.Test.YtfcfpoemojjglaaGreatDoorCF
set_option maxHeartbeats 16000000
set_option maxRecDepth 100000
set_option linter.unusedVariables false
set_option linter.unusedSimpArgs false
namespace Go.Proofs.YtfcfpoemojjglaaGreatDoor.K
open Go.RowKit
attribute [-go_sem] loadCellsFrom storeCells
theorem Dk {w w':World} {h:Array Value} {e E:Int} (y:h[4]?.getD undef=.int .i64 e) (C:E=e) (z:Below w.heap.size w w'):bodyPost Tryz.prog Tryz.f170 (Ret fun v w'=>v=.int .i64 E∧Below w.heap.size w w') Exit.ret { tmps:=h,defers:=[] } w':=
 bodyPost_ret (v:=.int .i64 e) (by simp [results,Tryz.results170,go_sem,y]) rfl ⟨by rw [C],z⟩
theorem KT {w:World} {cs:List Value} {p:Am} {r:Az} {i:Nat} (h:At w w.heap.size cs p) (hr:p.rules[i]?=some r) (hs:r.Small) (bd:r.name.size≤9223372036854775807) (hT:SpOK w):
  Calls Tryz.prog 170 #[.agg cs.toArray,.int .i64 (i:Int)] w (Ret fun v w'=>v=.int .i64 (Gd nameOK p.topo (p.states.length:Int) (p.messages.length:Int) (p.values.length:Int) ((p.rules.take i).any fun x=>decide (x.name=r.name)) r)∧Below w.heap.size w w'):=by
 obtain⟨A1,c1,A2,c2,A3,c3,A4,c4,A5,c5,A6,c6,A7,c7,E1,f1,E2,f2,E3,f3,E4,f4,E5,f5,E6,f6,E7,f7,E8,f8,b,bZ,w1,w2,bW,bR,bS,rfl,rfl,bY,bM,bV,bX,W,al,ak,ba,ae,an,bL⟩:=RJ h hr hT
 replace al:=hide al
 replace ak:=hide ak
 replace ae:=hide ae
 replace an:=hide an
 have aT:=hide W
 have aV:=W.b2.cell
 have aY:=W.b5.cell
 have b3:=W.load2 rfl
 have b7:=W.load5 rfl
 clear W hT h
 have aA:=hide (M7 (c:=c7) al.out ak.out ba)
 rw [an.out] at aA
 have G:Hid (Gd nameOK p.topo (p.states.length:Int) (p.messages.length:Int) (p.values.length:Int) ((p.rules.take i).any fun x=>decide (x.name=r.name)) r=orE (Ad (!nameOK r.name||((p.rules.take i).any fun x=>decide (x.name=r.name))) 2) (orE (Ad (!Dx r.kind p.topo||As p.topo r) 6) (orE (orE (AD r.fr (p.states.length:Int)) (AD r.to (p.states.length:Int))) (Cx p.topo (p.states.length:Int) (p.messages.length:Int) (p.values.length:Int) r)))):=hide rfl
 generalize Gd nameOK p.topo (p.states.length:Int) (p.messages.length:Int) (p.values.length:Int) ((p.rules.take i).any fun x=>decide (x.name=r.name)) r=E at G ⊢
 obtain⟨bt,az⟩:∃b,Hid (((p.rules.take i).any fun x=>decide (x.name=r.name))=b):=⟨_,rfl⟩
 obtain⟨bo,ax⟩:∃b,Hid (nameOK r.name=b):=⟨_,rfl⟩
 obtain⟨bf,aj⟩:∃b,Hid (Dx r.kind p.topo=b):=⟨_,rfl⟩
 obtain⟨bs,ay⟩:∃b,Hid (As p.topo r=b):=⟨_,rfl⟩
 rw [az.out,ax.out,aj.out,ay.out] at G
 have aH:Hid (∀(c:Bool) (x:Int),orE (Ad (!false||c) 2) x=2∧orE (Ad (!true||true) 2) x=2):=hide (by intro c x; simp [orE,Ad])
 have aG:Hid (∀(c:Bool) (x:Int),orE (Ad (!false||c) 6) x=6∧orE (Ad (!true||true) 6) x=6):=hide (by intro c x; simp [orE,Ad])
 have non:Hid (∀(e x:Int),orE (Ad (!true||false) e) x=x):=hide (by intro e x; simp [orE,Ad])
 go_enter Tryz.func170,Tryz.ntmps170
 go_wp2_with (go_at_call 206; refine Calls.ret aA.out ?_; rintro v w3 ⟨rfl,ag⟩; rw [az.out]; have Z:=aT.out.at ag; have aW:=Z.b2.cell; have aZ:=Z.b5.cell; have b4:=Z.load2 rfl; have b8:=Z.load5 rfl; have aq:=hide Z; have au:=hide (ae.out.trans (ag.mono ae.out.size)); clear ag Z aV aY b3 b7)
 refine Calls.ret (Da r.name w3 bd aq.out.tab) ?_
 rintro v w4 ⟨rfl,ah⟩
 rw [ax.out]
 have a2:=aq.out.at ah
 have aX:=a2.b2.cell
 have b0:=a2.b5.cell
 have b6:=a2.load2 rfl
 have b9:=a2.load5 rfl
 have ar:=hide a2
 have aa:=hide (au.out.trans (ah.mono au.out.size))
 clear ah a2 aW aZ b4 b8
 cases bo with
 | false=>
  cases bt
  all_goals
   go_wp2_with fail
   refine Dk (e:=2) ?_ (G.out.trans (aH.out _ _).1) aa.out
   rfl
 | true=>
  cases bt with
  | true=>
   go_wp2_with fail
   refine Dk (e:=2) ?_ (G.out.trans (aH.out true _).2) aa.out
   rfl
  | false=>
   rw [non.out] at G
   cases bf with
   | false=>
    go_wp2_with (go_at_call 208; refine(Js _ _ _).mono ?_; rintro e w' ⟨rfl,rfl⟩; rw [aj.out])
    refine Dk (e:=6) ?_ (G.out.trans (aG.out _ _).1) aa.out
    rfl
   | true=>
    go_wp2_with (go_at_call 208; refine(Js _ _ _).mono ?_; rintro e w' ⟨rfl,rfl⟩; rw [aj.out])
    refine Calls.ret (TE ar.out.ru hs) ?_
    rintro v w5 ⟨rfl,ai⟩
    rw [ay.out]
    have a3:=ar.out.at ai
    have bN:=a3.b2.cell
    have bP:=a3.b5.cell
    have bT:=a3.load2 rfl
    have bU:=a3.load5 rfl
    have aU:=hide a3
    have av:=hide (aa.out.trans (ai.mono aa.out.size))
    clear ai a3 aX b0 b6 b9
    cases bs with
    | true=>
     go_wp2_with fail
     refine Dk (e:=6) ?_ (G.out.trans (aG.out true _).2) av.out
     rfl
    | false=>
     rw [non.out] at G
     go_wp2_with fail
     refine RN aU.out av.out ?_ ?_
     ·repeat (first | exact Reg.NoQ.body (fun _ _ h=>h) (fun _ h=>h) | refine Reg.NoQ.then ?_ | refine Reg.NoQ.inBlock ?_)
     iterate 10 (intro _)
     intro w6 ab aw
     have I:=hide aw
     have M:=hide ab
     have bO:=ab.b2.cell
     have bQ:=ab.b5.cell
     obtain⟨ei,aB⟩:∃e,Hid (Aj id [AD r.fr (p.states.length:Int),AD r.to (p.states.length:Int)]=e):=⟨_,rfl⟩
     have b1:Hid (orE (AD r.fr (p.states.length:Int)) (AD r.to (p.states.length:Int))=ei):=hide (by rw [←aB.out]; simp [Aj,Bk])
     rw [b1.out] at G
     rw [aB.out]
     clear ab aw
     by_cases V:ei=0
     case neg=>
      have bb:(ei != 0)=true:=by simp [V]
      have aS:=hide V
      clear V
      go_wp2_with fail
      refine Dk (e:=ei) ?_ (G.out.trans (BF aS.out)) I.out
      rfl
     have bb:(ei != 0)=false:=by simp [V]
     have J:Hid (E=Cx p.topo (p.states.length:Int) (p.messages.length:Int) (p.values.length:Int) r):=hide (G.out.trans (by rw [V]; rfl))
     clear V G
     by_cases k1:r.kind=1
     ·have e1:(r.kind==1)=true:=by simp [k1]
      have hk:=hide k1
      clear k1
      go_wp2_with fail
      refine RK M.out I.out ?_ ?_
      ·repeat (first | exact Reg.NoQ.body (fun _ _ h=>h) (fun _ h=>h) | refine Reg.NoQ.then ?_ | refine Reg.NoQ.inBlock ?_)
      ·intro O w' y z
       go_wp2_with fail
       exact Dk y (J.out.trans (by simp [Aj,Bk,Cx,hk.out])) z
     have e1:(r.kind==1)=false:=by simp [k1]
     have n1:=hide k1
     clear k1
     by_cases k2:r.kind=2
     ·have e2:(r.kind==2)=true:=by simp [k2]
      have hk:=hide k2
      clear k2
      go_wp2_with fail
      refine RL M.out I.out ?_ ?_
      ·repeat (first | exact Reg.NoQ.body (fun _ _ h=>h) (fun _ h=>h) | refine Reg.NoQ.then ?_ | refine Reg.NoQ.inBlock ?_)
      ·intro O w' y z
       go_wp2_with fail
       exact Dk y (J.out.trans (by simp [Aj,Bk,Cx,hk.out])) z
     have e2:(r.kind==2)=false:=by simp [k2]
     have n2:=hide k2
     clear k2
     by_cases k3:r.kind=3
     ·have e3:(r.kind==3)=true:=by simp [k3]
      have hk:=hide k3
      clear k3
      go_wp2_with fail
      refine RM M.out I.out ?_ ?_
      ·repeat (first | exact Reg.NoQ.body (fun _ _ h=>h) (fun _ h=>h) | refine Reg.NoQ.then ?_ | refine Reg.NoQ.inBlock ?_)
      ·intro O w' y z
       go_wp2_with fail
       exact Dk y (J.out.trans (by simp [Aj,Bk,Cx,hk.out])) z
     have e3:(r.kind==3)=false:=by simp [k3]
     have n3:=hide k3
     clear k3
     by_cases k4:r.kind=4
     ·have e4:(r.kind==4)=true:=by simp [k4]
      have hk:=hide k4
      clear k4
      by_cases ha:r.at_<0
      ·have C:=hide ha
       go_wp2_with fail
       refine F8 M.out I.out ?_ ?_
       ·repeat (first | exact Reg.NoQ.body (fun _ _ h=>h) (fun _ h=>h) | refine Reg.NoQ.then ?_ | refine Reg.NoQ.inBlock ?_)
       ·intro O w' y z
        go_wp2_with fail
        exact Dk y (J.out.trans (by first | (simp [Aj,Bk,Cx,hk.out,C.out]; done) | (simp [Aj,Bk,Cx,hk.out,C.out]; rw [show(decide (r.at_<0)||decide (2<r.at_))=false from by have q:=C.out; simp; omega]))) z
      by_cases hb:2<r.at_
      ·have C:=hide (And.intro ha hb)
       go_wp2_with fail
       refine F8 M.out I.out ?_ ?_
       ·repeat (first | exact Reg.NoQ.body (fun _ _ h=>h) (fun _ h=>h) | refine Reg.NoQ.then ?_ | refine Reg.NoQ.inBlock ?_)
       ·intro O w' y z
        go_wp2_with fail
        exact Dk y (J.out.trans (by first | (simp [Aj,Bk,Cx,hk.out,C.out]; done) | (simp [Aj,Bk,Cx,hk.out,C.out]; rw [show(decide (r.at_<0)||decide (2<r.at_))=false from by have q:=C.out; simp; omega]))) z
      by_cases U:r.at_=0
      ·have C:=hide (And.intro ha (And.intro hb U))
       have ec:(r.at_ != 0)=false:=by simp [U]
       clear U
       go_wp2_with fail
       refine F8 M.out I.out ?_ ?_
       ·repeat (first | exact Reg.NoQ.body (fun _ _ h=>h) (fun _ h=>h) | refine Reg.NoQ.then ?_ | refine Reg.NoQ.inBlock ?_)
       ·intro O w' y z
        go_wp2_with fail
        exact Dk y (J.out.trans (by first | (simp [Aj,Bk,Cx,hk.out,C.out]; done) | (simp [Aj,Bk,Cx,hk.out,C.out]; rw [show(decide (r.at_<0)||decide (2<r.at_))=false from by have q:=C.out; simp; omega]))) z
      have ec:(r.at_ != 0)=true:=by simp [U]
      by_cases ht:p.topo=3
      ·have C:=hide (And.intro ha (And.intro hb (And.intro U ht)))
       have et:(p.topo==3)=true:=by simp [ht]
       clear ht U
       go_wp2_with fail
       refine F8 M.out I.out ?_ ?_
       ·repeat (first | exact Reg.NoQ.body (fun _ _ h=>h) (fun _ h=>h) | refine Reg.NoQ.then ?_ | refine Reg.NoQ.inBlock ?_)
       ·intro O w' y z
        go_wp2_with fail
        exact Dk y (J.out.trans (by first | (simp [Aj,Bk,Cx,hk.out,C.out]; done) | (simp [Aj,Bk,Cx,hk.out,C.out]; rw [show(decide (r.at_<0)||decide (2<r.at_))=false from by have q:=C.out; simp; omega]))) z
      ·have C:=hide (And.intro ha (And.intro hb (And.intro U ht)))
       have et:(p.topo==3)=false:=by simp [ht]
       clear ht U
       go_wp2_with fail
       refine F8 M.out I.out ?_ ?_
       ·repeat (first | exact Reg.NoQ.body (fun _ _ h=>h) (fun _ h=>h) | refine Reg.NoQ.then ?_ | refine Reg.NoQ.inBlock ?_)
       ·intro O w' y z
        go_wp2_with fail
        exact Dk y (J.out.trans (by first | (simp [Aj,Bk,Cx,hk.out,C.out]; done) | (simp [Aj,Bk,Cx,hk.out,C.out]; rw [show(decide (r.at_<0)||decide (2<r.at_))=false from by have q:=C.out; simp; omega]))) z
     have e4:(r.kind==4)=false:=by simp [k4]
     have n4:=hide k4
     clear k4
     by_cases ht:p.topo=4
     ·have et:(p.topo==4)=true:=by simp [ht]
      have am:=hide ht
      clear ht
      go_wp2_with fail
      refine KB M.out I.out ?_ ?_
      ·repeat (first | exact Reg.NoQ.body (fun _ _ h=>h) (fun _ h=>h) | refine Reg.NoQ.then ?_ | refine Reg.NoQ.inBlock ?_)
      ·intro O w' y z
       go_wp2_with fail
       exact Dk y (J.out.trans (by simp [Aj,Bk,Cx,n1.out,n2.out,n3.out,n4.out,am.out])) z
     ·have et:(p.topo==4)=false:=by simp [ht]
      have am:=hide ht
      clear ht
      go_wp2_with fail
      refine KB M.out I.out ?_ ?_
      ·repeat (first | exact Reg.NoQ.body (fun _ _ h=>h) (fun _ h=>h) | refine Reg.NoQ.then ?_ | refine Reg.NoQ.inBlock ?_)
      ·intro O w' y z
       go_wp2_with fail
       exact Dk y (J.out.trans (by simp [Aj,Bk,Cx,n1.out,n2.out,n3.out,n4.out,am.out])) z
end Go.Proofs.YtfcfpoemojjglaaGreatDoor.K
