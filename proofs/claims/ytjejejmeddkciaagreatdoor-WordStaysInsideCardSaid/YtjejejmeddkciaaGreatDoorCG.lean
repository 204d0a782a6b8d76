/-
  Part CG of a proof.
-/
import Derived.Test.YtjejejmeddkciaaGreatDoorPA
import Derived.Test.YtjejejmeddkciaaGreatDoorCF
set_option maxHeartbeats 16000000
set_option maxRecDepth 100000
set_option linter.unusedVariables false
set_option linter.unusedSimpArgs false
namespace Go.Proofs.YtjejejmeddkciaaGreatDoor.K
open Go.RowKit
attribute [-go_sem] loadCellsFrom storeCells
theorem Dk {w w':World} {h:Array Value} {e E:Int} (C:h[4]?.getD undef=.int .i64 e) (G:E=e) (F:Below w.heap.size w w'):bodyPost Tryz.prog Tryz.f142 (Ret fun v w'=>v=.int .i64 E/\Below w.heap.size w w') Exit.ret { tmps:=h,defers:=[] } w':=
 bodyPost_ret (v:=.int .i64 e) (by simp [results,Tryz.results142,go_sem,C]) rfl ⟨by rw [G],F⟩
theorem KT {w:World} {cs:List Value} {p:Am} {r:Az} {i:Nat} (h:At w w.heap.size cs p) (hr:p.rules[i]?=some r) (hs:r.Small) (bg:r.name.size<=9223372036854775807) (hT:SpOK w):
  Calls Tryz.prog 142 #[.agg cs.toArray,.int .i64 (i:Int)] w (Ret fun v w'=>v=.int .i64 (Gd nameOK p.topo (p.states.length:Int) (p.messages.length:Int) (p.values.length:Int) ((p.rules.take i).any fun x=>decide (x.name=r.name)) r)/\Below w.heap.size w w'):=by
 obtain⟨A1,c1,A2,c2,A3,c3,A4,c4,A5,c5,A6,c6,A7,c7,E1,f1,E2,f2,E3,f3,E4,f4,E5,f5,E6,f6,E7,f7,E8,f8,b,off,w1,w2,bX,bS,bT,rfl,rfl,bZ,bN,bW,bY,Z,am,al,bd,af,ao,bM⟩:=RJ h hr hT;replace am:=hide am;replace al:=hide al;replace af:=hide af;replace ao:=hide ao;have aU:=hide Z;have aW:=Z.b2.cell;have aZ:=Z.b5.cell;have b7:=Z.load2 rfl;have ba:=Z.load5 rfl;clear Z hT h;have aB:=hide (M7 (c:=c7) am.out al.out bd);rw [ao.out] at aB;have J:Hid (Gd nameOK p.topo (p.states.length:Int) (p.messages.length:Int) (p.values.length:Int) ((p.rules.take i).any fun x=>decide (x.name=r.name)) r=orE (Ad (!nameOK r.name||((p.rules.take i).any fun x=>decide (x.name=r.name))) 2) (orE (Ad (!Dx r.kind p.topo||As p.topo r) 6) (orE (orE (AD r.fr (p.states.length:Int)) (AD r.to (p.states.length:Int))) (Cx p.topo (p.states.length:Int) (p.messages.length:Int) (p.values.length:Int) r)))):=hide rfl;generalize Gd nameOK p.topo (p.states.length:Int) (p.messages.length:Int) (p.values.length:Int) ((p.rules.take i).any fun x=>decide (x.name=r.name)) r=E at J ⊢;obtain⟨bt,aA⟩:∃b,Hid (((p.rules.take i).any fun x=>decide (x.name=r.name))=b):=⟨_,rfl⟩;obtain⟨bo,ay⟩:∃b,Hid (nameOK r.name=b):=⟨_,rfl⟩;obtain⟨bf,ak⟩:∃b,Hid (Dx r.kind p.topo=b):=⟨_,rfl⟩;obtain⟨bs,az⟩:∃b,Hid (As p.topo r=b):=⟨_,rfl⟩;rw [aA.out,ay.out,ak.out,az.out] at J;have aK:Hid (∀(c:Bool) (x:Int),orE (Ad (!false||c) 2) x=2/\orE (Ad (!true||true) 2) x=2):=hide (by intro c x;simp [orE,Ad]);have aJ:Hid (∀(c:Bool) (x:Int),orE (Ad (!false||c) 6) x=6/\orE (Ad (!true||true) 6) x=6):=hide (by intro c x;simp [orE,Ad]);have aH:Hid (∀(e x:Int),orE (Ad (!true||false) e) x=x):=hide (by intro e x;simp [orE,Ad]);go_enter Tryz.func142,Tryz.ntmps142;go_wp2_with (go_at_call 171;refine Calls.ret aB.out ?_;rintro v w3 ⟨rfl,ah⟩;rw [aA.out];have a2:=aU.out.at ah;have aX:=a2.b2.cell;have b0:=a2.b5.cell;have b8:=a2.load2 rfl;have bb:=a2.load5 rfl;have ar:=hide a2;have av:=hide (af.out.trans (ah.mono af.out.size));clear ah a2 aW aZ b7 ba);refine Calls.ret (Da r.name w3 bg ar.out.tab) ?_;rintro v w4 ⟨rfl,ai⟩;rw [ay.out];have a3:=ar.out.at ai;have aY:=a3.b2.cell;have b4:=a3.b5.cell;have b9:=a3.load2 rfl;have bc:=a3.load5 rfl;have au:=hide a3;have ab:=hide (av.out.trans (ai.mono av.out.size));clear ai a3 aX b0 b8 bb;cases bo with
 | false=>
  cases bt
  all_goals
   go_wp2_with fail;refine Dk (e:=2) ?_ (J.out.trans (aK.out _ _).1) ab.out;rfl
 | true=>
  cases bt with
  | true=>
   go_wp2_with fail;refine Dk (e:=2) ?_ (J.out.trans (aK.out true _).2) ab.out;rfl
  | false=>
   rw [aH.out] at J;cases bf with
   | false=>
    go_wp2_with (go_at_call 173;refine(Js _ _ _).mono ?_;rintro e w' ⟨rfl,rfl⟩;rw [ak.out]);refine Dk (e:=6) ?_ (J.out.trans (aJ.out _ _).1) ab.out;rfl
   | true=>
    go_wp2_with (go_at_call 173;refine(Js _ _ _).mono ?_;rintro e w' ⟨rfl,rfl⟩;rw [ak.out]);refine Calls.ret (TE au.out.ru hs) ?_;rintro v w5 ⟨rfl,aj⟩;rw [az.out];have a4:=au.out.at aj;have bO:=a4.b2.cell;have bQ:=a4.b5.cell;have bU:=a4.load2 rfl;have bV:=a4.load5 rfl;have aV:=hide a4;have aw:=hide (ab.out.trans (aj.mono ab.out.size));clear aj a4 aY b4 b9 bc;cases bs with
    | true=>
     go_wp2_with fail;refine Dk (e:=6) ?_ (J.out.trans (aJ.out true _).2) aw.out;rfl
    | false=>
     rw [aH.out] at J;go_wp2_with fail;refine RN aV.out aw.out ?_ ?_
     ·repeat (first|exact Reg.NoQ.body (fun _ _ h=>h) (fun _ h=>h)|refine Reg.NoQ.then ?_|refine Reg.NoQ.inBlock ?_)
     iterate 10 (intro _)
     intro w6 ad ax;have M:=hide ax;have U:=hide ad;have bP:=ad.b2.cell;have bR:=ad.b5.cell;obtain⟨ei,aC⟩:∃e,Hid (Aj id [AD r.fr (p.states.length:Int),AD r.to (p.states.length:Int)]=e):=⟨_,rfl⟩;have b6:Hid (orE (AD r.fr (p.states.length:Int)) (AD r.to (p.states.length:Int))=ei):=hide (by rw [<-aC.out];simp [Aj,Bk]);rw [b6.out] at J;rw [aC.out];clear ad ax;by_cases h0:ei=0
     case neg=>
      have be:(ei != 0)=true:=by simp [h0]
      have aT:=hide h0;clear h0;go_wp2_with fail;refine Dk (e:=ei) ?_ (J.out.trans (BF aT.out)) M.out;rfl
     have be:(ei != 0)=false:=by simp [h0]
     have O:Hid (E=Cx p.topo (p.states.length:Int) (p.messages.length:Int) (p.values.length:Int) r):=hide (J.out.trans (by rw [h0];rfl));clear h0 J;by_cases k1:r.kind=1
     ·have e1:(r.kind==1)=true:=by simp [k1]
      have I:=hide k1;clear k1;go_wp2_with fail;refine RK U.out M.out ?_ ?_
      ·repeat (first|exact Reg.NoQ.body (fun _ _ h=>h) (fun _ h=>h)|refine Reg.NoQ.then ?_|refine Reg.NoQ.inBlock ?_)
      ·intro V w' C F;go_wp2_with fail;exact Dk C (O.out.trans (by simp [Aj,Bk,Cx,I.out])) F
     have e1:(r.kind==1)=false:=by simp [k1]
     have n1:=hide k1;clear k1;by_cases k2:r.kind=2
     ·have e2:(r.kind==2)=true:=by simp [k2]
      have I:=hide k2;clear k2;go_wp2_with fail;refine RL U.out M.out ?_ ?_
      ·repeat (first|exact Reg.NoQ.body (fun _ _ h=>h) (fun _ h=>h)|refine Reg.NoQ.then ?_|refine Reg.NoQ.inBlock ?_)
      ·intro V w' C F;go_wp2_with fail;exact Dk C (O.out.trans (by simp [Aj,Bk,Cx,I.out])) F
     have e2:(r.kind==2)=false:=by simp [k2]
     have n2:=hide k2;clear k2;by_cases k3:r.kind=3
     ·have e3:(r.kind==3)=true:=by simp [k3]
      have I:=hide k3;clear k3;go_wp2_with fail;refine RM U.out M.out ?_ ?_
      ·repeat (first|exact Reg.NoQ.body (fun _ _ h=>h) (fun _ h=>h)|refine Reg.NoQ.then ?_|refine Reg.NoQ.inBlock ?_)
      ·intro V w' C F;go_wp2_with fail;exact Dk C (O.out.trans (by simp [Aj,Bk,Cx,I.out])) F
     have e3:(r.kind==3)=false:=by simp [k3]
     have n3:=hide k3;clear k3;by_cases k4:r.kind=4
     ·have e4:(r.kind==4)=true:=by simp [k4]
      have I:=hide k4;clear k4;by_cases ha:r.at_<0
      ·have G:=hide ha;go_wp2_with fail;refine F8 U.out M.out ?_ ?_
       ·repeat (first|exact Reg.NoQ.body (fun _ _ h=>h) (fun _ h=>h)|refine Reg.NoQ.then ?_|refine Reg.NoQ.inBlock ?_)
       ·intro V w' C F;go_wp2_with fail;exact Dk C (O.out.trans (by first|(simp [Aj,Bk,Cx,I.out,G.out];done)|(simp [Aj,Bk,Cx,I.out,G.out];rw [show(decide (r.at_<0)||decide (2<r.at_))=false from by have q:=G.out;simp;omega]))) F
      by_cases hb:2<r.at_
      ·have G:=hide (And.intro ha hb);go_wp2_with fail;refine F8 U.out M.out ?_ ?_
       ·repeat (first|exact Reg.NoQ.body (fun _ _ h=>h) (fun _ h=>h)|refine Reg.NoQ.then ?_|refine Reg.NoQ.inBlock ?_)
       ·intro V w' C F;go_wp2_with fail;exact Dk C (O.out.trans (by first|(simp [Aj,Bk,Cx,I.out,G.out];done)|(simp [Aj,Bk,Cx,I.out,G.out];rw [show(decide (r.at_<0)||decide (2<r.at_))=false from by have q:=G.out;simp;omega]))) F
      by_cases W:r.at_=0
      ·have G:=hide (And.intro ha (And.intro hb W));have ec:(r.at_ != 0)=false:=by simp [W]
       clear W;go_wp2_with fail;refine F8 U.out M.out ?_ ?_
       ·repeat (first|exact Reg.NoQ.body (fun _ _ h=>h) (fun _ h=>h)|refine Reg.NoQ.then ?_|refine Reg.NoQ.inBlock ?_)
       ·intro V w' C F;go_wp2_with fail;exact Dk C (O.out.trans (by first|(simp [Aj,Bk,Cx,I.out,G.out];done)|(simp [Aj,Bk,Cx,I.out,G.out];rw [show(decide (r.at_<0)||decide (2<r.at_))=false from by have q:=G.out;simp;omega]))) F
      have ec:(r.at_ != 0)=true:=by simp [W]
      by_cases ht:p.topo=3
      ·have G:=hide (And.intro ha (And.intro hb (And.intro W ht)));have et:(p.topo==3)=true:=by simp [ht]
       clear ht W;go_wp2_with fail;refine F8 U.out M.out ?_ ?_
       ·repeat (first|exact Reg.NoQ.body (fun _ _ h=>h) (fun _ h=>h)|refine Reg.NoQ.then ?_|refine Reg.NoQ.inBlock ?_)
       ·intro V w' C F;go_wp2_with fail;exact Dk C (O.out.trans (by first|(simp [Aj,Bk,Cx,I.out,G.out];done)|(simp [Aj,Bk,Cx,I.out,G.out];rw [show(decide (r.at_<0)||decide (2<r.at_))=false from by have q:=G.out;simp;omega]))) F
      ·have G:=hide (And.intro ha (And.intro hb (And.intro W ht)));have et:(p.topo==3)=false:=by simp [ht]
       clear ht W;go_wp2_with fail;refine F8 U.out M.out ?_ ?_
       ·repeat (first|exact Reg.NoQ.body (fun _ _ h=>h) (fun _ h=>h)|refine Reg.NoQ.then ?_|refine Reg.NoQ.inBlock ?_)
       ·intro V w' C F;go_wp2_with fail;exact Dk C (O.out.trans (by first|(simp [Aj,Bk,Cx,I.out,G.out];done)|(simp [Aj,Bk,Cx,I.out,G.out];rw [show(decide (r.at_<0)||decide (2<r.at_))=false from by have q:=G.out;simp;omega]))) F
     have e4:(r.kind==4)=false:=by simp [k4]
     have n4:=hide k4;clear k4;by_cases ht:p.topo=4
     ·have et:(p.topo==4)=true:=by simp [ht]
      have an:=hide ht;clear ht;go_wp2_with fail;refine KB U.out M.out ?_ ?_
      ·repeat (first|exact Reg.NoQ.body (fun _ _ h=>h) (fun _ h=>h)|refine Reg.NoQ.then ?_|refine Reg.NoQ.inBlock ?_)
      ·intro V w' C F;go_wp2_with fail;exact Dk C (O.out.trans (by simp [Aj,Bk,Cx,n1.out,n2.out,n3.out,n4.out,an.out])) F
     ·have et:(p.topo==4)=false:=by simp [ht]
      have an:=hide ht;clear ht;go_wp2_with fail;refine KB U.out M.out ?_ ?_
      ·repeat (first|exact Reg.NoQ.body (fun _ _ h=>h) (fun _ h=>h)|refine Reg.NoQ.then ?_|refine Reg.NoQ.inBlock ?_)
      ·intro V w' C F;go_wp2_with fail;exact Dk C (O.out.trans (by simp [Aj,Bk,Cx,n1.out,n2.out,n3.out,n4.out,an.out])) F
end Go.Proofs.YtjejejmeddkciaaGreatDoor.K
