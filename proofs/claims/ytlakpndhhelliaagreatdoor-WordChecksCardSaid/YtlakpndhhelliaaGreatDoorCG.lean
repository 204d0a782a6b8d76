/-
  Part CG of a proof.
-/
import Derived.Test.YtlakpndhhelliaaGreatDoorPA
import Derived.Test.YtlakpndhhelliaaGreatDoorCF
set_option maxHeartbeats 16000000
set_option maxRecDepth 100000
set_option linter.unusedVariables false
set_option linter.unusedSimpArgs false
namespace Go.Proofs.YtlakpndhhelliaaGreatDoor.K
open Go.RowKit
attribute [-go_sem] loadCellsFrom storeCells
theorem CQ {w w':World} {f:Array Value} {e E:Int} (h:f[4]?.getD undef=.int .i64 e) (y:E=e) (z:Below w.heap.size w w'):bodyPost Tryz.prog Tryz.f48 (Ret fun v w'=>v=.int .i64 E∧Below w.heap.size w w') Exit.ret { tmps:=f,defers:=[] } w':=
 bodyPost_ret (v:=.int .i64 e) (by simp [results,Tryz.results48,go_sem,h]) rfl ⟨by rw [y],z⟩
theorem Iv {w:World} {cs:List Value} {p:Ao} {r:As} {i:Nat} (h:Ax w w.heap.size cs p) (hr:p.rules[i]?=some r) (hs:r.Small) (aJ:r.name.size≤9223372036854775807) (hT:AL w):
  Calls Tryz.prog 48 #[.agg cs.toArray,.int .i64 (i:Int)] w (Ret fun v w'=>v=.int .i64 (Fb Ab p.topo (p.states.length:Int) (p.messages.length:Int) (p.values.length:Int) ((p.rules.take i).any fun x=>decide (x.name=r.name)) r)∧Below w.heap.size w w'):=by
 obtain⟨A1,c1,A2,c2,A3,c3,A4,c4,A5,c5,A6,c6,A7,c7,E1,f1,E2,f2,E3,f3,E4,f4,E5,f5,E6,f6,E7,f7,E8,f8,b,bK,w1,w2,bL,bM,bN,rfl,rfl,bO,bP,bQ,bR,O,ad,ae,aL,a9,af,bS⟩:=K5 h hr hT
 replace ad:=hide ad
 replace ae:=hide ae
 replace a9:=hide a9
 replace af:=hide af
 have aM:=hide O
 have aN:=O.b2.cell
 have aO:=O.b5.cell
 have aP:=O.load2 rfl
 have aQ:=O.load5 rfl
 clear O hT h
 have an:=hide (PX (c:=c7) ad.out ae.out aL)
 rw [af.out] at an
 have C:Hid (Fb Ab p.topo (p.states.length:Int) (p.messages.length:Int) (p.values.length:Int) ((p.rules.take i).any fun x=>decide (x.name=r.name)) r=orE (Ac (!Ab r.name||((p.rules.take i).any fun x=>decide (x.name=r.name))) 2) (orE (Ac (!C6 r.kind p.topo||An p.topo r) 6) (orE (orE (Aw r.fr (p.states.length:Int)) (Aw r.to (p.states.length:Int))) (Ch p.topo (p.states.length:Int) (p.messages.length:Int) (p.values.length:Int) r)))):=hide rfl
 generalize Fb Ab p.topo (p.states.length:Int) (p.messages.length:Int) (p.values.length:Int) ((p.rules.take i).any fun x=>decide (x.name=r.name)) r=E at C ⊢
 obtain⟨bt,ap⟩:∃b,Hid (((p.rules.take i).any fun x=>decide (x.name=r.name))=b):=⟨_,rfl⟩
 obtain⟨bo,aq⟩:∃b,Hid (Ab r.name=b):=⟨_,rfl⟩
 obtain⟨bf,ag⟩:∃b,Hid (C6 r.kind p.topo=b):=⟨_,rfl⟩
 obtain⟨bs,ar⟩:∃b,Hid (An p.topo r=b):=⟨_,rfl⟩
 rw [ap.out,aq.out,ag.out,ar.out] at C
 have au:Hid (∀(c:Bool) (x:Int),orE (Ac (!false||c) 2) x=2∧orE (Ac (!true||true) 2) x=2):=hide (by intro c x; simp [orE,Ac])
 have av:Hid (∀(c:Bool) (x:Int),orE (Ac (!false||c) 6) x=6∧orE (Ac (!true||true) 6) x=6):=hide (by intro c x; simp [orE,Ac])
 have non:Hid (∀(e x:Int),orE (Ac (!true||false) e) x=x):=hide (by intro e x; simp [orE,Ac])
 go_enter Tryz.func48,Tryz.ntmps48
 go_wp2_with (go_at_call 72; refine Calls.ret an.out ?_; rintro v w3 ⟨rfl,ah⟩; rw [ap.out]; have U:=aM.out.at ah; have aV:=U.b2.cell; have aW:=U.b5.cell; have aX:=U.load2 rfl; have aY:=U.load5 rfl; have aw:=hide U; have ax:=hide (a9.out.trans (ah.mono a9.out.size)); clear ah U aN aO aP aQ)
 refine Calls.ret (CG r.name w3 aJ aw.out.tab) ?_
 rintro v w4 ⟨rfl,ai⟩
 rw [aq.out]
 have V:=aw.out.at ai
 have aZ:=V.b2.cell
 have b0:=V.b5.cell
 have b1:=V.load2 rfl
 have b3:=V.load5 rfl
 have ay:=hide V
 have a6:=hide (ax.out.trans (ai.mono ax.out.size))
 clear ai V aV aW aX aY
 cases bo with
 | false=>
  cases bt
  all_goals
   go_wp2_with fail
   refine CQ (e:=2) ?_ (C.out.trans (au.out _ _).1) a6.out
   rfl
 | true=>
  cases bt with
  | true=>
   go_wp2_with fail
   refine CQ (e:=2) ?_ (C.out.trans (au.out true _).2) a6.out
   rfl
  | false=>
   rw [non.out] at C
   cases bf with
   | false=>
    go_wp2_with (go_at_call 74; refine(I5 _ _ _).mono ?_; rintro e w' ⟨rfl,rfl⟩; rw [ag.out])
    refine CQ (e:=6) ?_ (C.out.trans (av.out _ _).1) a6.out
    rfl
   | true=>
    go_wp2_with (go_at_call 74; refine(I5 _ _ _).mono ?_; rintro e w' ⟨rfl,rfl⟩; rw [ag.out])
    refine Calls.ret (KV ay.out.ru hs) ?_
    rintro v w5 ⟨rfl,aj⟩
    rw [ar.out]
    have W:=ay.out.at aj
    have bV:=W.b2.cell
    have bW:=W.b5.cell
    have bX:=W.load2 rfl
    have bY:=W.load5 rfl
    have b4:=hide W
    have az:=hide (a6.out.trans (aj.mono a6.out.size))
    clear aj W aZ b0 b1 b3
    cases bs with
    | true=>
     go_wp2_with fail
     refine CQ (e:=6) ?_ (C.out.trans (av.out true _).2) az.out
     rfl
    | false=>
     rw [non.out] at C
     go_wp2_with fail
     refine Ka b4.out az.out ?_ ?_
     ·repeat (first | exact Reg.NoQ.body (fun _ _ h=>h) (fun _ h=>h) | refine Reg.NoQ.then ?_ | refine Reg.NoQ.inBlock ?_)
     iterate 10 (intro _)
     intro w6 aa aA
     have F:=hide aA
     have G:=hide aa
     have c0:=aa.b2.cell
     have c8:=aa.b5.cell
     obtain⟨ei,aB⟩:∃e,Hid (Ah id [Aw r.fr (p.states.length:Int),Aw r.to (p.states.length:Int)]=e):=⟨_,rfl⟩
     have b6:Hid (orE (Aw r.fr (p.states.length:Int)) (Aw r.to (p.states.length:Int))=ei):=hide (by rw [←aB.out]; simp [Ah,Be])
     rw [b6.out] at C
     rw [aB.out]
     clear aa aA
     by_cases Z:ei=0
     case neg=>
      have b7:(ei != 0)=true:=by simp [Z]
      have b8:=hide Z
      clear Z
      go_wp2_with fail
      refine CQ (e:=ei) ?_ (C.out.trans (Bz b8.out)) F.out
      rfl
     have b7:(ei != 0)=false:=by simp [Z]
     have I:Hid (E=Ch p.topo (p.states.length:Int) (p.messages.length:Int) (p.values.length:Int) r):=hide (C.out.trans (by rw [Z]; rfl))
     clear Z C
     by_cases k1:r.kind=1
     ·have e1:(r.kind==1)=true:=by simp [k1]
      have hk:=hide k1
      clear k1
      go_wp2_with fail
      refine L8 G.out F.out ?_ ?_
      ·repeat (first | exact Reg.NoQ.body (fun _ _ h=>h) (fun _ h=>h) | refine Reg.NoQ.then ?_ | refine Reg.NoQ.inBlock ?_)
      ·intro J w' f y
       go_wp2_with fail
       exact CQ f (I.out.trans (by simp [Ah,Be,Ch,hk.out])) y
     have e1:(r.kind==1)=false:=by simp [k1]
     have n1:=hide k1
     clear k1
     by_cases k2:r.kind=2
     ·have e2:(r.kind==2)=true:=by simp [k2]
      have hk:=hide k2
      clear k2
      go_wp2_with fail
      refine Qt G.out F.out ?_ ?_
      ·repeat (first | exact Reg.NoQ.body (fun _ _ h=>h) (fun _ h=>h) | refine Reg.NoQ.then ?_ | refine Reg.NoQ.inBlock ?_)
      ·intro J w' f y
       go_wp2_with fail
       exact CQ f (I.out.trans (by simp [Ah,Be,Ch,hk.out])) y
     have e2:(r.kind==2)=false:=by simp [k2]
     have n2:=hide k2
     clear k2
     by_cases k3:r.kind=3
     ·have e3:(r.kind==3)=true:=by simp [k3]
      have hk:=hide k3
      clear k3
      go_wp2_with fail
      refine Ms G.out F.out ?_ ?_
      ·repeat (first | exact Reg.NoQ.body (fun _ _ h=>h) (fun _ h=>h) | refine Reg.NoQ.then ?_ | refine Reg.NoQ.inBlock ?_)
      ·intro J w' f y
       go_wp2_with fail
       exact CQ f (I.out.trans (by simp [Ah,Be,Ch,hk.out])) y
     have e3:(r.kind==3)=false:=by simp [k3]
     have n3:=hide k3
     clear k3
     by_cases k4:r.kind=4
     ·have e4:(r.kind==4)=true:=by simp [k4]
      have hk:=hide k4
      clear k4
      by_cases ha:r.at_<0
      ·have z:=hide ha
       go_wp2_with fail
       refine EX G.out F.out ?_ ?_
       ·repeat (first | exact Reg.NoQ.body (fun _ _ h=>h) (fun _ h=>h) | refine Reg.NoQ.then ?_ | refine Reg.NoQ.inBlock ?_)
       ·intro J w' f y
        go_wp2_with fail
        exact CQ f (I.out.trans (by first | (simp [Ah,Be,Ch,hk.out,z.out]; done) | (simp [Ah,Be,Ch,hk.out,z.out]; rw [show(decide (r.at_<0)||decide (2<r.at_))=false from by have q:=z.out; simp; omega]))) y
      by_cases hb:2<r.at_
      ·have z:=hide (And.intro ha hb)
       go_wp2_with fail
       refine EX G.out F.out ?_ ?_
       ·repeat (first | exact Reg.NoQ.body (fun _ _ h=>h) (fun _ h=>h) | refine Reg.NoQ.then ?_ | refine Reg.NoQ.inBlock ?_)
       ·intro J w' f y
        go_wp2_with fail
        exact CQ f (I.out.trans (by first | (simp [Ah,Be,Ch,hk.out,z.out]; done) | (simp [Ah,Be,Ch,hk.out,z.out]; rw [show(decide (r.at_<0)||decide (2<r.at_))=false from by have q:=z.out; simp; omega]))) y
      by_cases M:r.at_=0
      ·have z:=hide (And.intro ha (And.intro hb M))
       have ec:(r.at_ != 0)=false:=by simp [M]
       clear M
       go_wp2_with fail
       refine EX G.out F.out ?_ ?_
       ·repeat (first | exact Reg.NoQ.body (fun _ _ h=>h) (fun _ h=>h) | refine Reg.NoQ.then ?_ | refine Reg.NoQ.inBlock ?_)
       ·intro J w' f y
        go_wp2_with fail
        exact CQ f (I.out.trans (by first | (simp [Ah,Be,Ch,hk.out,z.out]; done) | (simp [Ah,Be,Ch,hk.out,z.out]; rw [show(decide (r.at_<0)||decide (2<r.at_))=false from by have q:=z.out; simp; omega]))) y
      have ec:(r.at_ != 0)=true:=by simp [M]
      by_cases ht:p.topo=3
      ·have z:=hide (And.intro ha (And.intro hb (And.intro M ht)))
       have et:(p.topo==3)=true:=by simp [ht]
       clear ht M
       go_wp2_with fail
       refine EX G.out F.out ?_ ?_
       ·repeat (first | exact Reg.NoQ.body (fun _ _ h=>h) (fun _ h=>h) | refine Reg.NoQ.then ?_ | refine Reg.NoQ.inBlock ?_)
       ·intro J w' f y
        go_wp2_with fail
        exact CQ f (I.out.trans (by first | (simp [Ah,Be,Ch,hk.out,z.out]; done) | (simp [Ah,Be,Ch,hk.out,z.out]; rw [show(decide (r.at_<0)||decide (2<r.at_))=false from by have q:=z.out; simp; omega]))) y
      ·have z:=hide (And.intro ha (And.intro hb (And.intro M ht)))
       have et:(p.topo==3)=false:=by simp [ht]
       clear ht M
       go_wp2_with fail
       refine EX G.out F.out ?_ ?_
       ·repeat (first | exact Reg.NoQ.body (fun _ _ h=>h) (fun _ h=>h) | refine Reg.NoQ.then ?_ | refine Reg.NoQ.inBlock ?_)
       ·intro J w' f y
        go_wp2_with fail
        exact CQ f (I.out.trans (by first | (simp [Ah,Be,Ch,hk.out,z.out]; done) | (simp [Ah,Be,Ch,hk.out,z.out]; rw [show(decide (r.at_<0)||decide (2<r.at_))=false from by have q:=z.out; simp; omega]))) y
     have e4:(r.kind==4)=false:=by simp [k4]
     have n4:=hide k4
     clear k4
     by_cases ht:p.topo=4
     ·have et:(p.topo==4)=true:=by simp [ht]
      have al:=hide ht
      clear ht
      go_wp2_with fail
      refine HR G.out F.out ?_ ?_
      ·repeat (first | exact Reg.NoQ.body (fun _ _ h=>h) (fun _ h=>h) | refine Reg.NoQ.then ?_ | refine Reg.NoQ.inBlock ?_)
      ·intro J w' f y
       go_wp2_with fail
       exact CQ f (I.out.trans (by simp [Ah,Be,Ch,n1.out,n2.out,n3.out,n4.out,al.out])) y
     ·have et:(p.topo==4)=false:=by simp [ht]
      have al:=hide ht
      clear ht
      go_wp2_with fail
      refine HR G.out F.out ?_ ?_
      ·repeat (first | exact Reg.NoQ.body (fun _ _ h=>h) (fun _ h=>h) | refine Reg.NoQ.then ?_ | refine Reg.NoQ.inBlock ?_)
      ·intro J w' f y
       go_wp2_with fail
       exact CQ f (I.out.trans (by simp [Ah,Be,Ch,n1.out,n2.out,n3.out,n4.out,al.out])) y
end Go.Proofs.YtlakpndhhelliaaGreatDoor.K
