/-
  Part CX of a proof.
-/
import Derived.Test.YtfcfpoemojjglaaGreatDoorPA
import Derived.Test.YtfcfpoemojjglaaGreatDoorCQ
import Derived.Test.YtfcfpoemojjglaaGreatDoorCR
import Derived.Test.YtfcfpoemojjglaaGreatDoorCJ
import Derived.Test.YtfcfpoemojjglaaGreatDoorAC
import Derived.Test.YtfcfpoemojjglaaGreatDoorCI
set_option maxHeartbeats 16000000
set_option maxRecDepth 100000
set_option linter.unusedVariables false
set_option linter.unusedSimpArgs false
namespace Go.Proofs.YtfcfpoemojjglaaGreatDoor.K
open Go.RowKit
theorem refProtValidate_any {w:World} {cs:List Value} {p:Am} (h:At w w.heap.size cs p) (y:p.Small) (x:SpOK w):
  Calls Tryz.prog 95 #[.agg cs.toArray] w (Ret fun v w'=>v=.int .i64 (protE nameOK p)∧Below w.heap.size w w'):=by
 by_cases ht:p.topo=1
 ·exact RT h y x ht
 ·exact RU h y x ht
end Go.Proofs.YtfcfpoemojjglaaGreatDoor.K
namespace Go.Proofs.YtfcfpoemojjglaaGreatDoor.K
open Go.RowKit
attribute [-go_sem] loadCellsFrom storeCells
def DY (v:Value) (Q:Prop):Prop:=∃b:Bool,v=.bool b∧(b=false→Q)
theorem Mq {w:World} {cs:List Value} {r:Az} (h:AW w w.heap.size cs r) (a2:r.name.size≤9223372036854775807):
  Calls Tryz.prog 52 #[.agg cs.toArray] w (Ret fun v w'=>DY v (r.Small∧r.name.size≤500)∧Below w.heap.size w w'):=by
 obtain⟨E1,f1,E2,f2,E3,f3,E4,f4,E5,f5,E6,f6,E7,f7,E8,f8,⟨ad,a3,a4,a9,aa,ab,ac,aA,aB,aC,aD,a5,a6,aw,a7,ax,ay,az,a8⟩,⟨F,G,I,J,M,O,U,V⟩⟩:=h.cells
 obtain⟨w1,aE,C,y,Z⟩:=Ae w cs.toArray 99
 have av:=y.cell
 have W:=hide C
 have t1:=F.1
 have t2:=G.1
 have t3:=I.1
 have t4:=J.1
 have t5:=M.1
 have t6:=O.1
 have t7:=U.1
 have t8:=V.1
 generalize cs.toArray=rc at*
 unfold Az.Small
 generalize r.resp.length=n1 at*
 generalize r.guards.length=n2 at*
 generalize r.ex.length=n3 at*
 generalize r.fa.length=n4 at*
 generalize r.send.length=n5 at*
 generalize r.left.length=n6 at*
 generalize r.right.length=n7 at*
 generalize r.parent.length=n8 at*
 clear y Z C ad h F G I J M O U V a4 a9 aa ab ac a5 a6 a7 a8
 obtain⟨z,E⟩:∃z,z=r.name:=⟨_,rfl⟩
 rw [←E] at a3 a2 ⊢
 clear E
 go_enter Tryz.func52,Tryz.ntmps52
 go_wp2_with fail
 all_goals
  go_ret
  refine⟨⟨_,rfl,fun x=>?_⟩,W.out⟩
  first
   | (exact absurd x (by decide))
   | (simp at x; omega)
   | (simp at x; done)
theorem He {w:World} {A:Option Addr} {c:Nat} {l:List ByteArray} (h:Sl w w.heap.size 1 BE A l) (I:∀s∈l,s.size≤9223372036854775807):
  Calls Tryz.prog 53 #[.slice A l.length c] w (Ret fun v w'=>DY v (∀s∈l,s.size≤500)∧w=w'):=by
 have U:=hide h
 have hn:=h.1
 have a3:=hide I
 clear h I
 go_enter Tryz.func53,Tryz.ntmps53
 go_wp2_with fail
 go_loopw [3] (fun F wr=>∃(k:Nat),F=.int .i64 (k:Int)∧k≤l.length∧w=wr∧Hid (∀s∈l.take k,s.size≤500)) (fun F _=>l.length - (intOf F).toNat)
 case atStart=>exact⟨0,rfl,Nat.zero_le _,(by first | rfl | trivial),by intro s x; simp at x⟩
 case round=>
  obtain⟨k,rfl,hk,rfl,y⟩:=hrel
  by_cases Z:k<l.length
  ·obtain⟨b,off,e,M,a5,E,G⟩:=U.out.at Z
   have J:=G 0 (by omega)
   simp only [Nat.add_zero,Nat.mul_one,BE] at J
   have W:=hide E
   have a6:=a3.out e (List.mem_of_getElem? E)
   subst M
   clear G E
   by_cases h5:(500:Int)<(e.size:Int)
   ·go_wp2_with fail
    go_ret
    exact⟨⟨true,rfl,fun V=>absurd V (by decide)⟩,rfl⟩
   ·have a2:=hide (show ∀s∈l.take (k+1),s.size≤500 from by
     rw [show l.take (k+1)=l.take k++[e] by rw [List.take_add_one,W.out]; rfl]
     intro s x
     rcases List.mem_append.1 x with x | x
     ·exact y.out s x
     ·rw [List.mem_singleton.1 x]
      omega)
    go_wp2_with fail
    exact⟨⟨k+1,by go_num,by omega,(by first | rfl | trivial),a2.out⟩,by simp [intOf]; omega⟩
  ·have C:=y.out
   rw [List.take_of_length_le (by omega)] at C
   have O:=hide C
   clear C y
   go_wp2_with fail
   go_ret
   exact⟨⟨false,rfl,fun _=>O.out⟩,rfl⟩
end Go.Proofs.YtfcfpoemojjglaaGreatDoor.K
namespace Go.Proofs.YtfcfpoemojjglaaGreatDoor.K
open Go.RowKit
attribute [-go_sem] loadCellsFrom storeCells
structure Am.Fits (p:Am):Prop where
 name:p.name.size≤9223372036854775807
 names:∀s∈Bd p,s.size≤9223372036854775807
 rules:∀r∈p.rules,r.name.size≤9223372036854775807
theorem Mp {w:World} {cs:List Value} {p:Am} (h:At w w.heap.size cs p) (I:p.Fits):
  Calls Tryz.prog 20 #[.agg cs.toArray] w (Ret fun v w'=>DY v p.Small∧Below w.heap.size w w'):=by
 obtain⟨A1,c1,A2,c2,A3,c3,A4,c4,A5,c5,A6,c6,A7,c7,b6,bD,bE,aW,aX,aY,bF,aZ,b0,b4,b5,h1,W,Z,h4,h5,h6,h7,aP⟩:=h.cells
 have bC:=I.name
 have t1:=h1.1
 have t2:=W.1
 have t3:=Z.1
 have t4:=h4.1
 have t5:=h5.1
 have t6:=h6.1
 have t7:=h7.1
 obtain⟨w1,bG,O,M,aR⟩:=Ae w cs.toArray 27
 have aD:=hide M
 have E:=hide O
 have bx:=M.cell
 have aS:=hide (show ∀s∈p.states,s.size≤9223372036854775807 from fun s y=>I.names s (by simp [Bd,y]))
 have aT:=hide (show ∀s∈p.messages,s.size≤9223372036854775807 from fun s y=>I.names s (by simp [Bd,y]))
 have aU:=hide (show ∀s∈p.values,s.size≤9223372036854775807 from fun s y=>I.names s (by simp [Bd,y]))
 have b8:=hide I.rules
 have aF:=hide h7
 have aG:=hide h1
 have aH:=hide W
 have aJ:=hide Z
 generalize cs.toArray=pc at*
 obtain⟨ns,a9⟩:∃n,n=p.states.length:=⟨_,rfl⟩
 obtain⟨nm,a7⟩:∃n,n=p.messages.length:=⟨_,rfl⟩
 obtain⟨nv,ab⟩:∃n,n=p.values.length:=⟨_,rfl⟩
 obtain⟨nr,a8⟩:∃n,n=p.res.length:=⟨_,rfl⟩
 obtain⟨ni,a5⟩:∃n,n=p.initial.length:=⟨_,rfl⟩
 obtain⟨nl,a6⟩:∃n,n=p.leader.length:=⟨_,rfl⟩
 obtain⟨nu,aa⟩:∃n,n=p.rules.length:=⟨_,rfl⟩
 obtain⟨nz,al⟩:∃n,n=p.name.size:=⟨_,rfl⟩
 have G:=hide (show ns=p.states.length∧nm=p.messages.length∧nv=p.values.length∧nr=p.res.length∧ni=p.initial.length∧nl=p.leader.length∧nu=p.rules.length∧nz=p.name.size from⟨a9,a7,ab,a8,a5,a6,aa,al⟩)
 rw [←a9] at aW t1
 rw [←a7] at aX t2
 rw [←ab] at aY t3
 rw [←a8] at aZ t4
 rw [←a5] at b0 t5
 rw [←a6] at b4 t6
 rw [←aa] at b5 t7 aP
 clear a9 a7 ab a8 a5 a6 aa h h1 W Z h4 h5 h6 h7 M aR O I b6
 by_cases aw:500<(p.name.size:Int)
 case pos=>
  go_enter Tryz.func20,Tryz.ntmps20
  go_wp2_with fail
  go_ret
  exact⟨⟨true,rfl,fun x=>absurd x (by decide)⟩,E.out⟩
 by_cases M:60<(ns:Int)
 case pos=>
  go_enter Tryz.func20,Tryz.ntmps20
  go_wp2_with fail
  go_ret
  exact⟨⟨true,rfl,fun x=>absurd x (by decide)⟩,E.out⟩
 by_cases ax:60<(nm:Int)
 case pos=>
  go_enter Tryz.func20,Tryz.ntmps20
  go_wp2_with fail
  go_ret
  exact⟨⟨true,rfl,fun x=>absurd x (by decide)⟩,E.out⟩
 by_cases ay:60<(nv:Int)
 case pos=>
  go_enter Tryz.func20,Tryz.ntmps20
  go_wp2_with fail
  go_ret
  exact⟨⟨true,rfl,fun x=>absurd x (by decide)⟩,E.out⟩
 by_cases az:60<(nr:Int)
 case pos=>
  go_enter Tryz.func20,Tryz.ntmps20
  go_wp2_with fail
  go_ret
  exact⟨⟨true,rfl,fun x=>absurd x (by decide)⟩,E.out⟩
 by_cases aA:60<(ni:Int)
 case pos=>
  go_enter Tryz.func20,Tryz.ntmps20
  go_wp2_with fail
  go_ret
  exact⟨⟨true,rfl,fun x=>absurd x (by decide)⟩,E.out⟩
 by_cases aB:60<(nl:Int)
 case pos=>
  go_enter Tryz.func20,Tryz.ntmps20
  go_wp2_with fail
  go_ret
  exact⟨⟨true,rfl,fun x=>absurd x (by decide)⟩,E.out⟩
 by_cases aC:30<(nu:Int)
 case pos=>
  go_enter Tryz.func20,Tryz.ntmps20
  go_wp2_with fail
  go_ret
  exact⟨⟨true,rfl,fun x=>absurd x (by decide)⟩,E.out⟩
 go_enter Tryz.func20,Tryz.ntmps20
 go_wp2_with fail
 have av:=hide (show nz≤500∧ns≤60∧nm≤60∧nv≤60∧nr≤60∧ni≤60∧nl≤60∧nu≤30 from by have:=al; omega)
 clear aw M ax ay az aA aB aC
 go_loopw [3] (fun ii wr=>∃(k:Nat),ii=.int .i64 (k:Int)∧k≤nu∧Hid (Below w1.heap.size w1 wr)∧Hid (∀r∈p.rules.take k,r.Small∧r.name.size≤500)) (fun ii _=>nu - (intOf ii).toNat)
 case atStart=>exact⟨0,rfl,Nat.zero_le _,Below.refl _ _,by intro r J; simp at J⟩
 case round=>
  obtain⟨k,rfl,hk,V,hE⟩:=hrel
  have bz:=(aD.out.below V.out).cell
  have C:=hide (E.out.trans (V.out.mono E.out.size))
  by_cases bB:k<nu
  ·obtain⟨r,J⟩:∃r,p.rules[k]?=some r:=⟨_,List.getElem?_eq_getElem (by have:=G.out.2.2.2.2.2.2.1; omega)⟩
   obtain⟨b,off,rc,hA,bw,hC,aQ,bA⟩:=Du (aF.out.keep (w':=wr) (B':=wr.heap.size) (R':=AW wr wr.heap.size) (fun _ F=>C.out.cell F) (fun _ _ h=>h.keep (fun _ F=>C.out.cell F) C.out.size) C.out.size) J
   have b7:=hide J
   have aO:=hide (Mq (cs:=rc.toList) hC.is (b8.out r (List.mem_of_getElem? J)))
   subst hA
   clear aQ hC J
   go_wp2_with fail
   refine Calls.ret aO.out ?_
   rintro v w3 ⟨⟨bb,rfl,ak⟩,U⟩
   have aN:=hide ak
   have ai:=hide (V.out.trans (U.mono V.out.size))
   clear ak U
   cases bb
   ·have aV:=hide (show ∀r∈p.rules.take (k+1),r.Small∧r.name.size≤500 from by
     rw [show p.rules.take (k+1)=p.rules.take k++[r] by rw [List.take_add_one,b7.out]; rfl]
     intro s y
     rcases List.mem_append.1 y with y | y
     ·exact hE.out s y
     ·rw [List.mem_singleton.1 y]
      exact aN.out rfl)
    go_wp2_with fail
    exact⟨⟨k+1,by go_num,by omega,ai.out,aV.out⟩,by simp [intOf]; omega⟩
   ·go_wp2_with fail
    go_ret
    exact⟨⟨true,rfl,fun x=>absurd x (by decide)⟩,E.out.trans (ai.out.mono E.out.size)⟩
  ·have a4:=hE.out
   rw [List.take_of_length_le (by have:=G.out.2.2.2.2.2.2.1; omega)] at a4
   have aE:=hide a4
   clear a4 hE
   have q1:=hide (He (c:=c1) ((aG.out.keep (w':=wr) (B':=wr.heap.size) (fun _ F=>C.out.cell F) C.out.size)) aS.out)
   have q2:=hide (He (c:=c2) ((aH.out.keep (w':=wr) (B':=wr.heap.size) (fun _ F=>C.out.cell F) C.out.size)) aT.out)
   have q3:=hide (He (c:=c3) ((aJ.out.keep (w':=wr) (B':=wr.heap.size) (fun _ F=>C.out.cell F) C.out.size)) aU.out)
   rw [←G.out.1] at q1
   rw [←G.out.2.1] at q2
   rw [←G.out.2.2.1] at q3
   go_wp2_with fail
   refine Calls.ret q1.out ?_
   rintro v w' ⟨⟨b1,rfl,O⟩,rfl⟩
   have aK:=hide O
   clear O
   cases b1
   ·go_wp2_with fail
    refine Calls.ret q2.out ?_
    rintro v w' ⟨⟨b2,rfl,aj⟩,rfl⟩
    have aL:=hide aj
    clear aj
    cases b2
    ·go_wp2_with fail
     refine Calls.ret q3.out ?_
     rintro v w' ⟨⟨b3,rfl,U⟩,rfl⟩
     have aM:=hide U
     clear U
     go_wp2_with fail
     go_ret
     refine⟨⟨b3,rfl,fun x=>?_⟩,C.out⟩
     obtain⟨e1,e2,e3,e4,e5,e6,e7,e8⟩:=G.out
     obtain⟨f1,f2,f3,f4,f5,f6,f7,f8⟩:=av.out
     exact⟨by omega,by omega,by omega,by omega,by omega,by omega,by omega,by omega,aE.out,fun s y=>by
      simp only [Bd,List.mem_append] at y
      rcases y with(y | y) | y
      ·exact aK.out trivial s y
      ·exact aL.out trivial s y
      ·exact aM.out x s y⟩
    ·go_wp2_with fail
     go_ret
     exact⟨⟨true,rfl,fun x=>absurd x (by decide)⟩,C.out⟩
   ·go_wp2_with fail
    go_ret
    exact⟨⟨true,rfl,fun x=>absurd x (by decide)⟩,C.out⟩
def AB.Fits (q:AB):Prop:=q.name.size≤9223372036854775807
end Go.Proofs.YtfcfpoemojjglaaGreatDoor.K
