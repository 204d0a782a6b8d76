/-
  Part CX of a proof.
-/
import Derived.Test.YtfcfpoemojjglaaGreatDoorPA
import Derived.Test.YtfcfpoemojjglaaGreatDoorCJ
import Derived.Test.YtfcfpoemojjglaaGreatDoorAC
import Derived.Test.YtfcfpoemojjglaaGreatDoorCI
set_option maxHeartbeats 16000000
set_option maxRecDepth 100000
set_option linter.unusedVariables false
set_option linter.unusedSimpArgs false
namespace Go.Proofs.YtfcfpoemojjglaaGreatDoor.K
open Go.RowKit
attribute [-go_sem] loadCellsFrom storeCells
def DY (v:Value) (Q:Prop):Prop:=∃b:Bool,v=.bool b∧(b=false→Q)
theorem Mq {w:World} {cs:List Value} {r:Az} (h:AW w w.heap.size cs r) (a3:r.name.size≤9223372036854775807):
  Calls Tryz.prog 52 #[.agg cs.toArray] w (Ret fun v w'=>DY v (r.Small∧r.name.size≤500)∧Below w.heap.size w w'):=by
 obtain⟨E1,f1,E2,f2,E3,f3,E4,f4,E5,f5,E6,f6,E7,f7,E8,f8,⟨af,a4,a5,aa,ab,ad,ae,aC,aD,aE,aF,a6,a7,ay,a8,az,aA,aB,a9⟩,⟨G,I,J,M,O,U,V,W⟩⟩:=h.cells
 obtain⟨w1,aG,E,C,a2⟩:=Ae w cs.toArray 99
 have ax:=C.cell
 have Z:=hide E
 have t1:=G.1
 have t2:=I.1
 have t3:=J.1
 have t4:=M.1
 have t5:=O.1
 have t6:=U.1
 have t7:=V.1
 have t8:=W.1
 generalize cs.toArray=rc at*
 unfold Az.Small
 generalize r.resp.length=n1 at*
 generalize r.guards.length=n2 at*
 generalize r.ex.length=n3 at*
 generalize r.fa.length=n4 at*
 generalize r.send.length=n5 at*
 generalize r.left.length=n6 at*
 generalize r.right.length=n7 at*
 generalize r.parent.length=n8 at*
 clear C a2 E af h G I J M O U V W a5 aa ab ad ae a6 a7 a8 a9
 obtain⟨z,F⟩:∃z,z=r.name:=⟨_,rfl⟩
 rw [←F] at a4 a3 ⊢
 clear F
 go_enter Tryz.func52,Tryz.ntmps52
 go_wp2_with fail
 all_goals
  go_ret
  refine⟨⟨_,rfl,fun y=>?_⟩,Z.out⟩
  first
   | (exact absurd y (by decide))
   | (simp at y; omega)
   | (simp at y; done)
theorem He {w:World} {A:Option Addr} {c:Nat} {l:List ByteArray} (h:Sl w w.heap.size 1 BE A l) (I:∀s∈l,s.size≤9223372036854775807):
  Calls Tryz.prog 53 #[.slice A l.length c] w (Ret fun v w'=>DY v (∀s∈l,s.size≤500)∧w=w'):=by
 have U:=hide h
 have hn:=h.1
 have a3:=hide I
 clear h I
 go_enter Tryz.func53,Tryz.ntmps53
 go_wp2_with fail
 go_loopw [3] (fun F wr=>∃(k:Nat),F=.int .i64 (k:Int)∧k≤l.length∧w=wr∧Hid (∀s∈l.take k,s.size≤500)) (fun F _=>l.length - (intOf F).toNat)
 case atStart=>exact⟨0,rfl,Nat.zero_le _,(by first | rfl | trivial),by intro s y; simp at y⟩
 case round=>
  obtain⟨k,rfl,hk,rfl,z⟩:=hrel
  by_cases Z:k<l.length
  ·obtain⟨b,a8,e,M,a5,E,G⟩:=U.out.at Z
   have J:=G 0 (by omega)
   simp only [Nat.add_zero,Nat.mul_one,BE] at J
   have W:=hide E
   have a6:=a3.out e (List.mem_of_getElem? E)
   subst M
   clear G E
   by_cases h5:(500:Int)<(e.size:Int)
   ·go_wp2_with fail
    go_ret
    exact⟨⟨true,rfl,fun V=>absurd V (by decide)⟩,rfl⟩
   ·have a2:=hide (show ∀s∈l.take (k+1),s.size≤500 from by
     rw [show l.take (k+1)=l.take k++[e] by rw [List.take_add_one,W.out]; rfl]
     intro s y
     rcases List.mem_append.1 y with y | y
     ·exact z.out s y
     ·rw [List.mem_singleton.1 y]
      omega)
    go_wp2_with fail
    exact⟨⟨k+1,by go_num,by omega,(by first | rfl | trivial),a2.out⟩,by simp [intOf]; omega⟩
  ·have C:=z.out
   rw [List.take_of_length_le (by omega)] at C
   have O:=hide C
   clear C z
   go_wp2_with fail
   go_ret
   exact⟨⟨false,rfl,fun _=>O.out⟩,rfl⟩
end Go.Proofs.YtfcfpoemojjglaaGreatDoor.K
namespace Go.Proofs.YtfcfpoemojjglaaGreatDoor.K
open Go.RowKit
attribute [-go_sem] loadCellsFrom storeCells
structure Am.Fits (p:Am):Prop where
 name:p.name.size≤9223372036854775807
 names:∀s∈Bd p,s.size≤9223372036854775807
 rules:∀r∈p.rules,r.name.size≤9223372036854775807
theorem Mp {w:World} {cs:List Value} {p:Am} (h:At w w.heap.size cs p) (I:p.Fits):
  Calls Tryz.prog 20 #[.agg cs.toArray] w (Ret fun v w'=>DY v p.Small∧Below w.heap.size w w'):=by
 obtain⟨A1,c1,A2,c2,A3,c3,A4,c4,A5,c5,A6,c6,A7,c7,b8,bO,bP,aY,aZ,b0,bQ,b4,b5,b6,b7,h1,W,Z,h4,h5,h6,h7,aR⟩:=h.cells
 have bN:=I.name
 have t1:=h1.1
 have t2:=W.1
 have t3:=Z.1
 have t4:=h4.1
 have t5:=h5.1
 have t6:=h6.1
 have t7:=h7.1
 obtain⟨w1,bR,O,M,aT⟩:=Ae w cs.toArray 27
 have aF:=hide M
 have E:=hide O
 have bJ:=M.cell
 have aU:=hide (show ∀s∈p.states,s.size≤9223372036854775807 from fun s z=>I.names s (by simp [Bd,z]))
 have aV:=hide (show ∀s∈p.messages,s.size≤9223372036854775807 from fun s z=>I.names s (by simp [Bd,z]))
 have aW:=hide (show ∀s∈p.values,s.size≤9223372036854775807 from fun s z=>I.names s (by simp [Bd,z]))
 have ba:=hide I.rules
 have aH:=hide h7
 have aJ:=hide h1
 have aK:=hide W
 have aL:=hide Z
 generalize cs.toArray=pc at*
 obtain⟨ns,a9⟩:∃n,n=p.states.length:=⟨_,rfl⟩
 obtain⟨nm,a7⟩:∃n,n=p.messages.length:=⟨_,rfl⟩
 obtain⟨nv,ab⟩:∃n,n=p.values.length:=⟨_,rfl⟩
 obtain⟨nr,a8⟩:∃n,n=p.res.length:=⟨_,rfl⟩
 obtain⟨ni,a5⟩:∃n,n=p.initial.length:=⟨_,rfl⟩
 obtain⟨nl,a6⟩:∃n,n=p.leader.length:=⟨_,rfl⟩
 obtain⟨nu,aa⟩:∃n,n=p.rules.length:=⟨_,rfl⟩
 obtain⟨nz,am⟩:∃n,n=p.name.size:=⟨_,rfl⟩
 have G:=hide (show ns=p.states.length∧nm=p.messages.length∧nv=p.values.length∧nr=p.res.length∧ni=p.initial.length∧nl=p.leader.length∧nu=p.rules.length∧nz=p.name.size from⟨a9,a7,ab,a8,a5,a6,aa,am⟩)
 rw [←a9] at aY t1
 rw [←a7] at aZ t2
 rw [←ab] at b0 t3
 rw [←a8] at b4 t4
 rw [←a5] at b5 t5
 rw [←a6] at b6 t6
 rw [←aa] at b7 t7 aR
 clear a9 a7 ab a8 a5 a6 aa h h1 W Z h4 h5 h6 h7 M aT O I b8
 by_cases ay:500<(p.name.size:Int)
 case pos=>
  go_enter Tryz.func20,Tryz.ntmps20
  go_wp2_with fail
  go_ret
  exact⟨⟨true,rfl,fun y=>absurd y (by decide)⟩,E.out⟩
 by_cases M:60<(ns:Int)
 case pos=>
  go_enter Tryz.func20,Tryz.ntmps20
  go_wp2_with fail
  go_ret
  exact⟨⟨true,rfl,fun y=>absurd y (by decide)⟩,E.out⟩
 by_cases az:60<(nm:Int)
 case pos=>
  go_enter Tryz.func20,Tryz.ntmps20
  go_wp2_with fail
  go_ret
  exact⟨⟨true,rfl,fun y=>absurd y (by decide)⟩,E.out⟩
 by_cases aA:60<(nv:Int)
 case pos=>
  go_enter Tryz.func20,Tryz.ntmps20
  go_wp2_with fail
  go_ret
  exact⟨⟨true,rfl,fun y=>absurd y (by decide)⟩,E.out⟩
 by_cases aB:60<(nr:Int)
 case pos=>
  go_enter Tryz.func20,Tryz.ntmps20
  go_wp2_with fail
  go_ret
  exact⟨⟨true,rfl,fun y=>absurd y (by decide)⟩,E.out⟩
 by_cases aC:60<(ni:Int)
 case pos=>
  go_enter Tryz.func20,Tryz.ntmps20
  go_wp2_with fail
  go_ret
  exact⟨⟨true,rfl,fun y=>absurd y (by decide)⟩,E.out⟩
 by_cases aD:60<(nl:Int)
 case pos=>
  go_enter Tryz.func20,Tryz.ntmps20
  go_wp2_with fail
  go_ret
  exact⟨⟨true,rfl,fun y=>absurd y (by decide)⟩,E.out⟩
 by_cases aE:30<(nu:Int)
 case pos=>
  go_enter Tryz.func20,Tryz.ntmps20
  go_wp2_with fail
  go_ret
  exact⟨⟨true,rfl,fun y=>absurd y (by decide)⟩,E.out⟩
 go_enter Tryz.func20,Tryz.ntmps20
 go_wp2_with fail
 have ax:=hide (show nz≤500∧ns≤60∧nm≤60∧nv≤60∧nr≤60∧ni≤60∧nl≤60∧nu≤30 from by have:=am; omega)
 clear ay M az aA aB aC aD aE
 go_loopw [3] (fun ii wr=>∃(k:Nat),ii=.int .i64 (k:Int)∧k≤nu∧Hid (Below w1.heap.size w1 wr)∧Hid (∀r∈p.rules.take k,r.Small∧r.name.size≤500)) (fun ii _=>nu - (intOf ii).toNat)
 case atStart=>exact⟨0,rfl,Nat.zero_le _,Below.refl _ _,by intro r J; simp at J⟩
 case round=>
  obtain⟨k,rfl,hk,V,hE⟩:=hrel
  have bK:=(aF.out.below V.out).cell
  have C:=hide (E.out.trans (V.out.mono E.out.size))
  by_cases bM:k<nu
  ·obtain⟨r,J⟩:∃r,p.rules[k]?=some r:=⟨_,List.getElem?_eq_getElem (by have:=G.out.2.2.2.2.2.2.1; omega)⟩
   obtain⟨b,bS,rc,hA,bI,hC,aS,bL⟩:=Du (aH.out.keep (w':=wr) (B':=wr.heap.size) (R':=AW wr wr.heap.size) (fun _ F=>C.out.cell F) (fun _ _ h=>h.keep (fun _ F=>C.out.cell F) C.out.size) C.out.size) J
   have b9:=hide J
   have aQ:=hide (Mq (cs:=rc.toList) hC.is (ba.out r (List.mem_of_getElem? J)))
   subst hA
   clear aS hC J
   go_wp2_with fail
   refine Calls.ret aQ.out ?_
   rintro v w3 ⟨⟨bb,rfl,al⟩,U⟩
   have aP:=hide al
   have aj:=hide (V.out.trans (U.mono V.out.size))
   clear al U
   cases bb
   ·have aX:=hide (show ∀r∈p.rules.take (k+1),r.Small∧r.name.size≤500 from by
     rw [show p.rules.take (k+1)=p.rules.take k++[r] by rw [List.take_add_one,b9.out]; rfl]
     intro s z
     rcases List.mem_append.1 z with z | z
     ·exact hE.out s z
     ·rw [List.mem_singleton.1 z]
      exact aP.out rfl)
    go_wp2_with fail
    exact⟨⟨k+1,by go_num,by omega,aj.out,aX.out⟩,by simp [intOf]; omega⟩
   ·go_wp2_with fail
    go_ret
    exact⟨⟨true,rfl,fun y=>absurd y (by decide)⟩,E.out.trans (aj.out.mono E.out.size)⟩
  ·have a4:=hE.out
   rw [List.take_of_length_le (by have:=G.out.2.2.2.2.2.2.1; omega)] at a4
   have aG:=hide a4
   clear a4 hE
   have q1:=hide (He (c:=c1) ((aJ.out.keep (w':=wr) (B':=wr.heap.size) (fun _ F=>C.out.cell F) C.out.size)) aU.out)
   have q2:=hide (He (c:=c2) ((aK.out.keep (w':=wr) (B':=wr.heap.size) (fun _ F=>C.out.cell F) C.out.size)) aV.out)
   have q3:=hide (He (c:=c3) ((aL.out.keep (w':=wr) (B':=wr.heap.size) (fun _ F=>C.out.cell F) C.out.size)) aW.out)
   rw [←G.out.1] at q1
   rw [←G.out.2.1] at q2
   rw [←G.out.2.2.1] at q3
   go_wp2_with fail
   refine Calls.ret q1.out ?_
   rintro v w' ⟨⟨b1,rfl,O⟩,rfl⟩
   have aM:=hide O
   clear O
   cases b1
   ·go_wp2_with fail
    refine Calls.ret q2.out ?_
    rintro v w' ⟨⟨b2,rfl,ak⟩,rfl⟩
    have aN:=hide ak
    clear ak
    cases b2
    ·go_wp2_with fail
     refine Calls.ret q3.out ?_
     rintro v w' ⟨⟨b3,rfl,U⟩,rfl⟩
     have aO:=hide U
     clear U
     go_wp2_with fail
     go_ret
     refine⟨⟨b3,rfl,fun y=>?_⟩,C.out⟩
     obtain⟨e1,e2,e3,e4,e5,e6,e7,e8⟩:=G.out
     obtain⟨f1,f2,f3,f4,f5,f6,f7,f8⟩:=ax.out
     exact⟨by omega,by omega,by omega,by omega,by omega,by omega,by omega,by omega,aG.out,fun s z=>by
      simp only [Bd,List.mem_append] at z
      rcases z with(z | z) | z
      ·exact aM.out trivial s z
      ·exact aN.out trivial s z
      ·exact aO.out y s z⟩
    ·go_wp2_with fail
     go_ret
     exact⟨⟨true,rfl,fun y=>absurd y (by decide)⟩,C.out⟩
   ·go_wp2_with fail
    go_ret
    exact⟨⟨true,rfl,fun y=>absurd y (by decide)⟩,C.out⟩
def AB.Fits (q:AB):Prop:=q.name.size≤9223372036854775807
end Go.Proofs.YtfcfpoemojjglaaGreatDoor.K
