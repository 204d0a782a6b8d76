/-
  Part CX of a proof.
-/
import Derived.Test.YtfcfpoemojjglaaGreatDoorPA
import Derived.Test.YtfcfpoemojjglaaGreatDoorCJ
import Derived.Test.YtfcfpoemojjglaaGreatDoorAC
import Derived.Test.YtfcfpoemojjglaaGreatDoorCI
set_option maxHeartbeats 16000000
set_option maxRecDepth 100000
set_option linter.unusedVariables false
set_option linter.unusedSimpArgs false
namespace Go.Proofs.YtfcfpoemojjglaaGreatDoor.K
open Go.RowKit
attribute [-go_sem] loadCellsFrom storeCells
def DY (v:Value) (Q:Prop):Prop:=∃b:Bool,v=.bool b∧(b=false→Q)
theorem Mq {w:World} {cs:List Value} {r:Az} (h:AW w w.heap.size cs r) (a4:r.name.size≤9223372036854775807):
  Calls Tryz.prog 52 #[.agg cs.toArray] w (Ret fun v w'=>DY v (r.Small∧r.name.size≤500)∧Below w.heap.size w w'):=by
 obtain⟨E1,f1,E2,f2,E3,f3,E4,f4,E5,f5,E6,f6,E7,f7,E8,f8,⟨ag,a5,a6,ab,ad,ae,af,aC,aD,aE,aF,a7,a8,ay,a9,az,aA,aB,aa⟩,⟨I,J,M,O,U,V,W,Z⟩⟩:=h.cells
 obtain⟨w1,aG,E,C,a3⟩:=Ae w cs.toArray 99
 have ax:=C.cell
 have a2:=hide E
 have t1:=I.1
 have t2:=J.1
 have t3:=M.1
 have t4:=O.1
 have t5:=U.1
 have t6:=V.1
 have t7:=W.1
 have t8:=Z.1
 generalize cs.toArray=rc at*
 unfold Az.Small
 generalize r.resp.length=n1 at*
 generalize r.guards.length=n2 at*
 generalize r.ex.length=n3 at*
 generalize r.fa.length=n4 at*
 generalize r.send.length=n5 at*
 generalize r.left.length=n6 at*
 generalize r.right.length=n7 at*
 generalize r.parent.length=n8 at*
 clear C a3 E ag h I J M O U V W Z a6 ab ad ae af a7 a8 a9 aa
 obtain⟨z,G⟩:∃z,z=r.name:=⟨_,rfl⟩
 rw [←G] at a5 a4 ⊢
 clear G
 go_enter Tryz.func52,Tryz.ntmps52
 go_wp2_with fail
 all_goals
  go_ret
  refine⟨⟨_,rfl,fun y=>?_⟩,a2.out⟩
  first
   | (exact absurd y (by decide))
   | (simp at y; omega)
   | (simp at y; done)
theorem He {w:World} {A:Option Addr} {c:Nat} {l:List ByteArray} (h:Sl w w.heap.size 1 BE A l) (J:∀s∈l,s.size≤9223372036854775807):
  Calls Tryz.prog 53 #[.slice A l.length c] w (Ret fun v w'=>DY v (∀s∈l,s.size≤500)∧w=w'):=by
 have V:=hide h
 have hn:=h.1
 have a4:=hide J
 clear h J
 go_enter Tryz.func53,Tryz.ntmps53
 go_wp2_with fail
 go_loopw [3] (fun G wr=>∃(k:Nat),G=.int .i64 (k:Int)∧k≤l.length∧w=wr∧Hid (∀s∈l.take k,s.size≤500)) (fun G _=>l.length - (intOf G).toNat)
 case atStart=>exact⟨0,rfl,Nat.zero_le _,(by first | rfl | trivial),by intro s y; simp at y⟩
 case round=>
  obtain⟨k,rfl,hk,rfl,z⟩:=hrel
  by_cases a2:k<l.length
  ·obtain⟨b,a9,e,O,a6,E,I⟩:=V.out.at a2
   have M:=I 0 (by omega)
   simp only [Nat.add_zero,Nat.mul_one,BE] at M
   have Z:=hide E
   have a7:=a4.out e (List.mem_of_getElem? E)
   subst O
   clear I E
   by_cases h5:(500:Int)<(e.size:Int)
   ·go_wp2_with fail
    go_ret
    exact⟨⟨true,rfl,fun W=>absurd W (by decide)⟩,rfl⟩
   ·have a3:=hide (show ∀s∈l.take (k+1),s.size≤500 from by
     rw [show l.take (k+1)=l.take k++[e] by rw [List.take_add_one,Z.out]; rfl]
     intro s y
     rcases List.mem_append.1 y with y | y
     ·exact z.out s y
     ·rw [List.mem_singleton.1 y]
      omega)
    go_wp2_with fail
    exact⟨⟨k+1,by go_num,by omega,(by first | rfl | trivial),a3.out⟩,by simp [intOf]; omega⟩
  ·have C:=z.out
   rw [List.take_of_length_le (by omega)] at C
   have U:=hide C
   clear C z
   go_wp2_with fail
   go_ret
   exact⟨⟨false,rfl,fun _=>U.out⟩,rfl⟩
end Go.Proofs.YtfcfpoemojjglaaGreatDoor.K
namespace Go.Proofs.YtfcfpoemojjglaaGreatDoor.K
open Go.RowKit
attribute [-go_sem] loadCellsFrom storeCells
structure Am.Fits (p:Am):Prop where
 name:p.name.size≤9223372036854775807
 names:∀s∈Bd p,s.size≤9223372036854775807
 rules:∀r∈p.rules,r.name.size≤9223372036854775807
theorem Mp {w:World} {cs:List Value} {p:Am} (h:At w w.heap.size cs p) (J:p.Fits):
  Calls Tryz.prog 20 #[.agg cs.toArray] w (Ret fun v w'=>DY v p.Small∧Below w.heap.size w w'):=by
 obtain⟨A1,c1,A2,c2,A3,c3,A4,c4,A5,c5,A6,c6,A7,c7,b9,bR,bS,aZ,b0,b4,bT,b5,b6,b7,b8,Z,h2,h3,h4,h5,h6,h7,aS⟩:=h.cells
 have bQ:=J.name
 have t1:=Z.1
 have t2:=h2.1
 have t3:=h3.1
 have t4:=h4.1
 have t5:=h5.1
 have t6:=h6.1
 have t7:=h7.1
 obtain⟨w1,bU,U,O,aU⟩:=Ae w cs.toArray 27
 have aG:=hide O
 have E:=hide U
 have bM:=O.cell
 have aV:=hide (show ∀s∈p.states,s.size≤9223372036854775807 from fun s z=>J.names s (by simp [Bd,z]))
 have aW:=hide (show ∀s∈p.messages,s.size≤9223372036854775807 from fun s z=>J.names s (by simp [Bd,z]))
 have aX:=hide (show ∀s∈p.values,s.size≤9223372036854775807 from fun s z=>J.names s (by simp [Bd,z]))
 have bd:=hide J.rules
 have aJ:=hide h7
 have aK:=hide Z
 have aL:=hide h2
 have aM:=hide h3
 generalize cs.toArray=pc at*
 obtain⟨ns,ab⟩:∃n,n=p.states.length:=⟨_,rfl⟩
 obtain⟨nm,a9⟩:∃n,n=p.messages.length:=⟨_,rfl⟩
 obtain⟨nv,ae⟩:∃n,n=p.values.length:=⟨_,rfl⟩
 obtain⟨nr,aa⟩:∃n,n=p.res.length:=⟨_,rfl⟩
 obtain⟨ni,a7⟩:∃n,n=p.initial.length:=⟨_,rfl⟩
 obtain⟨nl,a8⟩:∃n,n=p.leader.length:=⟨_,rfl⟩
 obtain⟨nu,ad⟩:∃n,n=p.rules.length:=⟨_,rfl⟩
 obtain⟨nz,ao⟩:∃n,n=p.name.size:=⟨_,rfl⟩
 have I:=hide (show ns=p.states.length∧nm=p.messages.length∧nv=p.values.length∧nr=p.res.length∧ni=p.initial.length∧nl=p.leader.length∧nu=p.rules.length∧nz=p.name.size from⟨ab,a9,ae,aa,a7,a8,ad,ao⟩)
 rw [←ab] at aZ t1
 rw [←a9] at b0 t2
 rw [←ae] at b4 t3
 rw [←aa] at b5 t4
 rw [←a7] at b6 t5
 rw [←a8] at b7 t6
 rw [←ad] at b8 t7 aS
 clear ab a9 ae aa a7 a8 ad h Z h2 h3 h4 h5 h6 h7 O aU U J b9
 by_cases az:500<(p.name.size:Int)
 case pos=>
  go_enter Tryz.func20,Tryz.ntmps20
  go_wp2_with fail
  go_ret
  exact⟨⟨true,rfl,fun y=>absurd y (by decide)⟩,E.out⟩
 by_cases O:60<(ns:Int)
 case pos=>
  go_enter Tryz.func20,Tryz.ntmps20
  go_wp2_with fail
  go_ret
  exact⟨⟨true,rfl,fun y=>absurd y (by decide)⟩,E.out⟩
 by_cases aA:60<(nm:Int)
 case pos=>
  go_enter Tryz.func20,Tryz.ntmps20
  go_wp2_with fail
  go_ret
  exact⟨⟨true,rfl,fun y=>absurd y (by decide)⟩,E.out⟩
 by_cases aB:60<(nv:Int)
 case pos=>
  go_enter Tryz.func20,Tryz.ntmps20
  go_wp2_with fail
  go_ret
  exact⟨⟨true,rfl,fun y=>absurd y (by decide)⟩,E.out⟩
 by_cases aC:60<(nr:Int)
 case pos=>
  go_enter Tryz.func20,Tryz.ntmps20
  go_wp2_with fail
  go_ret
  exact⟨⟨true,rfl,fun y=>absurd y (by decide)⟩,E.out⟩
 by_cases aD:60<(ni:Int)
 case pos=>
  go_enter Tryz.func20,Tryz.ntmps20
  go_wp2_with fail
  go_ret
  exact⟨⟨true,rfl,fun y=>absurd y (by decide)⟩,E.out⟩
 by_cases aE:60<(nl:Int)
 case pos=>
  go_enter Tryz.func20,Tryz.ntmps20
  go_wp2_with fail
  go_ret
  exact⟨⟨true,rfl,fun y=>absurd y (by decide)⟩,E.out⟩
 by_cases aF:30<(nu:Int)
 case pos=>
  go_enter Tryz.func20,Tryz.ntmps20
  go_wp2_with fail
  go_ret
  exact⟨⟨true,rfl,fun y=>absurd y (by decide)⟩,E.out⟩
 go_enter Tryz.func20,Tryz.ntmps20
 go_wp2_with fail
 have ay:=hide (show nz≤500∧ns≤60∧nm≤60∧nv≤60∧nr≤60∧ni≤60∧nl≤60∧nu≤30 from by have:=ao; omega)
 clear az O aA aB aC aD aE aF
 go_loopw [3] (fun ii wr=>∃(k:Nat),ii=.int .i64 (k:Int)∧k≤nu∧Hid (Below w1.heap.size w1 wr)∧Hid (∀r∈p.rules.take k,r.Small∧r.name.size≤500)) (fun ii _=>nu - (intOf ii).toNat)
 case atStart=>exact⟨0,rfl,Nat.zero_le _,Below.refl _ _,by intro r M; simp at M⟩
 case round=>
  obtain⟨k,rfl,hk,W,hE⟩:=hrel
  have bN:=(aG.out.below W.out).cell
  have C:=hide (E.out.trans (W.out.mono E.out.size))
  by_cases bP:k<nu
  ·obtain⟨r,M⟩:∃r,p.rules[k]?=some r:=⟨_,List.getElem?_eq_getElem (by have:=I.out.2.2.2.2.2.2.1; omega)⟩
   obtain⟨b,bV,rc,hA,bL,hC,aT,bO⟩:=Du (aJ.out.keep (w':=wr) (B':=wr.heap.size) (R':=AW wr wr.heap.size) (fun _ G=>C.out.cell G) (fun _ _ h=>h.keep (fun _ G=>C.out.cell G) C.out.size) C.out.size) M
   have ba:=hide M
   have aR:=hide (Mq (cs:=rc.toList) hC.is (bd.out r (List.mem_of_getElem? M)))
   subst hA
   clear aT hC M
   go_wp2_with fail
   refine Calls.ret aR.out ?_
   rintro v w3 ⟨⟨bb,rfl,an⟩,V⟩
   have aQ:=hide an
   have al:=hide (W.out.trans (V.mono W.out.size))
   clear an V
   cases bb
   ·have aY:=hide (show ∀r∈p.rules.take (k+1),r.Small∧r.name.size≤500 from by
     rw [show p.rules.take (k+1)=p.rules.take k++[r] by rw [List.take_add_one,ba.out]; rfl]
     intro s z
     rcases List.mem_append.1 z with z | z
     ·exact hE.out s z
     ·rw [List.mem_singleton.1 z]
      exact aQ.out rfl)
    go_wp2_with fail
    exact⟨⟨k+1,by go_num,by omega,al.out,aY.out⟩,by simp [intOf]; omega⟩
   ·go_wp2_with fail
    go_ret
    exact⟨⟨true,rfl,fun y=>absurd y (by decide)⟩,E.out.trans (al.out.mono E.out.size)⟩
  ·have a6:=hE.out
   rw [List.take_of_length_le (by have:=I.out.2.2.2.2.2.2.1; omega)] at a6
   have aH:=hide a6
   clear a6 hE
   have q1:=hide (He (c:=c1) ((aK.out.keep (w':=wr) (B':=wr.heap.size) (fun _ G=>C.out.cell G) C.out.size)) aV.out)
   have q2:=hide (He (c:=c2) ((aL.out.keep (w':=wr) (B':=wr.heap.size) (fun _ G=>C.out.cell G) C.out.size)) aW.out)
   have q3:=hide (He (c:=c3) ((aM.out.keep (w':=wr) (B':=wr.heap.size) (fun _ G=>C.out.cell G) C.out.size)) aX.out)
   rw [←I.out.1] at q1
   rw [←I.out.2.1] at q2
   rw [←I.out.2.2.1] at q3
   go_wp2_with fail
   refine Calls.ret q1.out ?_
   rintro v w' ⟨⟨b1,rfl,U⟩,rfl⟩
   have aN:=hide U
   clear U
   cases b1
   ·go_wp2_with fail
    refine Calls.ret q2.out ?_
    rintro v w' ⟨⟨b2,rfl,am⟩,rfl⟩
    have aO:=hide am
    clear am
    cases b2
    ·go_wp2_with fail
     refine Calls.ret q3.out ?_
     rintro v w' ⟨⟨b3,rfl,V⟩,rfl⟩
     have aP:=hide V
     clear V
     go_wp2_with fail
     go_ret
     refine⟨⟨b3,rfl,fun y=>?_⟩,C.out⟩
     obtain⟨e1,e2,e3,e4,e5,e6,e7,e8⟩:=I.out
     obtain⟨f1,f2,f3,f4,f5,f6,f7,f8⟩:=ay.out
     exact⟨by omega,by omega,by omega,by omega,by omega,by omega,by omega,by omega,aH.out,fun s z=>by
      simp only [Bd,List.mem_append] at z
      rcases z with(z | z) | z
      ·exact aN.out trivial s z
      ·exact aO.out trivial s z
      ·exact aP.out y s z⟩
    ·go_wp2_with fail
     go_ret
     exact⟨⟨true,rfl,fun y=>absurd y (by decide)⟩,C.out⟩
   ·go_wp2_with fail
    go_ret
    exact⟨⟨true,rfl,fun y=>absurd y (by decide)⟩,C.out⟩
def AB.Fits (q:AB):Prop:=q.name.size≤9223372036854775807
theorem Mo {w:World} {cs:List Value} {q:AB} (h:Ba w w.heap.size cs q) (hf:q.Fits):
  Calls Tryz.prog 29 #[.agg cs.toArray] w (Ret fun v w'=>DY v q.Small∧Below w.heap.size w w'):=by
 obtain⟨B1,d1,B2,d2,B3,d3,B4,d4,aD,ba,bb,az,aA,aB,aC,k1,k2,k3,k4⟩:=h.cells
 have b9:q.name.size≤9223372036854775807:=hf
 have t1:=k1.1
 have t2:=k2.1
 have t3:=k3.1
 have t4:=k4.1
 obtain⟨w1,be,aa,C,aw⟩:=Ae w cs.toArray 30
 have b4:=hide C
 have z:=hide aa
 have b6:=C.cell
 have b8:=C.lt
 have ar:=hide k2
 generalize cs.toArray=pc at*
 obtain⟨nt,Z⟩:∃n,n=q.start.length:=⟨_,rfl⟩
 obtain⟨E,U⟩:∃n,n=q.bad.length:=⟨_,rfl⟩
 obtain⟨na,O⟩:∃n,n=q.adj.length:=⟨_,rfl⟩
 obtain⟨ng,W⟩:∃n,n=q.goal.length:=⟨_,rfl⟩
 have M:=hide (show nt=q.start.length∧E=q.bad.length∧na=q.adj.length∧ng=q.goal.length from⟨Z,U,O,W⟩)
 rw [←Z] at az t1
 rw [←U] at aA t2
 rw [←O] at aB t3
 rw [←W] at aC t4
 clear Z U O W h k1 k2 k3 k4 C aw aa hf aD
 by_cases al:500<(q.name.size:Int)
 case pos=>
  go_enter Tryz.func29,Tryz.ntmps29
  go_wp2_with fail
  go_ret
  exact⟨⟨true,rfl,fun y=>absurd y (by decide)⟩,z.out⟩
 by_cases C:60<(nt:Int)
 case pos=>
  go_enter Tryz.func29,Tryz.ntmps29
  go_wp2_with fail
  go_ret
  exact⟨⟨true,rfl,fun y=>absurd y (by decide)⟩,z.out⟩
 by_cases am:60<(E:Int)
 case pos=>
  go_enter Tryz.func29,Tryz.ntmps29
  go_wp2_with fail
  go_ret
  exact⟨⟨true,rfl,fun y=>absurd y (by decide)⟩,z.out⟩
 by_cases an:60<(na:Int)
 case pos=>
  go_enter Tryz.func29,Tryz.ntmps29
  go_wp2_with fail
  go_ret
  exact⟨⟨true,rfl,fun y=>absurd y (by decide)⟩,z.out⟩
 by_cases ao:60<(ng:Int)
 case pos=>
  go_enter Tryz.func29,Tryz.ntmps29
  go_wp2_with fail
  go_ret
  exact⟨⟨true,rfl,fun y=>absurd y (by decide)⟩,z.out⟩
 go_enter Tryz.func29,Tryz.ntmps29
 go_wp2_with fail
 have ak:=hide (show q.name.size≤500∧nt≤60∧E≤60∧na≤60∧ng≤60 from by omega)
 clear al C am an ao
 go_loopw [3] (fun ii wr=>∃(k:Nat),ii=.int .i64 (k:Int)∧k≤E∧w1=wr∧Hid (∀c∈q.bad.take k,c.states.length≤60)) (fun ii _=>E - (intOf ii).toNat)
 case atStart=>exact⟨0,rfl,Nat.zero_le _,(by first | rfl | trivial),by intro r hr; simp at hr⟩
 case round=>
  obtain⟨k,rfl,hk,rfl,I⟩:=hrel
  by_cases b7:k<E
  ·obtain⟨b2,bf,c,aQ,aj,b5,ab,bd,ad,aq⟩:=(ar.out.keep (w':=w1) (B':=w.heap.size) (R':=Db w1 w.heap.size) (fun _ hp=>z.out.cell hp) (fun _ _ h=>h.keep (fun _ hp=>z.out.cell hp) (Nat.le_refl _)) (Nat.le_refl _)).at (i:=k) (by have:=M.out.2.1; omega)
   obtain⟨C1,g1,rfl,a9⟩:=aq
   have d0:=ad 0 _ rfl
   simp only [Nat.add_zero] at d0
   have au:=hide ab
   have av:=a9.1
   obtain⟨nc,V⟩:∃n,n=c.states.length:=⟨_,rfl⟩
   have ax:=hide V
   rw [←V] at d0 av
   subst aj
   clear ad ab a9 V
   by_cases h6:(60:Int)<(nc:Int)
   ·go_wp2_with fail
    go_ret
    exact⟨⟨true,rfl,fun y=>absurd y (by decide)⟩,z.out⟩
   ·have ay:=hide (show ∀c∈q.bad.take (k+1),c.states.length≤60 from by
     rw [show q.bad.take (k+1)=q.bad.take k++[c] by rw [List.take_add_one,au.out]; rfl]
     intro s G
     rcases List.mem_append.1 G with G | G
     ·exact I.out s G
     ·rw [List.mem_singleton.1 G,←ax.out]
      omega)
    go_wp2_with fail
    exact⟨⟨k+1,by go_num,by omega,(by first | rfl | trivial),ay.out⟩,by simp [intOf]; omega⟩
  ·have J:=I.out
   rw [List.take_of_length_le (by have:=M.out.2.1; omega)] at J
   have ap:=hide J
   clear J I
   go_wp2_with fail
   go_ret
   refine⟨⟨false,rfl,fun _=>?_⟩,z.out⟩
   obtain⟨e1,e2,e3,e4⟩:=M.out
   obtain⟨f1,f2,f3,f4,f5⟩:=ak.out
   exact⟨f1,by omega,by omega,by omega,by omega,ap.out⟩
theorem Gr {w:World} {cs ds:List Value} {p:Am} {q:AB} (h:At w w.heap.size cs p) (J:Ba w w.heap.size ds q) (Z:p.Fits) (hg:q.Fits):
  Calls Tryz.prog 9 #[.agg cs.toArray,.agg ds.toArray] w (Ret fun v w'=>DY v (p.Small∧q.Small)∧Below w.heap.size w w'):=by
 have a3:=h.rules_at.1
 obtain⟨B1,d1,B2,d2,B3,d3,B4,d4,a4,-⟩:=J.cells
 obtain⟨w1,av,z,U,ag⟩:=Ae w cs.toArray 27
 obtain⟨w2,aw,C,V,ah⟩:=Ae w1 ds.toArray 30
 have y:=hide (z.trans (C.mono z.size))
 have a7:=hide (h.keep (w':=w2) (B':=w2.heap.size) (fun _ E=>y.out.cell E) y.out.size)
 have a8:=hide (J.keep (w':=w2) (B':=w2.heap.size) (fun _ E=>y.out.cell E) y.out.size)
 have ar:=Ah (U.below C) a3
 have a6:=hide V
 have ae:=hide (Mp a7.out Z)
 have af:Hid (∀G,Below w2.heap.size w2 G→Calls Tryz.prog 29 #[.agg ds.toArray] G (Ret fun v w'=>DY v q.Small∧Below G.heap.size G w')):=hide (fun G hx=>Mo (a8.out.keep (fun _ E=>hx.cell E) hx.size) hg)
 generalize cs.toArray=pc at*
 generalize ds.toArray=qc at*
 have ai:=hide a4
 clear h J z C U V ag ah Z hg a4 a3
 go_enter Tryz.func9,Tryz.ntmps9
 go_wp2_with fail
 refine Calls.ret ae.out ?_
 rintro v w3 ⟨⟨b1,rfl,z⟩,I⟩
 have aa:=hide z
 have au:=Ah (a6.out.below I) ai.out
 have ad:=hide (af.out _ I)
 have O:=hide (y.out.trans (I.mono y.out.size))
 clear z I
 cases b1
 ·go_wp2_with fail
  refine Calls.ret ad.out ?_
  rintro v w4 ⟨⟨b2,rfl,C⟩,W⟩
  have ab:=hide C
  have a9:=hide (O.out.trans (W.mono O.out.size))
  clear C W
  go_wp2_with fail
  go_ret
  exact⟨⟨b2,rfl,fun M=>⟨aa.out trivial,ab.out M⟩⟩,a9.out⟩
 ·go_wp2_with fail
  go_ret
  exact⟨⟨true,rfl,fun M=>absurd M (by decide)⟩,O.out⟩
end Go.Proofs.YtfcfpoemojjglaaGreatDoor.K
