/-
  Part CX of a proof.
-/
import Derived.Test.YtlakpndhhelliaaGreatDoorPA
import Derived.Test.YtlakpndhhelliaaGreatDoorCJ
import Derived.Test.YtlakpndhhelliaaGreatDoorCI
set_option maxHeartbeats 16000000
set_option maxRecDepth 100000
set_option linter.unusedVariables false
set_option linter.unusedSimpArgs false
namespace Go.Proofs.YtlakpndhhelliaaGreatDoor.K
open Go.RowKit
attribute [-go_sem] loadCellsFrom storeCells
def Eo (v:Value) (Q:Prop):Prop:=∃b:Bool,v=.bool b∧(b=false→Q)
theorem Om {w:World} {cs:List Value} {r:As} (h:AB w w.heap.size cs r) (W:r.name.size≤9223372036854775807):
  Calls Tryz.prog 15 #[.agg cs.toArray] w (Ret fun v w'=>Eo v (r.Small∧r.name.size≤500)∧Below w.heap.size w w'):=by
 obtain⟨E1,f1,E2,f2,E3,f3,E4,f4,E5,f5,E6,f6,E7,f7,E8,f8,⟨Z,a2,a3,a4,a5,a6,a7,aw,ax,ay,az,a8,a9,aA,aa,aB,aC,aD,ab⟩,⟨y,C,E,F,G,I,J,M⟩⟩:=h.cells
 obtain⟨w1,aE,O,U,ad⟩:=Ag w cs.toArray 48
 have aF:=U.cell
 have ae:=hide O
 have t1:=y.1
 have t2:=C.1
 have t3:=E.1
 have t4:=F.1
 have t5:=G.1
 have t6:=I.1
 have t7:=J.1
 have t8:=M.1
 generalize cs.toArray=rc at*
 unfold As.Small
 generalize r.resp.length=n1 at*
 generalize r.guards.length=n2 at*
 generalize r.ex.length=n3 at*
 generalize r.fa.length=n4 at*
 generalize r.send.length=n5 at*
 generalize r.left.length=n6 at*
 generalize r.right.length=n7 at*
 generalize r.parent.length=n8 at*
 clear U ad O Z h y C E F G I J M a3 a4 a5 a6 a7 a8 a9 aa ab
 obtain⟨z,V⟩:∃z,z=r.name:=⟨_,rfl⟩
 rw [←V] at a2 W ⊢
 clear V
 go_enter Tryz.func15,Tryz.ntmps15
 go_wp2_with fail
 all_goals
  go_ret
  refine⟨⟨_,rfl,fun f=>?_⟩,ae.out⟩
  first
   | (exact absurd f (by decide))
   | (simp at f; omega)
   | (simp at f; done)
theorem GD {w:World} {A:Option Addr} {c:Nat} {l:List ByteArray} (h:Sl w w.heap.size 1 Bx A l) (F:∀s∈l,s.size≤9223372036854775807):
  Calls Tryz.prog 16 #[.slice A l.length c] w (Ret fun v w'=>Eo v (∀s∈l,s.size≤500)∧w=w'):=by
 have I:=hide h
 have hn:=h.1
 have J:=hide F
 clear h F
 go_enter Tryz.func16,Tryz.ntmps16
 go_wp2_with fail
 go_loopw [3] (fun y wr=>∃(k:Nat),y=.int .i64 (k:Int)∧k≤l.length∧w=wr∧Hid (∀s∈l.take k,s.size≤500)) (fun y _=>l.length - (intOf y).toNat)
 case atStart=>exact⟨0,rfl,Nat.zero_le _,(by first | rfl | trivial),by intro s f; simp at f⟩
 case round=>
  obtain⟨k,rfl,hk,rfl,z⟩:=hrel
  by_cases M:k<l.length
  ·obtain⟨b,a4,e,O,a5,C,G⟩:=I.out.at M
   have U:=G 0 (by omega)
   simp only [Nat.add_zero,Nat.mul_one,Bx] at U
   have V:=hide C
   have a6:=J.out e (List.mem_of_getElem? C)
   subst O
   clear G C
   by_cases h5:(500:Int)<(e.size:Int)
   ·go_wp2_with fail
    go_ret
    exact⟨⟨true,rfl,fun W=>absurd W (by decide)⟩,rfl⟩
   ·have Z:=hide (show ∀s∈l.take (k+1),s.size≤500 from by
     rw [show l.take (k+1)=l.take k++[e] by rw [List.take_add_one,V.out]; rfl]
     intro s f
     rcases List.mem_append.1 f with f | f
     ·exact z.out s f
     ·rw [List.mem_singleton.1 f]
      omega)
    go_wp2_with fail
    exact⟨⟨k+1,by go_num,by omega,(by first | rfl | trivial),Z.out⟩,by simp [intOf]; omega⟩
  ·have E:=z.out
   rw [List.take_of_length_le (by omega)] at E
   have a2:=hide E
   clear E z
   go_wp2_with fail
   go_ret
   exact⟨⟨false,rfl,fun _=>a2.out⟩,rfl⟩
end Go.Proofs.YtlakpndhhelliaaGreatDoor.K
namespace Go.Proofs.YtlakpndhhelliaaGreatDoor.K
open Go.RowKit
attribute [-go_sem] loadCellsFrom storeCells
structure Ao.Fits (p:Ao):Prop where
 name:p.name.size≤9223372036854775807
 names:∀s∈AP p,s.size≤9223372036854775807
 rules:∀r∈p.rules,r.name.size≤9223372036854775807
theorem L1 {w:World} {cs:List Value} {p:Ao} (h:Ax w w.heap.size cs p) (F:p.Fits):
  Calls Tryz.prog 8 #[.agg cs.toArray] w (Ret fun v w'=>Eo v p.Small∧Below w.heap.size w w'):=by
 obtain⟨A1,c1,A2,c2,A3,c3,A4,c4,A5,c5,A6,c6,A7,c7,av,bu,bv,aw,ax,ay,bw,az,aA,aB,aC,V,W,Z,h4,h5,h6,h7,aD⟩:=h.cells
 have bx:=F.name
 have t1:=V.1
 have t2:=W.1
 have t3:=Z.1
 have t4:=h4.1
 have t5:=h5.1
 have t6:=h6.1
 have t7:=h7.1
 obtain⟨w1,bz,J,M,aM⟩:=Ag w cs.toArray 27
 have aN:=hide M
 have C:=hide J
 have bA:=M.cell
 have aO:=hide (show ∀s∈p.states,s.size≤9223372036854775807 from fun s y=>F.names s (by simp [AP,y]))
 have aP:=hide (show ∀s∈p.messages,s.size≤9223372036854775807 from fun s y=>F.names s (by simp [AP,y]))
 have aQ:=hide (show ∀s∈p.values,s.size≤9223372036854775807 from fun s y=>F.names s (by simp [AP,y]))
 have aR:=hide F.rules
 have aS:=hide h7
 have aT:=hide V
 have aU:=hide W
 have aV:=hide Z
 generalize cs.toArray=pc at*
 obtain⟨ns,a3⟩:∃n,n=p.states.length:=⟨_,rfl⟩
 obtain⟨nm,a4⟩:∃n,n=p.messages.length:=⟨_,rfl⟩
 obtain⟨nv,a5⟩:∃n,n=p.values.length:=⟨_,rfl⟩
 obtain⟨nr,a6⟩:∃n,n=p.res.length:=⟨_,rfl⟩
 obtain⟨ni,a8⟩:∃n,n=p.initial.length:=⟨_,rfl⟩
 obtain⟨nl,a9⟩:∃n,n=p.leader.length:=⟨_,rfl⟩
 obtain⟨nu,aa⟩:∃n,n=p.rules.length:=⟨_,rfl⟩
 obtain⟨nz,aj⟩:∃n,n=p.name.size:=⟨_,rfl⟩
 have G:=hide (show ns=p.states.length∧nm=p.messages.length∧nv=p.values.length∧nr=p.res.length∧ni=p.initial.length∧nl=p.leader.length∧nu=p.rules.length∧nz=p.name.size from⟨a3,a4,a5,a6,a8,a9,aa,aj⟩)
 rw [←a3] at aw t1
 rw [←a4] at ax t2
 rw [←a5] at ay t3
 rw [←a6] at az t4
 rw [←a8] at aA t5
 rw [←a9] at aB t6
 rw [←aa] at aC t7 aD
 clear a3 a4 a5 a6 a8 a9 aa h V W Z h4 h5 h6 h7 M aM J F av
 by_cases aW:500<(p.name.size:Int)
 case pos=>
  go_enter Tryz.func8,Tryz.ntmps8
  go_wp2_with fail
  go_ret
  exact⟨⟨true,rfl,fun f=>absurd f (by decide)⟩,C.out⟩
 by_cases M:60<(ns:Int)
 case pos=>
  go_enter Tryz.func8,Tryz.ntmps8
  go_wp2_with fail
  go_ret
  exact⟨⟨true,rfl,fun f=>absurd f (by decide)⟩,C.out⟩
 by_cases aX:60<(nm:Int)
 case pos=>
  go_enter Tryz.func8,Tryz.ntmps8
  go_wp2_with fail
  go_ret
  exact⟨⟨true,rfl,fun f=>absurd f (by decide)⟩,C.out⟩
 by_cases aY:60<(nv:Int)
 case pos=>
  go_enter Tryz.func8,Tryz.ntmps8
  go_wp2_with fail
  go_ret
  exact⟨⟨true,rfl,fun f=>absurd f (by decide)⟩,C.out⟩
 by_cases aZ:60<(nr:Int)
 case pos=>
  go_enter Tryz.func8,Tryz.ntmps8
  go_wp2_with fail
  go_ret
  exact⟨⟨true,rfl,fun f=>absurd f (by decide)⟩,C.out⟩
 by_cases b0:60<(ni:Int)
 case pos=>
  go_enter Tryz.func8,Tryz.ntmps8
  go_wp2_with fail
  go_ret
  exact⟨⟨true,rfl,fun f=>absurd f (by decide)⟩,C.out⟩
 by_cases b4:60<(nl:Int)
 case pos=>
  go_enter Tryz.func8,Tryz.ntmps8
  go_wp2_with fail
  go_ret
  exact⟨⟨true,rfl,fun f=>absurd f (by decide)⟩,C.out⟩
 by_cases b5:30<(nu:Int)
 case pos=>
  go_enter Tryz.func8,Tryz.ntmps8
  go_wp2_with fail
  go_ret
  exact⟨⟨true,rfl,fun f=>absurd f (by decide)⟩,C.out⟩
 go_enter Tryz.func8,Tryz.ntmps8
 go_wp2_with fail
 have b6:=hide (show nz≤500∧ns≤60∧nm≤60∧nv≤60∧nr≤60∧ni≤60∧nl≤60∧nu≤30 from by have:=aj; omega)
 clear aW M aX aY aZ b0 b4 b5
 go_loopw [3] (fun ii wr=>∃(k:Nat),ii=.int .i64 (k:Int)∧k≤nu∧Hid (Below w1.heap.size w1 wr)∧Hid (∀r∈p.rules.take k,r.Small∧r.name.size≤500)) (fun ii _=>nu - (intOf ii).toNat)
 case atStart=>exact⟨0,rfl,Nat.zero_le _,Below.refl _ _,by intro r I; simp at I⟩
 case round=>
  obtain⟨k,rfl,hk,U,hE⟩:=hrel
  have bB:=(aN.out.below U.out).cell
  have z:=hide (C.out.trans (U.out.mono C.out.size))
  by_cases bC:k<nu
  ·obtain⟨r,I⟩:∃r,p.rules[k]?=some r:=⟨_,List.getElem?_eq_getElem (by have:=G.out.2.2.2.2.2.2.1; omega)⟩
   obtain⟨b,bD,rc,hA,bE,hC,b8,bF⟩:=BU (aS.out.keep (w':=wr) (B':=wr.heap.size) (R':=AB wr wr.heap.size) (fun _ E=>z.out.cell E) (fun _ _ h=>h.keep (fun _ E=>z.out.cell E) z.out.size) z.out.size) I
   have b9:=hide I
   have ba:=hide (Om (cs:=rc.toList) hC.is (aR.out r (List.mem_of_getElem? I)))
   subst hA
   clear b8 hC I
   go_wp2_with fail
   refine Calls.ret ba.out ?_
   rintro v w3 ⟨⟨bb,rfl,al⟩,O⟩
   have bd:=hide al
   have am:=hide (U.out.trans (O.mono U.out.size))
   clear al O
   cases bb
   ·have be:=hide (show ∀r∈p.rules.take (k+1),r.Small∧r.name.size≤500 from by
     rw [show p.rules.take (k+1)=p.rules.take k++[r] by rw [List.take_add_one,b9.out]; rfl]
     intro s y
     rcases List.mem_append.1 y with y | y
     ·exact hE.out s y
     ·rw [List.mem_singleton.1 y]
      exact bd.out rfl)
    go_wp2_with fail
    exact⟨⟨k+1,by go_num,by omega,am.out,be.out⟩,by simp [intOf]; omega⟩
   ·go_wp2_with fail
    go_ret
    exact⟨⟨true,rfl,fun f=>absurd f (by decide)⟩,C.out.trans (am.out.mono C.out.size)⟩
  ·have ae:=hE.out
   rw [List.take_of_length_le (by have:=G.out.2.2.2.2.2.2.1; omega)] at ae
   have bf:=hide ae
   clear ae hE
   have q1:=hide (GD (c:=c1) ((aT.out.keep (w':=wr) (B':=wr.heap.size) (fun _ E=>z.out.cell E) z.out.size)) aO.out)
   have q2:=hide (GD (c:=c2) ((aU.out.keep (w':=wr) (B':=wr.heap.size) (fun _ E=>z.out.cell E) z.out.size)) aP.out)
   have q3:=hide (GD (c:=c3) ((aV.out.keep (w':=wr) (B':=wr.heap.size) (fun _ E=>z.out.cell E) z.out.size)) aQ.out)
   rw [←G.out.1] at q1
   rw [←G.out.2.1] at q2
   rw [←G.out.2.2.1] at q3
   go_wp2_with fail
   refine Calls.ret q1.out ?_
   rintro v w' ⟨⟨b1,rfl,J⟩,rfl⟩
   have bg:=hide J
   clear J
   cases b1
   ·go_wp2_with fail
    refine Calls.ret q2.out ?_
    rintro v w' ⟨⟨b2,rfl,aq⟩,rfl⟩
    have bh:=hide aq
    clear aq
    cases b2
    ·go_wp2_with fail
     refine Calls.ret q3.out ?_
     rintro v w' ⟨⟨b3,rfl,O⟩,rfl⟩
     have bi:=hide O
     clear O
     go_wp2_with fail
     go_ret
     refine⟨⟨b3,rfl,fun f=>?_⟩,z.out⟩
     obtain⟨e1,e2,e3,e4,e5,e6,e7,e8⟩:=G.out
     obtain⟨f1,f2,f3,f4,f5,f6,f7,f8⟩:=b6.out
     exact⟨by omega,by omega,by omega,by omega,by omega,by omega,by omega,by omega,bf.out,fun s y=>by
      simp only [AP,List.mem_append] at y
      rcases y with(y | y) | y
      ·exact bg.out trivial s y
      ·exact bh.out trivial s y
      ·exact bi.out f s y⟩
    ·go_wp2_with fail
     go_ret
     exact⟨⟨true,rfl,fun f=>absurd f (by decide)⟩,z.out⟩
   ·go_wp2_with fail
    go_ret
    exact⟨⟨true,rfl,fun f=>absurd f (by decide)⟩,z.out⟩
def Bd.Fits (q:Bd):Prop:=q.name.size≤9223372036854775807
theorem MJ {w:World} {cs:List Value} {q:Bd} (h:BE w w.heap.size cs q) (hf:q.Fits):
  Calls Tryz.prog 9 #[.agg cs.toArray] w (Ret fun v w'=>Eo v q.Small∧Below w.heap.size w w'):=by
 obtain⟨B1,d1,B2,d2,B3,d3,B4,d4,ag,aR,aS,ah,ai,aj,ak,k1,F,k3,k4⟩:=h.cells
 have aT:q.name.size≤9223372036854775807:=hf
 have t1:=k1.1
 have t2:=F.1
 have t3:=k3.1
 have t4:=k4.1
 obtain⟨w1,aU,aa,z,ap⟩:=Ag w cs.toArray 30
 have aV:=hide z
 have y:=hide aa
 have aW:=z.cell
 have aX:=z.lt
 have aq:=hide F
 generalize cs.toArray=pc at*
 obtain⟨G,I⟩:∃n,n=q.start.length:=⟨_,rfl⟩
 obtain⟨C,J⟩:∃n,n=q.bad.length:=⟨_,rfl⟩
 obtain⟨M,O⟩:∃n,n=q.adj.length:=⟨_,rfl⟩
 obtain⟨U,V⟩:∃n,n=q.goal.length:=⟨_,rfl⟩
 have W:=hide (show G=q.start.length∧C=q.bad.length∧M=q.adj.length∧U=q.goal.length from⟨I,J,O,V⟩)
 rw [←I] at ah t1
 rw [←J] at ai t2
 rw [←O] at aj t3
 rw [←V] at ak t4
 clear I J O V h k1 F k3 k4 z ap aa hf ag
 by_cases ar:500<(q.name.size:Int)
 case pos=>
  go_enter Tryz.func9,Tryz.ntmps9
  go_wp2_with fail
  go_ret
  exact⟨⟨true,rfl,fun f=>absurd f (by decide)⟩,y.out⟩
 by_cases z:60<(G:Int)
 case pos=>
  go_enter Tryz.func9,Tryz.ntmps9
  go_wp2_with fail
  go_ret
  exact⟨⟨true,rfl,fun f=>absurd f (by decide)⟩,y.out⟩
 by_cases au:60<(C:Int)
 case pos=>
  go_enter Tryz.func9,Tryz.ntmps9
  go_wp2_with fail
  go_ret
  exact⟨⟨true,rfl,fun f=>absurd f (by decide)⟩,y.out⟩
 by_cases av:60<(M:Int)
 case pos=>
  go_enter Tryz.func9,Tryz.ntmps9
  go_wp2_with fail
  go_ret
  exact⟨⟨true,rfl,fun f=>absurd f (by decide)⟩,y.out⟩
 by_cases aw:60<(U:Int)
 case pos=>
  go_enter Tryz.func9,Tryz.ntmps9
  go_wp2_with fail
  go_ret
  exact⟨⟨true,rfl,fun f=>absurd f (by decide)⟩,y.out⟩
 go_enter Tryz.func9,Tryz.ntmps9
 go_wp2_with fail
 have ax:=hide (show q.name.size≤500∧G≤60∧C≤60∧M≤60∧U≤60 from by omega)
 clear ar z au av aw
 go_loopw [3] (fun Z wr=>∃(k:Nat),Z=.int .i64 (k:Int)∧k≤C∧w1=wr∧Hid (∀c∈q.bad.take k,c.states.length≤60)) (fun Z _=>C - (intOf Z).toNat)
 case atStart=>exact⟨0,rfl,Nat.zero_le _,(by first | rfl | trivial),by intro r hr; simp at hr⟩
 case round=>
  obtain⟨k,rfl,hk,rfl,hE⟩:=hrel
  by_cases aY:k<C
  ·obtain⟨b2,aZ,c,b0,az,b1,ab,b3,ad,aA⟩:=(aq.out.keep (w':=w1) (B':=w.heap.size) (R':=CY w1 w.heap.size) (fun _ hp=>y.out.cell hp) (fun _ _ h=>h.keep (fun _ hp=>y.out.cell hp) (Nat.le_refl _)) (Nat.le_refl _)).at (i:=k) (by have:=W.out.2.1; omega)
   obtain⟨C1,g1,rfl,ae⟩:=aA
   have d0:=ad 0 _ rfl
   simp only [Nat.add_zero] at d0
   have aB:=hide ab
   have aC:=ae.1
   obtain⟨nc,a4⟩:∃n,n=c.states.length:=⟨_,rfl⟩
   have aE:=hide a4
   rw [←a4] at d0 aC
   subst az
   clear ad ab ae a4
   by_cases h6:(60:Int)<(nc:Int)
   ·go_wp2_with fail
    go_ret
    exact⟨⟨true,rfl,fun f=>absurd f (by decide)⟩,y.out⟩
   ·have aF:=hide (show ∀c∈q.bad.take (k+1),c.states.length≤60 from by
     rw [show q.bad.take (k+1)=q.bad.take k++[c] by rw [List.take_add_one,aB.out]; rfl]
     intro s E
     rcases List.mem_append.1 E with E | E
     ·exact hE.out s E
     ·rw [List.mem_singleton.1 E,←aE.out]
      omega)
    go_wp2_with fail
    exact⟨⟨k+1,by go_num,by omega,(by first | rfl | trivial),aF.out⟩,by simp [intOf]; omega⟩
  ·have a5:=hE.out
   rw [List.take_of_length_le (by have:=W.out.2.1; omega)] at a5
   have aG:=hide a5
   clear a5 hE
   go_wp2_with fail
   go_ret
   refine⟨⟨false,rfl,fun _=>?_⟩,y.out⟩
   obtain⟨e1,e2,e3,e4⟩:=W.out
   obtain⟨f1,f2,f3,f4,f5⟩:=ax.out
   exact⟨f1,by omega,by omega,by omega,by omega,aG.out⟩
theorem Ps {w:World} {cs ds:List Value} {p:Ao} {q:Bd} (h:Ax w w.heap.size cs p) (G:BE w w.heap.size ds q) (M:p.Fits) (O:q.Fits):
  Calls Tryz.prog 4 #[.agg cs.toArray,.agg ds.toArray] w (Ret fun v w'=>Eo v (p.Small∧q.Small)∧Below w.heap.size w w'):=by
 have U:=h.rules_at.1
 obtain⟨B1,d1,B2,d2,B3,d3,B4,d4,V,-⟩:=G.cells
 obtain⟨w1,ap,f,W,a4⟩:=Ag w cs.toArray 27
 obtain⟨w2,aq,y,Z,a5⟩:=Ag w1 ds.toArray 30
 have z:=hide (f.trans (y.mono f.size))
 have a6:=hide (h.keep (w':=w2) (B':=w2.heap.size) (fun _ C=>z.out.cell C) z.out.size)
 have a7:=hide (G.keep (w':=w2) (B':=w2.heap.size) (fun _ C=>z.out.cell C) z.out.size)
 have ar:=Am (W.below y) U
 have a8:=hide Z
 have a9:=hide (L1 a6.out M)
 have aa:Hid (∀E,Below w2.heap.size w2 E→Calls Tryz.prog 9 #[.agg ds.toArray] E (Ret fun v w'=>Eo v q.Small∧Below E.heap.size E w')):=hide (fun E hx=>MJ (a7.out.keep (fun _ C=>hx.cell C) hx.size) O)
 generalize cs.toArray=pc at*
 generalize ds.toArray=qc at*
 have ab:=hide V
 clear h G f y W Z a4 a5 M O V U
 go_enter Tryz.func4,Tryz.ntmps4
 go_wp2_with fail
 refine Calls.ret a9.out ?_
 rintro v w3 ⟨⟨b1,rfl,f⟩,F⟩
 have ad:=hide f
 have av:=Am (a8.out.below F) ab.out
 have ae:=hide (aa.out _ F)
 have I:=hide (z.out.trans (F.mono z.out.size))
 clear f F
 cases b1
 ·go_wp2_with fail
  refine Calls.ret ae.out ?_
  rintro v w4 ⟨⟨b2,rfl,y⟩,a3⟩
  have af:=hide y
  have ag:=hide (I.out.trans (a3.mono I.out.size))
  clear y a3
  go_wp2_with fail
  go_ret
  exact⟨⟨b2,rfl,fun J=>⟨ad.out trivial,af.out J⟩⟩,ag.out⟩
 ·go_wp2_with fail
  go_ret
  exact⟨⟨true,rfl,fun J=>absurd J (by decide)⟩,I.out⟩
end Go.Proofs.YtlakpndhhelliaaGreatDoor.K
