/-
  Part AC of a proof.
-/
import Derived.Test.YtfcfpoemojjglaaGreatDoorPA
import Derived.Test.YtfcfpoemojjglaaGreatDoorCI
import Derived.Test.YtfcfpoemojjglaaGreatDoorCE
set_option maxHeartbeats 16000000
set_option maxRecDepth 100000
set_option linter.unusedVariables false
set_option linter.unusedSimpArgs false
namespace Go.Proofs.YtfcfpoemojjglaaGreatDoor.K
open Go.RowKit
attribute [-go_sem] loadCellsFrom storeCells
theorem DX (b:Bool) (e:Int) (w:World):Calls Tryz.prog 121 #[.bool b,.int .i64 e] w (Ret fun r w'=>(∃x,r=.int .i64 x∧Hid (x=Ad b e))∧w=w'):=
 (Ce b e w).mono fun r w' h=>by
  obtain⟨rfl,rfl⟩:=h
  exact⟨⟨_,rfl,rfl⟩,rfl⟩
end Go.Proofs.YtfcfpoemojjglaaGreatDoor.K
namespace Go.Proofs.YtfcfpoemojjglaaGreatDoor.K
open Go.RowKit
attribute [-go_sem] loadCellsFrom storeCells
theorem AW.cells {w:World} {B:Nat} {cs:List Value} {r:Az} (h:AW w B cs r):∃A1 c1 A2 c2 A3 c3 x F y G C I A7 c7 E J,
  (cs.toArray.size=18∧cs.toArray[0]?=some (.string r.name)∧cs.toArray[1]?=some (.int .i64 r.kind)∧cs.toArray[2]?=some (.int .i64 r.fr)∧cs.toArray[3]?=some (.int .i64 r.to)∧cs.toArray[4]?=some (.int .i64 r.pf)∧cs.toArray[5]?=some (.int .i64 r.pt)∧cs.toArray[6]?=some (.slice A1 r.resp.length c1)∧
   cs.toArray[7]?=some (.slice A2 r.guards.length c2)∧cs.toArray[8]?=some (.slice A3 r.ex.length c3)∧cs.toArray[9]?=some (.slice x r.fa.length F)∧cs.toArray[10]?=some (.int .i64 r.rd)∧cs.toArray[11]?=some (.int .i64 r.wr)∧cs.toArray[12]?=some (.slice y r.send.length G)∧
   cs.toArray[13]?=some (.int .i64 r.at_)∧cs.toArray[14]?=some (.slice C r.left.length I)∧cs.toArray[15]?=some (.slice A7 r.right.length c7)∧cs.toArray[16]?=some (.slice E r.parent.length J)∧cs.toArray[17]?=some (.int .i64 r.dir))∧
  (Sl w B 1 Ai A1 r.resp∧Sl w B 6 CS A2 r.guards∧Sl w B 1 Ai A3 r.ex∧Sl w B 1 Ai x r.fa∧Sl w B 1 Ai y r.send∧Sl w B 1 Ai C r.left∧Sl w B 1 Ai A7 r.right∧Sl w B 1 Ai E r.parent):=by
 obtain⟨A1,c1,A2,c2,A3,c3,x,F,y,G,C,I,A7,c7,E,J,rfl,h1⟩:=h
 exact⟨A1,c1,A2,c2,A3,c3,x,F,y,G,C,I,A7,c7,E,J,⟨rfl,rfl,rfl,rfl,rfl,rfl,rfl,rfl,rfl,rfl,rfl,rfl,rfl,rfl,rfl,rfl,rfl,rfl,rfl⟩,h1⟩
def unV (k1 k2 k3 k4 k5 t4:Bool) (ng ne nf nd nl nt np nr:Nat) (rd wr pf pt at_ dir:Int):Bool:=
 (!k1&&(decide (0<ng)||decide (0<ne)||decide (0<nf)||decide (0<nd)))||
 ((!k1&&!k2&&!k3)&&(!decide (rd= -1)||!decide (wr= -1)))||
 ((!k2&&!k5)&&(!decide (pf=0)||!decide (pt=0)))||
 (!k3&&decide (0<nr))||(!k5&&!decide (dir=0))||
 (!k4&&(!decide (at_=0)||decide (0<nl)||decide (0<nt)))||
 (decide (0<np)&&!(k4&&t4))
theorem Rd {A:Type} (l:List A):(!l.isEmpty)=decide (0<l.length):=by cases l <;> simp
theorem FC (topo:Int) (r:Az):B9 topo r=unV (decide (r.kind=1)) (decide (r.kind=2)) (decide (r.kind=3)) (decide (r.kind=4)) (decide (r.kind=5)) (decide (topo=4)) r.guards.length r.ex.length r.fa.length r.send.length r.left.length r.right.length r.parent.length r.resp.length r.rd r.wr r.pf r.pt r.at_ r.dir:=by
 unfold B9 unV
 simp only [Rd]
theorem EU {w:World} {B:Nat} {cs:List Value} {p:Am} (h:At w B cs p):∃A1 c1 A2 c2 A3 c3 x E y F C G A7 c7,
  cs.toArray.size=10∧cs.toArray[0]?=some (.string p.name)∧cs.toArray[1]?=some (.int .i64 p.topo)∧cs.toArray[2]?=some (.slice A1 p.states.length c1)∧cs.toArray[3]?=some (.slice A2 p.messages.length c2)∧
  cs.toArray[4]?=some (.slice A3 p.values.length c3)∧cs.toArray[5]?=some (.int .i64 p.fault)∧cs.toArray[6]?=some (.slice x p.res.length E)∧cs.toArray[7]?=some (.slice y p.initial.length F)∧cs.toArray[8]?=some (.slice C p.leader.length G)∧cs.toArray[9]?=some (.slice A7 p.rules.length c7):=by
 obtain⟨A1,c1,A2,c2,A3,c3,x,E,y,F,C,G,A7,c7,rfl,_⟩:=h
 exact⟨A1,c1,A2,c2,A3,c3,x,E,y,F,C,G,A7,c7,rfl,rfl,rfl,rfl,rfl,rfl,rfl,rfl,rfl,rfl,rfl⟩
theorem TP {w:World} {cs ds:List Value} {p:Am} {r:Az} (h:At w w.heap.size cs p) (Z:AW w w.heap.size ds r) (hs:r.Small) (hk:Hid (r.kind=1)):
  Calls Tryz.prog 192 #[.agg cs.toArray,.agg ds.toArray] w (Ret fun v w'=>v=.bool (B9 p.topo r)∧Below w.heap.size w w'):=by
 obtain⟨A1,c1,A2,c2,A3,c3,A4,c4,A5,c5,A6,c6,A7,c7,aJ,aH,a9,-⟩:=EU h
 obtain⟨E1,f1,E2,f2,E3,f3,E4,f4,E5,f5,E6,f6,E7,f7,E8,f8,⟨aN,aK,ac,aL,aM,al,am,an,ao,ap,aq,ad,ae,af,ag,ah,ai,aj,ak⟩,-⟩:=Z.cells
 obtain⟨aP,aQ,aR,aS,aT,aU,aV,aW⟩:=hs
 have x:=FC p.topo r
 obtain⟨w1,aX,E,a2,aF⟩:=Ae w cs.toArray 27
 obtain⟨w2,aY,F,a3,aG⟩:=Ae w1 ds.toArray 99
 have a5:=hide (E.trans (F.mono E.size))
 have aC:=hide (a5.out.trans ((Ap w2).mono a5.out.size))
 have aD:=(a2.below F).cell
 have aE:=a3.cell
 generalize cs.toArray=pc at*
 generalize ds.toArray=rc at*
 obtain⟨ng,M⟩:∃n,n=r.guards.length:=⟨_,rfl⟩
 rw [←M] at x
 obtain⟨ne,I⟩:∃n,n=r.ex.length:=⟨_,rfl⟩
 rw [←I] at x
 obtain⟨nf,J⟩:∃n,n=r.fa.length:=⟨_,rfl⟩
 rw [←J] at x
 obtain⟨nd,G⟩:∃n,n=r.send.length:=⟨_,rfl⟩
 rw [←G] at x
 obtain⟨nl,O⟩:∃n,n=r.left.length:=⟨_,rfl⟩
 rw [←O] at x
 obtain⟨nt,W⟩:∃n,n=r.right.length:=⟨_,rfl⟩
 rw [←W] at x
 obtain⟨np,U⟩:∃n,n=r.parent.length:=⟨_,rfl⟩
 rw [←U] at x
 obtain⟨nr,V⟩:∃n,n=r.resp.length:=⟨_,rfl⟩
 rw [←V] at x
 rw [←M] at ao aQ
 rw [←I] at ap aR
 rw [←J] at aq aS
 rw [←G] at af aT
 rw [←O] at ah aU
 rw [←W] at ai aV
 rw [←U] at aj aW
 rw [←V] at an aP
 obtain⟨rd,ar⟩:∃n,n=r.rd:=⟨_,rfl⟩
 rw [←ar] at x ad
 obtain⟨wr,av⟩:∃n,n=r.wr:=⟨_,rfl⟩
 rw [←av] at x ae
 obtain⟨pf,aa⟩:∃n,n=r.pf:=⟨_,rfl⟩
 rw [←aa] at x al
 obtain⟨pt,ab⟩:∃n,n=r.pt:=⟨_,rfl⟩
 rw [←ab] at x am
 obtain⟨ta,au⟩:∃n,n=r.at_:=⟨_,rfl⟩
 rw [←au] at x ag
 obtain⟨di,a6⟩:∃n,n=r.dir:=⟨_,rfl⟩
 rw [←a6] at x ak
 obtain⟨kt,a8⟩:∃n,n=p.topo:=⟨_,rfl⟩
 rw [←a8] at x a9 ⊢
 obtain⟨y,a7⟩:∃n,n=r.kind:=⟨_,rfl⟩
 rw [←a7] at x ac hk
 have q1:(y==1)=true:=by rw [hk.out]; rfl
 have q2:(y==2)=false:=by rw [hk.out]; rfl
 have q3:(y==3)=false:=by rw [hk.out]; rfl
 have q4:(y==4)=false:=by rw [hk.out]; rfl
 have q5:(y==5)=false:=by rw [hk.out]; rfl
 have y1:decide (y=1)=true:=by rw [hk.out]; rfl
 have y2:decide (y=2)=false:=by rw [hk.out]; rfl
 have y3:decide (y=3)=false:=by rw [hk.out]; rfl
 have y4:decide (y=4)=false:=by rw [hk.out]; rfl
 have y5:decide (y=5)=false:=by rw [hk.out]; rfl
 rw [y1,y2,y3,y4,y5] at x
 have a4:=hide x
 clear M I J G O W U V ar av aa ab au a6 a8 a7 x y1 y2 y3 y4 y5 E F a2 a3 aF aG aJ aN aH aK aL aM
 go_enter Tryz.func192,Tryz.ntmps192
 go_wp2_with fail
 refine Reg.cI [0,1,3,0,8,24,0,64,192,0,512,1536,0,4096,12288,7,32831,98815,233471,524287] [0,1,2,3,4,5,6,7,8,9,10,11,12,13,14,15,16,17,18,19] ?_
 refine Reg.wI [0,1,2,3,4,5,6,7,8,9,10,11,12,13,14,15,16,17,18,19] [] rfl fun Qf C=>?_
 go_wp2_with fail
 first | refine C _ _ ⟨rfl,?_⟩ | refine⟨rfl,?_⟩ | refine C _ _ ⟨by simp [Reg.fineT,Reg.intOp,Region.wanted,yielded,Reg.intFine,Reg.isInt,Act.eval],?_⟩
 try clear C
 first | refine Reg.restI_end ?_ | skip
 go_wp2_with fail
 all_goals
  go_ret
  refine⟨?_,aC.out⟩
  rw [a4.out]
  refine congrArg Value.bool ?_
  clear q1 q2 q3 q4 q5 a4 aD aE aX aY h Z a9 ac al am an ao ap aq ad ae af ag ah ai aj ak
  unfold unV
  first
   | (simp_all; done)
   | (simp_all; omega)
   | (by_cases h4:kt=4 <;> simp_all; done)
   | (by_cases h4:kt=4 <;> simp_all <;> omega)
theorem TQ {w:World} {cs ds:List Value} {p:Am} {r:Az} (h:At w w.heap.size cs p) (Z:AW w w.heap.size ds r) (hs:r.Small) (hk:Hid (r.kind=2)):
  Calls Tryz.prog 192 #[.agg cs.toArray,.agg ds.toArray] w (Ret fun v w'=>v=.bool (B9 p.topo r)∧Below w.heap.size w w'):=by
 obtain⟨A1,c1,A2,c2,A3,c3,A4,c4,A5,c5,A6,c6,A7,c7,aJ,aH,a9,-⟩:=EU h
 obtain⟨E1,f1,E2,f2,E3,f3,E4,f4,E5,f5,E6,f6,E7,f7,E8,f8,⟨aN,aK,ac,aL,aM,al,am,an,ao,ap,aq,ad,ae,af,ag,ah,ai,aj,ak⟩,-⟩:=Z.cells
 obtain⟨aP,aQ,aR,aS,aT,aU,aV,aW⟩:=hs
 have x:=FC p.topo r
 obtain⟨w1,aX,E,a2,aF⟩:=Ae w cs.toArray 27
 obtain⟨w2,aY,F,a3,aG⟩:=Ae w1 ds.toArray 99
 have a5:=hide (E.trans (F.mono E.size))
 have aC:=hide (a5.out.trans ((Ap w2).mono a5.out.size))
 have aD:=(a2.below F).cell
 have aE:=a3.cell
 generalize cs.toArray=pc at*
 generalize ds.toArray=rc at*
 obtain⟨ng,M⟩:∃n,n=r.guards.length:=⟨_,rfl⟩
 rw [←M] at x
 obtain⟨ne,I⟩:∃n,n=r.ex.length:=⟨_,rfl⟩
 rw [←I] at x
 obtain⟨nf,J⟩:∃n,n=r.fa.length:=⟨_,rfl⟩
 rw [←J] at x
 obtain⟨nd,G⟩:∃n,n=r.send.length:=⟨_,rfl⟩
 rw [←G] at x
 obtain⟨nl,O⟩:∃n,n=r.left.length:=⟨_,rfl⟩
 rw [←O] at x
 obtain⟨nt,W⟩:∃n,n=r.right.length:=⟨_,rfl⟩
 rw [←W] at x
 obtain⟨np,U⟩:∃n,n=r.parent.length:=⟨_,rfl⟩
 rw [←U] at x
 obtain⟨nr,V⟩:∃n,n=r.resp.length:=⟨_,rfl⟩
 rw [←V] at x
 rw [←M] at ao aQ
 rw [←I] at ap aR
 rw [←J] at aq aS
 rw [←G] at af aT
 rw [←O] at ah aU
 rw [←W] at ai aV
 rw [←U] at aj aW
 rw [←V] at an aP
 obtain⟨rd,ar⟩:∃n,n=r.rd:=⟨_,rfl⟩
 rw [←ar] at x ad
 obtain⟨wr,av⟩:∃n,n=r.wr:=⟨_,rfl⟩
 rw [←av] at x ae
 obtain⟨pf,aa⟩:∃n,n=r.pf:=⟨_,rfl⟩
 rw [←aa] at x al
 obtain⟨pt,ab⟩:∃n,n=r.pt:=⟨_,rfl⟩
 rw [←ab] at x am
 obtain⟨ta,au⟩:∃n,n=r.at_:=⟨_,rfl⟩
 rw [←au] at x ag
 obtain⟨di,a6⟩:∃n,n=r.dir:=⟨_,rfl⟩
 rw [←a6] at x ak
 obtain⟨kt,a8⟩:∃n,n=p.topo:=⟨_,rfl⟩
 rw [←a8] at x a9 ⊢
 obtain⟨y,a7⟩:∃n,n=r.kind:=⟨_,rfl⟩
 rw [←a7] at x ac hk
 have q1:(y==1)=false:=by rw [hk.out]; rfl
 have q2:(y==2)=true:=by rw [hk.out]; rfl
 have q3:(y==3)=false:=by rw [hk.out]; rfl
 have q4:(y==4)=false:=by rw [hk.out]; rfl
 have q5:(y==5)=false:=by rw [hk.out]; rfl
 have y1:decide (y=1)=false:=by rw [hk.out]; rfl
 have y2:decide (y=2)=true:=by rw [hk.out]; rfl
 have y3:decide (y=3)=false:=by rw [hk.out]; rfl
 have y4:decide (y=4)=false:=by rw [hk.out]; rfl
 have y5:decide (y=5)=false:=by rw [hk.out]; rfl
 rw [y1,y2,y3,y4,y5] at x
 have a4:=hide x
 clear M I J G O W U V ar av aa ab au a6 a8 a7 x y1 y2 y3 y4 y5 E F a2 a3 aF aG aJ aN aH aK aL aM
 go_enter Tryz.func192,Tryz.ntmps192
 go_wp2_with fail
 refine Reg.cI [0,1,3,0,8,24,0,64,192,0,512,1536,0,4096,12288,7,32831,98815,233471,524287] [0,1,2,3,4,5,6,7,8,9,10,11,12,13,14,15,16,17,18,19] ?_
 refine Reg.wI [0,1,2,3,4,5,6,7,8,9,10,11,12,13,14,15,16,17,18,19] [] rfl fun Qf C=>?_
 go_wp2_with fail
 first | refine C _ _ ⟨rfl,?_⟩ | refine⟨rfl,?_⟩ | refine C _ _ ⟨by simp [Reg.fineT,Reg.intOp,Region.wanted,yielded,Reg.intFine,Reg.isInt,Act.eval],?_⟩
 try clear C
 first | refine Reg.restI_end ?_ | skip
 go_wp2_with fail
 all_goals
  go_ret
  refine⟨?_,aC.out⟩
  rw [a4.out]
  refine congrArg Value.bool ?_
  clear q1 q2 q3 q4 q5 a4 aD aE aX aY h Z a9 ac al am an ao ap aq ad ae af ag ah ai aj ak
  unfold unV
  first
   | (simp_all; done)
   | (simp_all; omega)
   | (by_cases h4:kt=4 <;> simp_all; done)
   | (by_cases h4:kt=4 <;> simp_all <;> omega)
theorem TS {w:World} {cs ds:List Value} {p:Am} {r:Az} (h:At w w.heap.size cs p) (Z:AW w w.heap.size ds r) (hs:r.Small) (hk:Hid (r.kind=3)):
  Calls Tryz.prog 192 #[.agg cs.toArray,.agg ds.toArray] w (Ret fun v w'=>v=.bool (B9 p.topo r)∧Below w.heap.size w w'):=by
 obtain⟨A1,c1,A2,c2,A3,c3,A4,c4,A5,c5,A6,c6,A7,c7,aJ,aH,a9,-⟩:=EU h
 obtain⟨E1,f1,E2,f2,E3,f3,E4,f4,E5,f5,E6,f6,E7,f7,E8,f8,⟨aN,aK,ac,aL,aM,al,am,an,ao,ap,aq,ad,ae,af,ag,ah,ai,aj,ak⟩,-⟩:=Z.cells
 obtain⟨aP,aQ,aR,aS,aT,aU,aV,aW⟩:=hs
 have x:=FC p.topo r
 obtain⟨w1,aX,E,a2,aF⟩:=Ae w cs.toArray 27
 obtain⟨w2,aY,F,a3,aG⟩:=Ae w1 ds.toArray 99
 have a5:=hide (E.trans (F.mono E.size))
 have aC:=hide (a5.out.trans ((Ap w2).mono a5.out.size))
 have aD:=(a2.below F).cell
 have aE:=a3.cell
 generalize cs.toArray=pc at*
 generalize ds.toArray=rc at*
 obtain⟨ng,M⟩:∃n,n=r.guards.length:=⟨_,rfl⟩
 rw [←M] at x
 obtain⟨ne,I⟩:∃n,n=r.ex.length:=⟨_,rfl⟩
 rw [←I] at x
 obtain⟨nf,J⟩:∃n,n=r.fa.length:=⟨_,rfl⟩
 rw [←J] at x
 obtain⟨nd,G⟩:∃n,n=r.send.length:=⟨_,rfl⟩
 rw [←G] at x
 obtain⟨nl,O⟩:∃n,n=r.left.length:=⟨_,rfl⟩
 rw [←O] at x
 obtain⟨nt,W⟩:∃n,n=r.right.length:=⟨_,rfl⟩
 rw [←W] at x
 obtain⟨np,U⟩:∃n,n=r.parent.length:=⟨_,rfl⟩
 rw [←U] at x
 obtain⟨nr,V⟩:∃n,n=r.resp.length:=⟨_,rfl⟩
 rw [←V] at x
 rw [←M] at ao aQ
 rw [←I] at ap aR
 rw [←J] at aq aS
 rw [←G] at af aT
 rw [←O] at ah aU
 rw [←W] at ai aV
 rw [←U] at aj aW
 rw [←V] at an aP
 obtain⟨rd,ar⟩:∃n,n=r.rd:=⟨_,rfl⟩
 rw [←ar] at x ad
 obtain⟨wr,av⟩:∃n,n=r.wr:=⟨_,rfl⟩
 rw [←av] at x ae
 obtain⟨pf,aa⟩:∃n,n=r.pf:=⟨_,rfl⟩
 rw [←aa] at x al
 obtain⟨pt,ab⟩:∃n,n=r.pt:=⟨_,rfl⟩
 rw [←ab] at x am
 obtain⟨ta,au⟩:∃n,n=r.at_:=⟨_,rfl⟩
 rw [←au] at x ag
 obtain⟨di,a6⟩:∃n,n=r.dir:=⟨_,rfl⟩
 rw [←a6] at x ak
 obtain⟨kt,a8⟩:∃n,n=p.topo:=⟨_,rfl⟩
 rw [←a8] at x a9 ⊢
 obtain⟨y,a7⟩:∃n,n=r.kind:=⟨_,rfl⟩
 rw [←a7] at x ac hk
 have q1:(y==1)=false:=by rw [hk.out]; rfl
 have q2:(y==2)=false:=by rw [hk.out]; rfl
 have q3:(y==3)=true:=by rw [hk.out]; rfl
 have q4:(y==4)=false:=by rw [hk.out]; rfl
 have q5:(y==5)=false:=by rw [hk.out]; rfl
 have y1:decide (y=1)=false:=by rw [hk.out]; rfl
 have y2:decide (y=2)=false:=by rw [hk.out]; rfl
 have y3:decide (y=3)=true:=by rw [hk.out]; rfl
 have y4:decide (y=4)=false:=by rw [hk.out]; rfl
 have y5:decide (y=5)=false:=by rw [hk.out]; rfl
 rw [y1,y2,y3,y4,y5] at x
 have a4:=hide x
 clear M I J G O W U V ar av aa ab au a6 a8 a7 x y1 y2 y3 y4 y5 E F a2 a3 aF aG aJ aN aH aK aL aM
 go_enter Tryz.func192,Tryz.ntmps192
 go_wp2_with fail
 refine Reg.cI [0,1,3,0,8,24,0,64,192,0,512,1536,0,4096,12288,7,32831,98815,233471,524287] [0,1,2,3,4,5,6,7,8,9,10,11,12,13,14,15,16,17,18,19] ?_
 refine Reg.wI [0,1,2,3,4,5,6,7,8,9,10,11,12,13,14,15,16,17,18,19] [] rfl fun Qf C=>?_
 go_wp2_with fail
 first | refine C _ _ ⟨rfl,?_⟩ | refine⟨rfl,?_⟩ | refine C _ _ ⟨by simp [Reg.fineT,Reg.intOp,Region.wanted,yielded,Reg.intFine,Reg.isInt,Act.eval],?_⟩
 try clear C
 first | refine Reg.restI_end ?_ | skip
 go_wp2_with fail
 all_goals
  go_ret
  refine⟨?_,aC.out⟩
  rw [a4.out]
  refine congrArg Value.bool ?_
  clear q1 q2 q3 q4 q5 a4 aD aE aX aY h Z a9 ac al am an ao ap aq ad ae af ag ah ai aj ak
  unfold unV
  first
   | (simp_all; done)
   | (simp_all; omega)
   | (by_cases h4:kt=4 <;> simp_all; done)
   | (by_cases h4:kt=4 <;> simp_all <;> omega)
theorem TT {w:World} {cs ds:List Value} {p:Am} {r:Az} (h:At w w.heap.size cs p) (Z:AW w w.heap.size ds r) (hs:r.Small) (hk:Hid (r.kind=4)):
  Calls Tryz.prog 192 #[.agg cs.toArray,.agg ds.toArray] w (Ret fun v w'=>v=.bool (B9 p.topo r)∧Below w.heap.size w w'):=by
 obtain⟨A1,c1,A2,c2,A3,c3,A4,c4,A5,c5,A6,c6,A7,c7,aJ,aH,a9,-⟩:=EU h
 obtain⟨E1,f1,E2,f2,E3,f3,E4,f4,E5,f5,E6,f6,E7,f7,E8,f8,⟨aN,aK,ac,aL,aM,al,am,an,ao,ap,aq,ad,ae,af,ag,ah,ai,aj,ak⟩,-⟩:=Z.cells
 obtain⟨aP,aQ,aR,aS,aT,aU,aV,aW⟩:=hs
 have x:=FC p.topo r
 obtain⟨w1,aX,E,a2,aF⟩:=Ae w cs.toArray 27
 obtain⟨w2,aY,F,a3,aG⟩:=Ae w1 ds.toArray 99
 have a5:=hide (E.trans (F.mono E.size))
 have aC:=hide (a5.out.trans ((Ap w2).mono a5.out.size))
 have aD:=(a2.below F).cell
 have aE:=a3.cell
 generalize cs.toArray=pc at*
 generalize ds.toArray=rc at*
 obtain⟨ng,M⟩:∃n,n=r.guards.length:=⟨_,rfl⟩
 rw [←M] at x
 obtain⟨ne,I⟩:∃n,n=r.ex.length:=⟨_,rfl⟩
 rw [←I] at x
 obtain⟨nf,J⟩:∃n,n=r.fa.length:=⟨_,rfl⟩
 rw [←J] at x
 obtain⟨nd,G⟩:∃n,n=r.send.length:=⟨_,rfl⟩
 rw [←G] at x
 obtain⟨nl,O⟩:∃n,n=r.left.length:=⟨_,rfl⟩
 rw [←O] at x
 obtain⟨nt,W⟩:∃n,n=r.right.length:=⟨_,rfl⟩
 rw [←W] at x
 obtain⟨np,U⟩:∃n,n=r.parent.length:=⟨_,rfl⟩
 rw [←U] at x
 obtain⟨nr,V⟩:∃n,n=r.resp.length:=⟨_,rfl⟩
 rw [←V] at x
 rw [←M] at ao aQ
 rw [←I] at ap aR
 rw [←J] at aq aS
 rw [←G] at af aT
 rw [←O] at ah aU
 rw [←W] at ai aV
 rw [←U] at aj aW
 rw [←V] at an aP
 obtain⟨rd,ar⟩:∃n,n=r.rd:=⟨_,rfl⟩
 rw [←ar] at x ad
 obtain⟨wr,av⟩:∃n,n=r.wr:=⟨_,rfl⟩
 rw [←av] at x ae
 obtain⟨pf,aa⟩:∃n,n=r.pf:=⟨_,rfl⟩
 rw [←aa] at x al
 obtain⟨pt,ab⟩:∃n,n=r.pt:=⟨_,rfl⟩
 rw [←ab] at x am
 obtain⟨ta,au⟩:∃n,n=r.at_:=⟨_,rfl⟩
 rw [←au] at x ag
 obtain⟨di,a6⟩:∃n,n=r.dir:=⟨_,rfl⟩
 rw [←a6] at x ak
 obtain⟨kt,a8⟩:∃n,n=p.topo:=⟨_,rfl⟩
 rw [←a8] at x a9 ⊢
 obtain⟨y,a7⟩:∃n,n=r.kind:=⟨_,rfl⟩
 rw [←a7] at x ac hk
 have q1:(y==1)=false:=by rw [hk.out]; rfl
 have q2:(y==2)=false:=by rw [hk.out]; rfl
 have q3:(y==3)=false:=by rw [hk.out]; rfl
 have q4:(y==4)=true:=by rw [hk.out]; rfl
 have q5:(y==5)=false:=by rw [hk.out]; rfl
 have y1:decide (y=1)=false:=by rw [hk.out]; rfl
 have y2:decide (y=2)=false:=by rw [hk.out]; rfl
 have y3:decide (y=3)=false:=by rw [hk.out]; rfl
 have y4:decide (y=4)=true:=by rw [hk.out]; rfl
 have y5:decide (y=5)=false:=by rw [hk.out]; rfl
 rw [y1,y2,y3,y4,y5] at x
 have a4:=hide x
 clear M I J G O W U V ar av aa ab au a6 a8 a7 x y1 y2 y3 y4 y5 E F a2 a3 aF aG aJ aN aH aK aL aM
 go_enter Tryz.func192,Tryz.ntmps192
 go_wp2_with fail
 refine Reg.cI [0,1,3,0,8,24,0,64,192,0,512,1536,0,4096,12288,7,32831,98815,233471,524287] [0,1,2,3,4,5,6,7,8,9,10,11,12,13,14,15,16,17,18,19] ?_
 refine Reg.wI [0,1,2,3,4,5,6,7,8,9,10,11,12,13,14,15,16,17,18,19] [] rfl fun Qf C=>?_
 go_wp2_with fail
 first | refine C _ _ ⟨rfl,?_⟩ | refine⟨rfl,?_⟩ | refine C _ _ ⟨by simp [Reg.fineT,Reg.intOp,Region.wanted,yielded,Reg.intFine,Reg.isInt,Act.eval],?_⟩
 try clear C
 first | refine Reg.restI_end ?_ | skip
 go_wp2_with fail
 all_goals
  go_ret
  refine⟨?_,aC.out⟩
  rw [a4.out]
  refine congrArg Value.bool ?_
  clear q1 q2 q3 q4 q5 a4 aD aE aX aY h Z a9 ac al am an ao ap aq ad ae af ag ah ai aj ak
  unfold unV
  first
   | (simp_all; done)
   | (simp_all; omega)
   | (by_cases h4:kt=4 <;> simp_all; done)
   | (by_cases h4:kt=4 <;> simp_all <;> omega)
theorem TU {w:World} {cs ds:List Value} {p:Am} {r:Az} (h:At w w.heap.size cs p) (Z:AW w w.heap.size ds r) (hs:r.Small) (hk:Hid (r.kind=5)):
  Calls Tryz.prog 192 #[.agg cs.toArray,.agg ds.toArray] w (Ret fun v w'=>v=.bool (B9 p.topo r)∧Below w.heap.size w w'):=by
 obtain⟨A1,c1,A2,c2,A3,c3,A4,c4,A5,c5,A6,c6,A7,c7,aJ,aH,a9,-⟩:=EU h
 obtain⟨E1,f1,E2,f2,E3,f3,E4,f4,E5,f5,E6,f6,E7,f7,E8,f8,⟨aN,aK,ac,aL,aM,al,am,an,ao,ap,aq,ad,ae,af,ag,ah,ai,aj,ak⟩,-⟩:=Z.cells
 obtain⟨aP,aQ,aR,aS,aT,aU,aV,aW⟩:=hs
 have x:=FC p.topo r
 obtain⟨w1,aX,E,a2,aF⟩:=Ae w cs.toArray 27
 obtain⟨w2,aY,F,a3,aG⟩:=Ae w1 ds.toArray 99
 have a5:=hide (E.trans (F.mono E.size))
 have aC:=hide (a5.out.trans ((Ap w2).mono a5.out.size))
 have aD:=(a2.below F).cell
 have aE:=a3.cell
 generalize cs.toArray=pc at*
 generalize ds.toArray=rc at*
 obtain⟨ng,M⟩:∃n,n=r.guards.length:=⟨_,rfl⟩
 rw [←M] at x
 obtain⟨ne,I⟩:∃n,n=r.ex.length:=⟨_,rfl⟩
 rw [←I] at x
 obtain⟨nf,J⟩:∃n,n=r.fa.length:=⟨_,rfl⟩
 rw [←J] at x
 obtain⟨nd,G⟩:∃n,n=r.send.length:=⟨_,rfl⟩
 rw [←G] at x
 obtain⟨nl,O⟩:∃n,n=r.left.length:=⟨_,rfl⟩
 rw [←O] at x
 obtain⟨nt,W⟩:∃n,n=r.right.length:=⟨_,rfl⟩
 rw [←W] at x
 obtain⟨np,U⟩:∃n,n=r.parent.length:=⟨_,rfl⟩
 rw [←U] at x
 obtain⟨nr,V⟩:∃n,n=r.resp.length:=⟨_,rfl⟩
 rw [←V] at x
 rw [←M] at ao aQ
 rw [←I] at ap aR
 rw [←J] at aq aS
 rw [←G] at af aT
 rw [←O] at ah aU
 rw [←W] at ai aV
 rw [←U] at aj aW
 rw [←V] at an aP
 obtain⟨rd,ar⟩:∃n,n=r.rd:=⟨_,rfl⟩
 rw [←ar] at x ad
 obtain⟨wr,av⟩:∃n,n=r.wr:=⟨_,rfl⟩
 rw [←av] at x ae
 obtain⟨pf,aa⟩:∃n,n=r.pf:=⟨_,rfl⟩
 rw [←aa] at x al
 obtain⟨pt,ab⟩:∃n,n=r.pt:=⟨_,rfl⟩
 rw [←ab] at x am
 obtain⟨ta,au⟩:∃n,n=r.at_:=⟨_,rfl⟩
 rw [←au] at x ag
 obtain⟨di,a6⟩:∃n,n=r.dir:=⟨_,rfl⟩
 rw [←a6] at x ak
 obtain⟨kt,a8⟩:∃n,n=p.topo:=⟨_,rfl⟩
 rw [←a8] at x a9 ⊢
 obtain⟨y,a7⟩:∃n,n=r.kind:=⟨_,rfl⟩
 rw [←a7] at x ac hk
 have q1:(y==1)=false:=by rw [hk.out]; rfl
 have q2:(y==2)=false:=by rw [hk.out]; rfl
 have q3:(y==3)=false:=by rw [hk.out]; rfl
 have q4:(y==4)=false:=by rw [hk.out]; rfl
 have q5:(y==5)=true:=by rw [hk.out]; rfl
 have y1:decide (y=1)=false:=by rw [hk.out]; rfl
 have y2:decide (y=2)=false:=by rw [hk.out]; rfl
 have y3:decide (y=3)=false:=by rw [hk.out]; rfl
 have y4:decide (y=4)=false:=by rw [hk.out]; rfl
 have y5:decide (y=5)=true:=by rw [hk.out]; rfl
 rw [y1,y2,y3,y4,y5] at x
 have a4:=hide x
 clear M I J G O W U V ar av aa ab au a6 a8 a7 x y1 y2 y3 y4 y5 E F a2 a3 aF aG aJ aN aH aK aL aM
 go_enter Tryz.func192,Tryz.ntmps192
 go_wp2_with fail
 refine Reg.cI [0,1,3,0,8,24,0,64,192,0,512,1536,0,4096,12288,7,32831,98815,233471,524287] [0,1,2,3,4,5,6,7,8,9,10,11,12,13,14,15,16,17,18,19] ?_
 refine Reg.wI [0,1,2,3,4,5,6,7,8,9,10,11,12,13,14,15,16,17,18,19] [] rfl fun Qf C=>?_
 go_wp2_with fail
 first | refine C _ _ ⟨rfl,?_⟩ | refine⟨rfl,?_⟩ | refine C _ _ ⟨by simp [Reg.fineT,Reg.intOp,Region.wanted,yielded,Reg.intFine,Reg.isInt,Act.eval],?_⟩
 try clear C
 first | refine Reg.restI_end ?_ | skip
 go_wp2_with fail
 all_goals
  go_ret
  refine⟨?_,aC.out⟩
  rw [a4.out]
  refine congrArg Value.bool ?_
  clear q1 q2 q3 q4 q5 a4 aD aE aX aY h Z a9 ac al am an ao ap aq ad ae af ag ah ai aj ak
  unfold unV
  first
   | (simp_all; done)
   | (simp_all; omega)
   | (by_cases h4:kt=4 <;> simp_all; done)
   | (by_cases h4:kt=4 <;> simp_all <;> omega)
theorem TO {w:World} {cs ds:List Value} {p:Am} {r:Az} (h:At w w.heap.size cs p) (Z:AW w w.heap.size ds r) (hs:r.Small) (hk:Hid (r.kind≠1∧r.kind≠2∧r.kind≠3∧r.kind≠4∧r.kind≠5)):
  Calls Tryz.prog 192 #[.agg cs.toArray,.agg ds.toArray] w (Ret fun v w'=>v=.bool (B9 p.topo r)∧Below w.heap.size w w'):=by
 obtain⟨A1,c1,A2,c2,A3,c3,A4,c4,A5,c5,A6,c6,A7,c7,aJ,aH,a9,-⟩:=EU h
 obtain⟨E1,f1,E2,f2,E3,f3,E4,f4,E5,f5,E6,f6,E7,f7,E8,f8,⟨aN,aK,ac,aL,aM,al,am,an,ao,ap,aq,ad,ae,af,ag,ah,ai,aj,ak⟩,-⟩:=Z.cells
 obtain⟨aP,aQ,aR,aS,aT,aU,aV,aW⟩:=hs
 have x:=FC p.topo r
 obtain⟨w1,aX,E,a2,aF⟩:=Ae w cs.toArray 27
 obtain⟨w2,aY,F,a3,aG⟩:=Ae w1 ds.toArray 99
 have a5:=hide (E.trans (F.mono E.size))
 have aC:=hide (a5.out.trans ((Ap w2).mono a5.out.size))
 have aD:=(a2.below F).cell
 have aE:=a3.cell
 generalize cs.toArray=pc at*
 generalize ds.toArray=rc at*
 obtain⟨ng,M⟩:∃n,n=r.guards.length:=⟨_,rfl⟩
 rw [←M] at x
 obtain⟨ne,I⟩:∃n,n=r.ex.length:=⟨_,rfl⟩
 rw [←I] at x
 obtain⟨nf,J⟩:∃n,n=r.fa.length:=⟨_,rfl⟩
 rw [←J] at x
 obtain⟨nd,G⟩:∃n,n=r.send.length:=⟨_,rfl⟩
 rw [←G] at x
 obtain⟨nl,O⟩:∃n,n=r.left.length:=⟨_,rfl⟩
 rw [←O] at x
 obtain⟨nt,W⟩:∃n,n=r.right.length:=⟨_,rfl⟩
 rw [←W] at x
 obtain⟨np,U⟩:∃n,n=r.parent.length:=⟨_,rfl⟩
 rw [←U] at x
 obtain⟨nr,V⟩:∃n,n=r.resp.length:=⟨_,rfl⟩
 rw [←V] at x
 rw [←M] at ao aQ
 rw [←I] at ap aR
 rw [←J] at aq aS
 rw [←G] at af aT
 rw [←O] at ah aU
 rw [←W] at ai aV
 rw [←U] at aj aW
 rw [←V] at an aP
 obtain⟨rd,ar⟩:∃n,n=r.rd:=⟨_,rfl⟩
 rw [←ar] at x ad
 obtain⟨wr,av⟩:∃n,n=r.wr:=⟨_,rfl⟩
 rw [←av] at x ae
 obtain⟨pf,aa⟩:∃n,n=r.pf:=⟨_,rfl⟩
 rw [←aa] at x al
 obtain⟨pt,ab⟩:∃n,n=r.pt:=⟨_,rfl⟩
 rw [←ab] at x am
 obtain⟨ta,au⟩:∃n,n=r.at_:=⟨_,rfl⟩
 rw [←au] at x ag
 obtain⟨di,a6⟩:∃n,n=r.dir:=⟨_,rfl⟩
 rw [←a6] at x ak
 obtain⟨kt,a8⟩:∃n,n=p.topo:=⟨_,rfl⟩
 rw [←a8] at x a9 ⊢
 obtain⟨y,a7⟩:∃n,n=r.kind:=⟨_,rfl⟩
 rw [←a7] at x ac hk
 have q1:(y==1)=false:=by have:=hk.out; simp; omega
 have q2:(y==2)=false:=by have:=hk.out; simp; omega
 have q3:(y==3)=false:=by have:=hk.out; simp; omega
 have q4:(y==4)=false:=by have:=hk.out; simp; omega
 have q5:(y==5)=false:=by have:=hk.out; simp; omega
 have y1:decide (y=1)=false:=by have:=hk.out; simp; omega
 have y2:decide (y=2)=false:=by have:=hk.out; simp; omega
 have y3:decide (y=3)=false:=by have:=hk.out; simp; omega
 have y4:decide (y=4)=false:=by have:=hk.out; simp; omega
 have y5:decide (y=5)=false:=by have:=hk.out; simp; omega
 rw [y1,y2,y3,y4,y5] at x
 have a4:=hide x
 clear M I J G O W U V ar av aa ab au a6 a8 a7 x y1 y2 y3 y4 y5 E F a2 a3 aF aG aJ aN aH aK aL aM
 go_enter Tryz.func192,Tryz.ntmps192
 go_wp2_with fail
 refine Reg.cI [0,1,3,0,8,24,0,64,192,0,512,1536,0,4096,12288,7,32831,98815,233471,524287] [0,1,2,3,4,5,6,7,8,9,10,11,12,13,14,15,16,17,18,19] ?_
 refine Reg.wI [0,1,2,3,4,5,6,7,8,9,10,11,12,13,14,15,16,17,18,19] [] rfl fun Qf C=>?_
 go_wp2_with fail
 first | refine C _ _ ⟨rfl,?_⟩ | refine⟨rfl,?_⟩ | refine C _ _ ⟨by simp [Reg.fineT,Reg.intOp,Region.wanted,yielded,Reg.intFine,Reg.isInt,Act.eval],?_⟩
 try clear C
 first | refine Reg.restI_end ?_ | skip
 go_wp2_with fail
 all_goals
  go_ret
  refine⟨?_,aC.out⟩
  rw [a4.out]
  refine congrArg Value.bool ?_
  clear q1 q2 q3 q4 q5 a4 aD aE aX aY h Z a9 ac al am an ao ap aq ad ae af ag ah ai aj ak
  unfold unV
  first
   | (simp_all; done)
   | (simp_all; omega)
   | (by_cases h4:kt=4 <;> simp_all; done)
   | (by_cases h4:kt=4 <;> simp_all <;> omega)
theorem FD {w:World} {cs ds:List Value} {p:Am} {r:Az} (h:At w w.heap.size cs p) (x:AW w w.heap.size ds r) (y:r.Small):
  Calls Tryz.prog 192 #[.agg cs.toArray,.agg ds.toArray] w (Ret fun v w'=>v=.bool (B9 p.topo r)∧Below w.heap.size w w'):=by
 by_cases k1:r.kind=1
 ·exact TP h x y k1
 by_cases k2:r.kind=2
 ·exact TQ h x y k2
 by_cases k3:r.kind=3
 ·exact TS h x y k3
 by_cases C:r.kind=4
 ·exact TT h x y C
 by_cases E:r.kind=5
 ·exact TU h x y E
 exact TO h x y ⟨k1,k2,k3,C,E⟩
end Go.Proofs.YtfcfpoemojjglaaGreatDoor.K
