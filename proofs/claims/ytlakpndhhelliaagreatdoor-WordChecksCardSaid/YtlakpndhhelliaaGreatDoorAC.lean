/-
  Part AC of a proof.
-/
import Derived.Test.YtlakpndhhelliaaGreatDoorPA
import Derived.Test.YtlakpndhhelliaaGreatDoorCI
import Derived.Test.YtlakpndhhelliaaGreatDoorCE
set_option maxHeartbeats 16000000
set_option maxRecDepth 100000
set_option linter.unusedVariables false
set_option linter.unusedSimpArgs false
namespace Go.Proofs.YtlakpndhhelliaaGreatDoor.K
open Go.RowKit
attribute [-go_sem] loadCellsFrom storeCells
theorem AB.cells {w:World} {B:Nat} {cs:List Value} {r:As} (h:AB w B cs r):∃f J y c2 z M C O E U F V G W I Z,
  (cs.toArray.size=18∧cs.toArray[0]?=some (.string r.name)∧cs.toArray[1]?=some (.int .i64 r.kind)∧cs.toArray[2]?=some (.int .i64 r.fr)∧cs.toArray[3]?=some (.int .i64 r.to)∧cs.toArray[4]?=some (.int .i64 r.pf)∧cs.toArray[5]?=some (.int .i64 r.pt)∧cs.toArray[6]?=some (.slice f r.resp.length J)∧
   cs.toArray[7]?=some (.slice y r.guards.length c2)∧cs.toArray[8]?=some (.slice z r.ex.length M)∧cs.toArray[9]?=some (.slice C r.fa.length O)∧cs.toArray[10]?=some (.int .i64 r.rd)∧cs.toArray[11]?=some (.int .i64 r.wr)∧cs.toArray[12]?=some (.slice E r.send.length U)∧
   cs.toArray[13]?=some (.int .i64 r.at_)∧cs.toArray[14]?=some (.slice F r.left.length V)∧cs.toArray[15]?=some (.slice G r.right.length W)∧cs.toArray[16]?=some (.slice I r.parent.length Z)∧cs.toArray[17]?=some (.int .i64 r.dir))∧
  (Sl w B 1 Ai f r.resp∧Sl w B 6 CC y r.guards∧Sl w B 1 Ai z r.ex∧Sl w B 1 Ai C r.fa∧Sl w B 1 Ai E r.send∧Sl w B 1 Ai F r.left∧Sl w B 1 Ai G r.right∧Sl w B 1 Ai I r.parent):=by
 obtain⟨f,J,y,c2,z,M,C,O,E,U,F,V,G,W,I,Z,rfl,h1⟩:=h
 exact⟨f,J,y,c2,z,M,C,O,E,U,F,V,G,W,I,Z,⟨rfl,rfl,rfl,rfl,rfl,rfl,rfl,rfl,rfl,rfl,rfl,rfl,rfl,rfl,rfl,rfl,rfl,rfl,rfl⟩,h1⟩
def unV (k1 k2 k3 k4 k5 t4:Bool) (ng ne nf nd nl nt np nr:Nat) (rd wr pf pt at_ dir:Int):Bool:=
 (!k1&&(decide (0<ng)||decide (0<ne)||decide (0<nf)||decide (0<nd)))||
 ((!k1&&!k2&&!k3)&&(!decide (rd= -1)||!decide (wr= -1)))||
 ((!k2&&!k5)&&(!decide (pf=0)||!decide (pt=0)))||
 (!k3&&decide (0<nr))||(!k5&&!decide (dir=0))||
 (!k4&&(!decide (at_=0)||decide (0<nl)||decide (0<nt)))||
 (decide (0<np)&&!(k4&&t4))
theorem LD {A:Type} (l:List A):(!l.isEmpty)=decide (0<l.length):=by cases l <;> simp
theorem EM (topo:Int) (r:As):BR topo r=unV (decide (r.kind=1)) (decide (r.kind=2)) (decide (r.kind=3)) (decide (r.kind=4)) (decide (r.kind=5)) (decide (topo=4)) r.guards.length r.ex.length r.fa.length r.send.length r.left.length r.right.length r.parent.length r.resp.length r.rd r.wr r.pf r.pt r.at_ r.dir:=by
 unfold BR unV
 simp only [LD]
theorem Ef {w:World} {B:Nat} {cs:List Value} {p:Ao} (h:Ax w B cs p):∃f y z c2 C E F G I J M O U V,
  cs.toArray.size=10∧cs.toArray[0]?=some (.string p.name)∧cs.toArray[1]?=some (.int .i64 p.topo)∧cs.toArray[2]?=some (.slice f p.states.length y)∧cs.toArray[3]?=some (.slice z p.messages.length c2)∧
  cs.toArray[4]?=some (.slice C p.values.length E)∧cs.toArray[5]?=some (.int .i64 p.fault)∧cs.toArray[6]?=some (.slice F p.res.length G)∧cs.toArray[7]?=some (.slice I p.initial.length J)∧cs.toArray[8]?=some (.slice M p.leader.length O)∧cs.toArray[9]?=some (.slice U p.rules.length V):=by
 obtain⟨f,y,z,c2,C,E,F,G,I,J,M,O,U,V,rfl,_⟩:=h
 exact⟨f,y,z,c2,C,E,F,G,I,J,M,O,U,V,rfl,rfl,rfl,rfl,rfl,rfl,rfl,rfl,rfl,rfl,rfl⟩
theorem Mj {w:World} {cs ds:List Value} {p:Ao} {r:As} (h:Ax w w.heap.size cs p) (V:AB w w.heap.size ds r) (hs:r.Small) (hk:Hid (r.kind=1)):
  Calls Tryz.prog 81 #[.agg cs.toArray,.agg ds.toArray] w (Ret fun v w'=>v=.bool (BR p.topo r)∧Below w.heap.size w w'):=by
 obtain⟨A1,c1,A2,c2,A3,c3,A4,c4,A5,c5,A6,c6,A7,c7,aC,aD,W,-⟩:=Ef h
 obtain⟨E1,f1,E2,f2,E3,f3,E4,f4,E5,f5,E6,f6,E7,f7,E8,f8,⟨aE,aF,Z,aG,aH,a2,a3,a4,a5,a6,a7,a8,a9,aa,ab,ad,ae,af,ag⟩,-⟩:=V.cells
 obtain⟨aJ,aK,aL,aM,aN,aO,aP,aQ⟩:=hs
 have f:=EM p.topo r
 obtain⟨w1,aR,z,ah,aS⟩:=Ag w cs.toArray 27
 obtain⟨w2,aT,C,ai,aU⟩:=Ag w1 ds.toArray 48
 have aj:=hide (z.trans (C.mono z.size))
 have aV:=hide (aj.out.trans ((Ap w2).mono aj.out.size))
 have aW:=(ah.below C).cell
 have aX:=ai.cell
 generalize cs.toArray=pc at*
 generalize ds.toArray=rc at*
 obtain⟨ng,E⟩:∃n,n=r.guards.length:=⟨_,rfl⟩
 rw [←E] at f
 obtain⟨ne,F⟩:∃n,n=r.ex.length:=⟨_,rfl⟩
 rw [←F] at f
 obtain⟨nf,G⟩:∃n,n=r.fa.length:=⟨_,rfl⟩
 rw [←G] at f
 obtain⟨nd,I⟩:∃n,n=r.send.length:=⟨_,rfl⟩
 rw [←I] at f
 obtain⟨nl,J⟩:∃n,n=r.left.length:=⟨_,rfl⟩
 rw [←J] at f
 obtain⟨nt,M⟩:∃n,n=r.right.length:=⟨_,rfl⟩
 rw [←M] at f
 obtain⟨np,O⟩:∃n,n=r.parent.length:=⟨_,rfl⟩
 rw [←O] at f
 obtain⟨nr,U⟩:∃n,n=r.resp.length:=⟨_,rfl⟩
 rw [←U] at f
 rw [←E] at a5 aK
 rw [←F] at a6 aL
 rw [←G] at a7 aM
 rw [←I] at aa aN
 rw [←J] at ad aO
 rw [←M] at ae aP
 rw [←O] at af aQ
 rw [←U] at a4 aJ
 obtain⟨rd,ak⟩:∃n,n=r.rd:=⟨_,rfl⟩
 rw [←ak] at f a8
 obtain⟨wr,al⟩:∃n,n=r.wr:=⟨_,rfl⟩
 rw [←al] at f a9
 obtain⟨pf,am⟩:∃n,n=r.pf:=⟨_,rfl⟩
 rw [←am] at f a2
 obtain⟨pt,an⟩:∃n,n=r.pt:=⟨_,rfl⟩
 rw [←an] at f a3
 obtain⟨ta,ao⟩:∃n,n=r.at_:=⟨_,rfl⟩
 rw [←ao] at f ab
 obtain⟨di,ap⟩:∃n,n=r.dir:=⟨_,rfl⟩
 rw [←ap] at f ag
 obtain⟨kt,aq⟩:∃n,n=p.topo:=⟨_,rfl⟩
 rw [←aq] at f W ⊢
 obtain⟨y,ar⟩:∃n,n=r.kind:=⟨_,rfl⟩
 rw [←ar] at f Z hk
 have q1:(y==1)=true:=by rw [hk.out]; rfl
 have q2:(y==2)=false:=by rw [hk.out]; rfl
 have q3:(y==3)=false:=by rw [hk.out]; rfl
 have q4:(y==4)=false:=by rw [hk.out]; rfl
 have q5:(y==5)=false:=by rw [hk.out]; rfl
 have y1:decide (y=1)=true:=by rw [hk.out]; rfl
 have y2:decide (y=2)=false:=by rw [hk.out]; rfl
 have y3:decide (y=3)=false:=by rw [hk.out]; rfl
 have y4:decide (y=4)=false:=by rw [hk.out]; rfl
 have y5:decide (y=5)=false:=by rw [hk.out]; rfl
 rw [y1,y2,y3,y4,y5] at f
 have az:=hide f
 clear E F G I J M O U ak al am an ao ap aq ar f y1 y2 y3 y4 y5 z C ah ai aS aU aC aE aD aF aG aH
 go_enter Tryz.func81,Tryz.ntmps81
 go_wp2_with fail
 refine Reg.cI [0,1,3,0,8,24,0,64,192,0,512,1536,0,4096,12288,7,32831,98815,233471,524287] [0,1,2,3,4,5,6,7,8,9,10,11,12,13,14,15,16,17,18,19] ?_
 refine Reg.wI [0,1,2,3,4,5,6,7,8,9,10,11,12,13,14,15,16,17,18,19] [] rfl fun Qf aA=>?_
 go_wp2_with fail
 first | refine aA _ _ ⟨rfl,?_⟩ | refine⟨rfl,?_⟩ | refine aA _ _ ⟨by simp [Reg.fineT,Reg.intOp,Region.wanted,yielded,Reg.intFine,Reg.isInt,Act.eval],?_⟩
 try clear aA
 first | refine Reg.restI_end ?_ | skip
 go_wp2_with fail
 all_goals
  go_ret
  refine⟨?_,aV.out⟩
  rw [az.out]
  refine congrArg Value.bool ?_
  clear q1 q2 q3 q4 q5 az aW aX aR aT h V W Z a2 a3 a4 a5 a6 a7 a8 a9 aa ab ad ae af ag
  unfold unV
  first
   | (simp_all; done)
   | (simp_all; omega)
   | (by_cases h4:kt=4 <;> simp_all; done)
   | (by_cases h4:kt=4 <;> simp_all <;> omega)
theorem MU {w:World} {cs ds:List Value} {p:Ao} {r:As} (h:Ax w w.heap.size cs p) (V:AB w w.heap.size ds r) (hs:r.Small) (hk:Hid (r.kind=2)):
  Calls Tryz.prog 81 #[.agg cs.toArray,.agg ds.toArray] w (Ret fun v w'=>v=.bool (BR p.topo r)∧Below w.heap.size w w'):=by
 obtain⟨A1,c1,A2,c2,A3,c3,A4,c4,A5,c5,A6,c6,A7,c7,aC,aD,W,-⟩:=Ef h
 obtain⟨E1,f1,E2,f2,E3,f3,E4,f4,E5,f5,E6,f6,E7,f7,E8,f8,⟨aE,aF,Z,aG,aH,a2,a3,a4,a5,a6,a7,a8,a9,aa,ab,ad,ae,af,ag⟩,-⟩:=V.cells
 obtain⟨aJ,aK,aL,aM,aN,aO,aP,aQ⟩:=hs
 have f:=EM p.topo r
 obtain⟨w1,aR,z,ah,aS⟩:=Ag w cs.toArray 27
 obtain⟨w2,aT,C,ai,aU⟩:=Ag w1 ds.toArray 48
 have aj:=hide (z.trans (C.mono z.size))
 have aV:=hide (aj.out.trans ((Ap w2).mono aj.out.size))
 have aW:=(ah.below C).cell
 have aX:=ai.cell
 generalize cs.toArray=pc at*
 generalize ds.toArray=rc at*
 obtain⟨ng,E⟩:∃n,n=r.guards.length:=⟨_,rfl⟩
 rw [←E] at f
 obtain⟨ne,F⟩:∃n,n=r.ex.length:=⟨_,rfl⟩
 rw [←F] at f
 obtain⟨nf,G⟩:∃n,n=r.fa.length:=⟨_,rfl⟩
 rw [←G] at f
 obtain⟨nd,I⟩:∃n,n=r.send.length:=⟨_,rfl⟩
 rw [←I] at f
 obtain⟨nl,J⟩:∃n,n=r.left.length:=⟨_,rfl⟩
 rw [←J] at f
 obtain⟨nt,M⟩:∃n,n=r.right.length:=⟨_,rfl⟩
 rw [←M] at f
 obtain⟨np,O⟩:∃n,n=r.parent.length:=⟨_,rfl⟩
 rw [←O] at f
 obtain⟨nr,U⟩:∃n,n=r.resp.length:=⟨_,rfl⟩
 rw [←U] at f
 rw [←E] at a5 aK
 rw [←F] at a6 aL
 rw [←G] at a7 aM
 rw [←I] at aa aN
 rw [←J] at ad aO
 rw [←M] at ae aP
 rw [←O] at af aQ
 rw [←U] at a4 aJ
 obtain⟨rd,ak⟩:∃n,n=r.rd:=⟨_,rfl⟩
 rw [←ak] at f a8
 obtain⟨wr,al⟩:∃n,n=r.wr:=⟨_,rfl⟩
 rw [←al] at f a9
 obtain⟨pf,am⟩:∃n,n=r.pf:=⟨_,rfl⟩
 rw [←am] at f a2
 obtain⟨pt,an⟩:∃n,n=r.pt:=⟨_,rfl⟩
 rw [←an] at f a3
 obtain⟨ta,ao⟩:∃n,n=r.at_:=⟨_,rfl⟩
 rw [←ao] at f ab
 obtain⟨di,ap⟩:∃n,n=r.dir:=⟨_,rfl⟩
 rw [←ap] at f ag
 obtain⟨kt,aq⟩:∃n,n=p.topo:=⟨_,rfl⟩
 rw [←aq] at f W ⊢
 obtain⟨y,ar⟩:∃n,n=r.kind:=⟨_,rfl⟩
 rw [←ar] at f Z hk
 have q1:(y==1)=false:=by rw [hk.out]; rfl
 have q2:(y==2)=true:=by rw [hk.out]; rfl
 have q3:(y==3)=false:=by rw [hk.out]; rfl
 have q4:(y==4)=false:=by rw [hk.out]; rfl
 have q5:(y==5)=false:=by rw [hk.out]; rfl
 have y1:decide (y=1)=false:=by rw [hk.out]; rfl
 have y2:decide (y=2)=true:=by rw [hk.out]; rfl
 have y3:decide (y=3)=false:=by rw [hk.out]; rfl
 have y4:decide (y=4)=false:=by rw [hk.out]; rfl
 have y5:decide (y=5)=false:=by rw [hk.out]; rfl
 rw [y1,y2,y3,y4,y5] at f
 have az:=hide f
 clear E F G I J M O U ak al am an ao ap aq ar f y1 y2 y3 y4 y5 z C ah ai aS aU aC aE aD aF aG aH
 go_enter Tryz.func81,Tryz.ntmps81
 go_wp2_with fail
 refine Reg.cI [0,1,3,0,8,24,0,64,192,0,512,1536,0,4096,12288,7,32831,98815,233471,524287] [0,1,2,3,4,5,6,7,8,9,10,11,12,13,14,15,16,17,18,19] ?_
 refine Reg.wI [0,1,2,3,4,5,6,7,8,9,10,11,12,13,14,15,16,17,18,19] [] rfl fun Qf aA=>?_
 go_wp2_with fail
 first | refine aA _ _ ⟨rfl,?_⟩ | refine⟨rfl,?_⟩ | refine aA _ _ ⟨by simp [Reg.fineT,Reg.intOp,Region.wanted,yielded,Reg.intFine,Reg.isInt,Act.eval],?_⟩
 try clear aA
 first | refine Reg.restI_end ?_ | skip
 go_wp2_with fail
 all_goals
  go_ret
  refine⟨?_,aV.out⟩
  rw [az.out]
  refine congrArg Value.bool ?_
  clear q1 q2 q3 q4 q5 az aW aX aR aT h V W Z a2 a3 a4 a5 a6 a7 a8 a9 aa ab ad ae af ag
  unfold unV
  first
   | (simp_all; done)
   | (simp_all; omega)
   | (by_cases h4:kt=4 <;> simp_all; done)
   | (by_cases h4:kt=4 <;> simp_all <;> omega)
theorem M2 {w:World} {cs ds:List Value} {p:Ao} {r:As} (h:Ax w w.heap.size cs p) (V:AB w w.heap.size ds r) (hs:r.Small) (hk:Hid (r.kind=3)):
  Calls Tryz.prog 81 #[.agg cs.toArray,.agg ds.toArray] w (Ret fun v w'=>v=.bool (BR p.topo r)∧Below w.heap.size w w'):=by
 obtain⟨A1,c1,A2,c2,A3,c3,A4,c4,A5,c5,A6,c6,A7,c7,aC,aD,W,-⟩:=Ef h
 obtain⟨E1,f1,E2,f2,E3,f3,E4,f4,E5,f5,E6,f6,E7,f7,E8,f8,⟨aE,aF,Z,aG,aH,a2,a3,a4,a5,a6,a7,a8,a9,aa,ab,ad,ae,af,ag⟩,-⟩:=V.cells
 obtain⟨aJ,aK,aL,aM,aN,aO,aP,aQ⟩:=hs
 have f:=EM p.topo r
 obtain⟨w1,aR,z,ah,aS⟩:=Ag w cs.toArray 27
 obtain⟨w2,aT,C,ai,aU⟩:=Ag w1 ds.toArray 48
 have aj:=hide (z.trans (C.mono z.size))
 have aV:=hide (aj.out.trans ((Ap w2).mono aj.out.size))
 have aW:=(ah.below C).cell
 have aX:=ai.cell
 generalize cs.toArray=pc at*
 generalize ds.toArray=rc at*
 obtain⟨ng,E⟩:∃n,n=r.guards.length:=⟨_,rfl⟩
 rw [←E] at f
 obtain⟨ne,F⟩:∃n,n=r.ex.length:=⟨_,rfl⟩
 rw [←F] at f
 obtain⟨nf,G⟩:∃n,n=r.fa.length:=⟨_,rfl⟩
 rw [←G] at f
 obtain⟨nd,I⟩:∃n,n=r.send.length:=⟨_,rfl⟩
 rw [←I] at f
 obtain⟨nl,J⟩:∃n,n=r.left.length:=⟨_,rfl⟩
 rw [←J] at f
 obtain⟨nt,M⟩:∃n,n=r.right.length:=⟨_,rfl⟩
 rw [←M] at f
 obtain⟨np,O⟩:∃n,n=r.parent.length:=⟨_,rfl⟩
 rw [←O] at f
 obtain⟨nr,U⟩:∃n,n=r.resp.length:=⟨_,rfl⟩
 rw [←U] at f
 rw [←E] at a5 aK
 rw [←F] at a6 aL
 rw [←G] at a7 aM
 rw [←I] at aa aN
 rw [←J] at ad aO
 rw [←M] at ae aP
 rw [←O] at af aQ
 rw [←U] at a4 aJ
 obtain⟨rd,ak⟩:∃n,n=r.rd:=⟨_,rfl⟩
 rw [←ak] at f a8
 obtain⟨wr,al⟩:∃n,n=r.wr:=⟨_,rfl⟩
 rw [←al] at f a9
 obtain⟨pf,am⟩:∃n,n=r.pf:=⟨_,rfl⟩
 rw [←am] at f a2
 obtain⟨pt,an⟩:∃n,n=r.pt:=⟨_,rfl⟩
 rw [←an] at f a3
 obtain⟨ta,ao⟩:∃n,n=r.at_:=⟨_,rfl⟩
 rw [←ao] at f ab
 obtain⟨di,ap⟩:∃n,n=r.dir:=⟨_,rfl⟩
 rw [←ap] at f ag
 obtain⟨kt,aq⟩:∃n,n=p.topo:=⟨_,rfl⟩
 rw [←aq] at f W ⊢
 obtain⟨y,ar⟩:∃n,n=r.kind:=⟨_,rfl⟩
 rw [←ar] at f Z hk
 have q1:(y==1)=false:=by rw [hk.out]; rfl
 have q2:(y==2)=false:=by rw [hk.out]; rfl
 have q3:(y==3)=true:=by rw [hk.out]; rfl
 have q4:(y==4)=false:=by rw [hk.out]; rfl
 have q5:(y==5)=false:=by rw [hk.out]; rfl
 have y1:decide (y=1)=false:=by rw [hk.out]; rfl
 have y2:decide (y=2)=false:=by rw [hk.out]; rfl
 have y3:decide (y=3)=true:=by rw [hk.out]; rfl
 have y4:decide (y=4)=false:=by rw [hk.out]; rfl
 have y5:decide (y=5)=false:=by rw [hk.out]; rfl
 rw [y1,y2,y3,y4,y5] at f
 have az:=hide f
 clear E F G I J M O U ak al am an ao ap aq ar f y1 y2 y3 y4 y5 z C ah ai aS aU aC aE aD aF aG aH
 go_enter Tryz.func81,Tryz.ntmps81
 go_wp2_with fail
 refine Reg.cI [0,1,3,0,8,24,0,64,192,0,512,1536,0,4096,12288,7,32831,98815,233471,524287] [0,1,2,3,4,5,6,7,8,9,10,11,12,13,14,15,16,17,18,19] ?_
 refine Reg.wI [0,1,2,3,4,5,6,7,8,9,10,11,12,13,14,15,16,17,18,19] [] rfl fun Qf aA=>?_
 go_wp2_with fail
 first | refine aA _ _ ⟨rfl,?_⟩ | refine⟨rfl,?_⟩ | refine aA _ _ ⟨by simp [Reg.fineT,Reg.intOp,Region.wanted,yielded,Reg.intFine,Reg.isInt,Act.eval],?_⟩
 try clear aA
 first | refine Reg.restI_end ?_ | skip
 go_wp2_with fail
 all_goals
  go_ret
  refine⟨?_,aV.out⟩
  rw [az.out]
  refine congrArg Value.bool ?_
  clear q1 q2 q3 q4 q5 az aW aX aR aT h V W Z a2 a3 a4 a5 a6 a7 a8 a9 aa ab ad ae af ag
  unfold unV
  first
   | (simp_all; done)
   | (simp_all; omega)
   | (by_cases h4:kt=4 <;> simp_all; done)
   | (by_cases h4:kt=4 <;> simp_all <;> omega)
theorem Q3 {w:World} {cs ds:List Value} {p:Ao} {r:As} (h:Ax w w.heap.size cs p) (V:AB w w.heap.size ds r) (hs:r.Small) (hk:Hid (r.kind=4)):
  Calls Tryz.prog 81 #[.agg cs.toArray,.agg ds.toArray] w (Ret fun v w'=>v=.bool (BR p.topo r)∧Below w.heap.size w w'):=by
 obtain⟨A1,c1,A2,c2,A3,c3,A4,c4,A5,c5,A6,c6,A7,c7,aC,aD,W,-⟩:=Ef h
 obtain⟨E1,f1,E2,f2,E3,f3,E4,f4,E5,f5,E6,f6,E7,f7,E8,f8,⟨aE,aF,Z,aG,aH,a2,a3,a4,a5,a6,a7,a8,a9,aa,ab,ad,ae,af,ag⟩,-⟩:=V.cells
 obtain⟨aJ,aK,aL,aM,aN,aO,aP,aQ⟩:=hs
 have f:=EM p.topo r
 obtain⟨w1,aR,z,ah,aS⟩:=Ag w cs.toArray 27
 obtain⟨w2,aT,C,ai,aU⟩:=Ag w1 ds.toArray 48
 have aj:=hide (z.trans (C.mono z.size))
 have aV:=hide (aj.out.trans ((Ap w2).mono aj.out.size))
 have aW:=(ah.below C).cell
 have aX:=ai.cell
 generalize cs.toArray=pc at*
 generalize ds.toArray=rc at*
 obtain⟨ng,E⟩:∃n,n=r.guards.length:=⟨_,rfl⟩
 rw [←E] at f
 obtain⟨ne,F⟩:∃n,n=r.ex.length:=⟨_,rfl⟩
 rw [←F] at f
 obtain⟨nf,G⟩:∃n,n=r.fa.length:=⟨_,rfl⟩
 rw [←G] at f
 obtain⟨nd,I⟩:∃n,n=r.send.length:=⟨_,rfl⟩
 rw [←I] at f
 obtain⟨nl,J⟩:∃n,n=r.left.length:=⟨_,rfl⟩
 rw [←J] at f
 obtain⟨nt,M⟩:∃n,n=r.right.length:=⟨_,rfl⟩
 rw [←M] at f
 obtain⟨np,O⟩:∃n,n=r.parent.length:=⟨_,rfl⟩
 rw [←O] at f
 obtain⟨nr,U⟩:∃n,n=r.resp.length:=⟨_,rfl⟩
 rw [←U] at f
 rw [←E] at a5 aK
 rw [←F] at a6 aL
 rw [←G] at a7 aM
 rw [←I] at aa aN
 rw [←J] at ad aO
 rw [←M] at ae aP
 rw [←O] at af aQ
 rw [←U] at a4 aJ
 obtain⟨rd,ak⟩:∃n,n=r.rd:=⟨_,rfl⟩
 rw [←ak] at f a8
 obtain⟨wr,al⟩:∃n,n=r.wr:=⟨_,rfl⟩
 rw [←al] at f a9
 obtain⟨pf,am⟩:∃n,n=r.pf:=⟨_,rfl⟩
 rw [←am] at f a2
 obtain⟨pt,an⟩:∃n,n=r.pt:=⟨_,rfl⟩
 rw [←an] at f a3
 obtain⟨ta,ao⟩:∃n,n=r.at_:=⟨_,rfl⟩
 rw [←ao] at f ab
 obtain⟨di,ap⟩:∃n,n=r.dir:=⟨_,rfl⟩
 rw [←ap] at f ag
 obtain⟨kt,aq⟩:∃n,n=p.topo:=⟨_,rfl⟩
 rw [←aq] at f W ⊢
 obtain⟨y,ar⟩:∃n,n=r.kind:=⟨_,rfl⟩
 rw [←ar] at f Z hk
 have q1:(y==1)=false:=by rw [hk.out]; rfl
 have q2:(y==2)=false:=by rw [hk.out]; rfl
 have q3:(y==3)=false:=by rw [hk.out]; rfl
 have q4:(y==4)=true:=by rw [hk.out]; rfl
 have q5:(y==5)=false:=by rw [hk.out]; rfl
 have y1:decide (y=1)=false:=by rw [hk.out]; rfl
 have y2:decide (y=2)=false:=by rw [hk.out]; rfl
 have y3:decide (y=3)=false:=by rw [hk.out]; rfl
 have y4:decide (y=4)=true:=by rw [hk.out]; rfl
 have y5:decide (y=5)=false:=by rw [hk.out]; rfl
 rw [y1,y2,y3,y4,y5] at f
 have az:=hide f
 clear E F G I J M O U ak al am an ao ap aq ar f y1 y2 y3 y4 y5 z C ah ai aS aU aC aE aD aF aG aH
 go_enter Tryz.func81,Tryz.ntmps81
 go_wp2_with fail
 refine Reg.cI [0,1,3,0,8,24,0,64,192,0,512,1536,0,4096,12288,7,32831,98815,233471,524287] [0,1,2,3,4,5,6,7,8,9,10,11,12,13,14,15,16,17,18,19] ?_
 refine Reg.wI [0,1,2,3,4,5,6,7,8,9,10,11,12,13,14,15,16,17,18,19] [] rfl fun Qf aA=>?_
 go_wp2_with fail
 first | refine aA _ _ ⟨rfl,?_⟩ | refine⟨rfl,?_⟩ | refine aA _ _ ⟨by simp [Reg.fineT,Reg.intOp,Region.wanted,yielded,Reg.intFine,Reg.isInt,Act.eval],?_⟩
 try clear aA
 first | refine Reg.restI_end ?_ | skip
 go_wp2_with fail
 all_goals
  go_ret
  refine⟨?_,aV.out⟩
  rw [az.out]
  refine congrArg Value.bool ?_
  clear q1 q2 q3 q4 q5 az aW aX aR aT h V W Z a2 a3 a4 a5 a6 a7 a8 a9 aa ab ad ae af ag
  unfold unV
  first
   | (simp_all; done)
   | (simp_all; omega)
   | (by_cases h4:kt=4 <;> simp_all; done)
   | (by_cases h4:kt=4 <;> simp_all <;> omega)
theorem QQ {w:World} {cs ds:List Value} {p:Ao} {r:As} (h:Ax w w.heap.size cs p) (V:AB w w.heap.size ds r) (hs:r.Small) (hk:Hid (r.kind=5)):
  Calls Tryz.prog 81 #[.agg cs.toArray,.agg ds.toArray] w (Ret fun v w'=>v=.bool (BR p.topo r)∧Below w.heap.size w w'):=by
 obtain⟨A1,c1,A2,c2,A3,c3,A4,c4,A5,c5,A6,c6,A7,c7,aC,aD,W,-⟩:=Ef h
 obtain⟨E1,f1,E2,f2,E3,f3,E4,f4,E5,f5,E6,f6,E7,f7,E8,f8,⟨aE,aF,Z,aG,aH,a2,a3,a4,a5,a6,a7,a8,a9,aa,ab,ad,ae,af,ag⟩,-⟩:=V.cells
 obtain⟨aJ,aK,aL,aM,aN,aO,aP,aQ⟩:=hs
 have f:=EM p.topo r
 obtain⟨w1,aR,z,ah,aS⟩:=Ag w cs.toArray 27
 obtain⟨w2,aT,C,ai,aU⟩:=Ag w1 ds.toArray 48
 have aj:=hide (z.trans (C.mono z.size))
 have aV:=hide (aj.out.trans ((Ap w2).mono aj.out.size))
 have aW:=(ah.below C).cell
 have aX:=ai.cell
 generalize cs.toArray=pc at*
 generalize ds.toArray=rc at*
 obtain⟨ng,E⟩:∃n,n=r.guards.length:=⟨_,rfl⟩
 rw [←E] at f
 obtain⟨ne,F⟩:∃n,n=r.ex.length:=⟨_,rfl⟩
 rw [←F] at f
 obtain⟨nf,G⟩:∃n,n=r.fa.length:=⟨_,rfl⟩
 rw [←G] at f
 obtain⟨nd,I⟩:∃n,n=r.send.length:=⟨_,rfl⟩
 rw [←I] at f
 obtain⟨nl,J⟩:∃n,n=r.left.length:=⟨_,rfl⟩
 rw [←J] at f
 obtain⟨nt,M⟩:∃n,n=r.right.length:=⟨_,rfl⟩
 rw [←M] at f
 obtain⟨np,O⟩:∃n,n=r.parent.length:=⟨_,rfl⟩
 rw [←O] at f
 obtain⟨nr,U⟩:∃n,n=r.resp.length:=⟨_,rfl⟩
 rw [←U] at f
 rw [←E] at a5 aK
 rw [←F] at a6 aL
 rw [←G] at a7 aM
 rw [←I] at aa aN
 rw [←J] at ad aO
 rw [←M] at ae aP
 rw [←O] at af aQ
 rw [←U] at a4 aJ
 obtain⟨rd,ak⟩:∃n,n=r.rd:=⟨_,rfl⟩
 rw [←ak] at f a8
 obtain⟨wr,al⟩:∃n,n=r.wr:=⟨_,rfl⟩
 rw [←al] at f a9
 obtain⟨pf,am⟩:∃n,n=r.pf:=⟨_,rfl⟩
 rw [←am] at f a2
 obtain⟨pt,an⟩:∃n,n=r.pt:=⟨_,rfl⟩
 rw [←an] at f a3
 obtain⟨ta,ao⟩:∃n,n=r.at_:=⟨_,rfl⟩
 rw [←ao] at f ab
 obtain⟨di,ap⟩:∃n,n=r.dir:=⟨_,rfl⟩
 rw [←ap] at f ag
 obtain⟨kt,aq⟩:∃n,n=p.topo:=⟨_,rfl⟩
 rw [←aq] at f W ⊢
 obtain⟨y,ar⟩:∃n,n=r.kind:=⟨_,rfl⟩
 rw [←ar] at f Z hk
 have q1:(y==1)=false:=by rw [hk.out]; rfl
 have q2:(y==2)=false:=by rw [hk.out]; rfl
 have q3:(y==3)=false:=by rw [hk.out]; rfl
 have q4:(y==4)=false:=by rw [hk.out]; rfl
 have q5:(y==5)=true:=by rw [hk.out]; rfl
 have y1:decide (y=1)=false:=by rw [hk.out]; rfl
 have y2:decide (y=2)=false:=by rw [hk.out]; rfl
 have y3:decide (y=3)=false:=by rw [hk.out]; rfl
 have y4:decide (y=4)=false:=by rw [hk.out]; rfl
 have y5:decide (y=5)=true:=by rw [hk.out]; rfl
 rw [y1,y2,y3,y4,y5] at f
 have az:=hide f
 clear E F G I J M O U ak al am an ao ap aq ar f y1 y2 y3 y4 y5 z C ah ai aS aU aC aE aD aF aG aH
 go_enter Tryz.func81,Tryz.ntmps81
 go_wp2_with fail
 refine Reg.cI [0,1,3,0,8,24,0,64,192,0,512,1536,0,4096,12288,7,32831,98815,233471,524287] [0,1,2,3,4,5,6,7,8,9,10,11,12,13,14,15,16,17,18,19] ?_
 refine Reg.wI [0,1,2,3,4,5,6,7,8,9,10,11,12,13,14,15,16,17,18,19] [] rfl fun Qf aA=>?_
 go_wp2_with fail
 first | refine aA _ _ ⟨rfl,?_⟩ | refine⟨rfl,?_⟩ | refine aA _ _ ⟨by simp [Reg.fineT,Reg.intOp,Region.wanted,yielded,Reg.intFine,Reg.isInt,Act.eval],?_⟩
 try clear aA
 first | refine Reg.restI_end ?_ | skip
 go_wp2_with fail
 all_goals
  go_ret
  refine⟨?_,aV.out⟩
  rw [az.out]
  refine congrArg Value.bool ?_
  clear q1 q2 q3 q4 q5 az aW aX aR aT h V W Z a2 a3 a4 a5 a6 a7 a8 a9 aa ab ad ae af ag
  unfold unV
  first
   | (simp_all; done)
   | (simp_all; omega)
   | (by_cases h4:kt=4 <;> simp_all; done)
   | (by_cases h4:kt=4 <;> simp_all <;> omega)
theorem OL {w:World} {cs ds:List Value} {p:Ao} {r:As} (h:Ax w w.heap.size cs p) (V:AB w w.heap.size ds r) (hs:r.Small) (hk:Hid (r.kind≠1∧r.kind≠2∧r.kind≠3∧r.kind≠4∧r.kind≠5)):
  Calls Tryz.prog 81 #[.agg cs.toArray,.agg ds.toArray] w (Ret fun v w'=>v=.bool (BR p.topo r)∧Below w.heap.size w w'):=by
 obtain⟨A1,c1,A2,c2,A3,c3,A4,c4,A5,c5,A6,c6,A7,c7,aC,aD,W,-⟩:=Ef h
 obtain⟨E1,f1,E2,f2,E3,f3,E4,f4,E5,f5,E6,f6,E7,f7,E8,f8,⟨aE,aF,Z,aG,aH,a2,a3,a4,a5,a6,a7,a8,a9,aa,ab,ad,ae,af,ag⟩,-⟩:=V.cells
 obtain⟨aJ,aK,aL,aM,aN,aO,aP,aQ⟩:=hs
 have f:=EM p.topo r
 obtain⟨w1,aR,z,ah,aS⟩:=Ag w cs.toArray 27
 obtain⟨w2,aT,C,ai,aU⟩:=Ag w1 ds.toArray 48
 have aj:=hide (z.trans (C.mono z.size))
 have aV:=hide (aj.out.trans ((Ap w2).mono aj.out.size))
 have aW:=(ah.below C).cell
 have aX:=ai.cell
 generalize cs.toArray=pc at*
 generalize ds.toArray=rc at*
 obtain⟨ng,E⟩:∃n,n=r.guards.length:=⟨_,rfl⟩
 rw [←E] at f
 obtain⟨ne,F⟩:∃n,n=r.ex.length:=⟨_,rfl⟩
 rw [←F] at f
 obtain⟨nf,G⟩:∃n,n=r.fa.length:=⟨_,rfl⟩
 rw [←G] at f
 obtain⟨nd,I⟩:∃n,n=r.send.length:=⟨_,rfl⟩
 rw [←I] at f
 obtain⟨nl,J⟩:∃n,n=r.left.length:=⟨_,rfl⟩
 rw [←J] at f
 obtain⟨nt,M⟩:∃n,n=r.right.length:=⟨_,rfl⟩
 rw [←M] at f
 obtain⟨np,O⟩:∃n,n=r.parent.length:=⟨_,rfl⟩
 rw [←O] at f
 obtain⟨nr,U⟩:∃n,n=r.resp.length:=⟨_,rfl⟩
 rw [←U] at f
 rw [←E] at a5 aK
 rw [←F] at a6 aL
 rw [←G] at a7 aM
 rw [←I] at aa aN
 rw [←J] at ad aO
 rw [←M] at ae aP
 rw [←O] at af aQ
 rw [←U] at a4 aJ
 obtain⟨rd,ak⟩:∃n,n=r.rd:=⟨_,rfl⟩
 rw [←ak] at f a8
 obtain⟨wr,al⟩:∃n,n=r.wr:=⟨_,rfl⟩
 rw [←al] at f a9
 obtain⟨pf,am⟩:∃n,n=r.pf:=⟨_,rfl⟩
 rw [←am] at f a2
 obtain⟨pt,an⟩:∃n,n=r.pt:=⟨_,rfl⟩
 rw [←an] at f a3
 obtain⟨ta,ao⟩:∃n,n=r.at_:=⟨_,rfl⟩
 rw [←ao] at f ab
 obtain⟨di,ap⟩:∃n,n=r.dir:=⟨_,rfl⟩
 rw [←ap] at f ag
 obtain⟨kt,aq⟩:∃n,n=p.topo:=⟨_,rfl⟩
 rw [←aq] at f W ⊢
 obtain⟨y,ar⟩:∃n,n=r.kind:=⟨_,rfl⟩
 rw [←ar] at f Z hk
 have q1:(y==1)=false:=by have:=hk.out; simp; omega
 have q2:(y==2)=false:=by have:=hk.out; simp; omega
 have q3:(y==3)=false:=by have:=hk.out; simp; omega
 have q4:(y==4)=false:=by have:=hk.out; simp; omega
 have q5:(y==5)=false:=by have:=hk.out; simp; omega
 have y1:decide (y=1)=false:=by have:=hk.out; simp; omega
 have y2:decide (y=2)=false:=by have:=hk.out; simp; omega
 have y3:decide (y=3)=false:=by have:=hk.out; simp; omega
 have y4:decide (y=4)=false:=by have:=hk.out; simp; omega
 have y5:decide (y=5)=false:=by have:=hk.out; simp; omega
 rw [y1,y2,y3,y4,y5] at f
 have az:=hide f
 clear E F G I J M O U ak al am an ao ap aq ar f y1 y2 y3 y4 y5 z C ah ai aS aU aC aE aD aF aG aH
 go_enter Tryz.func81,Tryz.ntmps81
 go_wp2_with fail
 refine Reg.cI [0,1,3,0,8,24,0,64,192,0,512,1536,0,4096,12288,7,32831,98815,233471,524287] [0,1,2,3,4,5,6,7,8,9,10,11,12,13,14,15,16,17,18,19] ?_
 refine Reg.wI [0,1,2,3,4,5,6,7,8,9,10,11,12,13,14,15,16,17,18,19] [] rfl fun Qf aA=>?_
 go_wp2_with fail
 first | refine aA _ _ ⟨rfl,?_⟩ | refine⟨rfl,?_⟩ | refine aA _ _ ⟨by simp [Reg.fineT,Reg.intOp,Region.wanted,yielded,Reg.intFine,Reg.isInt,Act.eval],?_⟩
 try clear aA
 first | refine Reg.restI_end ?_ | skip
 go_wp2_with fail
 all_goals
  go_ret
  refine⟨?_,aV.out⟩
  rw [az.out]
  refine congrArg Value.bool ?_
  clear q1 q2 q3 q4 q5 az aW aX aR aT h V W Z a2 a3 a4 a5 a6 a7 a8 a9 aa ab ad ae af ag
  unfold unV
  first
   | (simp_all; done)
   | (simp_all; omega)
   | (by_cases h4:kt=4 <;> simp_all; done)
   | (by_cases h4:kt=4 <;> simp_all <;> omega)
theorem ES {w:World} {cs ds:List Value} {p:Ao} {r:As} (h:Ax w w.heap.size cs p) (f:AB w w.heap.size ds r) (y:r.Small):
  Calls Tryz.prog 81 #[.agg cs.toArray,.agg ds.toArray] w (Ret fun v w'=>v=.bool (BR p.topo r)∧Below w.heap.size w w'):=by
 by_cases z:r.kind=1
 ·exact Mj h f y z
 by_cases C:r.kind=2
 ·exact MU h f y C
 by_cases E:r.kind=3
 ·exact M2 h f y E
 by_cases F:r.kind=4
 ·exact Q3 h f y F
 by_cases G:r.kind=5
 ·exact QQ h f y G
 exact OL h f y ⟨z,C,E,F,G⟩
end Go.Proofs.YtlakpndhhelliaaGreatDoor.K
