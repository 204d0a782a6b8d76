/-
  Part AC of a proof.
-/
import Derived.Test.YtfcfpoemojjglaaGreatDoorPA
import Derived.Test.YtfcfpoemojjglaaGreatDoorCE
set_option maxHeartbeats 16000000
set_option maxRecDepth 100000
set_option linter.unusedVariables false
set_option linter.unusedSimpArgs false
namespace Go.Proofs.YtfcfpoemojjglaaGreatDoor.K
open Go.RowKit
attribute [-go_sem] loadCellsFrom storeCells
theorem AW.cells {w:World} {B:Nat} {cs:List Value} {r:Az} (h:AW w B cs r):∃y M z c2 C O E U F V G W I Z J c8,
  (cs.toArray.size=18∧cs.toArray[0]?=some (.string r.name)∧cs.toArray[1]?=some (.int .i64 r.kind)∧cs.toArray[2]?=some (.int .i64 r.fr)∧cs.toArray[3]?=some (.int .i64 r.to)∧cs.toArray[4]?=some (.int .i64 r.pf)∧cs.toArray[5]?=some (.int .i64 r.pt)∧cs.toArray[6]?=some (.slice y r.resp.length M)∧
   cs.toArray[7]?=some (.slice z r.guards.length c2)∧cs.toArray[8]?=some (.slice C r.ex.length O)∧cs.toArray[9]?=some (.slice E r.fa.length U)∧cs.toArray[10]?=some (.int .i64 r.rd)∧cs.toArray[11]?=some (.int .i64 r.wr)∧cs.toArray[12]?=some (.slice F r.send.length V)∧
   cs.toArray[13]?=some (.int .i64 r.at_)∧cs.toArray[14]?=some (.slice G r.left.length W)∧cs.toArray[15]?=some (.slice I r.right.length Z)∧cs.toArray[16]?=some (.slice J r.parent.length c8)∧cs.toArray[17]?=some (.int .i64 r.dir))∧
  (Sl w B 1 Ai y r.resp∧Sl w B 6 CS z r.guards∧Sl w B 1 Ai C r.ex∧Sl w B 1 Ai E r.fa∧Sl w B 1 Ai F r.send∧Sl w B 1 Ai G r.left∧Sl w B 1 Ai I r.right∧Sl w B 1 Ai J r.parent):=by
 obtain⟨y,M,z,c2,C,O,E,U,F,V,G,W,I,Z,J,c8,rfl,h1⟩:=h
 exact⟨y,M,z,c2,C,O,E,U,F,V,G,W,I,Z,J,c8,⟨rfl,rfl,rfl,rfl,rfl,rfl,rfl,rfl,rfl,rfl,rfl,rfl,rfl,rfl,rfl,rfl,rfl,rfl,rfl⟩,h1⟩
def unV (k1 k2 k3 k4 k5 t4:Bool) (ng ne nf nd nl nt np nr:Nat) (rd wr pf pt at_ dir:Int):Bool:=
 (!k1&&(decide (0<ng)||decide (0<ne)||decide (0<nf)||decide (0<nd)))||
 ((!k1&&!k2&&!k3)&&(!decide (rd= -1)||!decide (wr= -1)))||
 ((!k2&&!k5)&&(!decide (pf=0)||!decide (pt=0)))||
 (!k3&&decide (0<nr))||(!k5&&!decide (dir=0))||
 (!k4&&(!decide (at_=0)||decide (0<nl)||decide (0<nt)))||
 (decide (0<np)&&!(k4&&t4))
theorem Rd {A:Type} (l:List A):(!l.isEmpty)=decide (0<l.length):=by cases l <;> simp
theorem FC (topo:Int) (r:Az):B9 topo r=unV (decide (r.kind=1)) (decide (r.kind=2)) (decide (r.kind=3)) (decide (r.kind=4)) (decide (r.kind=5)) (decide (topo=4)) r.guards.length r.ex.length r.fa.length r.send.length r.left.length r.right.length r.parent.length r.resp.length r.rd r.wr r.pf r.pt r.at_ r.dir:=by
 unfold B9 unV
 simp only [Rd]
theorem EU {w:World} {B:Nat} {cs:List Value} {p:Am} (h:At w B cs p):∃y J z c2 C M E O F U G V I W,
  cs.toArray.size=10∧cs.toArray[0]?=some (.string p.name)∧cs.toArray[1]?=some (.int .i64 p.topo)∧cs.toArray[2]?=some (.slice y p.states.length J)∧cs.toArray[3]?=some (.slice z p.messages.length c2)∧
  cs.toArray[4]?=some (.slice C p.values.length M)∧cs.toArray[5]?=some (.int .i64 p.fault)∧cs.toArray[6]?=some (.slice E p.res.length O)∧cs.toArray[7]?=some (.slice F p.initial.length U)∧cs.toArray[8]?=some (.slice G p.leader.length V)∧cs.toArray[9]?=some (.slice I p.rules.length W):=by
 obtain⟨y,J,z,c2,C,M,E,O,F,U,G,V,I,W,rfl,_⟩:=h
 exact⟨y,J,z,c2,C,M,E,O,F,U,G,V,I,W,rfl,rfl,rfl,rfl,rfl,rfl,rfl,rfl,rfl,rfl,rfl⟩
theorem TP {w:World} {cs ds:List Value} {p:Am} {r:Az} (h:At w w.heap.size cs p) (Z:AW w w.heap.size ds r) (hs:r.Small) (hk:Hid (r.kind=1)):
  Calls Tryz.prog 192 #[.agg cs.toArray,.agg ds.toArray] w (Ret fun v w'=>v=.bool (B9 p.topo r)∧Below w.heap.size w w'):=by
 obtain⟨A1,c1,A2,c2,A3,c3,A4,c4,A5,c5,A6,c6,A7,c7,aK,aJ,a9,-⟩:=EU h
 obtain⟨E1,f1,E2,f2,E3,f3,E4,f4,E5,f5,E6,f6,E7,f7,E8,f8,⟨aO,aL,ad,aM,aN,am,an,ao,ap,aq,ar,ae,af,ag,ah,ai,aj,ak,al⟩,-⟩:=Z.cells
 obtain⟨aQ,aR,aS,aT,aU,aV,aW,aX⟩:=hs
 have y:=FC p.topo r
 obtain⟨w1,aY,E,a2,aG⟩:=Ae w cs.toArray 27
 obtain⟨w2,aZ,F,a3,aH⟩:=Ae w1 ds.toArray 99
 have a5:=hide (E.trans (F.mono E.size))
 have aD:=hide (a5.out.trans ((Ap w2).mono a5.out.size))
 have aE:=(a2.below F).cell
 have aF:=a3.cell
 generalize cs.toArray=pc at*
 generalize ds.toArray=rc at*
 obtain⟨ng,M⟩:∃n,n=r.guards.length:=⟨_,rfl⟩
 rw [←M] at y
 obtain⟨ne,I⟩:∃n,n=r.ex.length:=⟨_,rfl⟩
 rw [←I] at y
 obtain⟨nf,J⟩:∃n,n=r.fa.length:=⟨_,rfl⟩
 rw [←J] at y
 obtain⟨nd,G⟩:∃n,n=r.send.length:=⟨_,rfl⟩
 rw [←G] at y
 obtain⟨nl,O⟩:∃n,n=r.left.length:=⟨_,rfl⟩
 rw [←O] at y
 obtain⟨nt,W⟩:∃n,n=r.right.length:=⟨_,rfl⟩
 rw [←W] at y
 obtain⟨np,U⟩:∃n,n=r.parent.length:=⟨_,rfl⟩
 rw [←U] at y
 obtain⟨nr,V⟩:∃n,n=r.resp.length:=⟨_,rfl⟩
 rw [←V] at y
 rw [←M] at ap aR
 rw [←I] at aq aS
 rw [←J] at ar aT
 rw [←G] at ag aU
 rw [←O] at ai aV
 rw [←W] at aj aW
 rw [←U] at ak aX
 rw [←V] at ao aQ
 obtain⟨rd,au⟩:∃n,n=r.rd:=⟨_,rfl⟩
 rw [←au] at y ae
 obtain⟨wr,aw⟩:∃n,n=r.wr:=⟨_,rfl⟩
 rw [←aw] at y af
 obtain⟨pf,aa⟩:∃n,n=r.pf:=⟨_,rfl⟩
 rw [←aa] at y am
 obtain⟨pt,ab⟩:∃n,n=r.pt:=⟨_,rfl⟩
 rw [←ab] at y an
 obtain⟨ta,av⟩:∃n,n=r.at_:=⟨_,rfl⟩
 rw [←av] at y ah
 obtain⟨di,a6⟩:∃n,n=r.dir:=⟨_,rfl⟩
 rw [←a6] at y al
 obtain⟨kt,a8⟩:∃n,n=p.topo:=⟨_,rfl⟩
 rw [←a8] at y a9 ⊢
 obtain⟨z,a7⟩:∃n,n=r.kind:=⟨_,rfl⟩
 rw [←a7] at y ad hk
 have q1:(z==1)=true:=by rw [hk.out]; rfl
 have q2:(z==2)=false:=by rw [hk.out]; rfl
 have q3:(z==3)=false:=by rw [hk.out]; rfl
 have q4:(z==4)=false:=by rw [hk.out]; rfl
 have q5:(z==5)=false:=by rw [hk.out]; rfl
 have y1:decide (z=1)=true:=by rw [hk.out]; rfl
 have y2:decide (z=2)=false:=by rw [hk.out]; rfl
 have y3:decide (z=3)=false:=by rw [hk.out]; rfl
 have y4:decide (z=4)=false:=by rw [hk.out]; rfl
 have y5:decide (z=5)=false:=by rw [hk.out]; rfl
 rw [y1,y2,y3,y4,y5] at y
 have a4:=hide y
 clear M I J G O W U V au aw aa ab av a6 a8 a7 y y1 y2 y3 y4 y5 E F a2 a3 aG aH aK aO aJ aL aM aN
 go_enter Tryz.func192,Tryz.ntmps192
 go_wp2_with fail
 refine Reg.cI [0,1,3,0,8,24,0,64,192,0,512,1536,0,4096,12288,7,32831,98815,233471,524287] [0,1,2,3,4,5,6,7,8,9,10,11,12,13,14,15,16,17,18,19] ?_
 refine Reg.wI [0,1,2,3,4,5,6,7,8,9,10,11,12,13,14,15,16,17,18,19] [] rfl fun Qf C=>?_
 go_wp2_with fail
 first | refine C _ _ ⟨rfl,?_⟩ | refine⟨rfl,?_⟩ | refine C _ _ ⟨by simp [Reg.fineT,Reg.intOp,Region.wanted,yielded,Reg.intFine,Reg.isInt,Act.eval],?_⟩
 try clear C
 first | refine Reg.restI_end ?_ | skip
 go_wp2_with fail
 all_goals
  go_ret
  refine⟨?_,aD.out⟩
  rw [a4.out]
  refine congrArg Value.bool ?_
  clear q1 q2 q3 q4 q5 a4 aE aF aY aZ h Z a9 ad am an ao ap aq ar ae af ag ah ai aj ak al
  unfold unV
  first
   | (simp_all; done)
   | (simp_all; omega)
   | (by_cases h4:kt=4 <;> simp_all; done)
   | (by_cases h4:kt=4 <;> simp_all <;> omega)
theorem TQ {w:World} {cs ds:List Value} {p:Am} {r:Az} (h:At w w.heap.size cs p) (Z:AW w w.heap.size ds r) (hs:r.Small) (hk:Hid (r.kind=2)):
  Calls Tryz.prog 192 #[.agg cs.toArray,.agg ds.toArray] w (Ret fun v w'=>v=.bool (B9 p.topo r)∧Below w.heap.size w w'):=by
 obtain⟨A1,c1,A2,c2,A3,c3,A4,c4,A5,c5,A6,c6,A7,c7,aK,aJ,a9,-⟩:=EU h
 obtain⟨E1,f1,E2,f2,E3,f3,E4,f4,E5,f5,E6,f6,E7,f7,E8,f8,⟨aO,aL,ad,aM,aN,am,an,ao,ap,aq,ar,ae,af,ag,ah,ai,aj,ak,al⟩,-⟩:=Z.cells
 obtain⟨aQ,aR,aS,aT,aU,aV,aW,aX⟩:=hs
 have y:=FC p.topo r
 obtain⟨w1,aY,E,a2,aG⟩:=Ae w cs.toArray 27
 obtain⟨w2,aZ,F,a3,aH⟩:=Ae w1 ds.toArray 99
 have a5:=hide (E.trans (F.mono E.size))
 have aD:=hide (a5.out.trans ((Ap w2).mono a5.out.size))
 have aE:=(a2.below F).cell
 have aF:=a3.cell
 generalize cs.toArray=pc at*
 generalize ds.toArray=rc at*
 obtain⟨ng,M⟩:∃n,n=r.guards.length:=⟨_,rfl⟩
 rw [←M] at y
 obtain⟨ne,I⟩:∃n,n=r.ex.length:=⟨_,rfl⟩
 rw [←I] at y
 obtain⟨nf,J⟩:∃n,n=r.fa.length:=⟨_,rfl⟩
 rw [←J] at y
 obtain⟨nd,G⟩:∃n,n=r.send.length:=⟨_,rfl⟩
 rw [←G] at y
 obtain⟨nl,O⟩:∃n,n=r.left.length:=⟨_,rfl⟩
 rw [←O] at y
 obtain⟨nt,W⟩:∃n,n=r.right.length:=⟨_,rfl⟩
 rw [←W] at y
 obtain⟨np,U⟩:∃n,n=r.parent.length:=⟨_,rfl⟩
 rw [←U] at y
 obtain⟨nr,V⟩:∃n,n=r.resp.length:=⟨_,rfl⟩
 rw [←V] at y
 rw [←M] at ap aR
 rw [←I] at aq aS
 rw [←J] at ar aT
 rw [←G] at ag aU
 rw [←O] at ai aV
 rw [←W] at aj aW
 rw [←U] at ak aX
 rw [←V] at ao aQ
 obtain⟨rd,au⟩:∃n,n=r.rd:=⟨_,rfl⟩
 rw [←au] at y ae
 obtain⟨wr,aw⟩:∃n,n=r.wr:=⟨_,rfl⟩
 rw [←aw] at y af
 obtain⟨pf,aa⟩:∃n,n=r.pf:=⟨_,rfl⟩
 rw [←aa] at y am
 obtain⟨pt,ab⟩:∃n,n=r.pt:=⟨_,rfl⟩
 rw [←ab] at y an
 obtain⟨ta,av⟩:∃n,n=r.at_:=⟨_,rfl⟩
 rw [←av] at y ah
 obtain⟨di,a6⟩:∃n,n=r.dir:=⟨_,rfl⟩
 rw [←a6] at y al
 obtain⟨kt,a8⟩:∃n,n=p.topo:=⟨_,rfl⟩
 rw [←a8] at y a9 ⊢
 obtain⟨z,a7⟩:∃n,n=r.kind:=⟨_,rfl⟩
 rw [←a7] at y ad hk
 have q1:(z==1)=false:=by rw [hk.out]; rfl
 have q2:(z==2)=true:=by rw [hk.out]; rfl
 have q3:(z==3)=false:=by rw [hk.out]; rfl
 have q4:(z==4)=false:=by rw [hk.out]; rfl
 have q5:(z==5)=false:=by rw [hk.out]; rfl
 have y1:decide (z=1)=false:=by rw [hk.out]; rfl
 have y2:decide (z=2)=true:=by rw [hk.out]; rfl
 have y3:decide (z=3)=false:=by rw [hk.out]; rfl
 have y4:decide (z=4)=false:=by rw [hk.out]; rfl
 have y5:decide (z=5)=false:=by rw [hk.out]; rfl
 rw [y1,y2,y3,y4,y5] at y
 have a4:=hide y
 clear M I J G O W U V au aw aa ab av a6 a8 a7 y y1 y2 y3 y4 y5 E F a2 a3 aG aH aK aO aJ aL aM aN
 go_enter Tryz.func192,Tryz.ntmps192
 go_wp2_with fail
 refine Reg.cI [0,1,3,0,8,24,0,64,192,0,512,1536,0,4096,12288,7,32831,98815,233471,524287] [0,1,2,3,4,5,6,7,8,9,10,11,12,13,14,15,16,17,18,19] ?_
 refine Reg.wI [0,1,2,3,4,5,6,7,8,9,10,11,12,13,14,15,16,17,18,19] [] rfl fun Qf C=>?_
 go_wp2_with fail
 first | refine C _ _ ⟨rfl,?_⟩ | refine⟨rfl,?_⟩ | refine C _ _ ⟨by simp [Reg.fineT,Reg.intOp,Region.wanted,yielded,Reg.intFine,Reg.isInt,Act.eval],?_⟩
 try clear C
 first | refine Reg.restI_end ?_ | skip
 go_wp2_with fail
 all_goals
  go_ret
  refine⟨?_,aD.out⟩
  rw [a4.out]
  refine congrArg Value.bool ?_
  clear q1 q2 q3 q4 q5 a4 aE aF aY aZ h Z a9 ad am an ao ap aq ar ae af ag ah ai aj ak al
  unfold unV
  first
   | (simp_all; done)
   | (simp_all; omega)
   | (by_cases h4:kt=4 <;> simp_all; done)
   | (by_cases h4:kt=4 <;> simp_all <;> omega)
theorem TS {w:World} {cs ds:List Value} {p:Am} {r:Az} (h:At w w.heap.size cs p) (Z:AW w w.heap.size ds r) (hs:r.Small) (hk:Hid (r.kind=3)):
  Calls Tryz.prog 192 #[.agg cs.toArray,.agg ds.toArray] w (Ret fun v w'=>v=.bool (B9 p.topo r)∧Below w.heap.size w w'):=by
 obtain⟨A1,c1,A2,c2,A3,c3,A4,c4,A5,c5,A6,c6,A7,c7,aK,aJ,a9,-⟩:=EU h
 obtain⟨E1,f1,E2,f2,E3,f3,E4,f4,E5,f5,E6,f6,E7,f7,E8,f8,⟨aO,aL,ad,aM,aN,am,an,ao,ap,aq,ar,ae,af,ag,ah,ai,aj,ak,al⟩,-⟩:=Z.cells
 obtain⟨aQ,aR,aS,aT,aU,aV,aW,aX⟩:=hs
 have y:=FC p.topo r
 obtain⟨w1,aY,E,a2,aG⟩:=Ae w cs.toArray 27
 obtain⟨w2,aZ,F,a3,aH⟩:=Ae w1 ds.toArray 99
 have a5:=hide (E.trans (F.mono E.size))
 have aD:=hide (a5.out.trans ((Ap w2).mono a5.out.size))
 have aE:=(a2.below F).cell
 have aF:=a3.cell
 generalize cs.toArray=pc at*
 generalize ds.toArray=rc at*
 obtain⟨ng,M⟩:∃n,n=r.guards.length:=⟨_,rfl⟩
 rw [←M] at y
 obtain⟨ne,I⟩:∃n,n=r.ex.length:=⟨_,rfl⟩
 rw [←I] at y
 obtain⟨nf,J⟩:∃n,n=r.fa.length:=⟨_,rfl⟩
 rw [←J] at y
 obtain⟨nd,G⟩:∃n,n=r.send.length:=⟨_,rfl⟩
 rw [←G] at y
 obtain⟨nl,O⟩:∃n,n=r.left.length:=⟨_,rfl⟩
 rw [←O] at y
 obtain⟨nt,W⟩:∃n,n=r.right.length:=⟨_,rfl⟩
 rw [←W] at y
 obtain⟨np,U⟩:∃n,n=r.parent.length:=⟨_,rfl⟩
 rw [←U] at y
 obtain⟨nr,V⟩:∃n,n=r.resp.length:=⟨_,rfl⟩
 rw [←V] at y
 rw [←M] at ap aR
 rw [←I] at aq aS
 rw [←J] at ar aT
 rw [←G] at ag aU
 rw [←O] at ai aV
 rw [←W] at aj aW
 rw [←U] at ak aX
 rw [←V] at ao aQ
 obtain⟨rd,au⟩:∃n,n=r.rd:=⟨_,rfl⟩
 rw [←au] at y ae
 obtain⟨wr,aw⟩:∃n,n=r.wr:=⟨_,rfl⟩
 rw [←aw] at y af
 obtain⟨pf,aa⟩:∃n,n=r.pf:=⟨_,rfl⟩
 rw [←aa] at y am
 obtain⟨pt,ab⟩:∃n,n=r.pt:=⟨_,rfl⟩
 rw [←ab] at y an
 obtain⟨ta,av⟩:∃n,n=r.at_:=⟨_,rfl⟩
 rw [←av] at y ah
 obtain⟨di,a6⟩:∃n,n=r.dir:=⟨_,rfl⟩
 rw [←a6] at y al
 obtain⟨kt,a8⟩:∃n,n=p.topo:=⟨_,rfl⟩
 rw [←a8] at y a9 ⊢
 obtain⟨z,a7⟩:∃n,n=r.kind:=⟨_,rfl⟩
 rw [←a7] at y ad hk
 have q1:(z==1)=false:=by rw [hk.out]; rfl
 have q2:(z==2)=false:=by rw [hk.out]; rfl
 have q3:(z==3)=true:=by rw [hk.out]; rfl
 have q4:(z==4)=false:=by rw [hk.out]; rfl
 have q5:(z==5)=false:=by rw [hk.out]; rfl
 have y1:decide (z=1)=false:=by rw [hk.out]; rfl
 have y2:decide (z=2)=false:=by rw [hk.out]; rfl
 have y3:decide (z=3)=true:=by rw [hk.out]; rfl
 have y4:decide (z=4)=false:=by rw [hk.out]; rfl
 have y5:decide (z=5)=false:=by rw [hk.out]; rfl
 rw [y1,y2,y3,y4,y5] at y
 have a4:=hide y
 clear M I J G O W U V au aw aa ab av a6 a8 a7 y y1 y2 y3 y4 y5 E F a2 a3 aG aH aK aO aJ aL aM aN
 go_enter Tryz.func192,Tryz.ntmps192
 go_wp2_with fail
 refine Reg.cI [0,1,3,0,8,24,0,64,192,0,512,1536,0,4096,12288,7,32831,98815,233471,524287] [0,1,2,3,4,5,6,7,8,9,10,11,12,13,14,15,16,17,18,19] ?_
 refine Reg.wI [0,1,2,3,4,5,6,7,8,9,10,11,12,13,14,15,16,17,18,19] [] rfl fun Qf C=>?_
 go_wp2_with fail
 first | refine C _ _ ⟨rfl,?_⟩ | refine⟨rfl,?_⟩ | refine C _ _ ⟨by simp [Reg.fineT,Reg.intOp,Region.wanted,yielded,Reg.intFine,Reg.isInt,Act.eval],?_⟩
 try clear C
 first | refine Reg.restI_end ?_ | skip
 go_wp2_with fail
 all_goals
  go_ret
  refine⟨?_,aD.out⟩
  rw [a4.out]
  refine congrArg Value.bool ?_
  clear q1 q2 q3 q4 q5 a4 aE aF aY aZ h Z a9 ad am an ao ap aq ar ae af ag ah ai aj ak al
  unfold unV
  first
   | (simp_all; done)
   | (simp_all; omega)
   | (by_cases h4:kt=4 <;> simp_all; done)
   | (by_cases h4:kt=4 <;> simp_all <;> omega)
theorem TT {w:World} {cs ds:List Value} {p:Am} {r:Az} (h:At w w.heap.size cs p) (Z:AW w w.heap.size ds r) (hs:r.Small) (hk:Hid (r.kind=4)):
  Calls Tryz.prog 192 #[.agg cs.toArray,.agg ds.toArray] w (Ret fun v w'=>v=.bool (B9 p.topo r)∧Below w.heap.size w w'):=by
 obtain⟨A1,c1,A2,c2,A3,c3,A4,c4,A5,c5,A6,c6,A7,c7,aK,aJ,a9,-⟩:=EU h
 obtain⟨E1,f1,E2,f2,E3,f3,E4,f4,E5,f5,E6,f6,E7,f7,E8,f8,⟨aO,aL,ad,aM,aN,am,an,ao,ap,aq,ar,ae,af,ag,ah,ai,aj,ak,al⟩,-⟩:=Z.cells
 obtain⟨aQ,aR,aS,aT,aU,aV,aW,aX⟩:=hs
 have y:=FC p.topo r
 obtain⟨w1,aY,E,a2,aG⟩:=Ae w cs.toArray 27
 obtain⟨w2,aZ,F,a3,aH⟩:=Ae w1 ds.toArray 99
 have a5:=hide (E.trans (F.mono E.size))
 have aD:=hide (a5.out.trans ((Ap w2).mono a5.out.size))
 have aE:=(a2.below F).cell
 have aF:=a3.cell
 generalize cs.toArray=pc at*
 generalize ds.toArray=rc at*
 obtain⟨ng,M⟩:∃n,n=r.guards.length:=⟨_,rfl⟩
 rw [←M] at y
 obtain⟨ne,I⟩:∃n,n=r.ex.length:=⟨_,rfl⟩
 rw [←I] at y
 obtain⟨nf,J⟩:∃n,n=r.fa.length:=⟨_,rfl⟩
 rw [←J] at y
 obtain⟨nd,G⟩:∃n,n=r.send.length:=⟨_,rfl⟩
 rw [←G] at y
 obtain⟨nl,O⟩:∃n,n=r.left.length:=⟨_,rfl⟩
 rw [←O] at y
 obtain⟨nt,W⟩:∃n,n=r.right.length:=⟨_,rfl⟩
 rw [←W] at y
 obtain⟨np,U⟩:∃n,n=r.parent.length:=⟨_,rfl⟩
 rw [←U] at y
 obtain⟨nr,V⟩:∃n,n=r.resp.length:=⟨_,rfl⟩
 rw [←V] at y
 rw [←M] at ap aR
 rw [←I] at aq aS
 rw [←J] at ar aT
 rw [←G] at ag aU
 rw [←O] at ai aV
 rw [←W] at aj aW
 rw [←U] at ak aX
 rw [←V] at ao aQ
 obtain⟨rd,au⟩:∃n,n=r.rd:=⟨_,rfl⟩
 rw [←au] at y ae
 obtain⟨wr,aw⟩:∃n,n=r.wr:=⟨_,rfl⟩
 rw [←aw] at y af
 obtain⟨pf,aa⟩:∃n,n=r.pf:=⟨_,rfl⟩
 rw [←aa] at y am
 obtain⟨pt,ab⟩:∃n,n=r.pt:=⟨_,rfl⟩
 rw [←ab] at y an
 obtain⟨ta,av⟩:∃n,n=r.at_:=⟨_,rfl⟩
 rw [←av] at y ah
 obtain⟨di,a6⟩:∃n,n=r.dir:=⟨_,rfl⟩
 rw [←a6] at y al
 obtain⟨kt,a8⟩:∃n,n=p.topo:=⟨_,rfl⟩
 rw [←a8] at y a9 ⊢
 obtain⟨z,a7⟩:∃n,n=r.kind:=⟨_,rfl⟩
 rw [←a7] at y ad hk
 have q1:(z==1)=false:=by rw [hk.out]; rfl
 have q2:(z==2)=false:=by rw [hk.out]; rfl
 have q3:(z==3)=false:=by rw [hk.out]; rfl
 have q4:(z==4)=true:=by rw [hk.out]; rfl
 have q5:(z==5)=false:=by rw [hk.out]; rfl
 have y1:decide (z=1)=false:=by rw [hk.out]; rfl
 have y2:decide (z=2)=false:=by rw [hk.out]; rfl
 have y3:decide (z=3)=false:=by rw [hk.out]; rfl
 have y4:decide (z=4)=true:=by rw [hk.out]; rfl
 have y5:decide (z=5)=false:=by rw [hk.out]; rfl
 rw [y1,y2,y3,y4,y5] at y
 have a4:=hide y
 clear M I J G O W U V au aw aa ab av a6 a8 a7 y y1 y2 y3 y4 y5 E F a2 a3 aG aH aK aO aJ aL aM aN
 go_enter Tryz.func192,Tryz.ntmps192
 go_wp2_with fail
 refine Reg.cI [0,1,3,0,8,24,0,64,192,0,512,1536,0,4096,12288,7,32831,98815,233471,524287] [0,1,2,3,4,5,6,7,8,9,10,11,12,13,14,15,16,17,18,19] ?_
 refine Reg.wI [0,1,2,3,4,5,6,7,8,9,10,11,12,13,14,15,16,17,18,19] [] rfl fun Qf C=>?_
 go_wp2_with fail
 first | refine C _ _ ⟨rfl,?_⟩ | refine⟨rfl,?_⟩ | refine C _ _ ⟨by simp [Reg.fineT,Reg.intOp,Region.wanted,yielded,Reg.intFine,Reg.isInt,Act.eval],?_⟩
 try clear C
 first | refine Reg.restI_end ?_ | skip
 go_wp2_with fail
 all_goals
  go_ret
  refine⟨?_,aD.out⟩
  rw [a4.out]
  refine congrArg Value.bool ?_
  clear q1 q2 q3 q4 q5 a4 aE aF aY aZ h Z a9 ad am an ao ap aq ar ae af ag ah ai aj ak al
  unfold unV
  first
   | (simp_all; done)
   | (simp_all; omega)
   | (by_cases h4:kt=4 <;> simp_all; done)
   | (by_cases h4:kt=4 <;> simp_all <;> omega)
theorem TU {w:World} {cs ds:List Value} {p:Am} {r:Az} (h:At w w.heap.size cs p) (Z:AW w w.heap.size ds r) (hs:r.Small) (hk:Hid (r.kind=5)):
  Calls Tryz.prog 192 #[.agg cs.toArray,.agg ds.toArray] w (Ret fun v w'=>v=.bool (B9 p.topo r)∧Below w.heap.size w w'):=by
 obtain⟨A1,c1,A2,c2,A3,c3,A4,c4,A5,c5,A6,c6,A7,c7,aK,aJ,a9,-⟩:=EU h
 obtain⟨E1,f1,E2,f2,E3,f3,E4,f4,E5,f5,E6,f6,E7,f7,E8,f8,⟨aO,aL,ad,aM,aN,am,an,ao,ap,aq,ar,ae,af,ag,ah,ai,aj,ak,al⟩,-⟩:=Z.cells
 obtain⟨aQ,aR,aS,aT,aU,aV,aW,aX⟩:=hs
 have y:=FC p.topo r
 obtain⟨w1,aY,E,a2,aG⟩:=Ae w cs.toArray 27
 obtain⟨w2,aZ,F,a3,aH⟩:=Ae w1 ds.toArray 99
 have a5:=hide (E.trans (F.mono E.size))
 have aD:=hide (a5.out.trans ((Ap w2).mono a5.out.size))
 have aE:=(a2.below F).cell
 have aF:=a3.cell
 generalize cs.toArray=pc at*
 generalize ds.toArray=rc at*
 obtain⟨ng,M⟩:∃n,n=r.guards.length:=⟨_,rfl⟩
 rw [←M] at y
 obtain⟨ne,I⟩:∃n,n=r.ex.length:=⟨_,rfl⟩
 rw [←I] at y
 obtain⟨nf,J⟩:∃n,n=r.fa.length:=⟨_,rfl⟩
 rw [←J] at y
 obtain⟨nd,G⟩:∃n,n=r.send.length:=⟨_,rfl⟩
 rw [←G] at y
 obtain⟨nl,O⟩:∃n,n=r.left.length:=⟨_,rfl⟩
 rw [←O] at y
 obtain⟨nt,W⟩:∃n,n=r.right.length:=⟨_,rfl⟩
 rw [←W] at y
 obtain⟨np,U⟩:∃n,n=r.parent.length:=⟨_,rfl⟩
 rw [←U] at y
 obtain⟨nr,V⟩:∃n,n=r.resp.length:=⟨_,rfl⟩
 rw [←V] at y
 rw [←M] at ap aR
 rw [←I] at aq aS
 rw [←J] at ar aT
 rw [←G] at ag aU
 rw [←O] at ai aV
 rw [←W] at aj aW
 rw [←U] at ak aX
 rw [←V] at ao aQ
 obtain⟨rd,au⟩:∃n,n=r.rd:=⟨_,rfl⟩
 rw [←au] at y ae
 obtain⟨wr,aw⟩:∃n,n=r.wr:=⟨_,rfl⟩
 rw [←aw] at y af
 obtain⟨pf,aa⟩:∃n,n=r.pf:=⟨_,rfl⟩
 rw [←aa] at y am
 obtain⟨pt,ab⟩:∃n,n=r.pt:=⟨_,rfl⟩
 rw [←ab] at y an
 obtain⟨ta,av⟩:∃n,n=r.at_:=⟨_,rfl⟩
 rw [←av] at y ah
 obtain⟨di,a6⟩:∃n,n=r.dir:=⟨_,rfl⟩
 rw [←a6] at y al
 obtain⟨kt,a8⟩:∃n,n=p.topo:=⟨_,rfl⟩
 rw [←a8] at y a9 ⊢
 obtain⟨z,a7⟩:∃n,n=r.kind:=⟨_,rfl⟩
 rw [←a7] at y ad hk
 have q1:(z==1)=false:=by rw [hk.out]; rfl
 have q2:(z==2)=false:=by rw [hk.out]; rfl
 have q3:(z==3)=false:=by rw [hk.out]; rfl
 have q4:(z==4)=false:=by rw [hk.out]; rfl
 have q5:(z==5)=true:=by rw [hk.out]; rfl
 have y1:decide (z=1)=false:=by rw [hk.out]; rfl
 have y2:decide (z=2)=false:=by rw [hk.out]; rfl
 have y3:decide (z=3)=false:=by rw [hk.out]; rfl
 have y4:decide (z=4)=false:=by rw [hk.out]; rfl
 have y5:decide (z=5)=true:=by rw [hk.out]; rfl
 rw [y1,y2,y3,y4,y5] at y
 have a4:=hide y
 clear M I J G O W U V au aw aa ab av a6 a8 a7 y y1 y2 y3 y4 y5 E F a2 a3 aG aH aK aO aJ aL aM aN
 go_enter Tryz.func192,Tryz.ntmps192
 go_wp2_with fail
 refine Reg.cI [0,1,3,0,8,24,0,64,192,0,512,1536,0,4096,12288,7,32831,98815,233471,524287] [0,1,2,3,4,5,6,7,8,9,10,11,12,13,14,15,16,17,18,19] ?_
 refine Reg.wI [0,1,2,3,4,5,6,7,8,9,10,11,12,13,14,15,16,17,18,19] [] rfl fun Qf C=>?_
 go_wp2_with fail
 first | refine C _ _ ⟨rfl,?_⟩ | refine⟨rfl,?_⟩ | refine C _ _ ⟨by simp [Reg.fineT,Reg.intOp,Region.wanted,yielded,Reg.intFine,Reg.isInt,Act.eval],?_⟩
 try clear C
 first | refine Reg.restI_end ?_ | skip
 go_wp2_with fail
 all_goals
  go_ret
  refine⟨?_,aD.out⟩
  rw [a4.out]
  refine congrArg Value.bool ?_
  clear q1 q2 q3 q4 q5 a4 aE aF aY aZ h Z a9 ad am an ao ap aq ar ae af ag ah ai aj ak al
  unfold unV
  first
   | (simp_all; done)
   | (simp_all; omega)
   | (by_cases h4:kt=4 <;> simp_all; done)
   | (by_cases h4:kt=4 <;> simp_all <;> omega)
theorem TO {w:World} {cs ds:List Value} {p:Am} {r:Az} (h:At w w.heap.size cs p) (Z:AW w w.heap.size ds r) (hs:r.Small) (hk:Hid (r.kind≠1∧r.kind≠2∧r.kind≠3∧r.kind≠4∧r.kind≠5)):
  Calls Tryz.prog 192 #[.agg cs.toArray,.agg ds.toArray] w (Ret fun v w'=>v=.bool (B9 p.topo r)∧Below w.heap.size w w'):=by
 obtain⟨A1,c1,A2,c2,A3,c3,A4,c4,A5,c5,A6,c6,A7,c7,aK,aJ,a9,-⟩:=EU h
 obtain⟨E1,f1,E2,f2,E3,f3,E4,f4,E5,f5,E6,f6,E7,f7,E8,f8,⟨aO,aL,ad,aM,aN,am,an,ao,ap,aq,ar,ae,af,ag,ah,ai,aj,ak,al⟩,-⟩:=Z.cells
 obtain⟨aQ,aR,aS,aT,aU,aV,aW,aX⟩:=hs
 have y:=FC p.topo r
 obtain⟨w1,aY,E,a2,aG⟩:=Ae w cs.toArray 27
 obtain⟨w2,aZ,F,a3,aH⟩:=Ae w1 ds.toArray 99
 have a5:=hide (E.trans (F.mono E.size))
 have aD:=hide (a5.out.trans ((Ap w2).mono a5.out.size))
 have aE:=(a2.below F).cell
 have aF:=a3.cell
 generalize cs.toArray=pc at*
 generalize ds.toArray=rc at*
 obtain⟨ng,M⟩:∃n,n=r.guards.length:=⟨_,rfl⟩
 rw [←M] at y
 obtain⟨ne,I⟩:∃n,n=r.ex.length:=⟨_,rfl⟩
 rw [←I] at y
 obtain⟨nf,J⟩:∃n,n=r.fa.length:=⟨_,rfl⟩
 rw [←J] at y
 obtain⟨nd,G⟩:∃n,n=r.send.length:=⟨_,rfl⟩
 rw [←G] at y
 obtain⟨nl,O⟩:∃n,n=r.left.length:=⟨_,rfl⟩
 rw [←O] at y
 obtain⟨nt,W⟩:∃n,n=r.right.length:=⟨_,rfl⟩
 rw [←W] at y
 obtain⟨np,U⟩:∃n,n=r.parent.length:=⟨_,rfl⟩
 rw [←U] at y
 obtain⟨nr,V⟩:∃n,n=r.resp.length:=⟨_,rfl⟩
 rw [←V] at y
 rw [←M] at ap aR
 rw [←I] at aq aS
 rw [←J] at ar aT
 rw [←G] at ag aU
 rw [←O] at ai aV
 rw [←W] at aj aW
 rw [←U] at ak aX
 rw [←V] at ao aQ
 obtain⟨rd,au⟩:∃n,n=r.rd:=⟨_,rfl⟩
 rw [←au] at y ae
 obtain⟨wr,aw⟩:∃n,n=r.wr:=⟨_,rfl⟩
 rw [←aw] at y af
 obtain⟨pf,aa⟩:∃n,n=r.pf:=⟨_,rfl⟩
 rw [←aa] at y am
 obtain⟨pt,ab⟩:∃n,n=r.pt:=⟨_,rfl⟩
 rw [←ab] at y an
 obtain⟨ta,av⟩:∃n,n=r.at_:=⟨_,rfl⟩
 rw [←av] at y ah
 obtain⟨di,a6⟩:∃n,n=r.dir:=⟨_,rfl⟩
 rw [←a6] at y al
 obtain⟨kt,a8⟩:∃n,n=p.topo:=⟨_,rfl⟩
 rw [←a8] at y a9 ⊢
 obtain⟨z,a7⟩:∃n,n=r.kind:=⟨_,rfl⟩
 rw [←a7] at y ad hk
 have q1:(z==1)=false:=by have:=hk.out; simp; omega
 have q2:(z==2)=false:=by have:=hk.out; simp; omega
 have q3:(z==3)=false:=by have:=hk.out; simp; omega
 have q4:(z==4)=false:=by have:=hk.out; simp; omega
 have q5:(z==5)=false:=by have:=hk.out; simp; omega
 have y1:decide (z=1)=false:=by have:=hk.out; simp; omega
 have y2:decide (z=2)=false:=by have:=hk.out; simp; omega
 have y3:decide (z=3)=false:=by have:=hk.out; simp; omega
 have y4:decide (z=4)=false:=by have:=hk.out; simp; omega
 have y5:decide (z=5)=false:=by have:=hk.out; simp; omega
 rw [y1,y2,y3,y4,y5] at y
 have a4:=hide y
 clear M I J G O W U V au aw aa ab av a6 a8 a7 y y1 y2 y3 y4 y5 E F a2 a3 aG aH aK aO aJ aL aM aN
 go_enter Tryz.func192,Tryz.ntmps192
 go_wp2_with fail
 refine Reg.cI [0,1,3,0,8,24,0,64,192,0,512,1536,0,4096,12288,7,32831,98815,233471,524287] [0,1,2,3,4,5,6,7,8,9,10,11,12,13,14,15,16,17,18,19] ?_
 refine Reg.wI [0,1,2,3,4,5,6,7,8,9,10,11,12,13,14,15,16,17,18,19] [] rfl fun Qf C=>?_
 go_wp2_with fail
 first | refine C _ _ ⟨rfl,?_⟩ | refine⟨rfl,?_⟩ | refine C _ _ ⟨by simp [Reg.fineT,Reg.intOp,Region.wanted,yielded,Reg.intFine,Reg.isInt,Act.eval],?_⟩
 try clear C
 first | refine Reg.restI_end ?_ | skip
 go_wp2_with fail
 all_goals
  go_ret
  refine⟨?_,aD.out⟩
  rw [a4.out]
  refine congrArg Value.bool ?_
  clear q1 q2 q3 q4 q5 a4 aE aF aY aZ h Z a9 ad am an ao ap aq ar ae af ag ah ai aj ak al
  unfold unV
  first
   | (simp_all; done)
   | (simp_all; omega)
   | (by_cases h4:kt=4 <;> simp_all; done)
   | (by_cases h4:kt=4 <;> simp_all <;> omega)
theorem FD {w:World} {cs ds:List Value} {p:Am} {r:Az} (h:At w w.heap.size cs p) (y:AW w w.heap.size ds r) (z:r.Small):
  Calls Tryz.prog 192 #[.agg cs.toArray,.agg ds.toArray] w (Ret fun v w'=>v=.bool (B9 p.topo r)∧Below w.heap.size w w'):=by
 by_cases C:r.kind=1
 ·exact TP h y z C
 by_cases E:r.kind=2
 ·exact TQ h y z E
 by_cases F:r.kind=3
 ·exact TS h y z F
 by_cases G:r.kind=4
 ·exact TT h y z G
 by_cases I:r.kind=5
 ·exact TU h y z I
 exact TO h y z ⟨C,E,F,G,I⟩
end Go.Proofs.YtfcfpoemojjglaaGreatDoor.K
