/-
  Part AC of a proof.
-/
import Derived.Test.YtfcfpoemojjglaaGreatDoorPA
import Derived.Test.YtfcfpoemojjglaaGreatDoorCE
set_option maxHeartbeats 16000000
set_option maxRecDepth 100000
set_option linter.unusedVariables false
set_option linter.unusedSimpArgs false
namespace Go.Proofs.YtfcfpoemojjglaaGreatDoor.K
open Go.RowKit
attribute [-go_sem] loadCellsFrom storeCells
theorem AW.cells {w:World} {B:Nat} {cs:List Value} {r:Az} (h:AW w B cs r):∃y c1 z c2 C O E U G V I W J Z M c8,
  (cs.toArray.size=18∧cs.toArray[0]?=some (.string r.name)∧cs.toArray[1]?=some (.int .i64 r.kind)∧cs.toArray[2]?=some (.int .i64 r.fr)∧cs.toArray[3]?=some (.int .i64 r.to)∧cs.toArray[4]?=some (.int .i64 r.pf)∧cs.toArray[5]?=some (.int .i64 r.pt)∧cs.toArray[6]?=some (.slice y r.resp.length c1)∧
   cs.toArray[7]?=some (.slice z r.guards.length c2)∧cs.toArray[8]?=some (.slice C r.ex.length O)∧cs.toArray[9]?=some (.slice E r.fa.length U)∧cs.toArray[10]?=some (.int .i64 r.rd)∧cs.toArray[11]?=some (.int .i64 r.wr)∧cs.toArray[12]?=some (.slice G r.send.length V)∧
   cs.toArray[13]?=some (.int .i64 r.at_)∧cs.toArray[14]?=some (.slice I r.left.length W)∧cs.toArray[15]?=some (.slice J r.right.length Z)∧cs.toArray[16]?=some (.slice M r.parent.length c8)∧cs.toArray[17]?=some (.int .i64 r.dir))∧
  (Sl w B 1 Ai y r.resp∧Sl w B 6 CS z r.guards∧Sl w B 1 Ai C r.ex∧Sl w B 1 Ai E r.fa∧Sl w B 1 Ai G r.send∧Sl w B 1 Ai I r.left∧Sl w B 1 Ai J r.right∧Sl w B 1 Ai M r.parent):=by
 obtain⟨y,c1,z,c2,C,O,E,U,G,V,I,W,J,Z,M,c8,rfl,h1⟩:=h
 exact⟨y,c1,z,c2,C,O,E,U,G,V,I,W,J,Z,M,c8,⟨rfl,rfl,rfl,rfl,rfl,rfl,rfl,rfl,rfl,rfl,rfl,rfl,rfl,rfl,rfl,rfl,rfl,rfl,rfl⟩,h1⟩
def unV (k1 k2 k3 k4 k5 t4:Bool) (ng ne nf nd nl nt np nr:Nat) (rd wr pf pt at_ dir:Int):Bool:=
 (!k1&&(decide (0<ng)||decide (0<ne)||decide (0<nf)||decide (0<nd)))||
 ((!k1&&!k2&&!k3)&&(!decide (rd= -1)||!decide (wr= -1)))||
 ((!k2&&!k5)&&(!decide (pf=0)||!decide (pt=0)))||
 (!k3&&decide (0<nr))||(!k5&&!decide (dir=0))||
 (!k4&&(!decide (at_=0)||decide (0<nl)||decide (0<nt)))||
 (decide (0<np)&&!(k4&&t4))
theorem Rd {A:Type} (l:List A):(!l.isEmpty)=decide (0<l.length):=by cases l <;> simp
theorem FC (topo:Int) (r:Az):B9 topo r=unV (decide (r.kind=1)) (decide (r.kind=2)) (decide (r.kind=3)) (decide (r.kind=4)) (decide (r.kind=5)) (decide (topo=4)) r.guards.length r.ex.length r.fa.length r.send.length r.left.length r.right.length r.parent.length r.resp.length r.rd r.wr r.pf r.pt r.at_ r.dir:=by
 unfold B9 unV
 simp only [Rd]
theorem EU {w:World} {B:Nat} {cs:List Value} {p:Am} (h:At w B cs p):∃y c1 z c2 C M E O G U I V J W,
  cs.toArray.size=10∧cs.toArray[0]?=some (.string p.name)∧cs.toArray[1]?=some (.int .i64 p.topo)∧cs.toArray[2]?=some (.slice y p.states.length c1)∧cs.toArray[3]?=some (.slice z p.messages.length c2)∧
  cs.toArray[4]?=some (.slice C p.values.length M)∧cs.toArray[5]?=some (.int .i64 p.fault)∧cs.toArray[6]?=some (.slice E p.res.length O)∧cs.toArray[7]?=some (.slice G p.initial.length U)∧cs.toArray[8]?=some (.slice I p.leader.length V)∧cs.toArray[9]?=some (.slice J p.rules.length W):=by
 obtain⟨y,c1,z,c2,C,M,E,O,G,U,I,V,J,W,rfl,_⟩:=h
 exact⟨y,c1,z,c2,C,M,E,O,G,U,I,V,J,W,rfl,rfl,rfl,rfl,rfl,rfl,rfl,rfl,rfl,rfl,rfl⟩
theorem TP {w:World} {cs ds:List Value} {p:Am} {r:Az} (h:At w w.heap.size cs p) (h':AW w w.heap.size ds r) (hs:r.Small) (hk:Hid (r.kind=1)):
  Calls Tryz.prog 192 #[.agg cs.toArray,.agg ds.toArray] w (Ret fun v w'=>v=.bool (B9 p.topo r)∧Below w.heap.size w w'):=by
 obtain⟨A1,c1,A2,c2,A3,c3,A4,c4,A5,c5,A6,c6,A7,c7,aL,aK,aa,-⟩:=EU h
 obtain⟨E1,f1,E2,f2,E3,f3,E4,f4,E5,f5,E6,f6,E7,f7,E8,f8,⟨aP,aM,ae,aN,aO,an,ao,ap,aq,ar,au,af,ag,ah,ai,aj,ak,al,am⟩,-⟩:=h'.cells
 obtain⟨aR,aS,aT,aU,aV,aW,aX,aY⟩:=hs
 have y:=FC p.topo r
 obtain⟨w1,aZ,E,a3,aH⟩:=Ae w cs.toArray 27
 obtain⟨w2,b0,G,a4,aJ⟩:=Ae w1 ds.toArray 99
 have a6:=hide (E.trans (G.mono E.size))
 have aE:=hide (a6.out.trans ((Ap w2).mono a6.out.size))
 have aF:=(a3.below G).cell
 have aG:=a4.cell
 generalize cs.toArray=pc at*
 generalize ds.toArray=rc at*
 obtain⟨ng,O⟩:∃n,n=r.guards.length:=⟨_,rfl⟩
 rw [←O] at y
 obtain⟨ne,J⟩:∃n,n=r.ex.length:=⟨_,rfl⟩
 rw [←J] at y
 obtain⟨nf,M⟩:∃n,n=r.fa.length:=⟨_,rfl⟩
 rw [←M] at y
 obtain⟨nd,I⟩:∃n,n=r.send.length:=⟨_,rfl⟩
 rw [←I] at y
 obtain⟨nl,U⟩:∃n,n=r.left.length:=⟨_,rfl⟩
 rw [←U] at y
 obtain⟨nt,Z⟩:∃n,n=r.right.length:=⟨_,rfl⟩
 rw [←Z] at y
 obtain⟨np,V⟩:∃n,n=r.parent.length:=⟨_,rfl⟩
 rw [←V] at y
 obtain⟨nr,W⟩:∃n,n=r.resp.length:=⟨_,rfl⟩
 rw [←W] at y
 rw [←O] at aq aS
 rw [←J] at ar aT
 rw [←M] at au aU
 rw [←I] at ah aV
 rw [←U] at aj aW
 rw [←Z] at ak aX
 rw [←V] at al aY
 rw [←W] at ap aR
 obtain⟨rd,av⟩:∃n,n=r.rd:=⟨_,rfl⟩
 rw [←av] at y af
 obtain⟨wr,ax⟩:∃n,n=r.wr:=⟨_,rfl⟩
 rw [←ax] at y ag
 obtain⟨pf,ab⟩:∃n,n=r.pf:=⟨_,rfl⟩
 rw [←ab] at y an
 obtain⟨pt,ad⟩:∃n,n=r.pt:=⟨_,rfl⟩
 rw [←ad] at y ao
 obtain⟨ta,aw⟩:∃n,n=r.at_:=⟨_,rfl⟩
 rw [←aw] at y ai
 obtain⟨di,a7⟩:∃n,n=r.dir:=⟨_,rfl⟩
 rw [←a7] at y am
 obtain⟨kt,a9⟩:∃n,n=p.topo:=⟨_,rfl⟩
 rw [←a9] at y aa ⊢
 obtain⟨z,a8⟩:∃n,n=r.kind:=⟨_,rfl⟩
 rw [←a8] at y ae hk
 have q1:(z==1)=true:=by rw [hk.out]; rfl
 have q2:(z==2)=false:=by rw [hk.out]; rfl
 have q3:(z==3)=false:=by rw [hk.out]; rfl
 have q4:(z==4)=false:=by rw [hk.out]; rfl
 have q5:(z==5)=false:=by rw [hk.out]; rfl
 have y1:decide (z=1)=true:=by rw [hk.out]; rfl
 have y2:decide (z=2)=false:=by rw [hk.out]; rfl
 have y3:decide (z=3)=false:=by rw [hk.out]; rfl
 have y4:decide (z=4)=false:=by rw [hk.out]; rfl
 have y5:decide (z=5)=false:=by rw [hk.out]; rfl
 rw [y1,y2,y3,y4,y5] at y
 have a5:=hide y
 clear O J M I U Z V W av ax ab ad aw a7 a9 a8 y y1 y2 y3 y4 y5 E G a3 a4 aH aJ aL aP aK aM aN aO
 go_enter Tryz.func192,Tryz.ntmps192
 go_wp2_with fail
 refine Reg.cI [0,1,3,0,8,24,0,64,192,0,512,1536,0,4096,12288,7,32831,98815,233471,524287] [0,1,2,3,4,5,6,7,8,9,10,11,12,13,14,15,16,17,18,19] ?_
 refine Reg.wI [0,1,2,3,4,5,6,7,8,9,10,11,12,13,14,15,16,17,18,19] [] rfl fun Qf C=>?_
 go_wp2_with fail
 first | refine C _ _ ⟨rfl,?_⟩ | refine⟨rfl,?_⟩ | refine C _ _ ⟨by simp [Reg.fineT,Reg.intOp,Region.wanted,yielded,Reg.intFine,Reg.isInt,Act.eval],?_⟩
 try clear C
 first | refine Reg.restI_end ?_ | skip
 go_wp2_with fail
 all_goals
  go_ret
  refine⟨?_,aE.out⟩
  rw [a5.out]
  refine congrArg Value.bool ?_
  clear q1 q2 q3 q4 q5 a5 aF aG aZ b0 h h' aa ae an ao ap aq ar au af ag ah ai aj ak al am
  unfold unV
  first
   | (simp_all; done)
   | (simp_all; omega)
   | (by_cases h4:kt=4 <;> simp_all; done)
   | (by_cases h4:kt=4 <;> simp_all <;> omega)
theorem TQ {w:World} {cs ds:List Value} {p:Am} {r:Az} (h:At w w.heap.size cs p) (h':AW w w.heap.size ds r) (hs:r.Small) (hk:Hid (r.kind=2)):
  Calls Tryz.prog 192 #[.agg cs.toArray,.agg ds.toArray] w (Ret fun v w'=>v=.bool (B9 p.topo r)∧Below w.heap.size w w'):=by
 obtain⟨A1,c1,A2,c2,A3,c3,A4,c4,A5,c5,A6,c6,A7,c7,aL,aK,aa,-⟩:=EU h
 obtain⟨E1,f1,E2,f2,E3,f3,E4,f4,E5,f5,E6,f6,E7,f7,E8,f8,⟨aP,aM,ae,aN,aO,an,ao,ap,aq,ar,au,af,ag,ah,ai,aj,ak,al,am⟩,-⟩:=h'.cells
 obtain⟨aR,aS,aT,aU,aV,aW,aX,aY⟩:=hs
 have y:=FC p.topo r
 obtain⟨w1,aZ,E,a3,aH⟩:=Ae w cs.toArray 27
 obtain⟨w2,b0,G,a4,aJ⟩:=Ae w1 ds.toArray 99
 have a6:=hide (E.trans (G.mono E.size))
 have aE:=hide (a6.out.trans ((Ap w2).mono a6.out.size))
 have aF:=(a3.below G).cell
 have aG:=a4.cell
 generalize cs.toArray=pc at*
 generalize ds.toArray=rc at*
 obtain⟨ng,O⟩:∃n,n=r.guards.length:=⟨_,rfl⟩
 rw [←O] at y
 obtain⟨ne,J⟩:∃n,n=r.ex.length:=⟨_,rfl⟩
 rw [←J] at y
 obtain⟨nf,M⟩:∃n,n=r.fa.length:=⟨_,rfl⟩
 rw [←M] at y
 obtain⟨nd,I⟩:∃n,n=r.send.length:=⟨_,rfl⟩
 rw [←I] at y
 obtain⟨nl,U⟩:∃n,n=r.left.length:=⟨_,rfl⟩
 rw [←U] at y
 obtain⟨nt,Z⟩:∃n,n=r.right.length:=⟨_,rfl⟩
 rw [←Z] at y
 obtain⟨np,V⟩:∃n,n=r.parent.length:=⟨_,rfl⟩
 rw [←V] at y
 obtain⟨nr,W⟩:∃n,n=r.resp.length:=⟨_,rfl⟩
 rw [←W] at y
 rw [←O] at aq aS
 rw [←J] at ar aT
 rw [←M] at au aU
 rw [←I] at ah aV
 rw [←U] at aj aW
 rw [←Z] at ak aX
 rw [←V] at al aY
 rw [←W] at ap aR
 obtain⟨rd,av⟩:∃n,n=r.rd:=⟨_,rfl⟩
 rw [←av] at y af
 obtain⟨wr,ax⟩:∃n,n=r.wr:=⟨_,rfl⟩
 rw [←ax] at y ag
 obtain⟨pf,ab⟩:∃n,n=r.pf:=⟨_,rfl⟩
 rw [←ab] at y an
 obtain⟨pt,ad⟩:∃n,n=r.pt:=⟨_,rfl⟩
 rw [←ad] at y ao
 obtain⟨ta,aw⟩:∃n,n=r.at_:=⟨_,rfl⟩
 rw [←aw] at y ai
 obtain⟨di,a7⟩:∃n,n=r.dir:=⟨_,rfl⟩
 rw [←a7] at y am
 obtain⟨kt,a9⟩:∃n,n=p.topo:=⟨_,rfl⟩
 rw [←a9] at y aa ⊢
 obtain⟨z,a8⟩:∃n,n=r.kind:=⟨_,rfl⟩
 rw [←a8] at y ae hk
 have q1:(z==1)=false:=by rw [hk.out]; rfl
 have q2:(z==2)=true:=by rw [hk.out]; rfl
 have q3:(z==3)=false:=by rw [hk.out]; rfl
 have q4:(z==4)=false:=by rw [hk.out]; rfl
 have q5:(z==5)=false:=by rw [hk.out]; rfl
 have y1:decide (z=1)=false:=by rw [hk.out]; rfl
 have y2:decide (z=2)=true:=by rw [hk.out]; rfl
 have y3:decide (z=3)=false:=by rw [hk.out]; rfl
 have y4:decide (z=4)=false:=by rw [hk.out]; rfl
 have y5:decide (z=5)=false:=by rw [hk.out]; rfl
 rw [y1,y2,y3,y4,y5] at y
 have a5:=hide y
 clear O J M I U Z V W av ax ab ad aw a7 a9 a8 y y1 y2 y3 y4 y5 E G a3 a4 aH aJ aL aP aK aM aN aO
 go_enter Tryz.func192,Tryz.ntmps192
 go_wp2_with fail
 refine Reg.cI [0,1,3,0,8,24,0,64,192,0,512,1536,0,4096,12288,7,32831,98815,233471,524287] [0,1,2,3,4,5,6,7,8,9,10,11,12,13,14,15,16,17,18,19] ?_
 refine Reg.wI [0,1,2,3,4,5,6,7,8,9,10,11,12,13,14,15,16,17,18,19] [] rfl fun Qf C=>?_
 go_wp2_with fail
 first | refine C _ _ ⟨rfl,?_⟩ | refine⟨rfl,?_⟩ | refine C _ _ ⟨by simp [Reg.fineT,Reg.intOp,Region.wanted,yielded,Reg.intFine,Reg.isInt,Act.eval],?_⟩
 try clear C
 first | refine Reg.restI_end ?_ | skip
 go_wp2_with fail
 all_goals
  go_ret
  refine⟨?_,aE.out⟩
  rw [a5.out]
  refine congrArg Value.bool ?_
  clear q1 q2 q3 q4 q5 a5 aF aG aZ b0 h h' aa ae an ao ap aq ar au af ag ah ai aj ak al am
  unfold unV
  first
   | (simp_all; done)
   | (simp_all; omega)
   | (by_cases h4:kt=4 <;> simp_all; done)
   | (by_cases h4:kt=4 <;> simp_all <;> omega)
theorem TS {w:World} {cs ds:List Value} {p:Am} {r:Az} (h:At w w.heap.size cs p) (h':AW w w.heap.size ds r) (hs:r.Small) (hk:Hid (r.kind=3)):
  Calls Tryz.prog 192 #[.agg cs.toArray,.agg ds.toArray] w (Ret fun v w'=>v=.bool (B9 p.topo r)∧Below w.heap.size w w'):=by
 obtain⟨A1,c1,A2,c2,A3,c3,A4,c4,A5,c5,A6,c6,A7,c7,aL,aK,aa,-⟩:=EU h
 obtain⟨E1,f1,E2,f2,E3,f3,E4,f4,E5,f5,E6,f6,E7,f7,E8,f8,⟨aP,aM,ae,aN,aO,an,ao,ap,aq,ar,au,af,ag,ah,ai,aj,ak,al,am⟩,-⟩:=h'.cells
 obtain⟨aR,aS,aT,aU,aV,aW,aX,aY⟩:=hs
 have y:=FC p.topo r
 obtain⟨w1,aZ,E,a3,aH⟩:=Ae w cs.toArray 27
 obtain⟨w2,b0,G,a4,aJ⟩:=Ae w1 ds.toArray 99
 have a6:=hide (E.trans (G.mono E.size))
 have aE:=hide (a6.out.trans ((Ap w2).mono a6.out.size))
 have aF:=(a3.below G).cell
 have aG:=a4.cell
 generalize cs.toArray=pc at*
 generalize ds.toArray=rc at*
 obtain⟨ng,O⟩:∃n,n=r.guards.length:=⟨_,rfl⟩
 rw [←O] at y
 obtain⟨ne,J⟩:∃n,n=r.ex.length:=⟨_,rfl⟩
 rw [←J] at y
 obtain⟨nf,M⟩:∃n,n=r.fa.length:=⟨_,rfl⟩
 rw [←M] at y
 obtain⟨nd,I⟩:∃n,n=r.send.length:=⟨_,rfl⟩
 rw [←I] at y
 obtain⟨nl,U⟩:∃n,n=r.left.length:=⟨_,rfl⟩
 rw [←U] at y
 obtain⟨nt,Z⟩:∃n,n=r.right.length:=⟨_,rfl⟩
 rw [←Z] at y
 obtain⟨np,V⟩:∃n,n=r.parent.length:=⟨_,rfl⟩
 rw [←V] at y
 obtain⟨nr,W⟩:∃n,n=r.resp.length:=⟨_,rfl⟩
 rw [←W] at y
 rw [←O] at aq aS
 rw [←J] at ar aT
 rw [←M] at au aU
 rw [←I] at ah aV
 rw [←U] at aj aW
 rw [←Z] at ak aX
 rw [←V] at al aY
 rw [←W] at ap aR
 obtain⟨rd,av⟩:∃n,n=r.rd:=⟨_,rfl⟩
 rw [←av] at y af
 obtain⟨wr,ax⟩:∃n,n=r.wr:=⟨_,rfl⟩
 rw [←ax] at y ag
 obtain⟨pf,ab⟩:∃n,n=r.pf:=⟨_,rfl⟩
 rw [←ab] at y an
 obtain⟨pt,ad⟩:∃n,n=r.pt:=⟨_,rfl⟩
 rw [←ad] at y ao
 obtain⟨ta,aw⟩:∃n,n=r.at_:=⟨_,rfl⟩
 rw [←aw] at y ai
 obtain⟨di,a7⟩:∃n,n=r.dir:=⟨_,rfl⟩
 rw [←a7] at y am
 obtain⟨kt,a9⟩:∃n,n=p.topo:=⟨_,rfl⟩
 rw [←a9] at y aa ⊢
 obtain⟨z,a8⟩:∃n,n=r.kind:=⟨_,rfl⟩
 rw [←a8] at y ae hk
 have q1:(z==1)=false:=by rw [hk.out]; rfl
 have q2:(z==2)=false:=by rw [hk.out]; rfl
 have q3:(z==3)=true:=by rw [hk.out]; rfl
 have q4:(z==4)=false:=by rw [hk.out]; rfl
 have q5:(z==5)=false:=by rw [hk.out]; rfl
 have y1:decide (z=1)=false:=by rw [hk.out]; rfl
 have y2:decide (z=2)=false:=by rw [hk.out]; rfl
 have y3:decide (z=3)=true:=by rw [hk.out]; rfl
 have y4:decide (z=4)=false:=by rw [hk.out]; rfl
 have y5:decide (z=5)=false:=by rw [hk.out]; rfl
 rw [y1,y2,y3,y4,y5] at y
 have a5:=hide y
 clear O J M I U Z V W av ax ab ad aw a7 a9 a8 y y1 y2 y3 y4 y5 E G a3 a4 aH aJ aL aP aK aM aN aO
 go_enter Tryz.func192,Tryz.ntmps192
 go_wp2_with fail
 refine Reg.cI [0,1,3,0,8,24,0,64,192,0,512,1536,0,4096,12288,7,32831,98815,233471,524287] [0,1,2,3,4,5,6,7,8,9,10,11,12,13,14,15,16,17,18,19] ?_
 refine Reg.wI [0,1,2,3,4,5,6,7,8,9,10,11,12,13,14,15,16,17,18,19] [] rfl fun Qf C=>?_
 go_wp2_with fail
 first | refine C _ _ ⟨rfl,?_⟩ | refine⟨rfl,?_⟩ | refine C _ _ ⟨by simp [Reg.fineT,Reg.intOp,Region.wanted,yielded,Reg.intFine,Reg.isInt,Act.eval],?_⟩
 try clear C
 first | refine Reg.restI_end ?_ | skip
 go_wp2_with fail
 all_goals
  go_ret
  refine⟨?_,aE.out⟩
  rw [a5.out]
  refine congrArg Value.bool ?_
  clear q1 q2 q3 q4 q5 a5 aF aG aZ b0 h h' aa ae an ao ap aq ar au af ag ah ai aj ak al am
  unfold unV
  first
   | (simp_all; done)
   | (simp_all; omega)
   | (by_cases h4:kt=4 <;> simp_all; done)
   | (by_cases h4:kt=4 <;> simp_all <;> omega)
theorem TT {w:World} {cs ds:List Value} {p:Am} {r:Az} (h:At w w.heap.size cs p) (h':AW w w.heap.size ds r) (hs:r.Small) (hk:Hid (r.kind=4)):
  Calls Tryz.prog 192 #[.agg cs.toArray,.agg ds.toArray] w (Ret fun v w'=>v=.bool (B9 p.topo r)∧Below w.heap.size w w'):=by
 obtain⟨A1,c1,A2,c2,A3,c3,A4,c4,A5,c5,A6,c6,A7,c7,aL,aK,aa,-⟩:=EU h
 obtain⟨E1,f1,E2,f2,E3,f3,E4,f4,E5,f5,E6,f6,E7,f7,E8,f8,⟨aP,aM,ae,aN,aO,an,ao,ap,aq,ar,au,af,ag,ah,ai,aj,ak,al,am⟩,-⟩:=h'.cells
 obtain⟨aR,aS,aT,aU,aV,aW,aX,aY⟩:=hs
 have y:=FC p.topo r
 obtain⟨w1,aZ,E,a3,aH⟩:=Ae w cs.toArray 27
 obtain⟨w2,b0,G,a4,aJ⟩:=Ae w1 ds.toArray 99
 have a6:=hide (E.trans (G.mono E.size))
 have aE:=hide (a6.out.trans ((Ap w2).mono a6.out.size))
 have aF:=(a3.below G).cell
 have aG:=a4.cell
 generalize cs.toArray=pc at*
 generalize ds.toArray=rc at*
 obtain⟨ng,O⟩:∃n,n=r.guards.length:=⟨_,rfl⟩
 rw [←O] at y
 obtain⟨ne,J⟩:∃n,n=r.ex.length:=⟨_,rfl⟩
 rw [←J] at y
 obtain⟨nf,M⟩:∃n,n=r.fa.length:=⟨_,rfl⟩
 rw [←M] at y
 obtain⟨nd,I⟩:∃n,n=r.send.length:=⟨_,rfl⟩
 rw [←I] at y
 obtain⟨nl,U⟩:∃n,n=r.left.length:=⟨_,rfl⟩
 rw [←U] at y
 obtain⟨nt,Z⟩:∃n,n=r.right.length:=⟨_,rfl⟩
 rw [←Z] at y
 obtain⟨np,V⟩:∃n,n=r.parent.length:=⟨_,rfl⟩
 rw [←V] at y
 obtain⟨nr,W⟩:∃n,n=r.resp.length:=⟨_,rfl⟩
 rw [←W] at y
 rw [←O] at aq aS
 rw [←J] at ar aT
 rw [←M] at au aU
 rw [←I] at ah aV
 rw [←U] at aj aW
 rw [←Z] at ak aX
 rw [←V] at al aY
 rw [←W] at ap aR
 obtain⟨rd,av⟩:∃n,n=r.rd:=⟨_,rfl⟩
 rw [←av] at y af
 obtain⟨wr,ax⟩:∃n,n=r.wr:=⟨_,rfl⟩
 rw [←ax] at y ag
 obtain⟨pf,ab⟩:∃n,n=r.pf:=⟨_,rfl⟩
 rw [←ab] at y an
 obtain⟨pt,ad⟩:∃n,n=r.pt:=⟨_,rfl⟩
 rw [←ad] at y ao
 obtain⟨ta,aw⟩:∃n,n=r.at_:=⟨_,rfl⟩
 rw [←aw] at y ai
 obtain⟨di,a7⟩:∃n,n=r.dir:=⟨_,rfl⟩
 rw [←a7] at y am
 obtain⟨kt,a9⟩:∃n,n=p.topo:=⟨_,rfl⟩
 rw [←a9] at y aa ⊢
 obtain⟨z,a8⟩:∃n,n=r.kind:=⟨_,rfl⟩
 rw [←a8] at y ae hk
 have q1:(z==1)=false:=by rw [hk.out]; rfl
 have q2:(z==2)=false:=by rw [hk.out]; rfl
 have q3:(z==3)=false:=by rw [hk.out]; rfl
 have q4:(z==4)=true:=by rw [hk.out]; rfl
 have q5:(z==5)=false:=by rw [hk.out]; rfl
 have y1:decide (z=1)=false:=by rw [hk.out]; rfl
 have y2:decide (z=2)=false:=by rw [hk.out]; rfl
 have y3:decide (z=3)=false:=by rw [hk.out]; rfl
 have y4:decide (z=4)=true:=by rw [hk.out]; rfl
 have y5:decide (z=5)=false:=by rw [hk.out]; rfl
 rw [y1,y2,y3,y4,y5] at y
 have a5:=hide y
 clear O J M I U Z V W av ax ab ad aw a7 a9 a8 y y1 y2 y3 y4 y5 E G a3 a4 aH aJ aL aP aK aM aN aO
 go_enter Tryz.func192,Tryz.ntmps192
 go_wp2_with fail
 refine Reg.cI [0,1,3,0,8,24,0,64,192,0,512,1536,0,4096,12288,7,32831,98815,233471,524287] [0,1,2,3,4,5,6,7,8,9,10,11,12,13,14,15,16,17,18,19] ?_
 refine Reg.wI [0,1,2,3,4,5,6,7,8,9,10,11,12,13,14,15,16,17,18,19] [] rfl fun Qf C=>?_
 go_wp2_with fail
 first | refine C _ _ ⟨rfl,?_⟩ | refine⟨rfl,?_⟩ | refine C _ _ ⟨by simp [Reg.fineT,Reg.intOp,Region.wanted,yielded,Reg.intFine,Reg.isInt,Act.eval],?_⟩
 try clear C
 first | refine Reg.restI_end ?_ | skip
 go_wp2_with fail
 all_goals
  go_ret
  refine⟨?_,aE.out⟩
  rw [a5.out]
  refine congrArg Value.bool ?_
  clear q1 q2 q3 q4 q5 a5 aF aG aZ b0 h h' aa ae an ao ap aq ar au af ag ah ai aj ak al am
  unfold unV
  first
   | (simp_all; done)
   | (simp_all; omega)
   | (by_cases h4:kt=4 <;> simp_all; done)
   | (by_cases h4:kt=4 <;> simp_all <;> omega)
theorem TU {w:World} {cs ds:List Value} {p:Am} {r:Az} (h:At w w.heap.size cs p) (h':AW w w.heap.size ds r) (hs:r.Small) (hk:Hid (r.kind=5)):
  Calls Tryz.prog 192 #[.agg cs.toArray,.agg ds.toArray] w (Ret fun v w'=>v=.bool (B9 p.topo r)∧Below w.heap.size w w'):=by
 obtain⟨A1,c1,A2,c2,A3,c3,A4,c4,A5,c5,A6,c6,A7,c7,aL,aK,aa,-⟩:=EU h
 obtain⟨E1,f1,E2,f2,E3,f3,E4,f4,E5,f5,E6,f6,E7,f7,E8,f8,⟨aP,aM,ae,aN,aO,an,ao,ap,aq,ar,au,af,ag,ah,ai,aj,ak,al,am⟩,-⟩:=h'.cells
 obtain⟨aR,aS,aT,aU,aV,aW,aX,aY⟩:=hs
 have y:=FC p.topo r
 obtain⟨w1,aZ,E,a3,aH⟩:=Ae w cs.toArray 27
 obtain⟨w2,b0,G,a4,aJ⟩:=Ae w1 ds.toArray 99
 have a6:=hide (E.trans (G.mono E.size))
 have aE:=hide (a6.out.trans ((Ap w2).mono a6.out.size))
 have aF:=(a3.below G).cell
 have aG:=a4.cell
 generalize cs.toArray=pc at*
 generalize ds.toArray=rc at*
 obtain⟨ng,O⟩:∃n,n=r.guards.length:=⟨_,rfl⟩
 rw [←O] at y
 obtain⟨ne,J⟩:∃n,n=r.ex.length:=⟨_,rfl⟩
 rw [←J] at y
 obtain⟨nf,M⟩:∃n,n=r.fa.length:=⟨_,rfl⟩
 rw [←M] at y
 obtain⟨nd,I⟩:∃n,n=r.send.length:=⟨_,rfl⟩
 rw [←I] at y
 obtain⟨nl,U⟩:∃n,n=r.left.length:=⟨_,rfl⟩
 rw [←U] at y
 obtain⟨nt,Z⟩:∃n,n=r.right.length:=⟨_,rfl⟩
 rw [←Z] at y
 obtain⟨np,V⟩:∃n,n=r.parent.length:=⟨_,rfl⟩
 rw [←V] at y
 obtain⟨nr,W⟩:∃n,n=r.resp.length:=⟨_,rfl⟩
 rw [←W] at y
 rw [←O] at aq aS
 rw [←J] at ar aT
 rw [←M] at au aU
 rw [←I] at ah aV
 rw [←U] at aj aW
 rw [←Z] at ak aX
 rw [←V] at al aY
 rw [←W] at ap aR
 obtain⟨rd,av⟩:∃n,n=r.rd:=⟨_,rfl⟩
 rw [←av] at y af
 obtain⟨wr,ax⟩:∃n,n=r.wr:=⟨_,rfl⟩
 rw [←ax] at y ag
 obtain⟨pf,ab⟩:∃n,n=r.pf:=⟨_,rfl⟩
 rw [←ab] at y an
 obtain⟨pt,ad⟩:∃n,n=r.pt:=⟨_,rfl⟩
 rw [←ad] at y ao
 obtain⟨ta,aw⟩:∃n,n=r.at_:=⟨_,rfl⟩
 rw [←aw] at y ai
 obtain⟨di,a7⟩:∃n,n=r.dir:=⟨_,rfl⟩
 rw [←a7] at y am
 obtain⟨kt,a9⟩:∃n,n=p.topo:=⟨_,rfl⟩
 rw [←a9] at y aa ⊢
 obtain⟨z,a8⟩:∃n,n=r.kind:=⟨_,rfl⟩
 rw [←a8] at y ae hk
 have q1:(z==1)=false:=by rw [hk.out]; rfl
 have q2:(z==2)=false:=by rw [hk.out]; rfl
 have q3:(z==3)=false:=by rw [hk.out]; rfl
 have q4:(z==4)=false:=by rw [hk.out]; rfl
 have q5:(z==5)=true:=by rw [hk.out]; rfl
 have y1:decide (z=1)=false:=by rw [hk.out]; rfl
 have y2:decide (z=2)=false:=by rw [hk.out]; rfl
 have y3:decide (z=3)=false:=by rw [hk.out]; rfl
 have y4:decide (z=4)=false:=by rw [hk.out]; rfl
 have y5:decide (z=5)=true:=by rw [hk.out]; rfl
 rw [y1,y2,y3,y4,y5] at y
 have a5:=hide y
 clear O J M I U Z V W av ax ab ad aw a7 a9 a8 y y1 y2 y3 y4 y5 E G a3 a4 aH aJ aL aP aK aM aN aO
 go_enter Tryz.func192,Tryz.ntmps192
 go_wp2_with fail
 refine Reg.cI [0,1,3,0,8,24,0,64,192,0,512,1536,0,4096,12288,7,32831,98815,233471,524287] [0,1,2,3,4,5,6,7,8,9,10,11,12,13,14,15,16,17,18,19] ?_
 refine Reg.wI [0,1,2,3,4,5,6,7,8,9,10,11,12,13,14,15,16,17,18,19] [] rfl fun Qf C=>?_
 go_wp2_with fail
 first | refine C _ _ ⟨rfl,?_⟩ | refine⟨rfl,?_⟩ | refine C _ _ ⟨by simp [Reg.fineT,Reg.intOp,Region.wanted,yielded,Reg.intFine,Reg.isInt,Act.eval],?_⟩
 try clear C
 first | refine Reg.restI_end ?_ | skip
 go_wp2_with fail
 all_goals
  go_ret
  refine⟨?_,aE.out⟩
  rw [a5.out]
  refine congrArg Value.bool ?_
  clear q1 q2 q3 q4 q5 a5 aF aG aZ b0 h h' aa ae an ao ap aq ar au af ag ah ai aj ak al am
  unfold unV
  first
   | (simp_all; done)
   | (simp_all; omega)
   | (by_cases h4:kt=4 <;> simp_all; done)
   | (by_cases h4:kt=4 <;> simp_all <;> omega)
theorem TO {w:World} {cs ds:List Value} {p:Am} {r:Az} (h:At w w.heap.size cs p) (h':AW w w.heap.size ds r) (hs:r.Small) (hk:Hid (r.kind≠1∧r.kind≠2∧r.kind≠3∧r.kind≠4∧r.kind≠5)):
  Calls Tryz.prog 192 #[.agg cs.toArray,.agg ds.toArray] w (Ret fun v w'=>v=.bool (B9 p.topo r)∧Below w.heap.size w w'):=by
 obtain⟨A1,c1,A2,c2,A3,c3,A4,c4,A5,c5,A6,c6,A7,c7,aL,aK,aa,-⟩:=EU h
 obtain⟨E1,f1,E2,f2,E3,f3,E4,f4,E5,f5,E6,f6,E7,f7,E8,f8,⟨aP,aM,ae,aN,aO,an,ao,ap,aq,ar,au,af,ag,ah,ai,aj,ak,al,am⟩,-⟩:=h'.cells
 obtain⟨aR,aS,aT,aU,aV,aW,aX,aY⟩:=hs
 have y:=FC p.topo r
 obtain⟨w1,aZ,E,a3,aH⟩:=Ae w cs.toArray 27
 obtain⟨w2,b0,G,a4,aJ⟩:=Ae w1 ds.toArray 99
 have a6:=hide (E.trans (G.mono E.size))
 have aE:=hide (a6.out.trans ((Ap w2).mono a6.out.size))
 have aF:=(a3.below G).cell
 have aG:=a4.cell
 generalize cs.toArray=pc at*
 generalize ds.toArray=rc at*
 obtain⟨ng,O⟩:∃n,n=r.guards.length:=⟨_,rfl⟩
 rw [←O] at y
 obtain⟨ne,J⟩:∃n,n=r.ex.length:=⟨_,rfl⟩
 rw [←J] at y
 obtain⟨nf,M⟩:∃n,n=r.fa.length:=⟨_,rfl⟩
 rw [←M] at y
 obtain⟨nd,I⟩:∃n,n=r.send.length:=⟨_,rfl⟩
 rw [←I] at y
 obtain⟨nl,U⟩:∃n,n=r.left.length:=⟨_,rfl⟩
 rw [←U] at y
 obtain⟨nt,Z⟩:∃n,n=r.right.length:=⟨_,rfl⟩
 rw [←Z] at y
 obtain⟨np,V⟩:∃n,n=r.parent.length:=⟨_,rfl⟩
 rw [←V] at y
 obtain⟨nr,W⟩:∃n,n=r.resp.length:=⟨_,rfl⟩
 rw [←W] at y
 rw [←O] at aq aS
 rw [←J] at ar aT
 rw [←M] at au aU
 rw [←I] at ah aV
 rw [←U] at aj aW
 rw [←Z] at ak aX
 rw [←V] at al aY
 rw [←W] at ap aR
 obtain⟨rd,av⟩:∃n,n=r.rd:=⟨_,rfl⟩
 rw [←av] at y af
 obtain⟨wr,ax⟩:∃n,n=r.wr:=⟨_,rfl⟩
 rw [←ax] at y ag
 obtain⟨pf,ab⟩:∃n,n=r.pf:=⟨_,rfl⟩
 rw [←ab] at y an
 obtain⟨pt,ad⟩:∃n,n=r.pt:=⟨_,rfl⟩
 rw [←ad] at y ao
 obtain⟨ta,aw⟩:∃n,n=r.at_:=⟨_,rfl⟩
 rw [←aw] at y ai
 obtain⟨di,a7⟩:∃n,n=r.dir:=⟨_,rfl⟩
 rw [←a7] at y am
 obtain⟨kt,a9⟩:∃n,n=p.topo:=⟨_,rfl⟩
 rw [←a9] at y aa ⊢
 obtain⟨z,a8⟩:∃n,n=r.kind:=⟨_,rfl⟩
 rw [←a8] at y ae hk
 have q1:(z==1)=false:=by have:=hk.out; simp; omega
 have q2:(z==2)=false:=by have:=hk.out; simp; omega
 have q3:(z==3)=false:=by have:=hk.out; simp; omega
 have q4:(z==4)=false:=by have:=hk.out; simp; omega
 have q5:(z==5)=false:=by have:=hk.out; simp; omega
 have y1:decide (z=1)=false:=by have:=hk.out; simp; omega
 have y2:decide (z=2)=false:=by have:=hk.out; simp; omega
 have y3:decide (z=3)=false:=by have:=hk.out; simp; omega
 have y4:decide (z=4)=false:=by have:=hk.out; simp; omega
 have y5:decide (z=5)=false:=by have:=hk.out; simp; omega
 rw [y1,y2,y3,y4,y5] at y
 have a5:=hide y
 clear O J M I U Z V W av ax ab ad aw a7 a9 a8 y y1 y2 y3 y4 y5 E G a3 a4 aH aJ aL aP aK aM aN aO
 go_enter Tryz.func192,Tryz.ntmps192
 go_wp2_with fail
 refine Reg.cI [0,1,3,0,8,24,0,64,192,0,512,1536,0,4096,12288,7,32831,98815,233471,524287] [0,1,2,3,4,5,6,7,8,9,10,11,12,13,14,15,16,17,18,19] ?_
 refine Reg.wI [0,1,2,3,4,5,6,7,8,9,10,11,12,13,14,15,16,17,18,19] [] rfl fun Qf C=>?_
 go_wp2_with fail
 first | refine C _ _ ⟨rfl,?_⟩ | refine⟨rfl,?_⟩ | refine C _ _ ⟨by simp [Reg.fineT,Reg.intOp,Region.wanted,yielded,Reg.intFine,Reg.isInt,Act.eval],?_⟩
 try clear C
 first | refine Reg.restI_end ?_ | skip
 go_wp2_with fail
 all_goals
  go_ret
  refine⟨?_,aE.out⟩
  rw [a5.out]
  refine congrArg Value.bool ?_
  clear q1 q2 q3 q4 q5 a5 aF aG aZ b0 h h' aa ae an ao ap aq ar au af ag ah ai aj ak al am
  unfold unV
  first
   | (simp_all; done)
   | (simp_all; omega)
   | (by_cases h4:kt=4 <;> simp_all; done)
   | (by_cases h4:kt=4 <;> simp_all <;> omega)
theorem FD {w:World} {cs ds:List Value} {p:Am} {r:Az} (h:At w w.heap.size cs p) (y:AW w w.heap.size ds r) (z:r.Small):
  Calls Tryz.prog 192 #[.agg cs.toArray,.agg ds.toArray] w (Ret fun v w'=>v=.bool (B9 p.topo r)∧Below w.heap.size w w'):=by
 by_cases C:r.kind=1
 ·exact TP h y z C
 by_cases E:r.kind=2
 ·exact TQ h y z E
 by_cases G:r.kind=3
 ·exact TS h y z G
 by_cases I:r.kind=4
 ·exact TT h y z I
 by_cases J:r.kind=5
 ·exact TU h y z J
 exact TO h y z ⟨C,E,G,I,J⟩
end Go.Proofs.YtfcfpoemojjglaaGreatDoor.K
