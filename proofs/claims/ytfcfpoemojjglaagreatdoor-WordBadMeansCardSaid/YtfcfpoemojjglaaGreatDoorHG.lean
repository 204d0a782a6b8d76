/-
  Part HG of a proof.
-/
import Derived.Test.YtfcfpoemojjglaaGreatDoorPA
import Derived.Test.YtfcfpoemojjglaaGreatDoorCY
import Derived.Test.YtfcfpoemojjglaaGreatDoorFB
import Derived.Test.YtfcfpoemojjglaaGreatDoorPI
import Derived.Test.YtfcfpoemojjglaaGreatDoorHA
import Derived.Test.YtfcfpoemojjglaaGreatDoorPK
import Derived.Test.YtfcfpoemojjglaaGreatDoorCJ
import Derived.Test.YtfcfpoemojjglaaGreatDoorHF
import Derived.Test.YtfcfpoemojjglaaGreatDoorPM
import Derived.Test.YtfcfpoemojjglaaGreatDoorCX
set_option maxHeartbeats 16000000
set_option maxRecDepth 100000
set_option linter.unusedVariables false
set_option linter.unusedSimpArgs false
namespace Go.Proofs.YtfcfpoemojjglaaGreatDoor
open Go.RowKit
open K (Am AB At Ba PQX Ah)
attribute [-go_sem] loadCellsFrom
set_option maxHeartbeats 16000000
set_option maxRecDepth 100000
structure Ek (p:Am):Prop where
 ms:p.messages.length=0
 vs:p.values.length=0
 rs:p.res.length=0
 fl:p.fault=0
 tp:p.topo=2∨p.topo=3
theorem Ml {ok:ByteArray→Bool} {p:Am} (h:K.protE ok p=0) (ht:p.topo=2∨p.topo=3):Ek p:=by
 unfold K.protE at h
 obtain⟨-,g1⟩:=AY.1 h
 obtain⟨-,g2⟩:=AY.1 g1
 obtain⟨-,g3⟩:=AY.1 g2
 obtain⟨-,g4⟩:=AY.1 g3
 obtain⟨-,g5⟩:=AY.1 g4
 obtain⟨g6,-⟩:=AY.1 g5
 have y:=(Gg (by decide)).1 g6
 have I:p.topo≠1:=by omega
 simp only [I,decide_false,Bool.not_false,Bool.true_and,Bool.false_and,Bool.or_false,Bool.or_eq_false_iff,Bool.not_eq_false',decide_eq_true_eq,List.isEmpty_iff] at y
 obtain⟨⟨⟨z,C⟩,E⟩,G⟩:=y
 exact⟨by rw [z]; rfl,by rw [C]; rfl,by rw [E]; rfl,G,ht⟩
theorem Kz (n y z:Int) (w:World):Calls Tryz.prog 100 #[.int .i64 n,.int .i64 y,.int .i64 z] w fun e w'=>e=.returned (.bool (K.inC n y z))∧w=w':=by
 by_cases h:y≤n
 all_goals
  go_enter Tryz.func100,Tryz.ntmps100
  go_wp2
  go_ret
  exact⟨by simp [K.inC]; omega,rfl⟩
theorem J9 (w:World):Calls Tryz.prog 134 #[.slice none 0 0,.int .i64 0] w fun e w'=>e=.returned (.bool true)∧w=w':=by
 go_enter Tryz.func134,Tryz.ntmps134
 go_wp2_with fail
 go_loopw [5] (fun h wr=>h=.int .i64 0∧wr=w) (fun _ _=>0)
 case atStart=>exact⟨rfl,rfl⟩
 case round=>
  obtain⟨rfl,rfl⟩:=hrel
  go_wp2_with fail
  go_ret
  exact⟨rfl,rfl⟩
section
variable {w:World} {cs ds:List Value} {p:Am} {q:AB} {m:Nat}
theorem Rb (h:At w w.heap.size cs p) (y:Ek p):Calls Tryz.prog 133 #[.agg cs.toArray,.agg #[.int .i64 (m:Int),.int .i64 0,.int .i64 0]] w (Ret fun v w'=>v=.int .i64 (m:Int)∧Below w.heap.size w w'):=by
 obtain⟨A1,c1,A2,c2,A3,c3,A4,c4,A5,c5,A6,c6,A7,c7,a4,au,av,aw,W,Z,a2,a3,ax,ay,az,j1,j2,j3,j4,j5,j6,j7,j8⟩:=h.cells
 rw [y.ms] at W
 rw [y.vs] at Z
 rw [y.fl] at a2
 rw [y.rs] at a3
 obtain⟨w1,aA,z,E,U⟩:=Ae w cs.toArray 27
 obtain⟨w2,aB,C,G,V⟩:=Ae w1 #[.int .i64 (m:Int),.int .i64 0,.int .i64 0] 44
 have M:=z.trans (C.mono z.size)
 have O:=hide M
 have I:=(E.below C)
 have J:=G
 have aq:=I.cell
 have ar:=J.cell
 generalize cs.toArray=pc at*
 clear h y I J z C E G U V M j1 j2 j3 j4 j5 j6 j7 j8 a4
 go_enter Tryz.func133,Tryz.ntmps133
 go_wp2_with fail
 go_ret
 exact⟨rfl,O.out⟩
theorem L7 (h:At w w.heap.size cs p) (y:Ek p) (Z:1≤m∧m≤8):Calls Tryz.prog 132 #[.agg cs.toArray,.agg #[.int .i64 (m:Int),.int .i64 0,.int .i64 0]] w (Ret fun v w'=>v=.bool true∧Below w.heap.size w w'):=by
 obtain⟨A1,c1,A2,c2,A3,c3,A4,c4,A5,c5,A6,c6,A7,c7,a7,aA,a2,aB,a3,a4,a5,a6,aC,aD,aE,j1,j2,j3,j4,j5,j6,j7,j8⟩:=h.cells
 rw [y.ms] at a3
 rw [y.vs] at a4
 rw [y.fl] at a5
 rw [y.rs] at a6
 obtain⟨w1,aG,z,G,V⟩:=Ae w cs.toArray 27
 obtain⟨w2,aH,C,I,W⟩:=Ae w1 #[.int .i64 (m:Int),.int .i64 0,.int .i64 0] 44
 have O:=z.trans (C.mono z.size)
 have U:=hide O
 have J:=(G.below C)
 have M:=I
 have ay:=J.cell
 have az:=M.cell
 have i1:K.inC (m:Int) 1 1048576=true:=by simp [K.inC]; omega
 have i2:K.inC 0 0 (m:Int)=true:=by simp [K.inC]
 obtain⟨tp,E⟩:∃t,t=p.topo:=⟨_,rfl⟩
 have aF:(tp != 4)=true:=by rw [E]; have:=y.tp; simp; omega
 rw [←E] at a2
 generalize cs.toArray=pc at*
 clear h y J M z C G I V W O j1 j2 j3 j4 j5 j6 j7 j8 a7 E Z
 go_enter Tryz.func132,Tryz.ntmps132
 go_wp2_with (go_at_call 98; refine(K.within2_any _ _ _ _).mono ?_; rintro e w' ⟨rfl,rfl⟩; first | rw [i1] | rw [i2])
 go_loopw [5] (fun ii wr=>ii=.int .i64 0∧wr=w2) (fun _ _=>0)
 case atStart=>exact⟨rfl,rfl⟩
 case round=>
  obtain⟨rfl,rfl⟩:=hrel
  go_wp2_with fail
  go_ret
  exact⟨rfl,U.out⟩
theorem S9 (h:At w w.heap.size cs p) (ae:p.Small) (hT:K.SpOK w) (Z:K.protE K.nameOK p=0) (hb:Ek p) (hm:1≤m∧m≤8):Calls Tryz.prog 91 #[.agg cs.toArray,.agg #[.int .i64 (m:Int),.int .i64 0,.int .i64 0]] w (Ret fun v w'=>v=.int .i64 0∧Below w.heap.size w w'):=by
 have W:=h.rules_at.1
 obtain⟨w1,av,I,a2,aj⟩:=Ae w cs.toArray 27
 obtain⟨w2,aw,J,a3,ak⟩:=Ae w1 #[.int .i64 (m:Int),.int .i64 0,.int .i64 0] 44
 have a9:=I.trans (J.mono I.size)
 have z:=hide a9
 have G:=(a2.below J)
 have a6:=a3
 have E:=h.keep (w':=w2) (B':=w2.heap.size) (fun _ V=>z.out.cell V) z.out.size
 generalize ad:cs.toArray=pc at*
 have U:=K.refProtValidate_any E ae (hT.below z.out)
 rw [Z,ad] at U
 have al:=Ah G W
 have ah:=hide hb
 have ap:=hide E
 have af:=hide G
 have ag:=hide a6
 have aq:=hide W
 have ao:=hide hm
 have au:¬(8:Int)<(m:Int):=by omega
 clear h hb G a6 I J a2 a3 aj ak a9 ae hT Z E W hm
 go_enter Tryz.func91,Tryz.ntmps91
 go_wp2_with fail
 refine Calls.ret U ?_
 rintro v C ⟨rfl,y⟩
 have aa:=hide (z.out.trans (y.mono z.out.size))
 have a5:=af.out.below y
 have a7:=hide (ag.out.below y)
 have am:=Ah a5 aq.out
 have an:(loadCellsFrom ⟨w1.heap.size,0,none⟩ 0 3 #[]).run Tryz.prog C=.ok _ C:=Ah a7.out rfl
 have O:=L7 (m:=m) (ap.out.keep (w':=C) (B':=C.heap.size) (fun _ V=>y.cell V) y.size) ah.out ao.out
 rw [ad] at O
 clear y a5 al U
 go_wp2_with fail
 refine Calls.ret O ?_
 rintro v w5 ⟨rfl,M⟩
 have ai:=hide (aa.out.trans (M.mono aa.out.size))
 have ar:=(a7.out.below M).cell
 clear M O am an
 go_wp2_with fail
 go_ret
 exact⟨rfl,ai.out⟩
theorem S8 (h:At w w.heap.size cs p) (I:Ba w w.heap.size ds q) (a3:p.Small) (an:q.Small) (hT:K.SpOK w) (h0:K.protE K.nameOK p=0) (h1:K.propE K.nameOK p q=0) (hb:Ek p) (hm:1≤m∧m≤8):Calls Tryz.prog 45 #[.agg cs.toArray,.agg ds.toArray,.agg #[.int .i64 (m:Int),.int .i64 0,.int .i64 0]] w (Ret fun v w'=>v=.int .i64 0∧Below w.heap.size w w'):=by
 have a2:=h.rules_at.1
 obtain⟨B1,d1,B2,d2,B3,d3,B4,d4,am,-⟩:=I.cells
 obtain⟨w1,aL,V,a8,au⟩:=Ae w cs.toArray 27
 obtain⟨w2,aM,W,a9,av⟩:=Ae w1 ds.toArray 30
 obtain⟨z,aN,G,aa,aw⟩:=Ae w2 #[.int .i64 (m:Int),.int .i64 0,.int .i64 0] 44
 have U:=V.trans (W.mono V.size)
 have ah:=U.trans (G.mono U.size)
 have y:=hide ah
 have O:=((a8.below W).below G)
 have ae:=(a9.below G)
 have af:=aa
 have J:=h.keep (w':=z) (B':=z.heap.size) (fun _ E=>y.out.cell E) y.out.size
 have ab:=I.keep (w':=z) (B':=z.heap.size) (fun _ E=>y.out.cell E) y.out.size
 have M:=hT.below y.out
 have Z:=K.refPropValidate_any J ab a3 an M
 rw [h1] at Z
 have ar:Hid (∀wx,Below z.heap.size z wx→Calls Tryz.prog 91 #[.agg cs.toArray,.agg #[.int .i64 (m:Int),.int .i64 0,.int .i64 0]] wx (Ret fun v w'=>v=.int .i64 0∧Below wx.heap.size wx w')):=hide (fun wx hx=>S9 (J.keep (fun _ E=>hx.cell E) hx.size) a3 (M.below hx) h0 hb hm)
 generalize cs.toArray=pc at*
 generalize ds.toArray=qc at*
 have ax:=Ah O a2
 have az:=Ah ae am
 have ao:=hide O
 have ap:=hide af
 have aB:=hide a2
 clear h I hb O ae af V W G a8 a9 aa au av aw U ah a3 an hT M h0 h1 J ab a2 am hm
 go_enter Tryz.func45,Tryz.ntmps45
 go_wp2_with fail
 refine Calls.ret Z ?_
 rintro v w4 ⟨rfl,C⟩
 have aj:=hide (y.out.trans (C.mono y.out.size))
 have ay:=Ah (ao.out.below C) aB.out
 have aA:(loadCellsFrom ⟨w2.heap.size,0,none⟩ 0 3 #[]).run Tryz.prog w4=.ok _ w4:=Ah (ap.out.below C) rfl
 have ak:=ar.out w4 C
 clear C ax az Z
 go_wp2_with fail
 refine Calls.ret ak ?_
 rintro v w5 ⟨rfl,ai⟩
 have aq:=hide (aj.out.trans (ai.mono aj.out.size))
 clear ai ak ay aA
 go_wp2_with fail
 go_ret
 exact⟨rfl,aq.out⟩
end
end Go.Proofs.YtfcfpoemojjglaaGreatDoor
namespace Go.Proofs.YtfcfpoemojjglaaGreatDoor
open Go.RowKit
open K (Am AB At Ba PQX Ah)
attribute [-go_sem] loadCellsFrom
set_option maxHeartbeats 16000000
set_option maxRecDepth 100000
section
variable {w:World} {cs ds:List Value} {p:Am} {q:AB} {m:Nat}
theorem Tk {A:Option Addr} {cap:Nat} {l:List Int} (h:At w w.heap.size cs p) (J:Sl w w.heap.size 1 Ai A l) (I:∀x∈l,inN (p.states.length:Int) x=true) (hL:p.states.length≤60):
  Calls Tryz.prog 99 #[.agg cs.toArray,.slice A l.length cap] w (Ret fun v w'=>v=.bool true∧Below w.heap.size w w'):=by
 obtain⟨A1,c1,A2,c2,A3,c3,A4,c4,A5,c5,A6,c6,A7,c7,am,aj,ak,M,-⟩:=h.cells
 obtain⟨w1,aE,Z,U,ae⟩:=Ae w cs.toArray 27
 have z:=hide Z
 have V:=U
 generalize cs.toArray=pc at*
 obtain⟨ns,a4⟩:∃n,n=p.states.length:=⟨_,rfl⟩
 rw [←a4] at M I hL
 obtain⟨m,C⟩:∃m,m=l.length:=⟨_,rfl⟩
 have ai:=hide C
 rw [←C]
 have af:=hide J
 have ad:=hide I
 have a9:=hide V
 have al:=hide M
 have ah:=J.1
 rw [←C] at ah
 clear h J I a4 C V Z U ae aj ak M am
 go_enter Tryz.func99,Tryz.ntmps99
 go_wp2_with fail
 go_loopw [5] (fun O wr=>∃i:Nat,O=.int .i64 (i:Int)∧i≤m∧Hid (Below w1.heap.size w1 wr)) (fun O _=>m - (intOf O).toNat)
 case atStart=>exact⟨0,rfl,Nat.zero_le _,Below.refl _ _⟩
 case round=>
  obtain⟨i,rfl,hi,E⟩:=hrel
  by_cases ag:i<m
  ·obtain⟨b,o,x,hA,aa,hx,a2⟩:=af.out.at (show i<l.length by rw [←ai.out]; exact ag)
   subst hA
   have G:=hide (E.out.trans ((Ap wr).mono E.out.size))
   have W:=z.out.trans (G.out.mono z.out.size)
   have aC:wr.drew.cell? ⟨b,o+i,none⟩=some (.int .i64 x):=by
    have a3:=a2 0 (by omega)
    simp only [Ai,Nat.mul_one,Nat.add_zero] at a3
    exact(W.cell (p:=⟨b,o+i,none⟩) aa).trans a3
   have aB:wr.drew.cell? ⟨w.heap.size,2,none⟩=some (.slice A1 ns c1):=by rw [(a9.out.below G.out).cell]; exact al.out
   have an:K.inC x 0 ((ns:Int) - 1)=true:=by
    have:=ad.out x (List.mem_of_getElem? hx)
    rw [D3] at this
    simp [K.inC]; omega
   clear W a2 hx
   go_wp2_with fail
   refine Reg.cI [0,0,3,7,0,16,48,112,255,511] [0,1,2,3,4,5,6,7,8,9] ?_
   refine Reg.wI [0,1,2,3,4,5,6,7] [8,9] rfl fun Qf y=>?_
   go_wp2_with fail
   first | refine y _ _ ⟨rfl,?_⟩ | refine⟨rfl,?_⟩ | refine y _ _ ⟨by simp [Reg.fineT,Reg.intOp,Region.wanted,yielded,Reg.intFine,Reg.isInt,Act.eval],?_⟩
   try clear y
   refine Reg.aI 8 [9] [] rfl fun Qf y=>?_
   simp only [gT,gS,gZ]
   go_wp2_with (go_at_call 100; refine(Kz _ _ _ _).mono ?_; rintro e w' ⟨rfl,rfl⟩; rw [an])
   first | refine y _ _ ⟨Reg.nm,?_⟩ | refine⟨Reg.nm,?_⟩
   try clear y
   refine Reg.wI [9] [] rfl fun Qf y=>?_
   go_wp2_with fail
   first | refine y _ _ ⟨rfl,?_⟩ | refine⟨rfl,?_⟩ | refine y _ _ ⟨by simp [Reg.fineT,Reg.intOp,Region.wanted,yielded,Reg.intFine,Reg.isInt,Act.eval],?_⟩
   try clear y
   first | refine Reg.restI_end ?_ | skip
   go_wp2_with fail
   exact⟨⟨i+1,by go_num,by omega,G⟩,by simp [intOf]; omega⟩
  ·obtain rfl:i=m:=by omega
   have ab:=hide (z.out.trans (E.out.mono z.out.size))
   go_wp2_with fail
   go_ret
   exact⟨rfl,ab.out⟩
end
end Go.Proofs.YtfcfpoemojjglaaGreatDoor
namespace Go.Proofs.YtfcfpoemojjglaaGreatDoor
open Go.RowKit
open K (Am AB At Ba PQX Ah)
attribute [-go_sem] loadCellsFrom
set_option maxHeartbeats 16000000
set_option maxRecDepth 100000
section
variable {w:World} {cs ds:List Value} {p:Am} {q:AB} {m:Nat}
def Lh (w:World) (g:Nat) (v0 v1 v2 v3 v4 v5:Value):World:=(((((w.setCell ⟨g,0,none⟩ v0).setCell ⟨g,1,none⟩ v1).setCell ⟨g,2,none⟩ v2).setCell ⟨g,3,none⟩ v3).setCell ⟨g,4,none⟩ v4).setCell ⟨g,5,none⟩ v5
theorem SV {w:World} {g:Nat} {e:TypeId} {a0 a1 z C E G:Value} (h:Blk w g e #[a0,a1,z,C,E,G]) (v0 v1 v2 v3 y v5:Value):∃wF,Lh w g v0 v1 v2 v3 y v5=wF∧Blk wF g e #[v0,v1,v2,v3,y,v5]∧Ac w wF (fun k=>k=g):=
 ⟨_,rfl,(((((h.set_ 0 v0).set_ 1 v1).set_ 2 v2).set_ 3 v3).set_ 4 y).set_ 5 v5,((((((Ac.refl w (fun k=>k=g)).setCell (p:=⟨g,0,none⟩) (fun _=>rfl) _).setCell (p:=⟨g,1,none⟩) (fun _=>rfl) _).setCell (p:=⟨g,2,none⟩) (fun _=>rfl) _).setCell (p:=⟨g,3,none⟩) (fun _=>rfl) _).setCell (p:=⟨g,4,none⟩) (fun _=>rfl) _).setCell (p:=⟨g,5,none⟩) (fun _=>rfl) _⟩
theorem M5 {A:Option Addr} {c m:Nat} {l:List Int} (hl:Sl w w.heap.size 1 Ai A l) (M:m=l.length) (al:m≤60):
  Calls Tryz.prog 18 #[.slice A m c] w (Ret fun v w'=>Below w.heap.size w w'∧∃h cap,v=.agg #[.slice none 0 0,.slice h m cap,.int .i64 (m:Int),.slice none 0 0,.slice none 0 0,.int .i64 0]∧Sl w' w'.heap.size 1 Ai h l):=by
 obtain⟨w1,an,C,G,a9⟩:=Ae w #[.slice none 0 0,.slice none 0 0,.int .i64 0,.slice none 0 0,.slice none 0 0,.int .i64 0] 46
 have J:=Hh (c:=c) (hl.keep (w':=w1) (B':=w1.heap.size) (fun _ hp=>C.cell hp) C.size) (Nat.le_refl _) (by omega)
 rw [←M] at J
 have a7:=hide J
 have Z:=hide C
 have a4:=hide G
 have O:=hide M
 have ak:=G.lt
 clear C G a9 hl J M
 go_enter Tryz.func18,Tryz.ntmps18
 go_wp2_with fail
 refine Calls.ret a7.out ?_
 rintro v w2 ⟨E,z⟩
 obtain⟨h,cap,U,hS⟩:=B8 (B:=w2.heap.size) z (by rw [O.out]) (Nat.le_refl _) (by omega)
 rw [←O.out] at U
 subst U
 have y:=a4.out.below E
 have hf:=y.frozen
 have aj:=y.lt
 have hc:=y.cell
 obtain⟨wF,ae,W,I⟩:=SV y (.slice none 0 0) (.slice h m cap) (.int .i64 (m:Int)) (.slice none 0 0) (.slice none 0 0) (.int .i64 0)
 have ad:=Z.out.size
 have am:=E.size
 have aa:(loadCellsFrom ⟨w.heap.size,0,none⟩ 0 6 #[]).run Tryz.prog wF=.ok _ wF:=Ah W rfl
 have a6:=hide ((Z.out.trans (E.mono ad)).trans (I.below (by omega) fun b hb (e:b=w.heap.size)=>by omega))
 have a5:=hide (show Sl wF wF.heap.size 1 Ai h l from(by
  obtain⟨A2,c2,e2,V⟩:=B8 (B:=wF.heap.size) (I.ownsRow z fun g hg e=>by have h1:=Bb z hg; have V:g=w.heap.size:=e; omega) (by rw [O.out]) (Nat.le_refl _) (by omega)
  cases e2
  exact V))
 unfold Lh at ae
 clear E z hS W I y
 go_wp2_with fail
 refine bodyPost_ret (v:=.agg #[.slice none 0 0,.slice h m cap,.int .i64 (m:Int),.slice none 0 0,.slice none 0 0,.int .i64 0]) (by simp [results,Tryz.results18,go_sem,aa]) rfl ⟨a6.out,h,cap,rfl,a5.out⟩
end
end Go.Proofs.YtfcfpoemojjglaaGreatDoor
namespace Go.Proofs.YtfcfpoemojjglaaGreatDoor
open Go.RowKit
open K (Am AB D9 At Ba Db BR PQX Ah)
attribute [-go_sem] loadCellsFrom
set_option maxHeartbeats 16000000
set_option maxRecDepth 100000
def UC (ring:Bool) (m i:Nat):Int:=if i+1=m then (if ring then 0 else -1) else (i:Int)+1
theorem VM {w:World} {m i:Nat} (E:i<m) (G:m≤60):Calls Tryz.prog 101 #[.int .i64 2,.slice none 0 0,.int .i64 (m:Int),.int .i64 (i:Int)] w (Ret fun v w'=>Below w.heap.size w w'∧∃f:Int,v=.tuple #[.int .i64 f,.int .i64 (UC false m i),.int .i64 (-1)]):=by
 have z:K.inC (i:Int) 0 ((m:Int) - 1)=true:=by simp [K.inC]; omega
 have y:=hide (Below.refl w.heap.size w)
 by_cases he:i+1=m
 ·have h:=hide (show UC false m i= -1 from(if_pos he).trans rfl)
  have C:((i:Int)+1==(m:Int))=true:=by simp; omega
  clear he
  go_enter Tryz.func101,Tryz.ntmps101
  go_wp2_with (go_at_call 100; refine(Kz _ _ _ _).mono ?_; rintro e w' ⟨rfl,rfl⟩; rw [z])
  refine bodyPost_ret (v:=.tuple #[.int .i64 ((i:Int) - 1),.int .i64 (-1),.int .i64 (-1)]) (by simp [results,Tryz.results101,go_sem]) rfl ⟨y.out,_,by rw [h.out]⟩
 ·have h:=hide (show UC false m i=(i:Int)+1 from if_neg he)
  have C:((i:Int)+1==(m:Int))=false:=by simp; omega
  clear he
  go_enter Tryz.func101,Tryz.ntmps101
  go_wp2_with (go_at_call 100; refine(Kz _ _ _ _).mono ?_; rintro e w' ⟨rfl,rfl⟩; rw [z])
  refine bodyPost_ret (v:=.tuple #[.int .i64 ((i:Int) - 1),.int .i64 ((i:Int)+1),.int .i64 (-1)]) (by simp [results,Tryz.results101,go_sem]) rfl ⟨y.out,_,by rw [h.out]⟩
theorem VN {w:World} {m i:Nat} (E:i<m) (G:m≤60):Calls Tryz.prog 101 #[.int .i64 3,.slice none 0 0,.int .i64 (m:Int),.int .i64 (i:Int)] w (Ret fun v w'=>Below w.heap.size w w'∧∃f:Int,v=.tuple #[.int .i64 f,.int .i64 (UC true m i),.int .i64 (-1)]):=by
 have z:K.inC (i:Int) 0 ((m:Int) - 1)=true:=by simp [K.inC]; omega
 have y:=hide (Ap w)
 have I:(m:Int)≠0:=by omega
 have J:Int.tmod ((i:Int)+1) (m:Int)=UC true m i:=by
  unfold UC
  by_cases he:i+1=m
  ·rw [if_pos he,←he]
   simp
  ·rw [if_neg he]
   exact Int.tmod_eq_of_lt (by omega) (by omega)
 have M:-1≤UC true m i∧UC true m i≤60:=by unfold UC; split <;> (try split) <;> omega
 generalize UC true m i=sc at*
 cases C:((i:Int)==0)
 all_goals
  go_enter Tryz.func101,Tryz.ntmps101
  go_wp2_with (go_at_call 100; refine(Kz _ _ _ _).mono ?_; rintro e w' ⟨rfl,rfl⟩; rw [z])
  refine Reg.cI [0,0,2,0,14,1,63,127] [0,1,2,3,4,5,6,7] ?_
  refine Reg.wI [0,1,2,3,4,5,6,7] [] rfl fun Qf h=>?_
  go_wp2_with fail
  first | refine h _ _ ⟨rfl,?_⟩ | refine⟨rfl,?_⟩ | refine h _ _ ⟨by simp [Reg.fineT,Reg.intOp,Region.wanted,yielded,Reg.intFine,Reg.isInt,Act.eval],?_⟩
  try clear h
  first | refine Reg.restI_end ?_ | skip
  go_wp2_with fail
  refine bodyPost_ret (v:=.tuple #[_,.int .i64 sc,.int .i64 (-1)]) (by simp [results,Tryz.results101,go_sem]; rfl) rfl ⟨y.out,_,rfl⟩
end Go.Proofs.YtfcfpoemojjglaaGreatDoor
namespace Go.Proofs.YtfcfpoemojjglaaGreatDoor
open Go.RowKit
open K (Am AB D9 At Ba Db BR PQX Ah)
attribute [-go_sem] loadCellsFrom
set_option maxHeartbeats 16000000
set_option maxRecDepth 100000
theorem Vq {h:World} {g4 g5 m nb cap d2:Nat} {qc:Array Value} {A B2:Option Addr} {l:List Int} {q:AB} (a4:Blk h g4 30 qc) (a5:Blk h g5 46 #[.slice none 0 0,.slice A m cap,.int .i64 (m:Int),.slice none 0 0,.slice none 0 0,.int .i64 0])
  (dg:qc[3]?=some (.slice B2 nb d2)) (af:nb=q.bad.length) (Z:BR h h.heap.size 2 (Db h h.heap.size) B2 q.bad) (hl:Sl h h.heap.size 1 Ai A l) (hm:m=l.length) (de:m≤60) (d3:nb≤3) {wq:World} (ai:Below h.heap.size h wq) {k:Nat} {c:D9} (E:q.bad[k]?=some c)
  {u0 u1 u2 u3 u6 an aA aH aJ aK aL aM aN aO aP aR ci cj ck cm cn co cp cq cr ct cu cv cw cx cy cz cA cB cD cE aT aU aV aW aX aY aZ b0 b1 b2 b3 b4 b5 b6 b7 b8 b9 ba bd bf bg bh bi u64 bj bk bm bn bo bp br bs bt bu bv bw bx bz bA bB bC bD bE bF bG bH bI bJ bK bL bM bN bO bP bQ bR bS bT bU ao ap aq ar au av aw ax ay az aB aC aD aE aF aG:Value}
  {Q:Exit→Act→World→Prop} (hN:Reg.NoQ Q)
  (hQ:∀(cF cG cH cJ cK cL cM cO cQ cR cS cT cU cV cW cX cY cZ d0 d1:Value) (w':World),Below h.heap.size h w'→Q (.exit 2) ⟨List.toArray (u0::u1::u2::u3::(.pointer (some ⟨g4,0,none⟩))::(.pointer (some ⟨g5,0,none⟩))::u6::(.int .i64 k)::(.int .i64 (cI c.states l:Int))::(.int .i64 m)::an::aA::aH::aJ::aK::aL::aM::aN::aO::aP::aR::cF::cG::
   cH::cJ::cK::cL::cM::cO::cQ::cR::cS::cT::cU::cV::cW::cX::cY::cZ::d0::d1::aT::aU::aV::aW::aX::aY::aZ::b0::b1::b2::b3::b4::b5::b6::b7::b8::b9::ba::bd::
   bf::bg::bh::bi::u64::bj::bk::bm::bn::bo::bp::br::bs::bt::bu::bv::bw::bx::bz::bA::bB::bC::bD::bE::bF::bG::bH::bI::bJ::bK::bL::bM::bN::bO::bP::bQ::bR::
   bS::bT::bU::ao::ap::aq::ar::au::av::aw::ax::ay::az::aB::aC::aD::aE::aF::aG::[]),[]⟩ w'):
  (Code.loop (CG Tryz.f51 1)).wp Tryz.prog Q ⟨List.toArray (u0::u1::u2::u3::(.pointer (some ⟨g4,0,none⟩))::(.pointer (some ⟨g5,0,none⟩))::u6::(.int .i64 k)::(.int .i64 0)::(.int .i64 0)::an::aA::aH::aJ::aK::aL::aM::aN::aO::aP::aR::ci::cj::ck::cm::cn::
   co::cp::cq::cr::ct::cu::cv::cw::cx::cy::cz::cA::cB::cD::cE::aT::aU::aV::aW::aX::aY::aZ::b0::b1::b2::b3::b4::b5::b6::b7::b8::b9::ba::bd::bf::bg::bh::
   bi::u64::bj::bk::bm::bn::bo::bp::br::bs::bt::bu::bv::bw::bx::bz::bA::bB::bC::bD::bE::bF::bG::bH::bI::bJ::bK::bL::bM::bN::bO::bP::bQ::bR::bS::bT::bU::
   ao::ap::aq::ar::au::av::aw::ax::ay::az::aB::aC::aD::aE::aF::aG::[]),[]⟩ wq:=by
 conv=>arg 2; arg 1; whnf
 have c4:=hide a4
 have a6:=hide a5
 have db:=hide Z
 have ca:=hide hl
 have ae:=hide hm
 have d7:=hide E
 have c0:=hide hQ
 have dc:k<nb:=by rw [af]; exact AP E
 obtain⟨b,ch,y,cs,M,c5,he,ce,a9,hR⟩:=Z.at (AP E)
 obtain rfl:y=c:=by rw [E] at he; exact(Option.some.inj he).symm
 obtain⟨E1,f1,rfl,a3⟩:=hR
 subst M
 have c3:=hide a3
 have aa:=a9 0 _ rfl
 have cf:=hide ai
 obtain⟨ns,V⟩:∃n,n=y.states.length:=⟨_,rfl⟩
 rw [←V] at aa
 have cc:=hide V
 clear a4 a5 Z hl hm E hQ a9 he ce a3 ai af V
 go_loopw [8,9] (fun nn W wr=>∃i:Nat,W=.int .i64 (i:Int)∧i≤m∧(∃n:Nat,nn=.int .i64 (n:Int)∧n≤i∧Hid (n=cI y.states (l.take i)))∧Hid (Below h.heap.size h wr)) (fun _ W _=>m - (intOf W).toNat)
 case atStart=>exact⟨0,rfl,Nat.zero_le _,⟨0,rfl,Nat.le_refl _,hide rfl⟩,cf⟩
 case round=>
  obtain⟨i,rfl,hi,⟨n,rfl,df,O⟩,I⟩:=hrel
  have d6:=(a6.out.below I.out).cell
  by_cases cb:i<m
  ·obtain⟨bl,ol,x,M,c7,hx,a7⟩:=ca.out.at (show i<l.length by rw [←ae.out]; exact cb)
   subst M
   have z:=hide (I.out.trans ((Ap wr).mono I.out.size))
   have d9:wr.drew.cell? ⟨bl,ol+i,none⟩=some (.int .i64 x):=by
    have a8:=a7 0 (by omega)
    simp only [Ai,Nat.mul_one,Nat.add_zero] at a8
    exact(z.out.cell (p:=⟨bl,ol+i,none⟩) c7).trans a8
   have d8:=(z.out.cell (p:=⟨b,ch+k*2,none⟩) c5).trans (by simpa using aa)
   have d4:=(c4.out.below z.out).cell
   have d5:=(a6.out.below z.out).cell
   have c8:Hid (Calls Tryz.prog 93 #[.slice E1 ns f1,.int .i64 x] wr.drew fun r w'=>r=.returned (.bool (decide (x∈y.states)))∧wr.drew=w'):=hide (by
    rw [cc.out]
    exact K.has_any (c3.out.keep (w':=wr.drew) (B':=wr.drew.heap.size) (fun _ hp=>z.out.cell hp) z.out.size))
   have ag:∀G:Bool,decide (x∈y.states)=G→Hid ((if G then n+1 else n)=cI y.states (l.take (i+1))):=fun G c6=>hide (by
    rw [B5 hx]
    unfold cI
    rw [List.countP_append]
    have:=O.out
    unfold cI at this
    rw [←this,List.countP_singleton,c6]
    cases G <;> simp)
   have ah:=hide ag
   clear a7 hx ag
   go_wp2_with fail
   refine Reg.cC [0,1,0,7,15,31,0,64,0,448,960,2047] [0,1,2,3,4,5,6,7,8,9,10,11] ?_ (by kernel_rfl) (by repeat (first | exact hN | refine Reg.NoQ.then ?_ | refine Reg.NoQ.inBlock ?_))
   refine Reg.rest_walk' [0,1,2,3,4,5,6,7,8,9,10] [11] rfl (by kernel_rfl) ?_
   intro Qf C
   go_wp2_with fail
   first | refine C _ _ ?_ | skip
   try clear C
   refine Reg.rest_act' 11 [] [] rfl (by kernel_rfl) ?_
   intro Qf C
   simp only [gT,gS,gZ]
   go_wp2_with fail
   refine(c8.out).mono ?_
   rintro e w' ⟨rfl,rfl⟩
   go_wp2_with fail
   first | refine C _ _ ⟨Reg.nm,?_⟩ | refine⟨Reg.nm,?_⟩
   try clear C
   first | refine Reg.rest_end ?_ | skip
   cases J:decide (x∈y.states)
   ·have U:=ah.out false J
    clear J
    go_wp2_with fail
    exact⟨⟨i+1,by go_num,by omega,⟨n,rfl,by omega,U⟩,z⟩,by simp [intOf]; omega⟩
   ·have U:=ah.out true J
    clear J
    go_wp2_with fail
    exact⟨⟨i+1,by go_num,by omega,⟨n+1,by go_num,by omega,U⟩,z⟩,by simp [intOf]; omega⟩
  ·obtain rfl:i=m:=by omega
   have c9:Hid (n=cI y.states l):=by
    have:=O.out
    rw [ae.out,List.take_length] at this
    exact this
   clear O
   go_wp2_with fail
   rw [c9.out]
   exact c0.out _ _ _ _ _ _ _ _ _ _ _ _ _ _ _ _ _ _ _ _ _ I.out
theorem Vp {y:World} {g4 g5 m nb cap d2:Nat} {qc:Array Value} {A B2:Option Addr} {l:List Int} {q:AB} (bV:Blk y g4 30 qc) (bW:Blk y g5 46 #[.slice none 0 0,.slice A m cap,.int .i64 (m:Int),.slice none 0 0,.slice none 0 0,.int .i64 0])
  (cq:qc[3]?=some (.slice B2 nb d2)) (c1:nb=q.bad.length) (k2:BR y y.heap.size 2 (Db y y.heap.size) B2 q.bad) (hl:Sl y y.heap.size 1 Ai A l) (hm:m=l.length) (cm:m≤60) (cd:nb≤3)
  {O U u2 u3 u8 u9 V aa ai aj cw cx cy cz cA cB cD cE cF cG cH cJ cK cL cM cO cQ cR cS cT cU cV cW cX cY cZ d0 d1 d3 d4 d5 d6 d7 d8 d9 am an ao ap aq ar au av aw ax ay az aA aB aC u64 aD aE aF aG aH aJ aK aL aM aN aO aP aQ aR aS aT aU aV aW aX aY aZ b0 b1 b2 b3 b4 b5 b6 b7 b8 b9 ba bd be W Z a2 a3 a4 a5 a6 a7 a8 a9 ab ad ae af ag ah:Value}
  {Q:Exit→Act→World→Prop} (hN:Reg.NoQ Q)
  (hT:(∀c∈q.bad,c.least≤(cI c.states l:Int))→∀(x8 x9 bf bg bh bi bj bk bl bm bn bo bp bq br bs bt bu bv bw bx bz bA bB bC bD bE bF bG bH bI bJ bK bL bM bN bO:Value) (w':World),Below y.heap.size y w'→Q (.exit 0) ⟨List.toArray (O::U::u2::u3::(.pointer (some ⟨g4,0,none⟩))::(.pointer (some ⟨g5,0,none⟩))::(.bool false)::(.int .i64 nb)::x8::x9::V::aa::ai::aj::bf::bg::bh::bi::bj::bk::bl::bm::bn::bo::bp::bq::br::
   bs::bt::bu::bv::bw::bx::bz::bA::bB::bC::bD::bE::bF::bG::bH::bI::bJ::bK::bL::bM::bN::bO::am::an::ao::ap::aq::ar::au::av::aw::ax::ay::az::aA::aB::aC::
   u64::aD::aE::aF::aG::aH::aJ::aK::aL::aM::aN::aO::aP::aQ::aR::aS::aT::aU::aV::aW::aX::aY::aZ::b0::b1::b2::b3::b4::b5::b6::b7::b8::b9::ba::bd::be::W::
   Z::a2::a3::a4::a5::a6::a7::a8::a9::ab::ad::ae::af::ag::ah::[]),[]⟩ w')
  (hF:(¬∀c∈q.bad,c.least≤(cI c.states l:Int))→∀(x7 x8 x9 bf bg bh bi bj bk bl bm bn bo bp bq br bs bt bu bv bw bx bz bA bB bC bD bE bF bG bH bI bJ bK bL bM bN bO:Value) (w':World),Below y.heap.size y w'→Q .ret ⟨List.toArray (O::U::u2::u3::(.pointer (some ⟨g4,0,none⟩))::(.pointer (some ⟨g5,0,none⟩))::(.bool false)::x7::x8::x9::V::aa::ai::aj::bf::bg::bh::bi::bj::bk::bl::bm::bn::bo::bp::bq::br::bs::bt::
   bu::bv::bw::bx::bz::bA::bB::bC::bD::bE::bF::bG::bH::bI::bJ::bK::bL::bM::bN::bO::am::an::ao::ap::aq::ar::au::av::aw::ax::ay::az::aA::aB::aC::u64::aD::
   aE::aF::aG::aH::aJ::aK::aL::aM::aN::aO::aP::aQ::aR::aS::aT::aU::aV::aW::aX::aY::aZ::b0::b1::b2::b3::b4::b5::b6::b7::b8::b9::ba::bd::be::W::Z::a2::
   a3::a4::a5::a6::a7::a8::a9::ab::ad::ae::af::ag::ah::[]),[]⟩ w'):
  (Code.loop (CG Tryz.f51 0)).wp Tryz.prog Q ⟨List.toArray (O::U::u2::u3::(.pointer (some ⟨g4,0,none⟩))::(.pointer (some ⟨g5,0,none⟩))::(.bool false)::(.int .i64 0)::u8::u9::V::aa::ai::aj::cw::cx::cy::cz::cA::cB::cD::cE::cF::cG::cH::cJ::cK::
   cL::cM::cO::cQ::cR::cS::cT::cU::cV::cW::cX::cY::cZ::d0::d1::d3::d4::d5::d6::d7::d8::d9::am::an::ao::ap::aq::ar::au::av::aw::ax::ay::az::aA::aB::aC::
   u64::aD::aE::aF::aG::aH::aJ::aK::aL::aM::aN::aO::aP::aQ::aR::aS::aT::aU::aV::aW::aX::aY::aZ::b0::b1::b2::b3::b4::b5::b6::b7::b8::b9::ba::bd::be::W::
   Z::a2::a3::a4::a5::a6::a7::a8::a9::ab::ad::ae::af::ag::ah::[]),[]⟩ y:=by
 conv=>arg 2; arg 1; whnf
 have E:=hide bV
 have cb:=hide bW
 have cr:=hide cq
 have bY:=hide k2
 have cj:=hide hl
 have cn:=hide hm
 have ca:=hide hT
 have c6:=hide hF
 have J:=hide c1
 clear bV bW k2 hl hm hT hF c1
 go_loopw [6,7] (fun rr M wr=>rr=.bool false∧∃k:Nat,M=.int .i64 (k:Int)∧k≤nb∧Hid (Below y.heap.size y wr)∧Hid (∀j c,j<k→q.bad[j]?=some c→c.least≤(cI c.states l:Int))) (fun _ M _=>nb - (intOf M).toNat)
 case atStart=>exact⟨rfl,0,rfl,Nat.zero_le _,Below.refl _ _,hide (fun j c h=>absurd h (Nat.not_lt_zero _))⟩
 case round=>
  obtain⟨rfl,k,rfl,hk,C,hS⟩:=hrel
  have cg:=(E.out.below C.out).cell
  by_cases ck:k<nb
  ·obtain⟨b,cu,c,cs,hA,ce,he,ct,bX,hR⟩:=bY.out.at (show k<q.bad.length by rw [←J.out]; exact ck)
   obtain⟨E1,f1,rfl,c9⟩:=hR
   have G:=hide he
   have ch:=hide (bX 1 _ rfl)
   subst hA
   clear bX ct c9 he
   go_wp2_with fail
   refine Vq E.out cb.out cr.out J.out bY.out cj.out cn.out cm cd C.out G.out ?_ ?_
   ·repeat (first | exact hN | refine Reg.NoQ.then ?_ | refine Reg.NoQ.inBlock ?_)
   ·iterate 20 (intro _)
    intro w7 z
    have bS:=hide z
    have df:=(E.out.below z).cell
    have dh:=(z.cell (p:=⟨b,cu+k*2+1,none⟩) ce).trans ch.out
    clear z cg
    by_cases dg:(cI c.states l:Int)<c.least
    ·have co:=hide (show ¬∀c∈q.bad,c.least≤(cI c.states l:Int) from fun hh=>by have:=hh c (List.mem_of_getElem? G.out); omega)
     go_wp2_with fail
     exact c6.out co.out _ _ _ _ _ _ _ _ _ _ _ _ _ _ _ _ _ _ _ _ _ _ _ _ _ _ _ _ _ _ _ _ _ _ _ _ _ _ _ bS.out
    ·have cp:=hide (show ∀j d,j<k+1→q.bad[j]?=some d→d.least≤(cI d.states l:Int) from fun j d I hd=>by
      by_cases e:j=k
      ·subst e
       rw [G.out] at hd
       rw [←Option.some.inj hd]
       omega
      ·exact hS.out j d (by omega) hd)
     go_wp2_with fail
     exact⟨⟨(by first | rfl | trivial),k+1,by go_num,by omega,bS,cp⟩,by simp [intOf]; omega⟩
  ·obtain rfl:k=nb:=by omega
   have cc:=hide (show ∀c∈q.bad,c.least≤(cI c.states l:Int) from fun c hc=>by
    obtain⟨j,I⟩:=List.mem_iff_getElem?.1 hc
    exact hS.out j c (by rw [J.out]; exact AP I) I)
   go_wp2_with fail
   exact ca.out cc.out _ _ _ _ _ _ _ _ _ _ _ _ _ _ _ _ _ _ _ _ _ _ _ _ _ _ _ _ _ _ _ _ _ _ _ _ _ _ C.out
end Go.Proofs.YtfcfpoemojjglaaGreatDoor
namespace Go.Proofs.YtfcfpoemojjglaaGreatDoor
open Go.RowKit
open K (Am AB D9 At Ba Db BR PQX Ah)
attribute [-go_sem] loadCellsFrom
set_option maxHeartbeats 16000000
set_option maxRecDepth 100000
theorem Vo {C w6:World} {g3 g4 g5 m cap d3:Nat} {pc qc:Array Value} {A B3:Option Addr} {l:List Int} {p:Am} {a b:Int} {ring:Bool} (ch:Blk C g3 27 pc) (cj:Blk C g4 30 qc) (cm:Blk C g5 46 #[.slice none 0 0,.slice A m cap,.int .i64 (m:Int),.slice none 0 0,.slice none 0 0,.int .i64 0])
  (d9:pc[1]?=some (.int .i64 p.topo)) (a5:p.topo=if ring then 3 else 2) (ev:qc[4]?=some (.slice B3 2 d3)) (k3:Sl C C.heap.size 1 Ai B3 [a,b]) (hl:Sl C C.heap.size 1 Ai A l) (hm:m=l.length) (cB:m≤60) (cn:Below C.heap.size C w6)
  {u0 u1 u2 u7 u8 u9 dt dA dB ai aj ak al am an ap aq ar au av aw ax ay az aA aB aC aD aE aF aG aH aJ aK aL aM aN aO aP aQ aR aS aT aU aV aW aX aY dC dD dE dF dG dH dI dJ dK dL dM u64 dN dO dP dQ dR dS dT dU dV dW dX dY dZ e0 e1 e2 e3 e4 e5 e6 e7 e8 e9 ea eb ec ed ee ef eg eh ei ej ek el dh di dj dk dl dm dn dp dq dr du dv dw dx dy dz:Value}
  {Q:Exit→Act→World→Prop} (U:Reg.NoQ Q)
  (hT:(∃i,UF a b ring l i)→∀(em bf bn bo bp bq br bs bt bu bv bw bx bz bA bB bC bD bE bF bG bH bI bJ bK bL bM bN bO bP bQ bR bS bT bU bV bW bX bY bZ c0 c1 c3 c4 c5 c6 c7 c8 c9 ca cb b1 b3 b4 b5 b6 b7 b8 b9 bd be bg bh bi bj bk bm:Value) (w':World),Below C.heap.size C w'→Q .ret ⟨List.toArray (u0::u1::u2::(.pointer (some ⟨g3,0,none⟩))::(.pointer (some ⟨g4,0,none⟩))::(.pointer (some ⟨g5,0,none⟩))::(.bool true)::u7::u8::u9::em::bf::bn::bo::ai::aj::ak::al::am::an::ap::aq::ar::au::av::
   aw::ax::ay::az::aA::aB::aC::aD::aE::aF::aG::aH::aJ::aK::aL::aM::aN::aO::aP::aQ::aR::aS::aT::aU::aV::aW::aX::aY::bp::bq::br::bs::bt::bu::bv::bw::bx::
   bz::bA::bB::bC::bD::bE::bF::bG::bH::bI::bJ::bK::bL::bM::bN::bO::bP::bQ::bR::bS::bT::bU::bV::bW::bX::bY::bZ::c0::c1::c3::c4::c5::c6::c7::c8::c9::ca::
   cb::b1::b3::b4::b5::b6::b7::b8::b9::bd::be::bg::bh::bi::bj::bk::bm::[]),[]⟩ w')
  (hF:(¬∃i,UF a b ring l i)→∀(bf bn bo bp bq br bs bt bu bv bw bx bz bA bB bC bD bE bF bG bH bI bJ bK bL bM bN bO bP bQ bR bS bT bU bV bW bX bY bZ c0 c1 c3 c4 c5 c6 c7 c8 c9 ca cb b1 b3 b4 b5 b6 b7 b8 b9 bd be bg bh bi bj bk bm:Value) (w':World),Below C.heap.size C w'→Q (.exit 4) ⟨List.toArray (u0::u1::u2::(.pointer (some ⟨g3,0,none⟩))::(.pointer (some ⟨g4,0,none⟩))::(.pointer (some ⟨g5,0,none⟩))::(.bool false)::u7::u8::u9::(.int .i64 m)::bf::bn::bo::ai::aj::ak::al::am::an::ap::aq::ar::
   au::av::aw::ax::ay::az::aA::aB::aC::aD::aE::aF::aG::aH::aJ::aK::aL::aM::aN::aO::aP::aQ::aR::aS::aT::aU::aV::aW::aX::aY::bp::bq::br::bs::bt::bu::bv::
   bw::bx::bz::bA::bB::bC::bD::bE::bF::bG::bH::bI::bJ::bK::bL::bM::bN::bO::bP::bQ::bR::bS::bT::bU::bV::bW::bX::bY::bZ::c0::c1::c3::c4::c5::c6::c7::c8::
   c9::ca::cb::b1::b3::b4::b5::b6::b7::b8::b9::bd::be::bg::bh::bi::bj::bk::bm::[]),[]⟩ w'):
  (Code.loop (CG Tryz.f51 2)).wp Tryz.prog Q ⟨List.toArray (u0::u1::u2::(.pointer (some ⟨g3,0,none⟩))::(.pointer (some ⟨g4,0,none⟩))::(.pointer (some ⟨g5,0,none⟩))::(.bool false)::u7::u8::u9::(.int .i64 0)::dt::dA::dB::ai::aj::ak::al::am::an::ap::aq::ar::
   au::av::aw::ax::ay::az::aA::aB::aC::aD::aE::aF::aG::aH::aJ::aK::aL::aM::aN::aO::aP::aQ::aR::aS::aT::aU::aV::aW::aX::aY::dC::dD::dE::dF::dG::dH::dI::
   dJ::dK::dL::dM::u64::dN::dO::dP::dQ::dR::dS::dT::dU::dV::dW::dX::dY::dZ::e0::e1::e2::e3::e4::e5::e6::e7::e8::e9::ea::eb::ec::ed::ee::ef::eg::eh::ei::
   ej::ek::el::dh::di::dj::dk::dl::dm::dn::dp::dq::dr::du::dv::dw::dx::dy::dz::[]),[]⟩ w6:=by
 conv=>arg 2; arg 1; whnf
 obtain⟨ba,oa,ya,cQ,en,cH,cr⟩:=k3.at (show 0<2 by omega)
 obtain rfl:ya=a:=by simpa using cH.symm
 obtain⟨bb,ob,yb,cd,cp,G,ct⟩:=k3.at (show 1<2 by omega)
 obtain rfl:yb=b:=by simpa using G.symm
 subst cQ
 obtain⟨rfl,rfl⟩:bb=ba∧ob=oa:=by
  have:=Option.some.inj cd
  injection this with h1 z
  exact⟨h1.symm,z.symm⟩
 have d1:C.cell? ⟨bb,ob,none⟩=some (.int .i64 ya):=by have:=cr 0 (by omega); simpa [Ai] using this
 have d4:C.cell? ⟨bb,ob+1,none⟩=some (.int .i64 yb):=by have:=ct 0 (by omega); simpa [Ai] using this
 have ci:=hide ch
 have ck:=hide cj
 have a8:=hide cm
 have cy:=hide hl
 have V:=hide hm
 have cS:=hide hT
 have cR:=hide hF
 have cU:=hide cn
 obtain⟨tp,cE⟩:∃t,t=p.topo:=⟨_,rfl⟩
 rw [←cE] at d9 a5
 have ew:(tp==4)=false:=by rw [a5]; cases ring <;> rfl
 have d8:Hid (∀(wx:World) (i:Nat),i<m→Calls Tryz.prog 101 #[.int .i64 tp,.slice none 0 0,.int .i64 (m:Int),.int .i64 (i:Int)] wx (Ret fun v w'=>Below wx.heap.size wx w'∧∃f:Int,v=.tuple #[.int .i64 f,.int .i64 (UC ring m i),.int .i64 (-1)])):=hide (fun wx i hi=>by
  rw [a5]
  cases ring
  ·exact VM hi cB
  ·exact VN hi cB)
 clear ch cj cm k3 hl hm hT hF cn cr ct cH G cd a5 cE
 go_loopw [6,10] (fun rr ii wr=>rr=.bool false∧∃i:Nat,ii=.int .i64 (i:Int)∧i≤m∧Hid (Below C.heap.size C wr)∧Hid (∀j,j<i→¬UF ya yb ring l j)) (fun _ ii _=>m - (intOf ii).toNat)
 case atStart=>exact⟨rfl,0,rfl,Nat.zero_le _,cU,hide (fun j h=>absurd h (Nat.not_lt_zero _))⟩
 case round=>
  obtain⟨rfl,i,rfl,hi,hB,hS⟩:=hrel
  have d0:=(a8.out.below hB.out).cell
  by_cases cz:i<m
  ·obtain⟨bl,ol,x,hA,eo,hx,cV⟩:=cy.out.at (show i<l.length by rw [←V.out]; exact cz)
   subst hA
   have I:=hide (hB.out.trans ((Ap wr).mono hB.out.size))
   have a9:∀(wx:World),Below C.heap.size C wx→∀(j:Nat) (y:Int),l[j]?=some y→wx.cell? ⟨bl,ol+j,none⟩=some (.int .i64 y):=fun wx hx j y E=>by
    obtain⟨b2,o2,y2,e,cT,cG,cX⟩:=cy.out.at (AP E)
    obtain⟨rfl,rfl⟩:bl=b2∧ol=o2:=by
     have:=Option.some.inj e
     injection this with h1 z
     exact⟨h1,z⟩
    rw [E] at cG
    obtain rfl:=Option.some.inj cG
    have cq:=cX 0 (by omega)
    simp only [Ai,Nat.mul_one,Nat.add_zero] at cq
    exact(hx.cell (p:=⟨bl,ol+j,none⟩) cT).trans cq
   have d5:=hide a9
   have d6:=a9 _ I.out i x hx
   have d2:=(I.out.cell (p:=⟨bb,ob,none⟩) cp).trans d1
   have cY:=(ck.out.below I.out).cell
   have cZ:=(a8.out.below I.out).cell
   have cW:=(ci.out.below I.out).cell
   have ab:=hide hx
   clear cV hx a9
   by_cases Z:x=ya
   case neg=>
    have W:=hide (show ∀j,j<i+1→¬UF ya yb ring l j from fun j J M=>by
     by_cases e:j=i
     ·subst e
      have:=M.1
      rw [ab.out] at this
      exact Z (Option.some.inj this)
     ·exact hS.out j (by omega) M)
    have da:(x != ya)=true:=by simp [Z]
    clear Z
    go_wp2_with fail
    refine Reg.cP [0,1,0,7,15,0,32,96,224,511] ?_ (by kernel_rfl) (by repeat (first | exact U | refine Reg.NoQ.then ?_ | refine Reg.NoQ.inBlock ?_))
    go_wp2_with fail
    exact⟨⟨(by first | rfl | trivial),i+1,by go_num,by omega,I,W⟩,by simp [intOf]; omega⟩
   have da:(x != ya)=false:=by simp [Z]
   have cF:=hide Z
   clear Z
   go_wp2_with fail
   refine Reg.cP [0,1,0,7,15,0,32,96,224,511] ?_ (by kernel_rfl) (by repeat (first | exact U | refine Reg.NoQ.then ?_ | refine Reg.NoQ.inBlock ?_))
   go_wp2_with fail
   refine Calls.ret (d8.out _ i cz) ?_
   rintro v w7 ⟨co,f,rfl⟩
   have ce:=hide (I.out.trans (co.mono I.out.size))
   have O:=hide (ce.out.trans ((Ap w7).mono ce.out.size))
   have a7:=hide (O.out.trans ((Ap w7.drew).mono O.out.size))
   have er:=(a8.out.below O.out).cell
   have eq:=(ck.out.below O.out).cell
   have et:=(O.out.cell (p:=⟨bb,ob+1,none⟩) cp).trans d4
   have ep:=(ci.out.below a7.out).cell
   clear co d0 cY cZ cW d2 d6
   by_cases J:∃j:Nat,UC ring m i=(j:Int)∧j<m∧(∀y,l[j]?=some y→(UF ya yb ring l i↔y=yb))
   ·obtain⟨j,cu,d7,cv⟩:=J
    obtain⟨y,E⟩:=An (l:=l) (i:=j) (by rw [←V.out]; exact d7)
    have eu:=d5.out _ O.out j y E
    have cw:=hide (cv y E)
    rw [cu]
    clear cu cv E
    by_cases G:y=yb
    ·have db:=hide (show ∃i,UF ya yb ring l i from⟨i,cw.out.2 G⟩)
     have dc:(y==yb)=true:=by simp [G]
     clear G
     go_wp2_with fail
     refine Reg.cP [0,1,3,7,15,7,63,127,7,263,775,1799,4095,8191] ?_ (by kernel_rfl) (by repeat (first | exact U | refine Reg.NoQ.then ?_ | refine Reg.NoQ.inBlock ?_))
     go_wp2_with fail
     exact cS.out db.out _ _ _ _ _ _ _ _ _ _ _ _ _ _ _ _ _ _ _ _ _ _ _ _ _ _ _ _ _ _ _ _ _ _ _ _ _ _ _ _ _ _ _ _ _ _ _ _ _ _ _ _ _ _ _ _ _ _ _ _ _ _ _ _ _ _ _ _ O.out
    ·have W:=hide (show ∀k,k<i+1→¬UF ya yb ring l k from fun k hk M=>by
      by_cases e:k=i
      ·subst e
       exact G (cw.out.1 M)
      ·exact hS.out k (by omega) M)
     have dc:(y==yb)=false:=by simp [G]
     clear G
     go_wp2_with fail
     refine Reg.cP [0,1,3,7,15,7,63,127,7,263,775,1799,4095,8191] ?_ (by kernel_rfl) (by repeat (first | exact U | refine Reg.NoQ.then ?_ | refine Reg.NoQ.inBlock ?_))
     go_wp2_with fail
     refine Reg.cP [0,1,3,7,15,31,63,127,255,511,255,2047,4095,255,8447,24831,57599,131071,262143] ?_ (by kernel_rfl) (by repeat (first | exact U | refine Reg.NoQ.then ?_ | refine Reg.NoQ.inBlock ?_))
     go_wp2_with fail
     exact⟨⟨(by first | rfl | trivial),i+1,by go_num,by omega,a7,W⟩,by simp [intOf]; omega⟩
   ·have a4:i+1=m∧ring=false:=by
     by_cases he:i+1=m
     ·refine⟨he,?_⟩
      cases ring
      ·rfl
      ·exfalso
       refine J ⟨0,by unfold UC; rw [if_pos he]; rfl,by omega,fun y E=>?_⟩
       constructor
       ·rintro⟨-,z | ⟨-,-,z⟩⟩
        ·have:=AP z; rw [←V.out] at this; omega
        ·rw [E] at z; exact Option.some.inj z
       ·intro e
        exact⟨by rw [ab.out,cF.out],.inr ⟨rfl,by rw [←V.out]; exact he,by rw [E,e]⟩⟩
     ·exfalso
      refine J ⟨i+1,by unfold UC; rw [if_neg he]; simp,by omega,fun y E=>?_⟩
      constructor
      ·rintro⟨-,z | ⟨-,z,-⟩⟩
       ·rw [E] at z; exact Option.some.inj z
       ·rw [←V.out] at z; exact absurd z he
      ·intro e
       exact⟨by rw [ab.out,cF.out],.inl (by rw [E,e])⟩
    have cD:UC ring m i= -1:=by unfold UC; rw [if_pos a4.1,a4.2]; rfl
    have W:=hide (show ∀k,k<i+1→¬UF ya yb ring l k from fun k hk M=>by
     by_cases e:k=i
     ·subst e
      obtain⟨-,z | ⟨z,-,-⟩⟩:=M
      ·have:=AP z; rw [←V.out] at this; omega
      ·rw [a4.2] at z; cases z
     ·exact hS.out k (by omega) M)
    rw [cD]
    clear J a4 cD
    go_wp2_with fail
    refine Reg.cP [0,1,3,7,15,7,63,127,7,263,775,1799,4095,8191] ?_ (by kernel_rfl) (by repeat (first | exact U | refine Reg.NoQ.then ?_ | refine Reg.NoQ.inBlock ?_))
    go_wp2_with fail
    refine Reg.cP [0,1,3,7,15,31,63,127,255,511,255,2047,4095,255,8447,24831,57599,131071,262143] ?_ (by kernel_rfl) (by repeat (first | exact U | refine Reg.NoQ.then ?_ | refine Reg.NoQ.inBlock ?_))
    go_wp2_with fail
    exact⟨⟨(by first | rfl | trivial),i+1,by go_num,by omega,a7,W⟩,by simp [intOf]; omega⟩
  ·obtain rfl:i=m:=by omega
   have W:=hide (show ¬∃i,UF ya yb ring l i from fun⟨j,J⟩=>hS.out j (by rw [V.out]; exact AP J.1) J)
   go_wp2_with fail
   exact cR.out W.out _ _ _ _ _ _ _ _ _ _ _ _ _ _ _ _ _ _ _ _ _ _ _ _ _ _ _ _ _ _ _ _ _ _ _ _ _ _ _ _ _ _ _ _ _ _ _ _ _ _ _ _ _ _ _ _ _ _ _ _ _ _ _ _ _ _ _ hB.out
end Go.Proofs.YtfcfpoemojjglaaGreatDoor
namespace Go.Proofs.YtfcfpoemojjglaaGreatDoor
open Go.RowKit
open K (Am AB D9 At Ba Db BR PQX Ah)
attribute [-go_sem] loadCellsFrom
set_option maxHeartbeats 16000000
set_option maxRecDepth 100000
section
variable {w:World} {cs ds:List Value} {p:Am} {q:AB} {m:Nat}
theorem Vt {A:Option Addr} {cap:Nat} {l:List Int} (h:At w w.heap.size cs p) (h':Ba w w.heap.size ds q) (W:UJ p q) (hl:Sl w w.heap.size 1 Ai A l) (hm:m=l.length) (av:m≤60):
  Calls Tryz.prog 51 #[.agg cs.toArray,.agg ds.toArray,.agg #[.slice none 0 0,.slice A m cap,.int .i64 (m:Int),.slice none 0 0,.slice none 0 0,.int .i64 0]] w (Ret fun v w'=>Below w.heap.size w w'∧∃b:Bool,v=.bool b∧(b=true↔UN q (decide (p.topo=3)) l)):=by
 obtain⟨A1,c1,A2,c2,A3,c3,A4,c4,A5,c5,A6,c6,A7,c7,aR,aP,az,-⟩:=h.cells
 obtain⟨B1,d1,B2,d2,B3,d3,B4,d4,aX,aS,aT,aU,aa,ab,aW,k1,k2,k3,k4⟩:=h'.cells
 obtain⟨w1,bt,a4,ae,aJ⟩:=Ae w cs.toArray 27
 obtain⟨w2,bu,a5,af,aK⟩:=Ae w1 ds.toArray 30
 obtain⟨z,bv,I,ag,aM⟩:=Ae w2 #[.slice none 0 0,.slice A m cap,.int .i64 (m:Int),.slice none 0 0,.slice none 0 0,.int .i64 0] 46
 have a3:=a4.trans (a5.mono a4.size)
 have ap:=a3.trans (I.mono a3.size)
 have y:=hide ap
 have ai:=((ae.below a5).below I)
 have aj:=(af.below I)
 have ak:=ag
 have ar:=hide (hl.keep (w':=z) (B':=z.heap.size) (fun p E=>y.out.cell E) y.out.size)
 have aL:=hide (k2.keep (w':=z) (B':=z.heap.size) (R':=Db z z.heap.size) (fun _ E=>y.out.cell E) (fun _ _ h=>h.keep (fun _ E=>y.out.cell E) y.out.size) y.out.size)
 have aO:=hide (k3.keep (w':=z) (B':=z.heap.size) (fun p E=>y.out.cell E) y.out.size)
 generalize cs.toArray=pc at*
 generalize ds.toArray=qc at*
 have aG:=hide ai
 have a2:=hide aj
 have al:=hide ak
 have aw:=hide hm
 have ay:=hide W
 obtain⟨nb,a9⟩:∃n,n=q.bad.length:=⟨_,rfl⟩
 have ax:=hide a9
 have I:=W.b3
 rw [←a9] at aa I
 obtain⟨na,a7⟩:∃n,n=q.adj.length:=⟨_,rfl⟩
 have a8:=hide a7
 rw [←a7] at ab
 have aV:=hide aa
 have aA:=hide ab
 have aQ:=hide az
 have aY:Hid (p.topo=if decide (p.topo=3) then 3 else 2):=hide (by rcases W.tp with e | e <;> rw [e] <;> rfl)
 clear h h' W hl hm ai aj ak a4 a5 a3 ap ae af ag aJ aK aM k1 k2 k3 k4 aR aX aP az aS aT aU ab aW a9 a7
 clear I aa
 have aH:nb≤3:=by rw [ax.out]; exact ay.out.b3
 go_enter Tryz.func51,Tryz.ntmps51
 go_wp2_with fail
 refine Vp a2.out al.out aV.out ax.out aL.out ar.out aw.out av aH ?_ ?_ ?_
 ·repeat (first | exact Reg.NoQ.body (fun _ _ h=>h) (fun _ h=>h) | refine Reg.NoQ.then ?_ | refine Reg.NoQ.inBlock ?_)
 ·intro an
  have ao:=hide an
  iterate 37 (intro _)
  intro w5 J
  have ah:=hide J
  have br:=(a2.out.below J).cell
  have bs:=aA.out
  clear J an
  by_cases V:na=0
  ·have C:=hide (y.out.trans (ah.out.mono y.out.size))
   have G:=hide (show q.adj=[] from List.length_eq_zero_iff.1 (by rw [←a8.out]; exact V))
   subst V
   go_wp2_with fail
   go_ret
   exact⟨C.out,true,rfl,⟨fun _=>⟨ao.out,fun a b e=>by rw [G.out] at e; cases e⟩,fun _=>rfl⟩⟩
  ·obtain⟨a,b,G⟩:∃a b,q.adj=[a,b]:=by
    rcases ay.out.adj with h | ⟨a,b,h,-,-⟩
    ·exact absurd (by rw [a8.out,h]; rfl) V
    ·exact⟨a,b,h⟩
   have am:=hide G
   obtain rfl:na=2:=by rw [a8.out,G]; rfl
   have a6:=aO.out
   rw [G] at a6
   have aN:=hide a6
   clear a6 G V
   go_wp2_with fail
   refine Vo (ring:=decide (p.topo=3)) aG.out a2.out al.out aQ.out aY.out aA.out aN.out ar.out aw.out av ah.out ?_ ?_ ?_
   ·repeat (first | exact Reg.NoQ.body (fun _ _ h=>h) (fun _ h=>h) | refine Reg.NoQ.then ?_ | refine Reg.NoQ.inBlock ?_)
   ·intro aB
    have U:=hide aB
    iterate 67 (intro _)
    intro w6 M
    have C:=hide (y.out.trans (M.mono y.out.size))
    clear M aB
    go_wp2_with fail
    go_ret
    exact⟨C.out,true,rfl,⟨fun _=>⟨ao.out,fun a' b' e=>by rw [am.out] at e; injection e with e1 Z; injection Z with Z _; subst e1 Z; exact U.out⟩,fun _=>rfl⟩⟩
   ·intro O
    have U:=hide O
    iterate 66 (intro _)
    intro w6 M
    have C:=hide (y.out.trans (M.mono y.out.size))
    clear M O
    go_wp2_with fail
    go_ret
    exact⟨C.out,false,rfl,⟨fun e=>(by cases e),fun hd=>absurd (hd.nb a b am.out) U.out⟩⟩
 ·intro O
  have U:=hide O
  iterate 38 (intro _)
  intro w5 J
  have C:=hide (y.out.trans (J.mono y.out.size))
  clear J O
  go_wp2_with fail
  go_ret
  exact⟨C.out,false,rfl,⟨fun e=>(by cases e),fun hd=>absurd hd.cn U.out⟩⟩
theorem VP {A:Option Addr} {cap:Nat} {l:List Int} (h:At w w.heap.size cs p) (Z:Sl w w.heap.size 1 Ai A l) (hm:m=l.length) (W:∀x∈l,inN (p.states.length:Int) x=true) (hL:p.states.length≤60):
  Calls Tryz.prog 49 #[.agg cs.toArray,.agg #[.slice none 0 0,.slice A m cap,.int .i64 (m:Int),.slice none 0 0,.slice none 0 0,.int .i64 0]] w (Ret fun v w'=>v=.bool true∧Below w.heap.size w w'):=by
 have a3:=h.rules_at.1
 obtain⟨w1,af,C,M,a8⟩:=Ae w cs.toArray 27
 obtain⟨w2,ag,E,O,a9⟩:=Ae w1 #[.slice none 0 0,.slice A m cap,.int .i64 (m:Int),.slice none 0 0,.slice none 0 0,.int .i64 0] 46
 have V:=C.trans (E.mono C.size)
 have y:=hide V
 have U:=(M.below E)
 have z:=O
 have J:=Tk (cap:=cap) (h.keep (w':=w2) (B':=w2.heap.size) (fun p I=>y.out.cell I) y.out.size) (Z.keep (w':=w2) (B':=w2.heap.size) (fun p I=>y.out.cell I) y.out.size) W hL
 rw [←hm] at J
 have ab:=hide J
 generalize cs.toArray=pc at*
 have a5:=hide z
 have aa:=Ah U a3
 have a7:=z.cell
 have iv:K.inC (m:Int) 0 (m:Int)=true:=by simp [K.inC]
 clear h Z hm W U z C E V M O a8 a9 a3 J
 go_enter Tryz.func49,Tryz.ntmps49
 go_wp2_with fail
 refine Calls.ret ab.out ?_
 rintro v w3 ⟨rfl,G⟩
 have a6:=hide (y.out.trans (G.mono y.out.size))
 have ae:=(a5.out.below G).cell
 clear G aa a7
 go_wp2_with (go_at_call 100; refine(Kz _ _ _ _).mono ?_; rintro e w' ⟨rfl,rfl⟩; rw [iv])
 go_ret
 exact⟨rfl,a6.out⟩
theorem Vj {A:Option Addr} {cap:Nat} {l:List Int} (h:At w w.heap.size cs p) (M:Ba w w.heap.size ds q) (ar:p.Small) (au:q.Small) (hT:K.SpOK w) (h1:K.propE K.nameOK p q=0) (hk:q.kind=1) (U:UJ p q) (hl:Sl w w.heap.size 1 Ai A l) (hm:m=l.length) (ao:∀x∈l,inN (p.states.length:Int) x=true) (ap:m≤60):
  Calls Tryz.prog 19 #[.agg cs.toArray,.agg ds.toArray,.agg #[.slice none 0 0,.slice A m cap,.int .i64 (m:Int),.slice none 0 0,.slice none 0 0,.int .i64 0]] w (Ret fun v w'=>Below w.heap.size w w'∧∃b:Bool,v=.tuple #[.bool b,.int .i64 0]∧(b=true↔UN q (decide (p.topo=3)) l)):=by
 obtain⟨A1,c1,A2,c2,A3,c3,A4,c4,A5,c5,A6,c6,A7,c7,a8,aN,aO,-⟩:=h.cells
 obtain⟨B1,d1,B2,d2,B3,d3,B4,d4,a9,aQ,aR,-⟩:=M.cells
 obtain⟨w1,bh,a3,ad,aC⟩:=Ae w cs.toArray 27
 obtain⟨w2,bi,a4,ae,aD⟩:=Ae w1 ds.toArray 30
 obtain⟨G,bj,O,af,aE⟩:=Ae w2 #[.slice none 0 0,.slice A m cap,.int .i64 (m:Int),.slice none 0 0,.slice none 0 0,.int .i64 0] 46
 have a2:=a3.trans (a4.mono a3.size)
 have ak:=a2.trans (O.mono a2.size)
 have C:=hide ak
 have V:=((ad.below a4).below O)
 have Z:=(ae.below O)
 have ai:=af
 have aT:Hid (∀wx,Below G.heap.size G wx→Calls Tryz.prog 48 #[.agg cs.toArray,.agg ds.toArray] wx (Ret fun v w'=>v=.int .i64 0∧Below wx.heap.size wx w')):=hide (fun wx J=>by
  have y:=C.out.trans (J.mono C.out.size)
  have:=K.refPropValidate_any (h.keep (fun p z=>y.cell z) y.size) (M.keep (fun p z=>y.cell z) y.size) ar au (hT.below y)
  rw [h1] at this
  exact this)
 have aP:Hid (∀wx,Below G.heap.size G wx→Calls Tryz.prog 49 #[.agg cs.toArray,.agg #[.slice none 0 0,.slice A m cap,.int .i64 (m:Int),.slice none 0 0,.slice none 0 0,.int .i64 0]] wx (Ret fun v w'=>v=.bool true∧Below wx.heap.size wx w')):=hide (fun wx J=>by
  have y:=C.out.trans (J.mono C.out.size)
  exact VP (h.keep (fun p z=>y.cell z) y.size) (hl.keep (fun p z=>y.cell z) y.size) hm ao (by have:=U.L.2; omega))
 have az:Hid (∀wx,Below G.heap.size G wx→Calls Tryz.prog 51 #[.agg cs.toArray,.agg ds.toArray,.agg #[.slice none 0 0,.slice A m cap,.int .i64 (m:Int),.slice none 0 0,.slice none 0 0,.int .i64 0]] wx (Ret fun v w'=>Below wx.heap.size wx w'∧∃b:Bool,v=.bool b∧(b=true↔UN q (decide (p.topo=3)) l))):=hide (fun wx J=>by
  have y:=C.out.trans (J.mono C.out.size)
  exact Vt (h.keep (fun p z=>y.cell z) y.size) (M.keep (fun p z=>y.cell z) y.size) U (hl.keep (fun p z=>y.cell z) y.size) hm ap)
 rw [hk] at aR
 obtain⟨tp,aa⟩:∃t,t=p.topo:=⟨_,rfl⟩
 have bg:(tp==4)=false:=by rw [aa]; have:=U.tp; simp; omega
 rw [←aa] at aO
 generalize cs.toArray=pc at*
 generalize ds.toArray=qc at*
 have W:=hide V
 have ah:=hide Z
 have aj:=hide ai
 have aq:=hide a8
 have aS:=hide a9
 have aF:=Ah V a8
 have aJ:=Ah Z a9
 clear h M ar au hT h1 hk U hl hm ao ap V Z ai a3 a4 O a2 ak ad ae af aC aD aE a8 a9 aN aQ aa
 go_enter Tryz.func19,Tryz.ntmps19
 go_wp2_with fail
 refine Calls.ret (aT.out _ (Below.refl _ _)) ?_
 rintro v w4 ⟨rfl,I⟩
 have a5:=hide I
 have aG:=Ah (W.out.below I) aq.out
 have aB:=(ah.out.below I).cell
 have aL:(loadCellsFrom ⟨w2.heap.size,0,none⟩ 0 6 #[]).run Tryz.prog w4=.ok _ w4:=Ah (aj.out.below I) rfl
 clear I aF aJ
 go_wp2_with fail
 refine Calls.ret (aP.out _ a5.out) ?_
 rintro v w5 ⟨rfl,al⟩
 have E:=hide (a5.out.trans (al.mono a5.out.size))
 have aH:=Ah (W.out.below E.out) aq.out
 have aK:=Ah (ah.out.below E.out) aS.out
 have aA:=(W.out.below E.out).cell
 have aM:(loadCellsFrom ⟨w2.heap.size,0,none⟩ 0 6 #[]).run Tryz.prog w5=.ok _ w5:=Ah (aj.out.below E.out) rfl
 clear al aG aB aL
 go_wp2_with fail
 refine Calls.ret (az.out _ E.out) ?_
 rintro v w6 ⟨am,b,rfl,an⟩
 have ax:=hide (C.out.trans ((E.out.trans (am.mono E.out.size)).mono C.out.size))
 have ay:=hide an
 clear am an aH aK aA aM
 go_wp2_with fail
 refine bodyPost_ret (v:=.tuple #[.bool b,.int .i64 0]) (by simp [results,Tryz.results19,go_sem]) rfl ⟨ax.out,b,rfl,ay.out⟩
end
end Go.Proofs.YtfcfpoemojjglaaGreatDoor
namespace Go.Proofs.YtfcfpoemojjglaaGreatDoor
open Go.RowKit
open K (Am AB D9 At Ba Db BR PQX Ah DY Gr)
attribute [-go_sem] loadCellsFrom
set_option maxHeartbeats 16000000
set_option maxRecDepth 100000
theorem VL {w:World} {cs ds:List Value} {p:Am} {q:AB} {A:Option Addr} {c:Nat} {l:List Int} (h:At w w.heap.size cs p) (h':Ba w w.heap.size ds q) (hf:p.Fits) (hg:q.Fits) (hl:Sl w w.heap.size 1 Ai A l) (hT:K.SpOK w) (hP:BV w):
  Calls Tryz.prog 6 #[.agg cs.toArray,.agg ds.toArray,.slice A l.length c] w (Ret fun v w'=>v=.bool true∧Below w.heap.size w w'):=by
 have aT:=h.rules_at.1
 obtain⟨B1,d1,B2,d2,B3,d3,B4,d4,aU,-⟩:=h'.cells
 obtain⟨w1,ch,ad,b4,bJ⟩:=Ae w cs.toArray 27
 obtain⟨w2,ci,aM,b5,bK⟩:=Ae w1 ds.toArray 30
 have a2:=hide (ad.trans (aM.mono ad.size))
 have a9:=hide (show PQX w2 w.heap.size w1.heap.size cs.toArray ds.toArray p q from⟨h.keep (fun _ hp=>a2.out.cell hp) a2.out.size,h'.keep (fun _ hp=>a2.out.cell hp) a2.out.size,b4.below aM,b5,hT.below a2.out⟩)
 generalize cs.toArray=pc at*
 generalize ds.toArray=qc at*
 obtain⟨m,hm⟩:∃m,m=l.length:=⟨_,rfl⟩
 rw [←hm]
 have az:=hide hm
 have bo:=hide hl
 have bV:=hl.1
 rw [←hm] at bV
 have bj:Hid (Calls Tryz.prog 9 #[.agg pc,.agg qc] w2 (Ret fun v w'=>DY v (p.Small∧q.Small)∧Below w2.heap.size w2 w')):=hide (Gr (cs:=pc.toList) (ds:=qc.toList) a9.out.pr a9.out.qr hf hg)
 have bs:=hide aT
 have bt:=hide aU
 have bM:=Ah a9.out.b2 aT
 have bP:=Ah a9.out.b3 aU
 have a8:=hide hP
 clear h h' ad aM b4 b5 bJ bK hf hg aT aU hT hP hl hm
 go_enter Tryz.func6,Tryz.ntmps6
 go_wp2_with fail
 refine Calls.ret bj.out ?_
 rintro v w3 ⟨⟨b1,rfl,ad⟩,aN⟩
 have bD:=hide ad
 have ai:=hide (a9.out.at aN)
 have J:=hide (a2.out.trans (aN.mono a2.out.size))
 clear ad aN bM bP bj
 cases b1
 case true=>
  go_wp2_with fail
  refine Calls.ret (Er (a8.out.below J.out)) ?_
  rintro v w4 ⟨rfl,M⟩
  have aJ:=hide (J.out.trans (M.mono J.out.size))
  clear M
  go_wp2_with fail
  go_ret
  exact⟨rfl,aJ.out⟩
 by_cases bT:60<m
 ·have bU:(60:Int)<(m:Int):=by omega
  go_wp2_with fail
  refine Calls.ret (Er (a8.out.below J.out)) ?_
  rintro v w4 ⟨rfl,M⟩
  have aJ:=hide (J.out.trans (M.mono J.out.size))
  clear M
  go_wp2_with fail
  go_ret
  exact⟨rfl,aJ.out⟩
 have bU:¬(60:Int)<(m:Int):=by omega
 have aA:=hide (bD.out rfl)
 obtain⟨Z,ax⟩:∃e,Hid (K.checkW K.nameOK p q=e):=⟨_,rfl⟩
 have bW:Hid (∀wx,Hid (PQX wx w.heap.size w1.heap.size pc qc p q)→Below w.heap.size w wx→Calls Tryz.prog 14 #[.agg pc,.agg qc] wx (Ret fun v w'=>Ej wx Z p.states.length (UL p q) v w')):=hide (fun wx I aw=>by
  rw [←ax.out]
  exact Vi (cs:=pc.toList) (ds:=qc.toList) I.out.pr I.out.qr aA.out.1 aA.out.2 I.out.tab (a8.out.below aw))
 have bN:=Ah ai.out.b2 bs.out
 have bQ:=Ah ai.out.b3 bt.out
 go_wp2_with fail
 refine Calls.ret (bW.out _ ai J.out) ?_
 intro r w4 hr
 obtain⟨M,z,dv,rfl,b7,-,hM⟩:=hr.get
 obtain⟨E1,h1,E2,h2,E3,h3,w5,rfl,cj,bi,b6,b9⟩:=Hw b7
 have aD:=M.trans (bi.mono M.size)
 have av:=hide (J.out.trans (aD.mono J.out.size))
 have bf:=hide (ai.out.at aD)
 have bS:(loadCellsFrom ⟨w4.heap.size,0,none⟩ 0 5 #[]).run Tryz.prog w5=.ok _ w5:=Ah b6 rfl
 have aW:z.edges.length≤3000000∧z.start.length≤4000000:=by
  by_cases C:Z=0
  ·obtain⟨t,ac,hC,au,rfl⟩:=hM C
   have bz:=(FK (ax.out.trans C)).L.2
   have e2:ac.length*p.states.length≤1024*6:=Nat.mul_le_mul au bz
   exact⟨by rw [Rv]; omega,by simp [AG]⟩
  ·obtain⟨hb,⟨g1,e⟩ | ⟨g1,-⟩⟩:=hr
   ·have he:∀{a b:Nat} {A B:Option Addr} {x y:Nat},Value.slice A a x=Value.slice B b y→a=b:=fun e=>by cases e; rfl
    have e2:#[Value.agg #[.int .i64 z.letters,.int .i64 z.states,.slice E1 z.start.length h1,.slice E2 z.accept.length h2,.slice E3 z.edges.length h3],.int .i64 Z]=#[.agg BQ,.int .i64 Z]:=by injection e
    have e3:Value.agg #[.int .i64 z.letters,.int .i64 z.states,.slice E1 z.start.length h1,.slice E2 z.accept.length h2,.slice E3 z.edges.length h3]=.agg BQ:=congrArg (fun a:Array Value=>a.getD 0 undef) e2
    have e4:#[.int .i64 z.letters,.int .i64 z.states,Value.slice E1 z.start.length h1,.slice E2 z.accept.length h2,.slice E3 z.edges.length h3]=BQ:=by injection e3
    have e5:=he (congrArg (fun a:Array Value=>a.getD 4 undef) e4:Value.slice E3 z.edges.length h3=.slice none 0 0)
    have e6:=he (congrArg (fun a:Array Value=>a.getD 2 undef) e4:Value.slice E1 z.start.length h1=.slice none 0 0)
    omega
   ·exact absurd g1 C
 have aj:=LN (c:=c) b9 aW.1 aW.2 (bo.out.keep (w':=w5) (B':=w5.heap.size) (fun p hp=>av.out.cell hp) av.out.size) (Nat.le_refl _)
 rw [←az.out] at aj
 have bh:=hide aj
 have aH:=hide hM
 clear hr M b7 bi b6 b9 aD bN bQ aW aj hM
 go_wp2_with fail
 refine Calls.ret bh.out ?_
 rintro r w6 ⟨rfl,aO⟩
 have a3:=hide (av.out.trans (aO.mono av.out.size))
 have bg:=hide (bf.out.at aO)
 clear aO bh bS
 have bn:=hide (Er (a8.out.below a3.out))
 by_cases C:Z=0
 case neg=>
  have bX:(Z != 0)=true:=by simp [C]
  have U:z.accR l=.tuple #[.bool (z.acc l),.int .i64 (De (z.accV l))]:=rfl
  rw [U]
  generalize z.acc l=bA
  generalize De (z.accV l)=eA
  clear C U
  go_wp2_with fail
  refine Calls.ret bn.out ?_
  rintro v w7 ⟨rfl,G⟩
  have aa:=hide (a3.out.trans (G.mono a3.out.size))
  clear G
  go_wp2_with fail
  go_ret
  exact⟨rfl,aa.out⟩
 have bX:(Z != 0)=false:=by simp [C]
 obtain⟨t,ac,hC,au,aR⟩:=aH.out C
 have bq:=FK (ax.out.trans C)
 have a6:=Hf (ax.out.trans C)
 cases hv:z.accV l
 ·have U:z.accR l=.tuple #[.bool (z.acc l),.int .i64 1]:=by show Value.tuple #[.bool (z.acc l),.int .i64 (De (z.accV l))]=_; rw [hv]; rfl
  rw [U]
  generalize z.acc l=bA
  clear C U hC au aR bq a6 hv aH
  go_wp2_with fail
  refine Calls.ret bn.out ?_
  rintro v w7 ⟨rfl,G⟩
  have aa:=hide (a3.out.trans (G.mono a3.out.size))
  clear G
  go_wp2_with fail
  go_ret
  exact⟨rfl,aa.out⟩
 ·have br:z.ok=true:=by
   unfold WA.accV at hv
   exact(Bool.and_eq_true _ _ ▸ hv).1
  obtain⟨u,hu,V,W,aP⟩:∃u,l=Ak u∧okW p.states.length u∧∃b,z.acc l=b∧b=UL p q u:=by
   rcases WA.acc_cases br l with⟨g1,-⟩ | ⟨u,hu,V,-,aj⟩
   ·rw [hv] at g1; cases g1
   ·subst aR
    rw [GF] at V
    exact⟨u,hu,V,_,rfl,by rw [aj,Kl hC.ok V]; exact hC.can.lang u V⟩
  have U:z.accR l=.tuple #[.bool W,.int .i64 0]:=by show Value.tuple #[.bool (z.acc l),.int .i64 (De (z.accV l))]=_; rw [hv,aP.1]; rfl
  rw [U]
  have ae:=aP.2
  have bp:m=u.length:=by rw [az.out,hu]; simp [Ak]
  have bm:∀x∈l,inN (p.states.length:Int) x=true:=fun x I=>by
   rw [hu] at I
   obtain⟨y,hy,rfl⟩:=List.mem_map.1 I
   rw [D3]
   have:=V y hy
   omega
  have aS:=U7 a6.1 a6.2.2 a6.2.1
  have ar:=hide (bg.out.at (Ap w6))
  have aK:=hide (a3.out.trans ((Ap w6).mono a3.out.size))
  have bG:Hid (∀wx,Hid (PQX wx w.heap.size w1.heap.size pc qc p q)→Below w.heap.size w wx→Calls Tryz.prog 18 #[.slice A m c] wx (Ret fun v w'=>Below wx.heap.size wx w'∧∃A' cap,v=.agg #[.slice none 0 0,.slice A' m cap,.int .i64 (m:Int),.slice none 0 0,.slice none 0 0,.int .i64 0]∧Sl w' w'.heap.size 1 Ai A' l)):=hide (fun wx _ aw=>M5 (bo.out.keep (fun p hp=>aw.cell hp) aw.size) az.out (by omega))
  have bI:Hid (∀wx A7 ao,Hid (PQX wx w.heap.size w1.heap.size pc qc p q)→Sl wx wx.heap.size 1 Ai A7 l→Calls Tryz.prog 19 #[.agg pc,.agg qc,.agg #[.slice none 0 0,.slice A7 m ao,.int .i64 (m:Int),.slice none 0 0,.slice none 0 0,.int .i64 0]] wx (Ret fun v w'=>Below wx.heap.size wx w'∧∃b:Bool,v=.tuple #[.bool b,.int .i64 0]∧(b=true↔UN q (decide (p.topo=3)) l))):=hide (fun wx A7 ao I hs=>Vj (cs:=pc.toList) (ds:=qc.toList) I.out.pr I.out.qr aA.out.1 aA.out.2 I.out.tab a6.1 a6.2.2 aS hs az.out bm (by omega))
  have bO:=Ah ar.out.b2 bs.out
  have bR:=Ah ar.out.b3 bt.out
  have bx:Hid (∀O:Bool,(O=true↔UN q (decide (p.topo=3)) l)→(W==(decide (0<m)&&O))=true):=hide (fun O ak=>by
   by_cases a4:m=0
   ·have:u=[]:=List.length_eq_zero_iff.1 (by omega)
    rw [ae,this,a4]
    unfold UL UK
    simp
   ·have bZ:u≠[]:=fun e=>a4 (by rw [bp,e]; rfl)
    rw [hu,←Vm aS V bZ] at ak
    have bE:W=UK (Uw q) (Uy q) (decide (p.topo=3)) u:=ae
    rw [←bE] at ak
    have:decide (0<m)=true:=decide_eq_true (by omega)
    rw [this,Bool.true_and]
    cases O <;> cases W <;> simp_all)
  clear C U hC au aR bq a6 hv aH br ae bp bm hu V aP bT bg bf ai a9 aS
  go_wp2_with fail
  refine Reg.cC [0,0,0,4,15,31,63,63,127,511] [0,1,2,3,4,5,6,7,8,9] ?_
  refine Reg.rest_walk' [0,1,2] [3,4,5,6,7,8,9] rfl (by kernel_rfl) ?_
  intro Qf E
  go_wp2_with fail
  first | refine E _ _ ?_ | skip
  try clear E
  refine Reg.rest_act' 3 [4,5,6,7,8,9] [0,1] rfl (by kernel_rfl) ?_
  intro Qf E
  simp only [gT,gS,gZ]
  go_wp2_with fail
  refine Calls.ret (bG.out _ ar aK.out) ?_
  rintro v w7 ⟨G,A7,ao,rfl,bd⟩
  go_wp2_with fail
  first | refine E _ _ ⟨Reg.same_below (G) [0,1] rfl,?_⟩ | refine⟨Reg.same_below (G) [0,1] rfl,?_⟩
  try clear E
  have aa:=hide (aK.out.trans (G.mono aK.out.size))
  have bC:=hide (ar.out.at G)
  have bB:=hide bd
  clear G bd
  refine Reg.rest_act' 4 [5,6,7,8,9] [] rfl (by kernel_rfl) ?_
  intro Qf E
  simp only [gT,gS,gZ]
  go_wp2_with fail
  refine Calls.ret (bI.out _ A7 ao bC bB.out) ?_
  rintro v w8 ⟨ak,O,rfl,ae⟩
  go_wp2_with fail
  first | refine E _ _ ⟨Reg.nm,?_⟩ | refine⟨Reg.nm,?_⟩
  try clear E
  have ab:=hide (aa.out.trans (ak.mono aa.out.size))
  have bF:Hid ((W==(decide (0<m)&&O))=true):=hide (bx.out O ae)
  clear ak ae bR bO
  have bH:(m=0∧W=false)∨((0:Int)<(m:Int)∧(W==O)=true):=by
   have C:=bF.out
   by_cases a4:m=0
   ·left
    rw [a4] at C
    refine⟨a4,?_⟩
    simpa using C
   ·right
    rw [decide_eq_true (by omega:0<m),Bool.true_and] at C
    exact⟨by omega,C⟩
  rcases bH with⟨a4,rfl⟩ | ⟨cg,cf⟩
  ·subst a4
   refine Reg.rest_walk' [5,6,7,8,9] [] rfl (by kernel_rfl) ?_
   intro Qf E
   go_wp2_with fail
   first | refine E _ _ ?_ | skip
   try clear E
   first | refine Reg.rest_end ?_ | skip
   go_wp2_with fail
   refine Calls.ret (Er (a8.out.below ab.out)) ?_
   rintro v w9 ⟨rfl,al⟩
   have aL:=hide (ab.out.trans (al.mono ab.out.size))
   clear al
   go_wp2_with fail
   go_ret
   exact⟨rfl,aL.out⟩
  ·refine Reg.rest_walk' [5,6,7,8,9] [] rfl (by kernel_rfl) ?_
   intro Qf E
   go_wp2_with fail
   first | refine E _ _ ?_ | skip
   try clear E
   first | refine Reg.rest_end ?_ | skip
   go_wp2_with fail
   refine Calls.ret (Er (a8.out.below ab.out)) ?_
   rintro v w9 ⟨rfl,al⟩
   have aL:=hide (ab.out.trans (al.mono ab.out.size))
   clear al
   go_wp2_with fail
   go_ret
   exact⟨rfl,aL.out⟩
end Go.Proofs.YtfcfpoemojjglaaGreatDoor
