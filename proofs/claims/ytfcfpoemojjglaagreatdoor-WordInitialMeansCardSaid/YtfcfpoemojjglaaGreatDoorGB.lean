/-
  Part GB of a proof.
-/
import Derived.Test.YtfcfpoemojjglaaGreatDoorPA
import Derived.Test.YtfcfpoemojjglaaGreatDoorCY
import Derived.Test.YtfcfpoemojjglaaGreatDoorFB
import Derived.Test.YtfcfpoemojjglaaGreatDoorFC
import Derived.Test.YtfcfpoemojjglaaGreatDoorPK
set_option maxHeartbeats 16000000
set_option maxRecDepth 100000
set_option linter.unusedVariables false
set_option linter.unusedSimpArgs false
namespace Go.Proofs.YtfcfpoemojjglaaGreatDoor
open Go.RowKit
open K (Am AB At Ba PQX Ah)
attribute [-go_sem] loadCellsFrom
set_option maxHeartbeats 16000000
set_option maxRecDepth 100000
structure Ek (p:Am):Prop where
 ms:p.messages.length=0
 vs:p.values.length=0
 rs:p.res.length=0
 fl:p.fault=0
 tp:p.topo=2∨p.topo=3
theorem Ml {ok:ByteArray→Bool} {p:Am} (h:K.protE ok p=0) (ht:p.topo=2∨p.topo=3):Ek p:=by
 unfold K.protE at h
 obtain⟨-,z⟩:=AY.1 h
 obtain⟨-,g2⟩:=AY.1 z
 obtain⟨-,C⟩:=AY.1 g2
 obtain⟨-,g4⟩:=AY.1 C
 obtain⟨-,g5⟩:=AY.1 g4
 obtain⟨g6,-⟩:=AY.1 g5
 have y:=(Gg (by decide)).1 g6
 have M:p.topo≠1:=by omega
 simp only [M,decide_false,Bool.not_false,Bool.true_and,Bool.false_and,Bool.or_false,Bool.or_eq_false_iff,Bool.not_eq_false',decide_eq_true_eq,List.isEmpty_iff] at y
 obtain⟨⟨⟨E,G⟩,I⟩,J⟩:=y
 exact⟨by rw [E]; rfl,by rw [G]; rfl,by rw [I]; rfl,J,ht⟩
theorem Kz (n y z:Int) (w:World):Calls Tryz.prog 100 #[.int .i64 n,.int .i64 y,.int .i64 z] w fun e w'=>e=.returned (.bool (K.inC n y z))∧w=w':=by
 by_cases h:y≤n
 all_goals
  go_enter Tryz.func100,Tryz.ntmps100
  go_wp2
  go_ret
  exact⟨by simp [K.inC]; omega,rfl⟩
theorem J9 (w:World):Calls Tryz.prog 134 #[.slice none 0 0,.int .i64 0] w fun e w'=>e=.returned (.bool true)∧w=w':=by
 go_enter Tryz.func134,Tryz.ntmps134
 go_wp2_with fail
 go_loopw [5] (fun h wr=>h=.int .i64 0∧wr=w) (fun _ _=>0)
 case atStart=>exact⟨rfl,rfl⟩
 case round=>
  obtain⟨rfl,rfl⟩:=hrel
  go_wp2_with fail
  go_ret
  exact⟨rfl,rfl⟩
section
variable {w:World} {cs ds:List Value} {p:Am} {q:AB} {m:Nat}
theorem Rb (h:At w w.heap.size cs p) (y:Ek p):Calls Tryz.prog 133 #[.agg cs.toArray,.agg #[.int .i64 (m:Int),.int .i64 0,.int .i64 0]] w (Ret fun v w'=>v=.int .i64 (m:Int)∧Below w.heap.size w w'):=by
 obtain⟨A1,c1,A2,c2,A3,c3,A4,c4,A5,c5,A6,c6,A7,c7,a4,au,av,aw,W,Z,a2,a3,ax,ay,az,j1,j2,j3,j4,j5,j6,j7,j8⟩:=h.cells
 rw [y.ms] at W
 rw [y.vs] at Z
 rw [y.fl] at a2
 rw [y.rs] at a3
 obtain⟨w1,aA,z,E,U⟩:=Ae w cs.toArray 27
 obtain⟨w2,aB,C,G,V⟩:=Ae w1 #[.int .i64 (m:Int),.int .i64 0,.int .i64 0] 44
 have M:=z.trans (C.mono z.size)
 have O:=hide M
 have I:=(E.below C)
 have J:=G
 have aq:=I.cell
 have ar:=J.cell
 generalize cs.toArray=pc at*
 clear h y I J z C E G U V M j1 j2 j3 j4 j5 j6 j7 j8 a4
 go_enter Tryz.func133,Tryz.ntmps133
 go_wp2_with fail
 go_ret
 exact⟨rfl,O.out⟩
theorem L7 (h:At w w.heap.size cs p) (y:Ek p) (Z:1≤m∧m≤8):Calls Tryz.prog 132 #[.agg cs.toArray,.agg #[.int .i64 (m:Int),.int .i64 0,.int .i64 0]] w (Ret fun v w'=>v=.bool true∧Below w.heap.size w w'):=by
 obtain⟨A1,c1,A2,c2,A3,c3,A4,c4,A5,c5,A6,c6,A7,c7,a7,aA,a2,aB,a3,a4,a5,a6,aC,aD,aE,j1,j2,j3,j4,j5,j6,j7,j8⟩:=h.cells
 rw [y.ms] at a3
 rw [y.vs] at a4
 rw [y.fl] at a5
 rw [y.rs] at a6
 obtain⟨w1,aG,z,G,V⟩:=Ae w cs.toArray 27
 obtain⟨w2,aH,C,I,W⟩:=Ae w1 #[.int .i64 (m:Int),.int .i64 0,.int .i64 0] 44
 have O:=z.trans (C.mono z.size)
 have U:=hide O
 have J:=(G.below C)
 have M:=I
 have ay:=J.cell
 have az:=M.cell
 have i1:K.inC (m:Int) 1 1048576=true:=by simp [K.inC]; omega
 have i2:K.inC 0 0 (m:Int)=true:=by simp [K.inC]
 obtain⟨tp,E⟩:∃t,t=p.topo:=⟨_,rfl⟩
 have aF:(tp != 4)=true:=by rw [E]; have:=y.tp; simp; omega
 rw [←E] at a2
 generalize cs.toArray=pc at*
 clear h y J M z C G I V W O j1 j2 j3 j4 j5 j6 j7 j8 a7 E Z
 go_enter Tryz.func132,Tryz.ntmps132
 go_wp2_with (go_at_call 98; refine(K.within2_any _ _ _ _).mono ?_; rintro e w' ⟨rfl,rfl⟩; first | rw [i1] | rw [i2])
 go_loopw [5] (fun ii wr=>ii=.int .i64 0∧wr=w2) (fun _ _=>0)
 case atStart=>exact⟨rfl,rfl⟩
 case round=>
  obtain⟨rfl,rfl⟩:=hrel
  go_wp2_with fail
  go_ret
  exact⟨rfl,U.out⟩
theorem S9 (h:At w w.heap.size cs p) (ae:p.Small) (hT:K.SpOK w) (Z:K.protE K.nameOK p=0) (hb:Ek p) (hm:1≤m∧m≤8):Calls Tryz.prog 91 #[.agg cs.toArray,.agg #[.int .i64 (m:Int),.int .i64 0,.int .i64 0]] w (Ret fun v w'=>v=.int .i64 0∧Below w.heap.size w w'):=by
 have W:=h.rules_at.1
 obtain⟨w1,av,I,a2,aj⟩:=Ae w cs.toArray 27
 obtain⟨w2,aw,J,a3,ak⟩:=Ae w1 #[.int .i64 (m:Int),.int .i64 0,.int .i64 0] 44
 have a9:=I.trans (J.mono I.size)
 have z:=hide a9
 have G:=(a2.below J)
 have a6:=a3
 have E:=h.keep (w':=w2) (B':=w2.heap.size) (fun _ V=>z.out.cell V) z.out.size
 generalize ad:cs.toArray=pc at*
 have U:=K.refProtValidate_any E ae (hT.below z.out)
 rw [Z,ad] at U
 have al:=Ah G W
 have ah:=hide hb
 have ap:=hide E
 have af:=hide G
 have ag:=hide a6
 have aq:=hide W
 have ao:=hide hm
 have au:¬(8:Int)<(m:Int):=by omega
 clear h hb G a6 I J a2 a3 aj ak a9 ae hT Z E W hm
 go_enter Tryz.func91,Tryz.ntmps91
 go_wp2_with fail
 refine Calls.ret U ?_
 rintro v C ⟨rfl,y⟩
 have aa:=hide (z.out.trans (y.mono z.out.size))
 have a5:=af.out.below y
 have a7:=hide (ag.out.below y)
 have am:=Ah a5 aq.out
 have an:(loadCellsFrom ⟨w1.heap.size,0,none⟩ 0 3 #[]).run Tryz.prog C=.ok _ C:=Ah a7.out rfl
 have O:=L7 (m:=m) (ap.out.keep (w':=C) (B':=C.heap.size) (fun _ V=>y.cell V) y.size) ah.out ao.out
 rw [ad] at O
 clear y a5 al U
 go_wp2_with fail
 refine Calls.ret O ?_
 rintro v w5 ⟨rfl,M⟩
 have ai:=hide (aa.out.trans (M.mono aa.out.size))
 have ar:=(a7.out.below M).cell
 clear M O am an
 go_wp2_with fail
 go_ret
 exact⟨rfl,ai.out⟩
theorem S8 (h:At w w.heap.size cs p) (J:Ba w w.heap.size ds q) (a4:p.Small) (ao:q.Small) (hT:K.SpOK w) (h0:K.protE K.nameOK p=0) (h1:K.propE K.nameOK p q=0) (hb:Ek p) (hm:1≤m∧m≤8):Calls Tryz.prog 45 #[.agg cs.toArray,.agg ds.toArray,.agg #[.int .i64 (m:Int),.int .i64 0,.int .i64 0]] w (Ret fun v w'=>v=.int .i64 0∧Below w.heap.size w w'):=by
 have a3:=h.rules_at.1
 obtain⟨B1,d1,B2,d2,B3,d3,B4,d4,an,-⟩:=J.cells
 obtain⟨w1,aM,W,a9,av⟩:=Ae w cs.toArray 27
 obtain⟨w2,aN,Z,aa,aw⟩:=Ae w1 ds.toArray 30
 obtain⟨z,aO,I,ab,ax⟩:=Ae w2 #[.int .i64 (m:Int),.int .i64 0,.int .i64 0] 44
 have V:=W.trans (Z.mono W.size)
 have ai:=V.trans (I.mono V.size)
 have y:=hide ai
 have U:=((a9.below Z).below I)
 have af:=(aa.below I)
 have ag:=ab
 have M:=h.keep (w':=z) (B':=z.heap.size) (fun _ E=>y.out.cell E) y.out.size
 have ad:=J.keep (w':=z) (B':=z.heap.size) (fun _ E=>y.out.cell E) y.out.size
 have O:=hT.below y.out
 have a2:=K.refPropValidate_any M ad a4 ao O
 rw [h1] at a2
 have au:Hid (∀G,Below z.heap.size z G→Calls Tryz.prog 91 #[.agg cs.toArray,.agg #[.int .i64 (m:Int),.int .i64 0,.int .i64 0]] G (Ret fun v w'=>v=.int .i64 0∧Below G.heap.size G w')):=hide (fun G hx=>S9 (M.keep (fun _ E=>hx.cell E) hx.size) a4 (O.below hx) h0 hb hm)
 generalize cs.toArray=pc at*
 generalize ds.toArray=qc at*
 have ay:=Ah U a3
 have aA:=Ah af an
 have ap:=hide U
 have aq:=hide ag
 have aC:=hide a3
 clear h J hb U af ag W Z I a9 aa ab av aw ax V ai a4 ao hT O h0 h1 M ad a3 an hm
 go_enter Tryz.func45,Tryz.ntmps45
 go_wp2_with fail
 refine Calls.ret a2 ?_
 rintro v w4 ⟨rfl,C⟩
 have ak:=hide (y.out.trans (C.mono y.out.size))
 have az:=Ah (ap.out.below C) aC.out
 have aB:(loadCellsFrom ⟨w2.heap.size,0,none⟩ 0 3 #[]).run Tryz.prog w4=.ok _ w4:=Ah (aq.out.below C) rfl
 have al:=au.out w4 C
 clear C ay aA a2
 go_wp2_with fail
 refine Calls.ret al ?_
 rintro v w5 ⟨rfl,aj⟩
 have ar:=hide (ak.out.trans (aj.mono ak.out.size))
 clear aj al az aB
 go_wp2_with fail
 go_ret
 exact⟨rfl,ar.out⟩
end
end Go.Proofs.YtfcfpoemojjglaaGreatDoor
namespace Go.Proofs.YtfcfpoemojjglaaGreatDoor
open Go.RowKit
open K (Am AB At Ba PQX Ah)
attribute [-go_sem] loadCellsFrom
set_option maxHeartbeats 16000000
set_option maxRecDepth 100000
section
variable {w:World} {cs ds:List Value} {p:Am} {q:AB} {m:Nat}
theorem Tk {A:Option Addr} {a7:Nat} {l:List Int} (h:At w w.heap.size cs p) (J:Sl w w.heap.size 1 Ai A l) (I:∀x∈l,inN (p.states.length:Int) x=true) (hL:p.states.length≤60):
  Calls Tryz.prog 99 #[.agg cs.toArray,.slice A l.length a7] w (Ret fun v w'=>v=.bool true∧Below w.heap.size w w'):=by
 obtain⟨A1,c1,A2,c2,A3,c3,A4,c4,A5,c5,A6,c6,A7,c7,an,ak,al,M,-⟩:=h.cells
 obtain⟨w1,aF,Z,U,af⟩:=Ae w cs.toArray 27
 have z:=hide Z
 have V:=U
 generalize cs.toArray=pc at*
 obtain⟨ns,a4⟩:∃n,n=p.states.length:=⟨_,rfl⟩
 rw [←a4] at M I hL
 obtain⟨m,C⟩:∃m,m=l.length:=⟨_,rfl⟩
 have aj:=hide C
 rw [←C]
 have ag:=hide J
 have ae:=hide I
 have aa:=hide V
 have am:=hide M
 have ai:=J.1
 rw [←C] at ai
 clear h J I a4 C V Z U af ak al M an
 go_enter Tryz.func99,Tryz.ntmps99
 go_wp2_with fail
 go_loopw [5] (fun O wr=>∃i:Nat,O=.int .i64 (i:Int)∧i≤m∧Hid (Below w1.heap.size w1 wr)) (fun O _=>m - (intOf O).toNat)
 case atStart=>exact⟨0,rfl,Nat.zero_le _,Below.refl _ _⟩
 case round=>
  obtain⟨i,rfl,hi,E⟩:=hrel
  by_cases ah:i<m
  ·obtain⟨b,o,x,hA,ab,hx,a2⟩:=ag.out.at (show i<l.length by rw [←aj.out]; exact ah)
   subst hA
   have G:=hide (E.out.trans ((Ap wr).mono E.out.size))
   have W:=z.out.trans (G.out.mono z.out.size)
   have aD:wr.drew.cell? ⟨b,o+i,none⟩=some (.int .i64 x):=by
    have a3:=a2 0 (by omega)
    simp only [Ai,Nat.mul_one,Nat.add_zero] at a3
    exact(W.cell (p:=⟨b,o+i,none⟩) ab).trans a3
   have aC:wr.drew.cell? ⟨w.heap.size,2,none⟩=some (.slice A1 ns c1):=by rw [(aa.out.below G.out).cell]; exact am.out
   have ao:K.inC x 0 ((ns:Int) - 1)=true:=by
    have:=ae.out x (List.mem_of_getElem? hx)
    rw [D3] at this
    simp [K.inC]; omega
   clear W a2 hx
   go_wp2_with fail
   refine Reg.cI [0,0,3,7,0,16,48,112,255,511] [0,1,2,3,4,5,6,7,8,9] ?_
   refine Reg.wI [0,1,2,3,4,5,6,7] [8,9] rfl fun Qf y=>?_
   go_wp2_with fail
   first | refine y _ _ ⟨rfl,?_⟩ | refine⟨rfl,?_⟩ | refine y _ _ ⟨by simp [Reg.fineT,Reg.intOp,Region.wanted,yielded,Reg.intFine,Reg.isInt,Act.eval],?_⟩
   try clear y
   refine Reg.aI 8 [9] [] rfl fun Qf y=>?_
   simp only [gT,gS,gZ]
   go_wp2_with (go_at_call 100; refine(Kz _ _ _ _).mono ?_; rintro e w' ⟨rfl,rfl⟩; rw [ao])
   first | refine y _ _ ⟨Reg.nm,?_⟩ | refine⟨Reg.nm,?_⟩
   try clear y
   refine Reg.wI [9] [] rfl fun Qf y=>?_
   go_wp2_with fail
   first | refine y _ _ ⟨rfl,?_⟩ | refine⟨rfl,?_⟩ | refine y _ _ ⟨by simp [Reg.fineT,Reg.intOp,Region.wanted,yielded,Reg.intFine,Reg.isInt,Act.eval],?_⟩
   try clear y
   first | refine Reg.restI_end ?_ | skip
   go_wp2_with fail
   exact⟨⟨i+1,by go_num,by omega,G⟩,by simp [intOf]; omega⟩
  ·obtain rfl:i=m:=by omega
   have ad:=hide (z.out.trans (E.out.mono z.out.size))
   go_wp2_with fail
   go_ret
   exact⟨rfl,ad.out⟩
theorem TW {A:Option Addr} {a5:Nat} {l:List Int} (h:At w w.heap.size cs p) (M:Ek p) (hl:Sl w w.heap.size 1 Ai A l) (hm:m=l.length) (ak:∀x∈l,inN (p.states.length:Int) x=true) (hL:p.states.length≤60) (bm:m≤8):
  Calls Tryz.prog 92 #[.agg cs.toArray,.agg #[.int .i64 (m:Int),.int .i64 0,.int .i64 0],.agg #[.slice none 0 0,.slice A m a5,.int .i64 (m:Int),.slice none 0 0,.slice none 0 0,.int .i64 0]] w (Ret fun v w'=>v=.bool true∧Below w.heap.size w w'):=by
 obtain⟨A1,c1,A2,c2,A3,c3,A4,c4,A5,c5,A6,c6,A7,c7,aa,aN,an,aO,ao,ap,aq,ar,aP,aQ,aR,j1,j2,j3,j4,j5,j6,j7,j8⟩:=h.cells
 rw [M.ms] at ao
 rw [M.vs] at ap
 rw [M.fl] at aq
 rw [M.rs] at ar
 obtain⟨w1,bs,a8,ab,aE⟩:=Ae w cs.toArray 27
 obtain⟨w2,bt,a9,ad,aF⟩:=Ae w1 #[.int .i64 (m:Int),.int .i64 0,.int .i64 0] 44
 obtain⟨z,bu,Z,ae,aG⟩:=Ae w2 #[.slice none 0 0,.slice A m a5,.int .i64 (m:Int),.slice none 0 0,.slice none 0 0,.int .i64 0] 46
 have a7:=a8.trans (a9.mono a8.size)
 have ai:=a7.trans (Z.mono a7.size)
 have E:=hide ai
 have af:=((ab.below a9).below Z)
 have ag:=(ad.below Z)
 have ah:=ae
 have aM:Hid (∀C,Below z.heap.size z C→Calls Tryz.prog 133 #[.agg cs.toArray,.agg #[.int .i64 (m:Int),.int .i64 0,.int .i64 0]] C (Ret fun v w'=>v=.int .i64 (m:Int)∧Below C.heap.size C w')):=hide (fun C hx=>Rb (h.keep (fun p U=>(E.out.trans (hx.mono E.out.size)).cell U) (E.out.trans (hx.mono E.out.size)).size) M)
 have aS:Hid (∀C,Below z.heap.size z C→Calls Tryz.prog 99 #[.agg cs.toArray,.slice A m a5] C (Ret fun v w'=>v=.bool true∧Below C.heap.size C w')):=hide (fun C hx=>by
  have a3:=E.out.trans (hx.mono E.out.size)
  rw [hm]
  exact Tk (h.keep (fun p U=>a3.cell U) a3.size) (hl.keep (fun p U=>a3.cell U) a3.size) ak hL)
 have aT:(p.topo==4)=false:=by have:=M.tp; simp; omega
 obtain⟨tp,av⟩:∃t,t=p.topo:=⟨_,rfl⟩
 rw [←av] at an aT
 generalize cs.toArray=pc at*
 have I:=hide af
 have V:=hide ag
 have W:=hide ah
 have au:=hide aa
 have bn:((m:Int) != (m:Int))=false:=by simp
 have G:=hide ((Below.refl z.heap.size z).trans (Ap z))
 have ay:=((I.out).below G.out).cell
 have aA:=((V.out).below G.out).cell
 have aC:=((W.out).below G.out).cell
 have aH:=Ah (I.out.below G.out) aa
 have aJ:(loadCellsFrom ⟨w1.heap.size,0,none⟩ 0 3 #[]).run Tryz.prog z.drew=.ok _ z.drew:=Ah (V.out.below G.out) rfl
 have bo:=hide an
 have bp:=hide aO
 have bq:=hide ao
 have br:=hide ap
 have iv:K.inC 0 0 (max 0 (-1))=true:=by decide
 clear h M hl hm ak av af ag ah a8 a9 Z ab ad ae aE aF aG a7 ai aa aN aq ar aP aQ aR j1 j2 j3 j4 j5 j6 j7 j8
 go_enter Tryz.func92,Tryz.ntmps92
 go_wp2_with fail
 refine Reg.cI [0,1,3,0,0,24,63,127,255,255,767,2047,4095,8191,16383,32767,65535,32767,163839,32767,557055,1998847,4194303,8388607,16777215,33554431,67108863,33554431,167772159,436207615,1073741823,2147483647,4294967295,8589934591,17179869183,34359738367,17179869183,85899345919,223338299391,549755813887,1099511627775,2199023255551] [0,1,2,3,4,5,6,7,8,9,10,11,12,13,14,15,16,17,18,19,20,21,22,23,24,25,26,27,28,29,30,31,32,33,34,35,36,37,38,39,40,41] ?_
 refine Reg.wI [0,1,2,3,4] [5,6,7,8,9,10,11,12,13,14,15,16,17,18,19,20,21,22,23,24,25,26,27,28,29,30,31,32,33,34,35,36,37,38,39,40,41] rfl fun Qf y=>?_
 go_wp2_with fail
 first | refine y _ _ ⟨rfl,?_⟩ | refine⟨rfl,?_⟩ | refine y _ _ ⟨by simp [Reg.fineT,Reg.intOp,Region.wanted,yielded,Reg.intFine,Reg.isInt,Act.eval],?_⟩
 try clear y
 refine Reg.aI 5 [6,7,8,9,10,11,12,13,14,15,16,17,18,19,20,21,22,23,24,25,26,27,28,29,30,31,32,33,34,35,36,37,38,39,40,41] [1] rfl fun Qf y=>?_
 simp only [gT,gS,gZ]
 go_wp2_with fail
 refine Calls.ret (aM.out _ G.out) ?_
 rintro v w4 ⟨rfl,a2⟩
 go_wp2_with fail
 first | refine y _ _ ⟨Reg.same_below (a2) [1] rfl,?_⟩ | refine⟨Reg.same_below (a2) [1] rfl,?_⟩
 try clear y
 have J:=hide (G.out.trans (a2.mono G.out.size))
 have aK:=Ah (I.out.below J.out) au.out
 have ax:=(I.out.below J.out).cell
 have az:=(V.out.below J.out).cell
 have aB:=(W.out.below J.out).cell
 clear a2 ay aA aC aH aJ
 refine Reg.wI [6,7,8,9,10] [11,12,13,14,15,16,17,18,19,20,21,22,23,24,25,26,27,28,29,30,31,32,33,34,35,36,37,38,39,40,41] rfl fun Qf y=>?_
 go_wp2_with fail
 first | refine y _ _ ⟨rfl,?_⟩ | refine⟨rfl,?_⟩ | refine y _ _ ⟨by simp [Reg.fineT,Reg.intOp,Region.wanted,yielded,Reg.intFine,Reg.isInt,Act.eval],?_⟩
 try clear y
 refine Reg.aI 11 [12,13,14,15,16,17,18,19,20,21,22,23,24,25,26,27,28,29,30,31,32,33,34,35,36,37,38,39,40,41] [] rfl fun Qf y=>?_
 simp only [gT,gS,gZ]
 go_wp2_with fail
 refine Calls.ret (aS.out _ J.out) ?_
 rintro v w5 ⟨rfl,aj⟩
 go_wp2_with fail
 first | refine y _ _ ⟨Reg.nm,?_⟩ | refine⟨Reg.nm,?_⟩
 try clear y
 have O:=hide (J.out.trans (aj.mono J.out.size))
 have aL:=Ah (I.out.below O.out) au.out
 have bh:=(I.out.below O.out).cell
 have bj:=(V.out.below O.out).cell
 have bk:=(W.out.below O.out).cell
 clear aj aK ax az aB
 refine Reg.wI [12,13,14,15,16,17,18,19,20,21,22,23,24,25,26,27,28,29] [30,31,32,33,34,35,36,37,38,39,40,41] rfl fun Qf y=>?_
 go_wp2_with fail
 first | refine y _ _ ⟨rfl,?_⟩ | refine⟨rfl,?_⟩ | refine y _ _ ⟨by simp [Reg.fineT,Reg.intOp,Region.wanted,yielded,Reg.intFine,Reg.isInt,Act.eval],?_⟩
 try clear y
 refine Reg.aI 30 [31,32,33,34,35,36,37,38,39,40,41] [] rfl fun Qf y=>?_
 simp only [gT,gS,gZ]
 go_wp2_with (go_at_call 134; refine(J9 _).mono ?_; rintro e w' ⟨rfl,rfl⟩)
 first | refine y _ _ ⟨Reg.nm,?_⟩ | refine⟨Reg.nm,?_⟩
 try clear y
 refine Reg.wI [31,32,33,34,35,36,37,38] [39,40,41] rfl fun Qf y=>?_
 go_wp2_with fail
 first | refine y _ _ ⟨rfl,?_⟩ | refine⟨rfl,?_⟩ | refine y _ _ ⟨by simp [Reg.fineT,Reg.intOp,Region.wanted,yielded,Reg.intFine,Reg.isInt,Act.eval],?_⟩
 try clear y
 refine Reg.aI 39 [40,41] [] rfl fun Qf y=>?_
 simp only [gT,gS,gZ]
 go_wp2_with (go_at_call 134; refine(J9 _).mono ?_; rintro e w' ⟨rfl,rfl⟩)
 first | refine y _ _ ⟨Reg.nm,?_⟩ | refine⟨Reg.nm,?_⟩
 try clear y
 refine Reg.wI [40,41] [] rfl fun Qf y=>?_
 go_wp2_with fail
 first | refine y _ _ ⟨rfl,?_⟩ | refine⟨rfl,?_⟩ | refine y _ _ ⟨by simp [Reg.fineT,Reg.intOp,Region.wanted,yielded,Reg.intFine,Reg.isInt,Act.eval],?_⟩
 try clear y
 first | refine Reg.restI_end ?_ | skip
 go_wp2_with fail
 go_loopw [7] (fun ii wr=>ii=.int .i64 0∧Hid (Below z.heap.size z wr)) (fun _ _=>0)
 case atStart=>exact⟨rfl,O⟩
 case round=>
  obtain⟨rfl,hB⟩:=hrel
  have bi:=(I.out.below hB.out).cell
  have bl:=(W.out.below hB.out).cell
  have aD:=hide (E.out.trans (hB.out.mono E.out.size))
  clear aL
  go_wp2_with (go_at_call 100; refine(Kz _ _ _ _).mono ?_; rintro e w' ⟨rfl,rfl⟩; rw [iv])
  go_ret
  exact⟨rfl,aD.out⟩
end
end Go.Proofs.YtfcfpoemojjglaaGreatDoor
namespace Go.Proofs.YtfcfpoemojjglaaGreatDoor
open Go.RowKit
open K (Am AB At Ba PQX Ah)
attribute [-go_sem] loadCellsFrom
set_option maxHeartbeats 16000000
set_option maxRecDepth 100000
section
variable {w:World} {cs ds:List Value} {p:Am} {q:AB} {m:Nat}
def Dr (p:Am) (q:AB) (i:Nat):List Int:=if i=0 then BS p q else AU p q
theorem MS {i:Nat} (h:At w w.heap.size cs p) (U:Ba w w.heap.size ds q) (a8:p.Small) (a9:q.Small) (hi:i<m) (bj:m≤8):
  Calls Tryz.prog 94 #[.agg cs.toArray,.agg ds.toArray,.agg #[.int .i64 (m:Int),.int .i64 0,.int .i64 0],.int .i64 (i:Int)] w (Ret fun v w'=>Below w.heap.size w w'∧∃A n c,v=.slice A n c∧n=(Dr p q i).length∧Sl w' w'.heap.size 1 Ai A (Dr p q i)):=by
 obtain⟨A1,c1,A2,c2,A3,c3,A4,c4,A5,c5,A6,c6,A7,c7,aj,ay,az,aA,aB,aC,aD,aE,aF,aG,aH,j1,j2,j3,j4,j5,j6,j7,j8⟩:=h.cells
 obtain⟨B1,d1,B2,d2,B3,d3,B4,d4,ak,-⟩:=U.cells
 obtain⟨w1,bk,a3,ab,av⟩:=Ae w cs.toArray 27
 obtain⟨w2,bl,a4,ad,aw⟩:=Ae w1 ds.toArray 30
 obtain⟨C,bm,J,ae,ax⟩:=Ae w2 #[.int .i64 (m:Int),.int .i64 0,.int .i64 0] 44
 have a2:=a3.trans (a4.mono a3.size)
 have ah:=a2.trans (J.mono a2.size)
 have y:=hide ah
 have Z:=((ab.below a4).below J)
 have af:=(ad.below J)
 have ag:=ae
 have ao:=KG (h.keep (w':=C) (B':=C.heap.size) (fun _ I=>y.out.cell I) y.out.size) (U.keep (w':=C) (B':=C.heap.size) (fun _ I=>y.out.cell I) y.out.size) a8 a9
 have al:(AU p q).length≤60:=by unfold AU; have h1:=a8.initial; have h2:=a9.start; split <;> assumption
 generalize cs.toArray=pc at*
 generalize ds.toArray=qc at*
 have bg:=Ah Z aj
 have bh:=Ah af ak
 have bb:=Z.cell
 have bd:=ag.cell
 have au:=hide (j6.keep (w':=C) (B':=C.heap.size) (fun _ I=>y.out.cell I) y.out.size)
 have an:=hide ao
 obtain⟨nl,a6⟩:∃n,n=p.leader.length:=⟨_,rfl⟩
 have a7:=hide a6
 rw [←a6] at aG
 have am:=hide al
 clear h U Z af ag a3 a4 J ab ad ae av aw ax a2 ah a8 a9 aj ak ay az aA aB aC aD aE aF aH j1 j2 j3 j4 j5 j6 j7 j8 ao a6 al
 by_cases V:i=0
 ·subst V
  by_cases ai:0<nl
  ·have z:=hide (show Dr p q 0=p.leader from(if_pos rfl).trans (if_pos (by rw [←a7.out]; exact ai)))
   go_enter Tryz.func94,Tryz.ntmps94
   go_wp2_with fail
   go_ret
   exact⟨y.out,A6,_,c6,rfl,by rw [z.out,a7.out],by rw [z.out]; exact au.out⟩
  ·have z:=hide (show Dr p q 0=AU p q from(if_pos rfl).trans (if_neg (by rw [←a7.out]; exact ai)))
   go_enter Tryz.func94,Tryz.ntmps94
   go_wp2_with fail
   refine Calls.ret an.out ?_
   rintro v w4 ⟨G,E⟩
   obtain⟨M,O,rfl,hS⟩:=B8 (B:=w4.heap.size) E rfl (Nat.le_refl _) (by have:=am.out; omega)
   have a5:=hide (y.out.trans (G.mono y.out.size))
   have W:=hide hS
   clear G E hS
   go_wp2_with fail
   go_ret
   exact⟨a5.out,M,_,O,rfl,by rw [z.out],by rw [z.out]; exact W.out⟩
 ·have z:=hide (show Dr p q i=AU p q from if_neg V)
  have b8:((i:Int)==0)=false:=by simp; omega
  have bi:(i:Int)<(m:Int):=by omega
  have bf:(i:Int)<(m:Int) - 0:=by omega
  clear V
  go_enter Tryz.func94,Tryz.ntmps94
  go_wp2_with fail
  refine Calls.ret an.out ?_
  rintro v w4 ⟨G,E⟩
  obtain⟨M,O,rfl,hS⟩:=B8 (B:=w4.heap.size) E rfl (Nat.le_refl _) (by have:=am.out; omega)
  have a5:=hide (y.out.trans (G.mono y.out.size))
  have W:=hide hS
  clear G E hS
  go_wp2_with fail
  go_ret
  exact⟨a5.out,M,_,O,rfl,by rw [z.out],by rw [z.out]; exact W.out⟩
end
theorem P8 {h w5:World} {g4 g5 g6 g7 m bp:Nat} {V W:Array Value} {A:Option Addr} {l:List Int} {pick:Nat→List Int} (b3:Blk h g4 27 V) (b4:Blk h g5 30 W) (b5:Blk h g6 44 #[.int .i64 (m:Int),.int .i64 0,.int .i64 0]) (b6:Blk h g7 46 #[.slice none 0 0,.slice A m bp,.int .i64 (m:Int),.slice none 0 0,.slice none 0 0,.int .i64 0]) (bj:V.size=10) (bk:W.size=6)
  (hl:Sl h h.heap.size 1 Ai A l) (hm:m=l.length) (cd:m≤8) (aY:Below h.heap.size h w5)
  (ba:∀wx (i:Nat),Below h.heap.size h wx→i<m→Calls Tryz.prog 94 #[.agg V,.agg W,.agg #[.int .i64 (m:Int),.int .i64 0,.int .i64 0],.int .i64 (i:Int)] wx (Ret fun v w'=>Below wx.heap.size wx w'∧∃A n c,v=.slice A n c∧n=(pick i).length∧Sl w' w'.heap.size 1 Ai A (pick i)))
  {Z u1 u2 u3 u9 a3 a4 a5 a6 a7 a8 a9 aa ab ae af ag ah ai aj ak al am an ap aq ar au av aw ax ay az aA aB aC bJ bK bL bM bN bO bP bQ bR bS bT bU bV bW bX bY bZ c0 c1:Value}
  {Q:Exit→Act→World→Prop} (hN:Reg.NoQ Q)
  (hT:(∀i x,l[i]?=some x→x∈pick i)→∀(aE aF aG aH aJ aK aL aM aN aO aP aQ aR aS aT aU aV aW aX:Value) (w':World),Below h.heap.size h w'→Q (.exit 2) ⟨List.toArray (Z::u1::u2::u3::(.pointer (some ⟨g4,0,none⟩))::(.pointer (some ⟨g5,0,none⟩))::(.pointer (some ⟨g6,0,none⟩))::(.pointer (some ⟨g7,0,none⟩))::(.bool false)::u9::(.int .i64 m)::a3::a4::a5::a6::a7::a8::a9::aa::
   ab::ae::af::ag::ah::ai::aj::ak::al::am::an::ap::aq::ar::au::av::aw::ax::ay::az::aA::aB::aC::aE::aF::aG::aH::aJ::aK::aL::aM::aN::aO::aP::aQ::aR::aS::
   aT::aU::aV::aW::aX::[]),[]⟩ w')
  (hF:(¬∀i x,l[i]?=some x→x∈pick i)→∀(c4 aE aF aG aH aJ aK aL aM aN aO aP aQ aR aS aT aU aV aW aX:Value) (w':World),Below h.heap.size h w'→Q .ret ⟨List.toArray (Z::u1::u2::u3::(.pointer (some ⟨g4,0,none⟩))::(.pointer (some ⟨g5,0,none⟩))::(.pointer (some ⟨g6,0,none⟩))::(.pointer (some ⟨g7,0,none⟩))::(.bool false)::u9::c4::a3::a4::a5::a6::a7::a8::a9::aa::ab::ae::
   af::ag::ah::ai::aj::ak::al::am::an::ap::aq::ar::au::av::aw::ax::ay::az::aA::aB::aC::aE::aF::aG::aH::aJ::aK::aL::aM::aN::aO::aP::aQ::aR::aS::aT::aU::
   aV::aW::aX::[]),[]⟩ w'):
  (Code.loop (CG Tryz.f46 1)).wp Tryz.prog Q ⟨List.toArray (Z::u1::u2::u3::(.pointer (some ⟨g4,0,none⟩))::(.pointer (some ⟨g5,0,none⟩))::(.pointer (some ⟨g6,0,none⟩))::(.pointer (some ⟨g7,0,none⟩))::(.bool false)::u9::(.int .i64 0)::a3::a4::a5::a6::a7::a8::a9::aa::
   ab::ae::af::ag::ah::ai::aj::ak::al::am::an::ap::aq::ar::au::av::aw::ax::ay::az::aA::aB::aC::bJ::bK::bL::bM::bN::bO::bP::bQ::bR::bS::bT::bU::bV::bW::
   bX::bY::bZ::c0::c1::[]),[]⟩ w5:=by
 conv=>arg 2; arg 1; whnf
 have bx:=hide b3
 have bz:=hide b4
 have bA:=hide b5
 have b7:=hide b6
 have bG:=hide bj
 have bH:=hide bk
 have bF:=hide hl
 have bg:=hide hm
 have bw:=hide hT
 have bu:=hide hF
 have bD:=hide ba
 have br:=hide aY
 clear b3 b4 b5 b6 bj bk hl hm hT hF ba aY
 go_loopw [8,10] (fun rr U wr=>rr=.bool false∧∃i:Nat,U=.int .i64 (i:Int)∧i≤m∧Hid (Below h.heap.size h wr)∧Hid (∀j x,j<i→l[j]?=some x→x∈pick j)) (fun _ U _=>m - (intOf U).toNat)
 case atStart=>exact⟨rfl,0,rfl,Nat.zero_le _,br,hide (fun j x hj=>absurd hj (Nat.not_lt_zero _))⟩
 case round=>
  obtain⟨rfl,i,rfl,hi,G,bi⟩:=hrel
  have c6:=(b7.out.below G.out).cell
  by_cases be:i<m
  ·obtain⟨b,o,x,hA,bB,hx,b8⟩:=bF.out.at (show i<l.length by rw [←bg.out]; exact be)
   subst hA
   have C:=hide (G.out.trans ((Ap wr).mono G.out.size))
   have c7:wr.drew.cell? ⟨b,o+i,none⟩=some (.int .i64 x):=by
    have b9:=b8 0 (by omega)
    simp only [Ai,Nat.mul_one,Nat.add_zero] at b9
    exact(C.out.cell (p:=⟨b,o+i,none⟩) bB).trans b9
   have c9:=Ah (bx.out.below C.out) bG.out
   have ca:=Ah (bz.out.below C.out) bH.out
   have cb:(loadCellsFrom ⟨g6,0,none⟩ 0 3 #[]).run Tryz.prog wr.drew=.ok _ wr.drew:=Ah (bA.out.below C.out) rfl
   have c5:=(b7.out.below C.out).cell
   have bm:=hide hx
   clear b8 hx
   go_wp2_with fail
   refine Reg.region_cutI [0,0,0,0,15,0,32,0,224,480,1023,2047] [0,1,2,3,5,6,7,8,9,4,10,11] (by kernel_rfl) (by repeat (first | exact hN | refine Reg.NoQ.then ?_ | refine Reg.NoQ.inBlock ?_)) ?_
   refine Reg.wI [0,1,2,3,5,6,7,8,9] [4,10,11] rfl fun Qf z=>?_
   go_wp2_with fail
   first | refine z _ _ ⟨rfl,?_⟩ | refine⟨rfl,?_⟩ | refine z _ _ ⟨by simp [Reg.fineT,Reg.intOp,Region.wanted,yielded,Reg.intFine,Reg.isInt,Act.eval],?_⟩
   try clear z
   refine Reg.aI 4 [10,11] [6,9] rfl fun Qf z=>?_
   simp only [gT,gS,gZ]
   go_wp2_with fail
   refine Calls.ret (bD.out _ i C.out be) ?_
   rintro v w6 ⟨I,AC,nc,cc,rfl,rfl,b1⟩
   go_wp2_with fail
   first | refine z _ _ ⟨Reg.same_below (I) [6,9] rfl,?_⟩ | refine⟨Reg.same_below (I) [6,9] rfl,?_⟩
   try clear z
   have aZ:=hide (C.out.trans (I.mono C.out.size))
   have bC:Hid (∀M,M=w6→Calls Tryz.prog 93 #[.slice AC (pick i).length cc,.int .i64 x] M fun r w'=>r=.returned (.bool (decide (x∈pick i)))∧M=w'):=hide (fun M e=>by subst e; exact K.has_any b1)
   clear I b1
   refine Reg.aI 10 [11] [] rfl fun Qf z=>?_
   simp only [gT,gS,gZ]
   go_wp2_with fail
   refine(bC.out _ rfl).mono ?_
   rintro e w' ⟨rfl,rfl⟩
   go_wp2_with fail
   first | refine z _ _ ⟨Reg.nm,?_⟩ | refine⟨Reg.nm,?_⟩
   try clear z
   refine Reg.wI [11] [] rfl fun Qf z=>?_
   go_wp2_with fail
   first | refine z _ _ ⟨rfl,?_⟩ | refine⟨rfl,?_⟩ | refine z _ _ ⟨by simp [Reg.fineT,Reg.intOp,Region.wanted,yielded,Reg.intFine,Reg.isInt,Act.eval],?_⟩
   try clear z
   first | refine Reg.restI_end ?_ | skip
   cases J:decide (x∈pick i)
   ·have bt:=hide (show ¬∀j y,l[j]?=some y→y∈pick j from fun hh=>absurd (hh i x bm.out) (of_decide_eq_false J))
    clear J
    go_wp2_with fail
    exact bu.out bt.out _ _ _ _ _ _ _ _ _ _ _ _ _ _ _ _ _ _ _ _ _ aZ.out
   ·have bh:=of_decide_eq_true J
    have O:Hid (∀j y,j<i+1→l[j]?=some y→y∈pick j):=fun j y hj E=>by
     by_cases e:j=i
     ·subst e
      rw [bm.out] at E
      rw [←Option.some.inj E]; exact bh
     ·exact bi.out j y (by omega) E
    clear J bh
    go_wp2_with fail
    exact⟨⟨(by first | rfl | trivial),i+1,by go_num,by omega,aZ,O⟩,by simp [intOf]; omega⟩
  ·obtain rfl:i=m:=by omega
   have O:=hide (show ∀j y,l[j]?=some y→y∈pick j from fun j y E=>bi.out j y (by rw [bg.out]; exact AP E) E)
   go_wp2_with fail
   refine bw.out O.out _ _ _ _ _ _ _ _ _ _ _ _ _ _ _ _ _ _ _ _ G.out
section
variable {w:World} {cs ds:List Value} {p:Am} {q:AB} {m:Nat}
theorem Qx {A:Option Addr} {U:Nat} {l:List Int} (h:At w w.heap.size cs p) (V:Ba w w.heap.size ds q) (af:p.Small) (ar:q.Small) (hb:Ek p) (hl:Sl w w.heap.size 1 Ai A l) (hm:m=l.length) (ap:∀x∈l,inN (p.states.length:Int) x=true) (ad:m≤8):
  Calls Tryz.prog 46 #[.agg cs.toArray,.agg ds.toArray,.agg #[.int .i64 (m:Int),.int .i64 0,.int .i64 0],.agg #[.slice none 0 0,.slice A m U,.int .i64 (m:Int),.slice none 0 0,.slice none 0 0,.int .i64 0]] w (Ret fun v w'=>Below w.heap.size w w'∧∃b:Bool,v=.bool b∧(b=true↔∀i x,l[i]?=some x→x∈Dr p q i)):=by
 have ae:=h.rules_at.1
 obtain⟨B1,d1,B2,d2,B3,d3,B4,d4,aq,-⟩:=V.cells
 obtain⟨w1,b1,a6,ah,aB⟩:=Ae w cs.toArray 27
 obtain⟨w2,b2,a7,ai,aC⟩:=Ae w1 ds.toArray 30
 obtain⟨w3,b3,O,aj,aD⟩:=Ae w2 #[.int .i64 (m:Int),.int .i64 0,.int .i64 0] 44
 obtain⟨C,b4,J,ak,aE⟩:=Ae w3 #[.slice none 0 0,.slice A m U,.int .i64 (m:Int),.slice none 0 0,.slice none 0 0,.int .i64 0] 46
 have a4:=a6.trans (a7.mono a6.size)
 have a5:=a4.trans (O.mono a4.size)
 have ao:=a5.trans (J.mono a5.size)
 have z:=hide ao
 have Z:=(((ah.below a7).below O).below J)
 have al:=((ai.below O).below J)
 have a2:=(aj.below J)
 have a3:=ak
 have aN:Hid (∀y,Below C.heap.size C y→Calls Tryz.prog 92 #[.agg cs.toArray,.agg #[.int .i64 (m:Int),.int .i64 0,.int .i64 0],.agg #[.slice none 0 0,.slice A m U,.int .i64 (m:Int),.slice none 0 0,.slice none 0 0,.int .i64 0]] y (Ret fun v w'=>v=.bool true∧Below y.heap.size y w')):=hide (fun y hx=>by
  have E:=z.out.trans (hx.mono z.out.size)
  exact TW (h.keep (fun p G=>E.cell G) E.size) hb (hl.keep (fun p G=>E.cell G) E.size) hm ap af.states ad)
 have az:Hid (∀y (i:Nat),Below C.heap.size C y→i<m→Calls Tryz.prog 94 #[.agg cs.toArray,.agg ds.toArray,.agg #[.int .i64 (m:Int),.int .i64 0,.int .i64 0],.int .i64 (i:Int)] y (Ret fun v w'=>Below y.heap.size y w'∧∃A n c,v=.slice A n c∧n=(Dr p q i).length∧Sl w' w'.heap.size 1 Ai A (Dr p q i))):=hide (fun y i hx hi=>by
  have E:=z.out.trans (hx.mono z.out.size)
  exact MS (h.keep (fun p G=>E.cell G) E.size) (V.keep (fun p G=>E.cell G) E.size) af ar hi ad)
 have aJ:=hide (hl.keep (w':=C) (B':=C.heap.size) (fun p G=>z.out.cell G) z.out.size)
 generalize cs.toArray=pc at*
 generalize ds.toArray=qc at*
 have av:=hide Z
 have aw:=hide al
 have ax:=hide a2
 have am:=hide a3
 have aL:=hide ae
 have aM:=hide aq
 have aK:=hide hm
 have aF:=Ah Z ae
 have aG:(loadCellsFrom ⟨w2.heap.size,0,none⟩ 0 3 #[]).run Tryz.prog C=.ok _ C:=Ah a2 rfl
 have aH:(loadCellsFrom ⟨w3.heap.size,0,none⟩ 0 6 #[]).run Tryz.prog C=.ok _ C:=Ah a3 rfl
 clear h V hb hl hm ap Z al a2 a3 a6 a7 O J ah ai aj ak aB aC aD aE a4 a5 ao ae aq af ar
 go_enter Tryz.func46,Tryz.ntmps46
 go_wp2_with fail
 refine Calls.ret (aN.out _ (Below.refl _ _)) ?_
 rintro v w5 ⟨rfl,a8⟩
 have ay:=hide a8
 have b0:=(am.out.below a8).cell
 clear a8 aF aG aH
 go_wp2_with fail
 go_loopw [8,9] (fun rr ii wr=>rr=.bool false∧ii=.int .i64 0∧wr=w5) (fun _ _ _=>0)
 case atStart=>exact⟨rfl,rfl,rfl⟩
 case round=>
  obtain⟨rfl,rfl,rfl⟩:=hrel
  go_wp2_with fail
  refine P8 (pick:=Dr p q) av.out aw.out ax.out am.out aL.out aM.out aJ.out aK.out ad ay.out az.out ?_ ?_ ?_
  ·repeat (first | exact Reg.NoQ.body (fun _ _ h=>h) (fun _ h=>h) | refine Reg.NoQ.then ?_ | refine Reg.NoQ.inBlock ?_)
  ·intro I
   iterate 19 (intro _)
   intro w9 M
   have a9:=hide (z.out.trans (M.mono z.out.size))
   have W:=hide I
   clear M I
   go_wp2_with fail
   go_ret
   exact⟨a9.out,true,rfl,by simpa using W.out⟩
  ·intro I
   iterate 20 (intro _)
   intro w9 M
   have a9:=hide (z.out.trans (M.mono z.out.size))
   have W:=hide I
   clear M I
   go_wp2_with fail
   go_ret
   exact⟨a9.out,false,rfl,by simpa using W.out⟩
end
end Go.Proofs.YtfcfpoemojjglaaGreatDoor
