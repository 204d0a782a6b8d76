/-
  Part TF of a proof.
-/
import Derived.Test.YtfcfpoemojjglaaGreatDoorPA
import Derived.Test.YtfcfpoemojjglaaGreatDoorPB
import Derived.Test.YtfcfpoemojjglaaGreatDoorCX
import Derived.Test.YtfcfpoemojjglaaGreatDoorSB
import Derived.Test.YtfcfpoemojjglaaGreatDoorTE
import Derived.Test.YtfcfpoemojjglaaGreatDoorAC
set_option maxHeartbeats 16000000
set_option maxRecDepth 100000
set_option linter.unusedVariables false
set_option linter.unusedSimpArgs false
namespace Go.Proofs.YtfcfpoemojjglaaGreatDoor
open Go.RowKit
theorem MQ {w:World} {o:Obj} {p:Addr} {v:Value} (x:p.block<w.heap.size) (h:w.cell? p=some v):(w.alloc o).cell? p=some v:=(World.cell?_alloc_lt w o p x).trans h
theorem Rr (w:World) (e:TypeId) (size:Nat):(w.alloc (.cells #[] e)).ownsRow w.heap.size e size (.slice (some ⟨w.heap.size,0,none⟩) 0 0) 0 []:=
 ⟨by simp,.inr ⟨w.heap.size,0,#[],rfl,Nat.le_refl _,heap_alloc_new w _,Nat.le_refl _,by unfold maxLen; omega,by simp,by simp⟩⟩
theorem Hh {w:World} {B c:Nat} {A:Option Addr} {xs:List Int} (h:Sl w B 1 Ai A xs) (W:B≤w.heap.size) (hn:xs.length≤900000):
  Calls Tryz.prog 47 #[.slice A xs.length c] w (Ret fun r w'=>Below w.heap.size w w'∧w'.ownsRow w.heap.size 3 1 r xs.length (xs.map fun x=>.int .i64 x)):=by
 have ho:=Rr w 3 1
 have G:=(Below.refl w.heap.size w).alloc (Nat.le_refl _) (.cells #[] 3)
 by_cases h0:xs.length=0
 ·have C:xs=[]:=List.length_eq_zero_iff.1 h0
  subst C
  simp only [List.length_nil] at*
  have E:∀w':World,Sem.run Tryz.prog (pure (#[]:Array Value)) w'=.ok #[] w':=fun _=>rfl
  have F:∀(I:Addr) (w':World),Sem.run Tryz.prog (storeCells I ([]:List Value)) w'=.ok () w':=fun _ _=>rfl
  cases A
  all_goals
   go_enter Tryz.func47,Tryz.ntmps47
   go_wp2_with fail
   go_ret
   exact⟨G,ho⟩
 ·obtain⟨b,off,x0,rfl,Z,a6,hc⟩:=h.at (k:=0) (by omega)
  go_enter Tryz.func47,Tryz.ntmps47
  go_wp2_with (at_builtin; refine G9 C9 rfl _ _ rfl w.heap.size (.slice (some ⟨w.heap.size,0,none⟩) 0 0) 0 [] rfl ho ⟨b,off,none⟩ xs.length c (xs.map fun x=>.int .i64 x) rfl (by simp) ?_ (by simp [Value.oneCell']) (by omega) (by omega) (by simp) ?_)
  ·intro j u y
   rw [List.getElem?_map] at y
   cases C:xs[j]? with
   | none=>rw [C] at y; cases y
   | some x=>
    rw [C] at y
    have y:=Option.some.inj y
    subst y
    obtain⟨J,o',e,U,O⟩:=h.2 (by intro e; rw [e] at h0; exact h0 rfl)
    have e:=Option.some.inj e
    injection e with E F _
    subst E F
    have:=O j x C 0 (by omega)
    have M:(⟨b,off,none⟩:Addr).add j=⟨b,off+j*1+0,none⟩:=by unfold Addr.add; split <;> simp_all
    rw [M]
    exact MQ (by show b<_; omega) this
  ·intro g cap w' V hk a4 hg
   go_wp2_with fail
   go_ret
   exact⟨G.trans (hk.below (by simp) (fun J U e=>by simp [Value.ownBlock] at e; omega)),V⟩
end Go.Proofs.YtfcfpoemojjglaaGreatDoor
namespace Go.Proofs.YtfcfpoemojjglaaGreatDoor
open Go.RowKit
open K (Am AB At Ba Ah)
attribute [-go_sem] loadCellsFrom
set_option maxHeartbeats 16000000
set_option maxRecDepth 100000
structure Ek (p:Am):Prop where
 ms:p.messages.length=0
 vs:p.values.length=0
 rs:p.res.length=0
 fl:p.fault=0
 tp:p.topo=2∨p.topo=3
theorem Ml {ok:ByteArray→Bool} {p:Am} (h:K.protE ok p=0) (ht:p.topo=2∨p.topo=3):Ek p:=by
 unfold K.protE at h
 obtain⟨-,x⟩:=AY.1 h
 obtain⟨-,g2⟩:=AY.1 x
 obtain⟨-,g3⟩:=AY.1 g2
 obtain⟨-,g4⟩:=AY.1 g3
 obtain⟨-,g5⟩:=AY.1 g4
 obtain⟨g6,-⟩:=AY.1 g5
 have h1:=(Gg (by decide)).1 g6
 have G:p.topo≠1:=by omega
 simp only [G,decide_false,Bool.not_false,Bool.true_and,Bool.false_and,Bool.or_false,Bool.or_eq_false_iff,Bool.not_eq_false',decide_eq_true_eq,List.isEmpty_iff] at h1
 obtain⟨⟨⟨y,C⟩,E⟩,F⟩:=h1
 exact⟨by rw [y]; rfl,by rw [C]; rfl,by rw [E]; rfl,F,ht⟩
theorem Kz (n x y:Int) (w:World):Calls Tryz.prog 100 #[.int .i64 n,.int .i64 x,.int .i64 y] w fun e w'=>e=.returned (.bool (K.inC n x y))∧w=w':=by
 by_cases h:x≤n
 all_goals
  go_enter Tryz.func100,Tryz.ntmps100
  go_wp2
  go_ret
  exact⟨by simp [K.inC]; omega,rfl⟩
theorem J9 (w:World):Calls Tryz.prog 134 #[.slice none 0 0,.int .i64 0] w fun e w'=>e=.returned (.bool true)∧w=w':=by
 go_enter Tryz.func134,Tryz.ntmps134
 go_wp2_with fail
 go_loopw [5] (fun h wr=>h=.int .i64 0∧wr=w) (fun _ _=>0)
 case atStart=>exact⟨rfl,rfl⟩
 case round=>
  obtain⟨rfl,rfl⟩:=hrel
  go_wp2_with fail
  go_ret
  exact⟨rfl,rfl⟩
section
variable {w:World} {cs ds:List Value} {p:Am} {q:AB} {m:Nat}
theorem Rb (h:At w w.heap.size cs p) (x:Ek p):Calls Tryz.prog 133 #[.agg cs.toArray,.agg #[.int .i64 (m:Int),.int .i64 0,.int .i64 0]] w (Ret fun v w'=>v=.int .i64 (m:Int)∧Below w.heap.size w w'):=by
 obtain⟨A1,c1,A2,c2,A3,c3,A4,c4,A5,c5,A6,c6,A7,c7,a3,al,am,an,V,W,Z,a2,ao,ap,aq,j1,j2,j3,j4,j5,j6,j7,j8⟩:=h.cells
 rw [x.ms] at V
 rw [x.vs] at W
 rw [x.fl] at Z
 rw [x.rs] at a2
 obtain⟨w1,ar,y,E,O⟩:=Ae w cs.toArray 27
 obtain⟨w2,au,C,F,U⟩:=Ae w1 #[.int .i64 (m:Int),.int .i64 0,.int .i64 0] 44
 have J:=y.trans (C.mono y.size)
 have M:=hide J
 have G:=(E.below C)
 have I:=F
 have aj:=G.cell
 have ak:=I.cell
 generalize cs.toArray=pc at*
 clear h x G I y C E F O U J j1 j2 j3 j4 j5 j6 j7 j8 a3
 go_enter Tryz.func133,Tryz.ntmps133
 go_wp2_with fail
 go_ret
 exact⟨rfl,M.out⟩
theorem L7 (h:At w w.heap.size cs p) (x:Ek p) (W:1≤m∧m≤8):Calls Tryz.prog 132 #[.agg cs.toArray,.agg #[.int .i64 (m:Int),.int .i64 0,.int .i64 0]] w (Ret fun v w'=>v=.bool true∧Below w.heap.size w w'):=by
 obtain⟨A1,c1,A2,c2,A3,c3,A4,c4,A5,c5,A6,c6,A7,c7,a6,au,Z,av,a2,a3,a4,a5,aw,ax,ay,j1,j2,j3,j4,j5,j6,j7,j8⟩:=h.cells
 rw [x.ms] at a2
 rw [x.vs] at a3
 rw [x.fl] at a4
 rw [x.rs] at a5
 obtain⟨w1,aA,y,F,U⟩:=Ae w cs.toArray 27
 obtain⟨w2,aB,C,G,V⟩:=Ae w1 #[.int .i64 (m:Int),.int .i64 0,.int .i64 0] 44
 have M:=y.trans (C.mono y.size)
 have O:=hide M
 have I:=(F.below C)
 have J:=G
 have aq:=I.cell
 have ar:=J.cell
 have i1:K.inC (m:Int) 1 1048576=true:=by simp [K.inC]; omega
 have i2:K.inC 0 0 (m:Int)=true:=by simp [K.inC]
 obtain⟨tp,E⟩:∃t,t=p.topo:=⟨_,rfl⟩
 have az:(tp != 4)=true:=by rw [E]; have:=x.tp; simp; omega
 rw [←E] at Z
 generalize cs.toArray=pc at*
 clear h x I J y C F G U V M j1 j2 j3 j4 j5 j6 j7 j8 a6 E W
 go_enter Tryz.func132,Tryz.ntmps132
 go_wp2_with (go_at_call 98; refine(K.within2_any _ _ _ _).mono ?_; rintro e w' ⟨rfl,rfl⟩; first | rw [i1] | rw [i2])
 go_loopw [5] (fun ii wr=>ii=.int .i64 0∧wr=w2) (fun _ _=>0)
 case atStart=>exact⟨rfl,rfl⟩
 case round=>
  obtain⟨rfl,rfl⟩:=hrel
  go_wp2_with fail
  go_ret
  exact⟨rfl,O.out⟩
theorem S9 (h:At w w.heap.size cs p) (ab:p.Small) (hT:K.SpOK w) (h0:K.protE K.nameOK p=0) (hb:Ek p) (hm:1≤m∧m≤8):Calls Tryz.prog 91 #[.agg cs.toArray,.agg #[.int .i64 (m:Int),.int .i64 0,.int .i64 0]] w (Ret fun v w'=>v=.int .i64 0∧Below w.heap.size w w'):=by
 have V:=h.rules_at.1
 obtain⟨w1,au,G,W,ai⟩:=Ae w cs.toArray 27
 obtain⟨w2,av,I,Z,aj⟩:=Ae w1 #[.int .i64 (m:Int),.int .i64 0,.int .i64 0] 44
 have a7:=G.trans (I.mono G.size)
 have y:=hide a7
 have F:=(W.below I)
 have a4:=Z
 have E:=h.keep (w':=w2) (B':=w2.heap.size) (fun _ U=>y.out.cell U) y.out.size
 generalize aa:cs.toArray=pc at*
 have O:=K.refProtValidate_any E ab (hT.below y.out)
 rw [h0,aa] at O
 have ak:=Ah F V
 have ag:=hide hb
 have ao:=hide E
 have ae:=hide F
 have af:=hide a4
 have ap:=hide V
 have an:=hide hm
 have ar:¬(8:Int)<(m:Int):=by omega
 clear h hb F a4 G I W Z ai aj a7 ab hT h0 E V hm
 go_enter Tryz.func91,Tryz.ntmps91
 go_wp2_with fail
 refine Calls.ret O ?_
 rintro v C ⟨rfl,x⟩
 have a8:=hide (y.out.trans (x.mono y.out.size))
 have a3:=ae.out.below x
 have a5:=hide (af.out.below x)
 have al:=Ah a3 ap.out
 have am:(loadCellsFrom ⟨w1.heap.size,0,none⟩ 0 3 #[]).run Tryz.prog C=.ok _ C:=Ah a5.out rfl
 have M:=L7 (m:=m) (ao.out.keep (w':=C) (B':=C.heap.size) (fun _ U=>x.cell U) x.size) ag.out an.out
 rw [aa] at M
 clear x a3 ak O
 go_wp2_with fail
 refine Calls.ret M ?_
 rintro v w5 ⟨rfl,J⟩
 have ah:=hide (a8.out.trans (J.mono a8.out.size))
 have aq:=(a5.out.below J).cell
 clear J M al am
 go_wp2_with fail
 go_ret
 exact⟨rfl,ah.out⟩
end
end Go.Proofs.YtfcfpoemojjglaaGreatDoor
namespace Go.Proofs.YtfcfpoemojjglaaGreatDoor
open Go.RowKit
open K (Am AB At Ba Ah)
attribute [-go_sem] loadCellsFrom
set_option maxHeartbeats 16000000
set_option maxRecDepth 100000
section
variable {w:World} {cs ds:List Value} {p:Am} {q:AB} {m:Nat}
theorem Tk {A:Option Addr} {cap:Nat} {l:List Int} (h:At w w.heap.size cs p) (J:Sl w w.heap.size 1 Ai A l) (I:∀x∈l,inN (p.states.length:Int) x=true) (hL:p.states.length≤60):
  Calls Tryz.prog 99 #[.agg cs.toArray,.slice A l.length cap] w (Ret fun v w'=>v=.bool true∧Below w.heap.size w w'):=by
 obtain⟨A1,c1,A2,c2,A3,c3,A4,c4,A5,c5,A6,c6,A7,c7,al,ai,aj,M,-⟩:=h.cells
 obtain⟨w1,ay,Z,U,ad⟩:=Ae w cs.toArray 27
 have C:=hide Z
 have V:=U
 generalize cs.toArray=pc at*
 obtain⟨ns,a4⟩:∃n,n=p.states.length:=⟨_,rfl⟩
 rw [←a4] at M I hL
 obtain⟨m,E⟩:∃m,m=l.length:=⟨_,rfl⟩
 have ah:=hide E
 rw [←E]
 have ae:=hide J
 have ac:=hide I
 have a9:=hide V
 have ak:=hide M
 have ag:=J.1
 rw [←E] at ag
 clear h J I a4 E V Z U ad ai aj M al
 go_enter Tryz.func99,Tryz.ntmps99
 go_wp2_with fail
 go_loopw [5] (fun O wr=>∃i:Nat,O=.int .i64 (i:Int)∧i≤m∧Hid (Below w1.heap.size w1 wr)) (fun O _=>m - (intOf O).toNat)
 case atStart=>exact⟨0,rfl,Nat.zero_le _,Below.refl _ _⟩
 case round=>
  obtain⟨i,rfl,hi,F⟩:=hrel
  by_cases af:i<m
  ·obtain⟨b,o,x,hA,aa,hx,a2⟩:=ae.out.at (show i<l.length by rw [←ah.out]; exact af)
   subst hA
   have G:=hide (F.out.trans ((Ap wr).mono F.out.size))
   have W:=C.out.trans (G.out.mono C.out.size)
   have aw:wr.drew.cell? ⟨b,o+i,none⟩=some (.int .i64 x):=by
    have a3:=a2 0 (by omega)
    simp only [Ai,Nat.mul_one,Nat.add_zero] at a3
    exact(W.cell (p:=⟨b,o+i,none⟩) aa).trans a3
   have av:wr.drew.cell? ⟨w.heap.size,2,none⟩=some (.slice A1 ns c1):=by rw [(a9.out.below G.out).cell]; exact ak.out
   have am:K.inC x 0 ((ns:Int) - 1)=true:=by
    have:=ac.out x (List.mem_of_getElem? hx)
    rw [D3] at this
    simp [K.inC]; omega
   clear W a2 hx
   go_wp2_with fail
   refine Reg.cI [0,0,3,7,0,16,48,112,255,511] [0,1,2,3,4,5,6,7,8,9] ?_
   refine Reg.wI [0,1,2,3,4,5,6,7] [8,9] rfl fun Qf y=>?_
   go_wp2_with fail
   first | refine y _ _ ⟨rfl,?_⟩ | refine⟨rfl,?_⟩ | refine y _ _ ⟨by simp [Reg.fineT,Reg.intOp,Region.wanted,yielded,Reg.intFine,Reg.isInt,Act.eval],?_⟩
   try clear y
   refine Reg.aI 8 [9] [] rfl fun Qf y=>?_
   simp only [gT,gS,gZ]
   go_wp2_with (go_at_call 100; refine(Kz _ _ _ _).mono ?_; rintro e w' ⟨rfl,rfl⟩; rw [am])
   first | refine y _ _ ⟨Reg.nm,?_⟩ | refine⟨Reg.nm,?_⟩
   try clear y
   refine Reg.wI [9] [] rfl fun Qf y=>?_
   go_wp2_with fail
   first | refine y _ _ ⟨rfl,?_⟩ | refine⟨rfl,?_⟩ | refine y _ _ ⟨by simp [Reg.fineT,Reg.intOp,Region.wanted,yielded,Reg.intFine,Reg.isInt,Act.eval],?_⟩
   try clear y
   first | refine Reg.restI_end ?_ | skip
   go_wp2_with fail
   exact⟨⟨i+1,by go_num,by omega,G⟩,by simp [intOf]; omega⟩
  ·obtain rfl:i=m:=by omega
   have ab:=hide (C.out.trans (F.out.mono C.out.size))
   go_wp2_with fail
   go_ret
   exact⟨rfl,ab.out⟩
end
end Go.Proofs.YtfcfpoemojjglaaGreatDoor
namespace Go.Proofs.YtfcfpoemojjglaaGreatDoor
open Go.RowKit
open K (Am AB At Ba Ah)
attribute [-go_sem] loadCellsFrom
set_option maxHeartbeats 16000000
set_option maxRecDepth 100000
section
variable {w:World} {cs ds:List Value} {p:Am} {q:AB} {m:Nat}
theorem TW {A:Option Addr} {cap:Nat} {l:List Int} (h:At w w.heap.size cs p) (M:Ek p) (hl:Sl w w.heap.size 1 Ai A l) (hm:m=l.length) (ai:∀x∈l,inN (p.states.length:Int) x=true) (hL:p.states.length≤60) (bi:m≤8):
  Calls Tryz.prog 92 #[.agg cs.toArray,.agg #[.int .i64 (m:Int),.int .i64 0,.int .i64 0],.agg #[.slice none 0 0,.slice A m cap,.int .i64 (m:Int),.slice none 0 0,.slice none 0 0,.int .i64 0]] w (Ret fun v w'=>v=.bool true∧Below w.heap.size w w'):=by
 obtain⟨A1,c1,A2,c2,A3,c3,A4,c4,A5,c5,A6,c6,A7,c7,a9,aM,al,aN,am,an,ao,ap,aO,aP,aQ,j1,j2,j3,j4,j5,j6,j7,j8⟩:=h.cells
 rw [M.ms] at am
 rw [M.vs] at an
 rw [M.fl] at ao
 rw [M.rs] at ap
 obtain⟨w1,bo,a7,aa,aD⟩:=Ae w cs.toArray 27
 obtain⟨w2,bp,a8,ab,aE⟩:=Ae w1 #[.int .i64 (m:Int),.int .i64 0,.int .i64 0] 44
 obtain⟨C,bq,Z,ac,aF⟩:=Ae w2 #[.slice none 0 0,.slice A m cap,.int .i64 (m:Int),.slice none 0 0,.slice none 0 0,.int .i64 0] 46
 have a6:=a7.trans (a8.mono a7.size)
 have ag:=a6.trans (Z.mono a6.size)
 have F:=hide ag
 have ad:=((aa.below a8).below Z)
 have ae:=(ab.below Z)
 have af:=ac
 have aL:Hid (∀E,Below C.heap.size C E→Calls Tryz.prog 133 #[.agg cs.toArray,.agg #[.int .i64 (m:Int),.int .i64 0,.int .i64 0]] E (Ret fun v w'=>v=.int .i64 (m:Int)∧Below E.heap.size E w')):=hide (fun E hx=>Rb (h.keep (fun p U=>(F.out.trans (hx.mono F.out.size)).cell U) (F.out.trans (hx.mono F.out.size)).size) M)
 have aR:Hid (∀E,Below C.heap.size C E→Calls Tryz.prog 99 #[.agg cs.toArray,.slice A m cap] E (Ret fun v w'=>v=.bool true∧Below E.heap.size E w')):=hide (fun E hx=>by
  have a3:=F.out.trans (hx.mono F.out.size)
  rw [hm]
  exact Tk (h.keep (fun p U=>a3.cell U) a3.size) (hl.keep (fun p U=>a3.cell U) a3.size) ai hL)
 have aS:(p.topo==4)=false:=by have:=M.tp; simp; omega
 obtain⟨tp,ar⟩:∃t,t=p.topo:=⟨_,rfl⟩
 rw [←ar] at al aS
 generalize cs.toArray=pc at*
 have I:=hide ad
 have V:=hide ae
 have W:=hide af
 have aq:=hide a9
 have bj:((m:Int) != (m:Int))=false:=by simp
 have G:=hide ((Below.refl C.heap.size C).trans (Ap C))
 have ax:=((I.out).below G.out).cell
 have az:=((V.out).below G.out).cell
 have aB:=((W.out).below G.out).cell
 have aG:=Ah (I.out.below G.out) a9
 have aH:(loadCellsFrom ⟨w1.heap.size,0,none⟩ 0 3 #[]).run Tryz.prog C.drew=.ok _ C.drew:=Ah (V.out.below G.out) rfl
 have bk:=hide al
 have bl:=hide aN
 have bm:=hide am
 have bn:=hide an
 have iv:K.inC 0 0 (max 0 (-1))=true:=by decide
 clear h M hl hm ai ar ad ae af a7 a8 Z aa ab ac aD aE aF a6 ag a9 aM ao ap aO aP aQ j1 j2 j3 j4 j5 j6 j7 j8
 go_enter Tryz.func92,Tryz.ntmps92
 go_wp2_with fail
 refine Reg.cI [0,1,3,0,0,24,63,127,255,255,767,2047,4095,8191,16383,32767,65535,32767,163839,32767,557055,1998847,4194303,8388607,16777215,33554431,67108863,33554431,167772159,436207615,1073741823,2147483647,4294967295,8589934591,17179869183,34359738367,17179869183,85899345919,223338299391,549755813887,1099511627775,2199023255551] [0,1,2,3,4,5,6,7,8,9,10,11,12,13,14,15,16,17,18,19,20,21,22,23,24,25,26,27,28,29,30,31,32,33,34,35,36,37,38,39,40,41] ?_
 refine Reg.wI [0,1,2,3,4] [5,6,7,8,9,10,11,12,13,14,15,16,17,18,19,20,21,22,23,24,25,26,27,28,29,30,31,32,33,34,35,36,37,38,39,40,41] rfl fun Qf y=>?_
 go_wp2_with fail
 first | refine y _ _ ⟨rfl,?_⟩ | refine⟨rfl,?_⟩ | refine y _ _ ⟨by simp [Reg.fineT,Reg.intOp,Region.wanted,yielded,Reg.intFine,Reg.isInt,Act.eval],?_⟩
 try clear y
 refine Reg.aI 5 [6,7,8,9,10,11,12,13,14,15,16,17,18,19,20,21,22,23,24,25,26,27,28,29,30,31,32,33,34,35,36,37,38,39,40,41] [1] rfl fun Qf y=>?_
 simp only [gT,gS,gZ]
 go_wp2_with fail
 refine Calls.ret (aL.out _ G.out) ?_
 rintro v w4 ⟨rfl,a2⟩
 go_wp2_with fail
 first | refine y _ _ ⟨Reg.same_below (a2) [1] rfl,?_⟩ | refine⟨Reg.same_below (a2) [1] rfl,?_⟩
 try clear y
 have J:=hide (G.out.trans (a2.mono G.out.size))
 have aJ:=Ah (I.out.below J.out) aq.out
 have aw:=(I.out.below J.out).cell
 have ay:=(V.out.below J.out).cell
 have aA:=(W.out.below J.out).cell
 clear a2 ax az aB aG aH
 refine Reg.wI [6,7,8,9,10] [11,12,13,14,15,16,17,18,19,20,21,22,23,24,25,26,27,28,29,30,31,32,33,34,35,36,37,38,39,40,41] rfl fun Qf y=>?_
 go_wp2_with fail
 first | refine y _ _ ⟨rfl,?_⟩ | refine⟨rfl,?_⟩ | refine y _ _ ⟨by simp [Reg.fineT,Reg.intOp,Region.wanted,yielded,Reg.intFine,Reg.isInt,Act.eval],?_⟩
 try clear y
 refine Reg.aI 11 [12,13,14,15,16,17,18,19,20,21,22,23,24,25,26,27,28,29,30,31,32,33,34,35,36,37,38,39,40,41] [] rfl fun Qf y=>?_
 simp only [gT,gS,gZ]
 go_wp2_with fail
 refine Calls.ret (aR.out _ J.out) ?_
 rintro v w5 ⟨rfl,ah⟩
 go_wp2_with fail
 first | refine y _ _ ⟨Reg.nm,?_⟩ | refine⟨Reg.nm,?_⟩
 try clear y
 have O:=hide (J.out.trans (ah.mono J.out.size))
 have aK:=Ah (I.out.below O.out) aq.out
 have bd:=(I.out.below O.out).cell
 have bf:=(V.out.below O.out).cell
 have bg:=(W.out.below O.out).cell
 clear ah aJ aw ay aA
 refine Reg.wI [12,13,14,15,16,17,18,19,20,21,22,23,24,25,26,27,28,29] [30,31,32,33,34,35,36,37,38,39,40,41] rfl fun Qf y=>?_
 go_wp2_with fail
 first | refine y _ _ ⟨rfl,?_⟩ | refine⟨rfl,?_⟩ | refine y _ _ ⟨by simp [Reg.fineT,Reg.intOp,Region.wanted,yielded,Reg.intFine,Reg.isInt,Act.eval],?_⟩
 try clear y
 refine Reg.aI 30 [31,32,33,34,35,36,37,38,39,40,41] [] rfl fun Qf y=>?_
 simp only [gT,gS,gZ]
 go_wp2_with (go_at_call 134; refine(J9 _).mono ?_; rintro e w' ⟨rfl,rfl⟩)
 first | refine y _ _ ⟨Reg.nm,?_⟩ | refine⟨Reg.nm,?_⟩
 try clear y
 refine Reg.wI [31,32,33,34,35,36,37,38] [39,40,41] rfl fun Qf y=>?_
 go_wp2_with fail
 first | refine y _ _ ⟨rfl,?_⟩ | refine⟨rfl,?_⟩ | refine y _ _ ⟨by simp [Reg.fineT,Reg.intOp,Region.wanted,yielded,Reg.intFine,Reg.isInt,Act.eval],?_⟩
 try clear y
 refine Reg.aI 39 [40,41] [] rfl fun Qf y=>?_
 simp only [gT,gS,gZ]
 go_wp2_with (go_at_call 134; refine(J9 _).mono ?_; rintro e w' ⟨rfl,rfl⟩)
 first | refine y _ _ ⟨Reg.nm,?_⟩ | refine⟨Reg.nm,?_⟩
 try clear y
 refine Reg.wI [40,41] [] rfl fun Qf y=>?_
 go_wp2_with fail
 first | refine y _ _ ⟨rfl,?_⟩ | refine⟨rfl,?_⟩ | refine y _ _ ⟨by simp [Reg.fineT,Reg.intOp,Region.wanted,yielded,Reg.intFine,Reg.isInt,Act.eval],?_⟩
 try clear y
 first | refine Reg.restI_end ?_ | skip
 go_wp2_with fail
 go_loopw [7] (fun ii wr=>ii=.int .i64 0∧Hid (Below C.heap.size C wr)) (fun _ _=>0)
 case atStart=>exact⟨rfl,O⟩
 case round=>
  obtain⟨rfl,hB⟩:=hrel
  have be:=(I.out.below hB.out).cell
  have bh:=(W.out.below hB.out).cell
  have aC:=hide (F.out.trans (hB.out.mono F.out.size))
  clear aK
  go_wp2_with (go_at_call 100; refine(Kz _ _ _ _).mono ?_; rintro e w' ⟨rfl,rfl⟩; rw [iv])
  go_ret
  exact⟨rfl,aC.out⟩
end
end Go.Proofs.YtfcfpoemojjglaaGreatDoor
namespace Go.Proofs.YtfcfpoemojjglaaGreatDoor
open Go.RowKit
open K (Am Az At AW Ah)
attribute [-go_sem] loadCellsFrom
set_option maxHeartbeats 16000000
set_option maxRecDepth 100000
theorem XV {w:World} {m i:Nat} (G:i<m) (I:m≤60):Calls Tryz.prog 101 #[.int .i64 2,.slice none 0 0,.int .i64 (m:Int),.int .i64 (i:Int)] w (Ret fun v w'=>Below w.heap.size w w'∧v=.tuple #[.int .i64 (AN false m i),.int .i64 (Ar false m i),.int .i64 (-1)]):=by
 have E:K.inC (i:Int) 0 ((m:Int) - 1)=true:=by simp [K.inC]; omega
 have y:=hide (Below.refl w.heap.size w)
 have C:=hide (show(i:Int) - 1=AN false m i by unfold AN; split <;> simp_all)
 by_cases h:i+1=m
 ·have x:=hide (show Ar false m i= -1 from(if_pos h).trans rfl)
  have F:((i:Int)+1==(m:Int))=true:=by simp; omega
  clear h
  go_enter Tryz.func101,Tryz.ntmps101
  go_wp2_with (go_at_call 100; refine(Kz _ _ _ _).mono ?_; rintro e w' ⟨rfl,rfl⟩; rw [E])
  refine bodyPost_ret (v:=.tuple #[.int .i64 ((i:Int) - 1),.int .i64 (-1),.int .i64 (-1)]) (by simp [results,Tryz.results101,go_sem]) rfl ⟨y.out,by rw [x.out,C.out]⟩
 ·have x:=hide (show Ar false m i=(i:Int)+1 from if_neg h)
  have F:((i:Int)+1==(m:Int))=false:=by simp; omega
  clear h
  go_enter Tryz.func101,Tryz.ntmps101
  go_wp2_with (go_at_call 100; refine(Kz _ _ _ _).mono ?_; rintro e w' ⟨rfl,rfl⟩; rw [E])
  refine bodyPost_ret (v:=.tuple #[.int .i64 ((i:Int) - 1),.int .i64 ((i:Int)+1),.int .i64 (-1)]) (by simp [results,Tryz.results101,go_sem]) rfl ⟨y.out,by rw [x.out,C.out]⟩
theorem XW {w:World} {m i:Nat} (M:i<m) (O:m≤60):Calls Tryz.prog 101 #[.int .i64 3,.slice none 0 0,.int .i64 (m:Int),.int .i64 (i:Int)] w (Ret fun v w'=>Below w.heap.size w w'∧v=.tuple #[.int .i64 (AN true m i),.int .i64 (Ar true m i),.int .i64 (-1)]):=by
 have J:K.inC (i:Int) 0 ((m:Int) - 1)=true:=by simp [K.inC]; omega
 have I:=hide (Ap w)
 have U:(m:Int)≠0:=by omega
 have V:Int.tmod ((i:Int)+1) (m:Int)=Ar true m i:=by
  unfold Ar
  by_cases y:i+1=m
  ·rw [if_pos y,←y]
   simp
  ·rw [if_neg y]
   exact Int.tmod_eq_of_lt (by omega) (by omega)
 have W:-1≤Ar true m i∧Ar true m i≤60:=by unfold Ar; split <;> (try split) <;> omega
 have G:((i:Int)==0)=true→Hid (AN true m i=(m:Int) - 1):=fun h=>hide (by unfold AN; rw [if_pos (by simpa using h)]; rfl)
 have F:((i:Int)==0)=false→Hid (AN true m i=(i:Int) - 1):=fun h=>hide (by unfold AN; rw [if_neg (by simpa using h)])
 generalize Ar true m i=sc at*
 cases C:((i:Int)==0)
 all_goals
  first
  | have E:=G C
  | have E:=F C
  clear G F
  go_enter Tryz.func101,Tryz.ntmps101
  go_wp2_with (go_at_call 100; refine(Kz _ _ _ _).mono ?_; rintro e w' ⟨rfl,rfl⟩; rw [J])
  refine Reg.cI [0,0,2,0,14,1,63,127] [0,1,2,3,4,5,6,7] ?_
  refine Reg.wI [0,1,2,3,4,5,6,7] [] rfl fun Qf x=>?_
  go_wp2_with fail
  first | refine x _ _ ⟨rfl,?_⟩ | refine⟨rfl,?_⟩ | refine x _ _ ⟨by simp [Reg.fineT,Reg.intOp,Region.wanted,yielded,Reg.intFine,Reg.isInt,Act.eval],?_⟩
  try clear x
  first | refine Reg.restI_end ?_ | skip
  go_wp2_with fail
  refine bodyPost_ret (v:=.tuple #[_,.int .i64 sc,.int .i64 (-1)]) (by simp [results,Tryz.results101,go_sem]; rfl) rfl ⟨I.out,by rw [E.out]⟩
theorem Xi {w:World} {A D:Option Addr} {m cap c:Nat} {l d:List Int} {who:Int} (I:Sl w w.heap.size 1 Ai A l) (M:m=l.length) (hd:Sl w w.heap.size 1 Ai D d) (hw:who<l.length) (ac:m≤60):
  Calls Tryz.prog 109 #[.agg #[.slice none 0 0,.slice A m cap,.int .i64 (m:Int),.slice none 0 0,.slice none 0 0,.int .i64 0],.slice D d.length c,.int .i64 who] w (Ret fun v w'=>v=.bool (Sb l d who)∧Below w.heap.size w w'):=by
 obtain⟨x,af,h,E,-⟩:=Ae w #[.slice none 0 0,.slice A m cap,.int .i64 (m:Int),.slice none 0 0,.slice none 0 0,.int .i64 0] 46
 have a9:=E.cell
 have O:=hide h
 have F:=hd.keep (w':=x) (B':=x.heap.size) (fun _ V=>h.cell V) h.size
 have hh:Hid (∀z:Int,Calls Tryz.prog 93 #[.slice D d.length c,.int .i64 z] x fun r w'=>r=.returned (.bool (decide (z∈d)))∧x=w'):=hide fun z=>K.has_any F
 have aa:=hd.1
 have J:=I.keep (w':=x) (B':=x.heap.size) (fun _ V=>h.cell V) h.size
 have ad:=hide M
 have y:=hide (show Sb l d who=(decide (d.length=0)||(decide (0≤who)&&match l[who.toNat]? with | some z=>decide (z∈d) | none=>false)) from rfl)
 generalize Sb l d who=an at*
 generalize d.length=W at*
 by_cases h0:W=0
 ·have e0:((W:Int)==0)=true:=by simp [h0]
  have C:an=true:=by rw [y.out]; simp [h0]
  clear y hd F I J h E M
  subst C
  go_enter Tryz.func109,Tryz.ntmps109
  go_wp2_with fail
  go_ret
  exact⟨rfl,O.out⟩
 ·have e0:((W:Int)==0)=false:=by simp [h0]
  by_cases h1:0≤who
  ·obtain⟨j,rfl⟩:∃j:Nat,who=(j:Int):=⟨who.toNat,by omega⟩
   have hj:j<l.length:=by omega
   obtain⟨b,off,z,rfl,hb,hz,Z⟩:=J.at hj
   have U:=Z 0 (by decide)
   rw [Nat.mul_one,Nat.add_zero] at U
   have a8:x.cell? ⟨b,off+j,none⟩=some (.int .i64 z):=U
   have ab:(j:Int)<(m:Int):=by omega
   have C:an=decide (z∈d):=by
    rw [y.out,show((j:Int)).toNat=j from rfl,hz]
    simp [h0]
   have G:=hh.out z
   rw [←C] at G
   have G:=hide G
   clear C y hd F I J h E M Z U hz hh hb
   go_enter Tryz.func109,Tryz.ntmps109
   go_wp2_with fail
   refine Calls.mono G.out ?_
   rintro e wb ⟨rfl,rfl⟩
   go_wp2_with fail
   go_ret
   exact⟨rfl,O.out⟩
  ·have e1:¬(0:Int)≤who:=h1
   have C:an=false:=by rw [y.out]; simp [h0,h1]
   clear y hd F I J h E M
   subst C
   go_enter Tryz.func109,Tryz.ntmps109
   go_wp2_with fail
   go_ret
   exact⟨rfl,O.out⟩
end Go.Proofs.YtfcfpoemojjglaaGreatDoor
