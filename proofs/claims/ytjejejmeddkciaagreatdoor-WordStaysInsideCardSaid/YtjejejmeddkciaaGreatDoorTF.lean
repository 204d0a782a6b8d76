/-
  Part TF of a proof.
-/
import Derived.Test.YtjejejmeddkciaaGreatDoorPA
import Derived.Test.YtjejejmeddkciaaGreatDoorPB
import Derived.Test.YtjejejmeddkciaaGreatDoorCX
import Derived.Test.YtjejejmeddkciaaGreatDoorSB
import Derived.Test.YtjejejmeddkciaaGreatDoorTE
import Derived.Test.YtjejejmeddkciaaGreatDoorAC
set_option maxHeartbeats 16000000
set_option maxRecDepth 100000
set_option linter.unusedVariables false
set_option linter.unusedSimpArgs false
namespace Go.Proofs.YtjejejmeddkciaaGreatDoor
open Go.RowKit
theorem MQ {w:World} {o:Obj} {p:Addr} {v:Value} (C:p.block<w.heap.size) (h:w.cell? p=some v):(w.alloc o).cell? p=some v:=(World.cell?_alloc_lt w o p C).trans h
theorem Rr (w:World) (e:TypeId) (size:Nat):(w.alloc (.cells #[] e)).ownsRow w.heap.size e size (.slice (some ⟨w.heap.size,0,none⟩) 0 0) 0 []:=
 ⟨by simp,.inr ⟨w.heap.size,0,#[],rfl,Nat.le_refl _,heap_alloc_new w _,Nat.le_refl _,by unfold maxLen;omega,by simp,by simp⟩⟩
theorem Hh {w:World} {B c:Nat} {A:Option Addr} {xs:List Int} (h:Sl w B 1 Ai A xs) (hB:B<=w.heap.size) (hn:xs.length<=900000):
  Calls Tryz.prog 30 #[.slice A xs.length c] w (Ret fun r w'=>Below w.heap.size w w'/\w'.ownsRow w.heap.size 3 1 r xs.length (xs.map fun x=>.int .i64 x)):=by
 have ho:=Rr w 3 1;have I:=(Below.refl w.heap.size w).alloc (Nat.le_refl _) (.cells #[] 3);by_cases h0:xs.length=0
 ·have E:xs=[]:=List.length_eq_zero_iff.1 h0;subst E;simp only [List.length_nil] at*;have F:∀w':World,Sem.run Tryz.prog (pure (#[]:Array Value)) w'=.ok #[] w':=fun _=>rfl;have G:∀(J:Addr) (w':World),Sem.run Tryz.prog (storeCells J ([]:List Value)) w'=.ok () w':=fun _ _=>rfl;cases A
  all_goals
   go_enter Tryz.func30,Tryz.ntmps30;go_wp2_with fail;go_ret;exact⟨I,ho⟩
 ·obtain⟨b,off,x0,rfl,hb,a8,hc⟩:=h.at (k:=0) (by omega);go_enter Tryz.func30,Tryz.ntmps30;go_wp2_with (at_builtin;refine G9 C9 rfl _ _ rfl w.heap.size (.slice (some ⟨w.heap.size,0,none⟩) 0 0) 0 [] rfl ho ⟨b,off,none⟩ xs.length c (xs.map fun x=>.int .i64 x) rfl (by simp) ?_ (by simp [Value.oneCell']) (by omega) (by omega) (by simp) ?_)
  ·intro j u C;rw [List.getElem?_map] at C;cases E:xs[j]? with
   | none=>rw [E] at C;cases C
   | some x=>
    rw [E] at C;have C:=Option.some.inj C;subst C;obtain⟨M,o',e,V,U⟩:=h.2 (by intro e;rw [e] at h0;exact h0 rfl);have e:=Option.some.inj e;injection e with F G _
    subst F G;have:=U j x E 0 (by omega);have O:(⟨b,off,none⟩:Addr).add j=⟨b,off+j*1+0,none⟩:=by unfold Addr.add;split <;> simp_all
    rw [O];exact MQ (by show b<_;omega) this
  ·intro g cap w' Z W a6 hg;go_wp2_with fail;go_ret;exact⟨I.trans (W.below (by simp) (fun M V e=>by simp [Value.ownBlock] at e;omega)),Z⟩
end Go.Proofs.YtjejejmeddkciaaGreatDoor
namespace Go.Proofs.YtjejejmeddkciaaGreatDoor
open Go.RowKit
open K (Am AB At Ba Ah)
attribute [-go_sem] loadCellsFrom
set_option maxHeartbeats 16000000
set_option maxRecDepth 100000
structure Ek (p:Am):Prop where
 ms:p.messages.length=0
 vs:p.values.length=0
 rs:p.res.length=0
 fl:p.fault=0
 tp:p.topo=2\/p.topo=3
theorem Ml {ok:ByteArray->Bool} {p:Am} (h:K.protE ok p=0) (ht:p.topo=2\/p.topo=3):Ek p:=by
 unfold K.protE at h;obtain⟨-,C⟩:=AY.1 h;obtain⟨-,g2⟩:=AY.1 C;obtain⟨-,g3⟩:=AY.1 g2;obtain⟨-,g4⟩:=AY.1 g3;obtain⟨-,g5⟩:=AY.1 g4;obtain⟨g6,-⟩:=AY.1 g5;have h1:=(Gg (by decide)).1 g6;have J:p.topo≠1:=by omega
 simp only [J,decide_false,Bool.not_false,Bool.true_and,Bool.false_and,Bool.or_false,Bool.or_eq_false_iff,Bool.not_eq_false',decide_eq_true_eq,List.isEmpty_iff] at h1;obtain⟨⟨⟨E,F⟩,G⟩,I⟩:=h1;exact⟨by rw [E];rfl,by rw [F];rfl,by rw [G];rfl,I,ht⟩
theorem Kz (n C E:Int) (w:World):Calls Tryz.prog 66 #[.int .i64 n,.int .i64 C,.int .i64 E] w fun e w'=>e=.returned (.bool (K.inC n C E))/\w=w':=by
 by_cases h:C<=n
 all_goals
  go_enter Tryz.func66,Tryz.ntmps66;go_wp2;go_ret;exact⟨by simp [K.inC];omega,rfl⟩
theorem J9 {Z:Option Addr} {z:Nat} (w:World):Calls Tryz.prog 127 #[.slice Z 0 z,.int .i64 0] w fun e w'=>e=.returned (.bool true)/\w=w':=by
 go_enter Tryz.func127,Tryz.ntmps127;go_wp2_with fail;go_loopw [5] (fun h wr=>h=.int .i64 0/\wr=w) (fun _ _=>0)
 case atStart=>exact⟨rfl,rfl⟩
 case round=>
  obtain⟨rfl,rfl⟩:=hrel;go_wp2_with fail;go_ret;exact⟨rfl,rfl⟩
section
variable {w:World} {cs ds:List Value} {p:Am} {q:AB} {m:Nat}
theorem Rb (h:At w w.heap.size cs p) (C:Ek p):Calls Tryz.prog 125 #[.agg cs.toArray,.agg #[.int .i64 (m:Int),.int .i64 0,.int .i64 0]] w (Ret fun v w'=>v=.int .i64 (m:Int)/\Below w.heap.size w w'):=by
 obtain⟨A1,c1,A2,c2,A3,c3,A4,c4,A5,c5,A6,c6,A7,c7,a5,ar,au,av,Z,a2,a3,a4,aw,ax,ay,j1,j2,j3,j4,j5,j6,j7,j8⟩:=h.cells;rw [C.ms] at Z;rw [C.vs] at a2;rw [C.fl] at a3;rw [C.rs] at a4;obtain⟨w1,az,E,G,V⟩:=Ae w cs.toArray 27;obtain⟨w2,aA,F,I,W⟩:=Ae w1 #[.int .i64 (m:Int),.int .i64 0,.int .i64 0] 44;have O:=E.trans (F.mono E.size);have U:=hide O;have J:=(G.below F);have M:=I;have ap:=J.cell;have aq:=M.cell;generalize cs.toArray=pc at*;clear h C J M E F G I V W O j1 j2 j3 j4 j5 j6 j7 j8 a5;go_enter Tryz.func125,Tryz.ntmps125;go_wp2_with fail;go_ret;exact⟨rfl,U.out⟩
theorem L7 (h:At w w.heap.size cs p) (C:Ek p) (hm:1<=m/\m<=8):Calls Tryz.prog 124 #[.agg cs.toArray,.agg #[.int .i64 (m:Int),.int .i64 0,.int .i64 0]] w (Ret fun v w'=>v=.bool true/\Below w.heap.size w w'):=by
 obtain⟨A1,c1,A2,c2,A3,c3,A4,c4,A5,c5,A6,c6,A7,c7,a8,az,a3,aA,a4,a5,a6,a7,aB,aC,aD,j1,j2,j3,j4,j5,j6,j7,j8⟩:=h.cells;rw [C.ms] at a4;rw [C.vs] at a5;rw [C.fl] at a6;rw [C.rs] at a7;obtain⟨w1,aF,E,I,W⟩:=Ae w cs.toArray 27;obtain⟨w2,aG,F,J,Z⟩:=Ae w1 #[.int .i64 (m:Int),.int .i64 0,.int .i64 0] 44;have U:=E.trans (F.mono E.size);have V:=hide U;have M:=(I.below F);have O:=J;have ax:=M.cell;have ay:=O.cell;have i1:K.inC (m:Int) 1 1048576=true:=by simp [K.inC];omega
 have i2:K.inC 0 0 (m:Int)=true:=by simp [K.inC]
 obtain⟨tp,G⟩:∃t,t=p.topo:=⟨_,rfl⟩;have aE:(tp != 4)=true:=by rw [G];have:=C.tp;simp;omega
 rw [<-G] at a3;generalize cs.toArray=pc at*;clear h C M O E F I J W Z U j1 j2 j3 j4 j5 j6 j7 j8 a8 G hm;go_enter Tryz.func124,Tryz.ntmps124;go_wp2_with (go_at_call 138;refine(K.Aq _ _ _ _).mono ?_;rintro e w' ⟨rfl,rfl⟩;first|rw [i1]|rw [i2]);go_loopw [5] (fun ii wr=>ii=.int .i64 0/\wr=w2) (fun _ _=>0)
 case atStart=>exact⟨rfl,rfl⟩
 case round=>
  obtain⟨rfl,rfl⟩:=hrel;go_wp2_with fail;go_ret;exact⟨rfl,V.out⟩
theorem S9 (h:At w w.heap.size cs p) (ae:p.Small) (hT:K.SpOK w) (h0:K.protE K.nameOK p=0) (hb:Ek p) (hm:1<=m/\m<=8):Calls Tryz.prog 64 #[.agg cs.toArray,.agg #[.int .i64 (m:Int),.int .i64 0,.int .i64 0]] w (Ret fun v w'=>v=.int .i64 0/\Below w.heap.size w w'):=by
 have Z:=h.rules_at.1;obtain⟨w1,aw,J,a2,ak⟩:=Ae w cs.toArray 27;obtain⟨w2,ax,M,a3,al⟩:=Ae w1 #[.int .i64 (m:Int),.int .i64 0,.int .i64 0] 44;have a9:=J.trans (M.mono J.size);have E:=hide a9;have I:=(a2.below M);have a6:=a3;have G:=h.keep (w':=w2) (B':=w2.heap.size) (fun _ W=>E.out.cell W) E.out.size;generalize ad:cs.toArray=pc at*;have V:=K.aCg G ae (hT.below E.out);rw [h0,ad] at V;have am:=Ah I Z;have ai:=hide hb;have aq:=hide G;have ag:=hide I;have ah:=hide a6;have ar:=hide Z;have ap:=hide hm;have av:¬(8:Int)<(m:Int):=by omega
 clear h hb I a6 J M a2 a3 ak al a9 ae hT h0 G Z hm;go_enter Tryz.func64,Tryz.ntmps64;go_wp2_with fail;refine Calls.ret V ?_;rintro v F ⟨rfl,C⟩;have aa:=hide (E.out.trans (C.mono E.out.size));have a5:=ag.out.below C;have a7:=hide (ah.out.below C);have an:=Ah a5 ar.out;have ao:(loadCellsFrom ⟨w1.heap.size,0,none⟩ 0 3 #[]).run Tryz.prog F=.ok _ F:=Ah a7.out rfl;have U:=L7 (m:=m) (aq.out.keep (w':=F) (B':=F.heap.size) (fun _ W=>C.cell W) C.size) ai.out ap.out;rw [ad] at U;clear C a5 am V;go_wp2_with fail;refine Calls.ret U ?_;rintro v w5 ⟨rfl,O⟩;have aj:=hide (aa.out.trans (O.mono aa.out.size));have au:=(a7.out.below O).cell;clear O U an ao;go_wp2_with fail;go_ret;exact⟨rfl,aj.out⟩
end
end Go.Proofs.YtjejejmeddkciaaGreatDoor
namespace Go.Proofs.YtjejejmeddkciaaGreatDoor
open Go.RowKit
open K (Am AB At Ba Ah)
attribute [-go_sem] loadCellsFrom
set_option maxHeartbeats 16000000
set_option maxRecDepth 100000
section
variable {w:World} {cs ds:List Value} {p:Am} {q:AB} {m:Nat}
theorem Tk {A:Option Addr} {cap:Nat} {l:List Int} (h:At w w.heap.size cs p) (M:Sl w w.heap.size 1 Ai A l) (J:∀x∈l,inN (p.states.length:Int) x=true) (hL:p.states.length<=60):
  Calls Tryz.prog 126 #[.agg cs.toArray,.slice A l.length cap] w (Ret fun v w'=>v=.bool true/\Below w.heap.size w w'):=by
 obtain⟨A1,c1,A2,c2,A3,c3,A4,c4,A5,c5,A6,c6,A7,c7,ao,al,am,O,-⟩:=h.cells;obtain⟨w1,aD,a2,V,ag⟩:=Ae w cs.toArray 27;have E:=hide a2;have W:=V;generalize cs.toArray=pc at*;obtain⟨ns,a5⟩:∃n,n=p.states.length:=⟨_,rfl⟩;rw [<-a5] at O J hL;obtain⟨m,F⟩:∃m,m=l.length:=⟨_,rfl⟩;have ak:=hide F;rw [<-F];have ah:=hide M;have af:=hide J;have ab:=hide W;have an:=hide O;have aj:=M.1;rw [<-F] at aj;clear h M J a5 F W a2 V ag al am O ao;go_enter Tryz.func126,Tryz.ntmps126;go_wp2_with fail;go_loopw [5] (fun U wr=>∃i:Nat,U=.int .i64 (i:Int)/\i<=m/\Hid (Below w1.heap.size w1 wr)) (fun U _=>m - (intOf U).toNat)
 case atStart=>exact⟨0,rfl,Nat.zero_le _,Below.refl _ _⟩
 case round=>
  obtain⟨i,rfl,hi,G⟩:=hrel;by_cases ai:i<m
  ·obtain⟨b,o,x,hA,ad,hx,a3⟩:=ah.out.at (show i<l.length by rw [<-ak.out];exact ai);subst hA;have I:=hide (G.out.trans ((Ap wr).mono G.out.size));have Z:=E.out.trans (I.out.mono E.out.size);have aB:wr.drew.cell? ⟨b,o+i,none⟩=some (.int .i64 x):=by
    have a4:=a3 0 (by omega);simp only [Ai,Nat.mul_one,Nat.add_zero] at a4;exact(Z.cell (p:=⟨b,o+i,none⟩) ad).trans a4
   have aA:wr.drew.cell? ⟨w.heap.size,2,none⟩=some (.slice A1 ns c1):=by rw [(ab.out.below I.out).cell];exact an.out
   have ap:K.inC x 0 ((ns:Int) - 1)=true:=by
    have:=af.out x (List.mem_of_getElem? hx);rw [D3] at this;simp [K.inC];omega
   clear Z a3 hx;go_wp2_with fail;refine Reg.cI [0,0,3,7,0,16,48,112,255,511] [0,1,2,3,4,5,6,7,8,9] ?_;refine Reg.wI [0,1,2,3,4,5,6,7] [8,9] rfl fun Qf C=>?_;go_wp2_with fail;first|refine C _ _ ⟨rfl,?_⟩|refine⟨rfl,?_⟩|refine C _ _ ⟨by simp [Reg.fineT,Reg.intOp,Region.wanted,yielded,Reg.intFine,Reg.isInt,Act.eval],?_⟩
   (try clear C);refine Reg.aI 8 [9] [] rfl fun Qf C=>?_;simp only [gT,gS,gZ];go_wp2_with (go_at_call 66;refine(Kz _ _ _ _).mono ?_;rintro e w' ⟨rfl,rfl⟩;rw [ap]);first|refine C _ _ ⟨Reg.nm,?_⟩|refine⟨Reg.nm,?_⟩
   (try clear C);refine Reg.wI [9] [] rfl fun Qf C=>?_;go_wp2_with fail;first|refine C _ _ ⟨rfl,?_⟩|refine⟨rfl,?_⟩|refine C _ _ ⟨by simp [Reg.fineT,Reg.intOp,Region.wanted,yielded,Reg.intFine,Reg.isInt,Act.eval],?_⟩
   (try clear C);first|refine Reg.restI_end ?_|skip
   go_wp2_with fail;exact⟨⟨i+1,by go_num,by omega,I⟩,by simp [intOf];omega⟩
  ·obtain rfl:i=m:=by omega
   have ae:=hide (E.out.trans (G.out.mono E.out.size));go_wp2_with fail;go_ret;exact⟨rfl,ae.out⟩
end
end Go.Proofs.YtjejejmeddkciaaGreatDoor
namespace Go.Proofs.YtjejejmeddkciaaGreatDoor
open Go.RowKit
open K (Am AB At Ba Ah)
attribute [-go_sem] loadCellsFrom
set_option maxHeartbeats 16000000
set_option maxRecDepth 100000
section
variable {w:World} {cs ds:List Value} {p:Am} {q:AB} {m:Nat}
theorem TW {A Z0 Z3 Z4:Option Addr} {cap z0 z3 z4:Nat} {l:List Int} (h:At w w.heap.size cs p) (O:Ek p) (hl:Sl w w.heap.size 1 Ai A l) (hm:m=l.length) (ak:∀x∈l,inN (p.states.length:Int) x=true) (hL:p.states.length<=60) (bm:m<=8):
  Calls Tryz.prog 65 #[.agg cs.toArray,.agg #[.int .i64 (m:Int),.int .i64 0,.int .i64 0],.agg #[.slice Z0 0 z0,.slice A m cap,.int .i64 (m:Int),.slice Z3 0 z3,.slice Z4 0 z4,.int .i64 0]] w (Ret fun v w'=>v=.bool true/\Below w.heap.size w w'):=by
 obtain⟨A1,c1,A2,c2,A3,c3,A4,c4,A5,c5,A6,c6,A7,c7,aa,aO,an,aP,ao,ap,aq,ar,aQ,aR,aS,j1,j2,j3,j4,j5,j6,j7,j8⟩:=h.cells;rw [O.ms] at ao;rw [O.vs] at ap;rw [O.fl] at aq;rw [O.rs] at ar;obtain⟨w1,bs,a8,ab,aF⟩:=Ae w cs.toArray 27;obtain⟨w2,bt,a9,ad,aG⟩:=Ae w1 #[.int .i64 (m:Int),.int .i64 0,.int .i64 0] 44;obtain⟨E,bu,a2,ae,aH⟩:=Ae w2 #[.slice Z0 0 z0,.slice A m cap,.int .i64 (m:Int),.slice Z3 0 z3,.slice Z4 0 z4,.int .i64 0] 46;have a7:=a8.trans (a9.mono a8.size);have ai:=a7.trans (a2.mono a7.size);have G:=hide ai;have af:=((ab.below a9).below a2);have ag:=(ad.below a2);have ah:=ae;have aN:Hid (∀F,Below E.heap.size E F->Calls Tryz.prog 125 #[.agg cs.toArray,.agg #[.int .i64 (m:Int),.int .i64 0,.int .i64 0]] F (Ret fun v w'=>v=.int .i64 (m:Int)/\Below F.heap.size F w')):=hide (fun F hx=>Rb (h.keep (fun p V=>(G.out.trans (hx.mono G.out.size)).cell V) (G.out.trans (hx.mono G.out.size)).size) O);have aT:Hid (∀F,Below E.heap.size E F->Calls Tryz.prog 126 #[.agg cs.toArray,.slice A m cap] F (Ret fun v w'=>v=.bool true/\Below F.heap.size F w')):=hide (fun F hx=>by
  have a4:=G.out.trans (hx.mono G.out.size);rw [hm];exact Tk (h.keep (fun p V=>a4.cell V) a4.size) (hl.keep (fun p V=>a4.cell V) a4.size) ak hL)
 have aU:(p.topo==4)=false:=by have:=O.tp;simp;omega
 obtain⟨tp,av⟩:∃t,t=p.topo:=⟨_,rfl⟩;rw [<-av] at an aU;generalize cs.toArray=pc at*;have J:=hide af;have W:=hide ag;have Z:=hide ah;have au:=hide aa;have bn:((m:Int) != (m:Int))=false:=by simp
 have I:=hide ((Below.refl E.heap.size E).trans (Ap E));have az:=((J.out).below I.out).cell;have aB:=((W.out).below I.out).cell;have aD:=((Z.out).below I.out).cell;have aJ:=Ah (J.out.below I.out) aa;have aK:(loadCellsFrom ⟨w1.heap.size,0,none⟩ 0 3 #[]).run Tryz.prog E.drew=.ok _ E.drew:=Ah (W.out.below I.out) rfl;have bo:=hide an;have bp:=hide aP;have bq:=hide ao;have br:=hide ap;have iv:K.inC 0 0 (max 0 (-1))=true:=by decide
 clear h O hl hm ak av af ag ah a8 a9 a2 ab ad ae aF aG aH a7 ai aa aO aq ar aQ aR aS j1 j2 j3 j4 j5 j6 j7 j8;go_enter Tryz.func65,Tryz.ntmps65;go_wp2_with fail;refine Reg.cI [0,1,3,0,0,24,63,127,255,255,767,2047,4095,8191,16383,32767,65535,32767,163839,32767,557055,1998847,4194303,8388607,16777215,33554431,67108863,33554431,167772159,436207615,1073741823,2147483647,4294967295,8589934591,17179869183,34359738367,17179869183,85899345919,223338299391,549755813887,1099511627775,2199023255551] [0,1,2,3,4,5,6,7,8,9,10,11,12,13,14,15,16,17,18,19,20,21,22,23,24,25,26,27,28,29,30,31,32,33,34,35,36,37,38,39,40,41] ?_;refine Reg.wI [0,1,2,3,4] [5,6,7,8,9,10,11,12,13,14,15,16,17,18,19,20,21,22,23,24,25,26,27,28,29,30,31,32,33,34,35,36,37,38,39,40,41] rfl fun Qf C=>?_;go_wp2_with fail;first|refine C _ _ ⟨rfl,?_⟩|refine⟨rfl,?_⟩|refine C _ _ ⟨by simp [Reg.fineT,Reg.intOp,Region.wanted,yielded,Reg.intFine,Reg.isInt,Act.eval],?_⟩
 (try clear C);refine Reg.aI 5 [6,7,8,9,10,11,12,13,14,15,16,17,18,19,20,21,22,23,24,25,26,27,28,29,30,31,32,33,34,35,36,37,38,39,40,41] [1] rfl fun Qf C=>?_;simp only [gT,gS,gZ];go_wp2_with fail;refine Calls.ret (aN.out _ I.out) ?_;rintro v w4 ⟨rfl,a3⟩;go_wp2_with fail;first|refine C _ _ ⟨Reg.same_below (a3) [1] rfl,?_⟩|refine⟨Reg.same_below (a3) [1] rfl,?_⟩
 (try clear C);have M:=hide (I.out.trans (a3.mono I.out.size));have aL:=Ah (J.out.below M.out) au.out;have ay:=(J.out.below M.out).cell;have aA:=(W.out.below M.out).cell;have aC:=(Z.out.below M.out).cell;clear a3 az aB aD aJ aK;refine Reg.wI [6,7,8,9,10] [11,12,13,14,15,16,17,18,19,20,21,22,23,24,25,26,27,28,29,30,31,32,33,34,35,36,37,38,39,40,41] rfl fun Qf C=>?_;go_wp2_with fail;first|refine C _ _ ⟨rfl,?_⟩|refine⟨rfl,?_⟩|refine C _ _ ⟨by simp [Reg.fineT,Reg.intOp,Region.wanted,yielded,Reg.intFine,Reg.isInt,Act.eval],?_⟩
 (try clear C);refine Reg.aI 11 [12,13,14,15,16,17,18,19,20,21,22,23,24,25,26,27,28,29,30,31,32,33,34,35,36,37,38,39,40,41] [] rfl fun Qf C=>?_;simp only [gT,gS,gZ];go_wp2_with fail;refine Calls.ret (aT.out _ M.out) ?_;rintro v w5 ⟨rfl,aj⟩;go_wp2_with fail;first|refine C _ _ ⟨Reg.nm,?_⟩|refine⟨Reg.nm,?_⟩
 (try clear C);have U:=hide (M.out.trans (aj.mono M.out.size));have aM:=Ah (J.out.below U.out) au.out;have bh:=(J.out.below U.out).cell;have bj:=(W.out.below U.out).cell;have bk:=(Z.out.below U.out).cell;clear aj aL ay aA aC;refine Reg.wI [12,13,14,15,16,17,18,19,20,21,22,23,24,25,26,27,28,29] [30,31,32,33,34,35,36,37,38,39,40,41] rfl fun Qf C=>?_;go_wp2_with fail;first|refine C _ _ ⟨rfl,?_⟩|refine⟨rfl,?_⟩|refine C _ _ ⟨by simp [Reg.fineT,Reg.intOp,Region.wanted,yielded,Reg.intFine,Reg.isInt,Act.eval],?_⟩
 (try clear C);refine Reg.aI 30 [31,32,33,34,35,36,37,38,39,40,41] [] rfl fun Qf C=>?_;simp only [gT,gS,gZ];go_wp2_with (go_at_call 127;refine(J9 _).mono ?_;rintro e w' ⟨rfl,rfl⟩);first|refine C _ _ ⟨Reg.nm,?_⟩|refine⟨Reg.nm,?_⟩
 (try clear C);refine Reg.wI [31,32,33,34,35,36,37,38] [39,40,41] rfl fun Qf C=>?_;go_wp2_with fail;first|refine C _ _ ⟨rfl,?_⟩|refine⟨rfl,?_⟩|refine C _ _ ⟨by simp [Reg.fineT,Reg.intOp,Region.wanted,yielded,Reg.intFine,Reg.isInt,Act.eval],?_⟩
 (try clear C);refine Reg.aI 39 [40,41] [] rfl fun Qf C=>?_;simp only [gT,gS,gZ];go_wp2_with (go_at_call 127;refine(J9 _).mono ?_;rintro e w' ⟨rfl,rfl⟩);first|refine C _ _ ⟨Reg.nm,?_⟩|refine⟨Reg.nm,?_⟩
 (try clear C);refine Reg.wI [40,41] [] rfl fun Qf C=>?_;go_wp2_with fail;first|refine C _ _ ⟨rfl,?_⟩|refine⟨rfl,?_⟩|refine C _ _ ⟨by simp [Reg.fineT,Reg.intOp,Region.wanted,yielded,Reg.intFine,Reg.isInt,Act.eval],?_⟩
 (try clear C);first|refine Reg.restI_end ?_|skip
 go_wp2_with fail;go_loopw [7] (fun ii wr=>ii=.int .i64 0/\Hid (Below E.heap.size E wr)) (fun _ _=>0)
 case atStart=>exact⟨rfl,U⟩
 case round=>
  obtain⟨rfl,hB⟩:=hrel;have bi:=(J.out.below hB.out).cell;have bl:=(Z.out.below hB.out).cell;have aE:=hide (G.out.trans (hB.out.mono G.out.size));clear aM;go_wp2_with (go_at_call 66;refine(Kz _ _ _ _).mono ?_;rintro e w' ⟨rfl,rfl⟩;rw [iv]);go_ret;exact⟨rfl,aE.out⟩
end
end Go.Proofs.YtjejejmeddkciaaGreatDoor
namespace Go.Proofs.YtjejejmeddkciaaGreatDoor
open Go.RowKit
open K (Am Az At AW Ah)
attribute [-go_sem] loadCellsFrom
set_option maxHeartbeats 16000000
set_option maxRecDepth 100000
theorem XV {w:World} {m i z0:Nat} {Z0:Option Addr} (J:i<m) (M:m<=60):Calls Tryz.prog 67 #[.int .i64 2,.slice Z0 0 z0,.int .i64 (m:Int),.int .i64 (i:Int)] w (Ret fun v w'=>Below w.heap.size w w'/\v=.tuple #[.int .i64 (AN false m i),.int .i64 (Ar false m i),.int .i64 (-1)]):=by
 have G:K.inC (i:Int) 0 ((m:Int) - 1)=true:=by simp [K.inC];omega
 have E:=hide (Below.refl w.heap.size w);have F:=hide (show(i:Int) - 1=AN false m i by unfold AN;split <;> simp_all);by_cases h:i+1=m
 ·have C:=hide (show Ar false m i= -1 from(if_pos h).trans rfl);have I:((i:Int)+1==(m:Int))=true:=by simp;omega
  clear h;go_enter Tryz.func67,Tryz.ntmps67;go_wp2_with (go_at_call 66;refine(Kz _ _ _ _).mono ?_;rintro e w' ⟨rfl,rfl⟩;rw [G]);refine bodyPost_ret (v:=.tuple #[.int .i64 ((i:Int) - 1),.int .i64 (-1),.int .i64 (-1)]) (by simp [results,Tryz.results67,go_sem]) rfl ⟨E.out,by rw [C.out,F.out]⟩
 ·have C:=hide (show Ar false m i=(i:Int)+1 from if_neg h);have I:((i:Int)+1==(m:Int))=false:=by simp;omega
  clear h;go_enter Tryz.func67,Tryz.ntmps67;go_wp2_with (go_at_call 66;refine(Kz _ _ _ _).mono ?_;rintro e w' ⟨rfl,rfl⟩;rw [G]);refine bodyPost_ret (v:=.tuple #[.int .i64 ((i:Int) - 1),.int .i64 ((i:Int)+1),.int .i64 (-1)]) (by simp [results,Tryz.results67,go_sem]) rfl ⟨E.out,by rw [C.out,F.out]⟩
theorem XW {w:World} {m i z0:Nat} {Z0:Option Addr} (U:i<m) (V:m<=60):Calls Tryz.prog 67 #[.int .i64 3,.slice Z0 0 z0,.int .i64 (m:Int),.int .i64 (i:Int)] w (Ret fun v w'=>Below w.heap.size w w'/\v=.tuple #[.int .i64 (AN true m i),.int .i64 (Ar true m i),.int .i64 (-1)]):=by
 have O:K.inC (i:Int) 0 ((m:Int) - 1)=true:=by simp [K.inC];omega
 have M:=hide (Ap w);have W:(m:Int)≠0:=by omega
 have Z:Int.tmod ((i:Int)+1) (m:Int)=Ar true m i:=by
  unfold Ar;by_cases E:i+1=m
  ·rw [if_pos E,<-E];simp
  ·rw [if_neg E];exact Int.tmod_eq_of_lt (by omega) (by omega)
 have a2:-1<=Ar true m i/\Ar true m i<=60:=by unfold Ar;split <;> (try split) <;> omega
 have J:((i:Int)==0)=true->Hid (AN true m i=(m:Int) - 1):=fun h=>hide (by unfold AN;rw [if_pos (by simpa using h)];rfl);have I:((i:Int)==0)=false->Hid (AN true m i=(i:Int) - 1):=fun h=>hide (by unfold AN;rw [if_neg (by simpa using h)]);generalize Ar true m i=sc at*;cases F:((i:Int)==0)
 all_goals
  first
  | have G:=J F
  | have G:=I F
  clear J I;go_enter Tryz.func67,Tryz.ntmps67;go_wp2_with (go_at_call 66;refine(Kz _ _ _ _).mono ?_;rintro e w' ⟨rfl,rfl⟩;rw [O]);refine Reg.cI [0,0,2,0,14,1,63,127] [0,1,2,3,4,5,6,7] ?_;refine Reg.wI [0,1,2,3,4,5,6,7] [] rfl fun Qf C=>?_;go_wp2_with fail;first|refine C _ _ ⟨rfl,?_⟩|refine⟨rfl,?_⟩|refine C _ _ ⟨by simp [Reg.fineT,Reg.intOp,Region.wanted,yielded,Reg.intFine,Reg.isInt,Act.eval],?_⟩
  (try clear C);first|refine Reg.restI_end ?_|skip
  go_wp2_with fail;refine bodyPost_ret (v:=.tuple #[_,.int .i64 sc,.int .i64 (-1)]) (by simp [results,Tryz.results67,go_sem];rfl) rfl ⟨M.out,by rw [G.out]⟩
theorem Xi {w:World} {A D Z0 Z3 Z4:Option Addr} {m cap c z0 z3 z4:Nat} {l d:List Int} {who:Int} (O:Sl w w.heap.size 1 Ai A l) (V:m=l.length) (G:Sl w w.heap.size 1 Ai D d) (hw:who<l.length) (af:m<=60):
  Calls Tryz.prog 69 #[.agg #[.slice Z0 0 z0,.slice A m cap,.int .i64 (m:Int),.slice Z3 0 z3,.slice Z4 0 z4,.int .i64 0],.slice D d.length c,.int .i64 who] w (Ret fun v w'=>v=.bool (Sb l d who)/\Below w.heap.size w w'):=by
 obtain⟨C,ai,h,I,-⟩:=Ae w #[.slice Z0 0 z0,.slice A m cap,.int .i64 (m:Int),.slice Z3 0 z3,.slice Z4 0 z4,.int .i64 0] 46;have ab:=I.cell;have W:=hide h;have J:=G.keep (w':=C) (B':=C.heap.size) (fun _ hp=>h.cell hp) h.size;have hh:Hid (∀z:Int,Calls Tryz.prog 84 #[.slice D d.length c,.int .i64 z] C fun r w'=>r=.returned (.bool (decide (z∈d)))/\C=w'):=hide fun z=>K.aA0 J;have ad:=G.1;have U:=O.keep (w':=C) (B':=C.heap.size) (fun _ hp=>h.cell hp) h.size;have ag:=hide V;have E:=hide (show Sb l d who=(decide (d.length=0)||(decide (0<=who)&&match l[who.toNat]? with|some z=>decide (z∈d)|none=>false)) from rfl);generalize Sb l d who=an at*;generalize d.length=nd at*;by_cases h0:nd=0
 ·have e0:((nd:Int)==0)=true:=by simp [h0]
  have F:an=true:=by rw [E.out];simp [h0]
  clear E G J O U h I V;subst F;go_enter Tryz.func69,Tryz.ntmps69;go_wp2_with fail;go_ret;exact⟨rfl,W.out⟩
 ·have e0:((nd:Int)==0)=false:=by simp [h0]
  by_cases h1:0<=who
  ·obtain⟨j,rfl⟩:∃j:Nat,who=(j:Int):=⟨who.toNat,by omega⟩;have hj:j<l.length:=by omega
   obtain⟨b,off,z,rfl,hb,hz,a3⟩:=U.at hj;have Z:=a3 0 (by decide);rw [Nat.mul_one,Nat.add_zero] at Z;have aa:C.cell? ⟨b,off+j,none⟩=some (.int .i64 z):=Z;have ae:(j:Int)<(m:Int):=by omega
   have F:an=decide (z∈d):=by
    rw [E.out,show((j:Int)).toNat=j from rfl,hz];simp [h0]
   have M:=hh.out z;rw [<-F] at M;have M:=hide M;clear F E G J O U h I V a3 Z hz hh hb;go_enter Tryz.func69,Tryz.ntmps69;go_wp2_with fail;refine Calls.mono M.out ?_;rintro e wb ⟨rfl,rfl⟩;go_wp2_with fail;go_ret;exact⟨rfl,W.out⟩
  ·have e1:¬(0:Int)<=who:=h1;have F:an=false:=by rw [E.out];simp [h0,h1]
   clear E G J O U h I V;subst F;go_enter Tryz.func69,Tryz.ntmps69;go_wp2_with fail;go_ret;exact⟨rfl,W.out⟩
end Go.Proofs.YtjejejmeddkciaaGreatDoor
