/-
  Part SK of a proof.
-/
import Derived.Test.YtjejejmeddkciaaGreatDoorPA
import Derived.Test.YtjejejmeddkciaaGreatDoorSD
import Derived.Test.YtjejejmeddkciaaGreatDoorSH
import Derived.Test.YtjejejmeddkciaaGreatDoorSI
import Derived.Test.YtjejejmeddkciaaGreatDoorPE
import Derived.Test.YtjejejmeddkciaaGreatDoorCI
import Derived.Test.YtjejejmeddkciaaGreatDoorAC
import Derived.Test.YtjejejmeddkciaaGreatDoorSC
import Derived.Test.YtjejejmeddkciaaGreatDoorSB
import Derived.Test.YtjejejmeddkciaaGreatDoorSO
import Derived.Test.YtjejejmeddkciaaGreatDoorCX
set_option maxHeartbeats 16000000
set_option maxRecDepth 100000
set_option linter.unusedVariables false
set_option linter.unusedSimpArgs false
namespace Go.Proofs.YtjejejmeddkciaaGreatDoor
open Go.RowKit
open K (Am Az At AW Fc BR Ah Du Dv)
attribute [-go_sem] loadCellsFrom
set_option maxHeartbeats 16000000
set_option maxRecDepth 100000
def A0 (p:Am) (r:Az):Drw:=
 if r.kind=5 then (if r.dir=2 then Hg p.states.length p.topo r.pf r.pt r.fr r.to else Hg p.states.length p.topo r.fr r.to r.pf r.pt)
 else if p.topo=3 then Wl p.states.length r.fr r.to r.left r.right else Q6 p.states.length r.at_ r.fr r.to r.left r.right
theorem DrS.finK {w0 wr:World} {gd gm n:Nat} {d:Drw} {ls:Lst} {S:List (Nme×Nat)} (h:DrS w0 wr gd gm d n ls S) (hn:n<=1000000):∃E c1 F c2 G c3,Blk wr gd 127 #[.int .i64 (d.L:Int),.int .i64 (d.nm.length:Int),.slice E d.st.length c1,.slice F d.ac.length c2,.slice G d.mv.length c3,.map (some gm)]/\
  ∀C,Ac wr C (fun k=>k<w0.heap.size)->Wi C C.heap.size (.agg #[.int .i64 (d.L:Int),.int .i64 (d.nm.length:Int),.slice E d.st.length c1,.slice F d.ac.length c2,.slice G d.mv.length c3]) d.tr:=by
 obtain⟨vS,vA,vM,h,-⟩:=h;obtain⟨E,c1,rfl⟩:=AH h.st;obtain⟨F,c2,rfl⟩:=AH h.ac;obtain⟨G,c3,rfl⟩:=AH h.mv;have hz:=h.sz;unfold Drw.size at hz;refine⟨E,c1,F,c2,G,c3,h.bd,fun C hk=>?_⟩;have key:∀{e m s:Nat} {v:Value} {xs:List Value},wr.ownsRow w0.heap.size e s v m xs->C.ownsRow w0.heap.size e s v m xs:=fun ho=>hk.ownsRow ho fun g hg aa=>by have:=Bb ho hg;omega
 have em:∀l:List Nme,l.map (Af d)=(l.map fun k=>(d.num k:Int)).map (Value.int .i64):=fun l=>by rw [List.map_map];rfl
 have U:=key h.st;have O:=key h.ac;rw [em] at U O;obtain⟨B1,k1,I,r1⟩:=B8 (B:=C.heap.size) U (by simp) (Nat.le_refl _) (by omega);obtain⟨B2,k2,J,r2⟩:=B8 (B:=C.heap.size) O (by simp) (Nat.le_refl _) (by omega);obtain⟨B3,k3,M,r3⟩:=XZ (B:=C.heap.size) (key h.mv) (by simp) (Nat.le_refl _) (by omega);have h4:=XY h.st _ _ _ rfl;simp only [List.length_map] at I J M;injection I with I _ V
 injection J with J _ W
 injection M with M _ Z
 subst I V J W M Z;exact⟨E,c1,F,c2,G,c3,by simp [Drw.tr],r1,r2,r3,by simpa [Drw.tr] using h4⟩
theorem load5 {w:World} {g:Nat} {t:TypeId} {a b c d e f:Value} (h:Blk w g t #[a,b,c,d,e,f]):(loadCellsFrom ⟨g,0,none⟩ 0 5 #[]).run Tryz.prog w=.ok #[a,b,c,d,e] w:=by
 have:=run_loadCells_list (P:=Tryz.prog) w ⟨g,0,none⟩ [a,b,c,d,e] (fun j v C=>by
  rw [Addr.add_mid,h.cell]
  match j,C with
  | 0,C=>simpa using C
  | 1,C=>simpa using C
  | 2,C=>simpa using C
  | 3,C=>simpa using C
  | 4,C=>simpa using C)
 simpa [loadCells] using this
theorem aAx {w:World} {cs:List Value} {p:Am} {r:Az} {i:Nat} (h:At w w.heap.size cs p) (hr:p.rules[i]?=some r) (hL:p.states.length<=60):
  Calls Tryz.prog 21 #[.agg cs.toArray,.int .i64 (i:Int)] w (Ret fun v w'=>Below w.heap.size w w'/\(A0 p r).size<=10000/\∀E,Ac w' E (fun k=>k<w.heap.size)->Wi E E.heap.size v (A0 p r).tr):=by
 obtain⟨A1,c1,A2,c2,A3,c3,A4,c4,A5,c5,A6,c6,A7,c7,W,q0,q1,q2,q3,q4,q5,q6,q7,q8,q9,-,-,-,-,-,-,h7,bn⟩:=h.cells;have bt:=AP hr;obtain⟨w1,cv,a5,af,-⟩:=Ae w cs.toArray 27;obtain⟨w2,cw,U,aH,-⟩:=Ae w1 #[.int .i64 0,.int .i64 0,sn0,sn0,sn0] 76;have I:=a5.trans (U.mono a5.size);obtain⟨b,off,rc,bh,ch,O,bo,aO⟩:=Du (h7.keep (w':=w2) (B':=w.heap.size) (R':=AW w2 w.heap.size) (fun _ M=>I.cell M) (fun _ _ x=>x.keep (fun _ M=>I.cell M) (Nat.le_refl _)) (Nat.le_refl _)) hr;obtain⟨G,bx,J,ag,-⟩:=Ae w2 rc 109;have bv:=Dv w2 109 18 (by kernel_rfl) O.size O.one;rw [bx] at bv;have a3:=I.trans (J.mono I.size);have ai:=hide (af.below (U.trans (J.mono U.size)));have aL:=hide (aH.below J);have cm:=Ah ai.out W;have cn:=Ah ag O.size;have bm:=(ai.out.cell 1).trans q1;have aM:=ag.cell;obtain⟨E1,f1,E2,f2,E3,f3,E4,f4,E5,f5,E6,f6,E7,f7,E8,f8,⟨rz,r0,r1,r2,r3,r4,r5,r6,b5,r8,r9,aX,aY,aZ,aA,aB,aC,b0,aD⟩,⟨s1,s2,s3,s4,s5,s6,s7,s8⟩⟩:=K.AW.cells O.is;simp only [Array.toArray_toList] at rz r0 r1 r2 r3 r4 r5 r6 b5 r8 r9 aX aY aZ aA aB aC b0 aD;have aj:K4 G rc r.fr r.to r.left r.right:=⟨r2,r3,⟨E6,f6,aB,s6.keep (fun _ M=>J.cell (Nat.lt_of_lt_of_le M I.size)) (by have:=a3.size;omega)⟩,⟨E7,f7,aC,s7.keep (fun _ M=>J.cell (Nat.lt_of_lt_of_le M I.size)) (by have:=a3.size;omega)⟩⟩;have bq:=(aM 1).trans r1;have al:r.kind=5->Hid (Calls Tryz.prog 52 #[.agg cs.toArray,.agg rc] G (Ret fun v w'=>∃gd gm n,v=.pointer (some ⟨gd,0,none⟩)/\n<=10000/\DrS G w' gd gm (A0 p r) n [] [])):=fun C=>by
  unfold A0;rw [if_pos C];exact hide (Z6 W q1 q2 hL r2 r3 r4 r5 aD)
 have a9:r.kind≠5->p.topo=3->Hid (Calls Tryz.prog 53 #[.agg cs.toArray,.agg rc] G (Ret fun v w'=>∃gd gm n,v=.pointer (some ⟨gd,0,none⟩)/\n<=10000/\DrS G w' gd gm (A0 p r) n [] [])):=fun C F=>by
  unfold A0;rw [if_neg C,if_pos F];exact hide (aAt W q2 hL aj)
 have a8:r.kind≠5->p.topo≠3->Hid (Calls Tryz.prog 54 #[.agg cs.toArray,.agg rc] G (Ret fun v w'=>∃gd gm n,v=.pointer (some ⟨gd,0,none⟩)/\n<=10000/\DrS G w' gd gm (A0 p r) n [] [])):=fun C F=>by
  unfold A0;rw [if_neg C,if_neg F];exact hide (ZJ W q2 hL aj aA)
 generalize A0 p r=dd at*;have ck:=aL.out.lt;have cr:=U.size;have ct:=J.size;have cq:=a5.size;have a4:=hide a3;have bf:=(ai.out.cell 9).trans q9;have cp:(loadCellsFrom ⟨b,off+i*18,none⟩ 0 18 #[]).run Tryz.prog w2=.ok rc w2:=aO;have bg:=((af.below U).cell 9).trans q9;obtain⟨nr,aU⟩:∃n,n=p.rules.length:=⟨_,rfl⟩;rw [<-aU] at bt bf bg bn;obtain⟨kd,aN⟩:∃k,k=r.kind:=⟨_,rfl⟩;obtain⟨tp,aV⟩:∃k,k=p.topo:=⟨_,rfl⟩;rw [<-aN] at bq al a9 a8;rw [<-aV] at bm a9 a8;subst bh;have cu:=hide O.size;clear h h7 O bo aO af aH ag a5 U J I a3 aM aj q0 q1 q2 q3 q4 q5 q6 q7 q8 q9 rz r0 r1 r2 r3 r4 r5 r6 b5 r8 r9 aX aY aZ aA aB aC b0 aD s1 s2 s3 s4 s5 s6 s7 s8 W hr aU aN aV hL;generalize cs.toArray=pc at*;by_cases C:kd=5
 case' pos=>have a7:=al C;have bp:(kd==5)=true:=by simp [C]
 case' neg=>
  have bp:(kd==5)=false:=by simp [C]
  by_cases F:tp=3
  case' pos=>have a7:=a9 C F;have bw:(tp==3)=true:=by simp [F]
  case' neg=>have a7:=a8 C F;have bw:(tp==3)=false:=by simp [F]
 all_goals
  clear al a9 a8;go_enter Tryz.func21,Tryz.ntmps21;go_wp2_with fail;refine Calls.ret a7.out ?_;rintro v w4 ⟨gd,gm,n,rfl,hn,Z⟩;obtain⟨B1,k1,B2,k2,B3,k3,aK,hT⟩:=Z.finK (by omega);have br:=load5 aK;have a6:=Z.below;have V:=aL.out.below a6;obtain⟨n0,aP⟩:∃n,n=dd.nm.length:=⟨_,rfl⟩;obtain⟨n1,aQ⟩:∃n,n=dd.st.length:=⟨_,rfl⟩;obtain⟨n2,aR⟩:∃n,n=dd.ac.length:=⟨_,rfl⟩;obtain⟨n3,aS⟩:∃n,n=dd.mv.length:=⟨_,rfl⟩;obtain⟨nL,aT⟩:∃n,n=dd.L:=⟨_,rfl⟩;rw [<-aP,<-aQ,<-aR,<-aS,<-aT] at br hT;obtain⟨wF,bz,aJ,ah⟩:=Dn V (.int .i64 (nL:Int)) (.int .i64 (n0:Int)) (.slice B1 n1 k1) (.slice B2 n2 k2) (.slice B3 n3 k3);unfold CK at bz;have ci:=V.cell;have cj:=V.frozen;have co:=V.lt;have bs:=Ah aJ (n:=5) rfl;have bl:=hide ((a4.out.trans (a6.mono a4.out.size)).trans (ah.below (B:=w.heap.size) (by have:=a4.out.size;have:=a6.size;omega) (fun b hb (e:b=_)=>by omega)));have bA:Hid (dd.size<=10000):=hide (by obtain⟨_,_,_,hM,-⟩:=Z;exact Nat.le_trans hM.sz hn);have bj:Hid (∀E,Ac wF E (fun k=>k<w.heap.size)->Wi E E.heap.size (.agg #[.int .i64 (nL:Int),.int .i64 (n0:Int),.slice B1 n1 k1,.slice B2 n2 k2,.slice B3 n3 k3]) dd.tr):=hide (fun E hX=>hT E ((ah.mono (Y:=fun k=>k<G.heap.size) fun b _ (e:b=_)=>by omega).trans hX fun b hb (e:b<_)=>by have:=a4.out.size;omega));clear V aJ ah aK Z hT a6 a7 aP aQ aR aS aT;go_wp2_with fail;exact bodyPost_ret (v:=.agg #[.int .i64 (nL:Int),.int .i64 (n0:Int),.slice B1 n1 k1,.slice B2 n2 k2,.slice B3 n3 k3]) (by simp [results,Tryz.results21,go_sem,bs]) rfl ⟨bl.out,bA.out,bj.out⟩
end Go.Proofs.YtjejejmeddkciaaGreatDoor
namespace Go.Proofs.YtjejejmeddkciaaGreatDoor
open Go.RowKit
set_option maxHeartbeats 16000000
set_option maxRecDepth 100000
end Go.Proofs.YtjejejmeddkciaaGreatDoor
namespace Go.Proofs.YtjejejmeddkciaaGreatDoor
open Go.RowKit
open K (Am Az At AW Ah)
attribute [-go_sem] loadCellsFrom
set_option maxHeartbeats 16000000
set_option maxRecDepth 100000
def aAd (p:Am):List TR:=p.rules.map fun r=>(A0 p r).tr
def Xf (p:Am):Prop:=∀r∈p.rules,(A0 p r).Good p.states.length
theorem Xf.at {p:Am} (h:Xf p):∀t∈aAd p,t.In/\0<=t.states/\t.letters=(p.states.length:Int)/\t.states<=36:=by
 intro t ht;obtain⟨r,E,rfl⟩:=List.mem_map.1 ht;have C:=h r E;refine⟨C.tr_in,?_,?_,?_⟩
 ·show(0:Int)<=((A0 p r).nm.length:Int);omega
 ·show((A0 p r).L:Int)=_;rw [C.eL]
 ·have:=C.len;show((A0 p r).nm.length:Int)<=36
  omega
end Go.Proofs.YtjejejmeddkciaaGreatDoor
namespace Go.Proofs.YtjejejmeddkciaaGreatDoor
open Go.RowKit
open K (Am Az At AW C0 Ah SpOK nameOK protE Ad orE Dv)
attribute [-go_sem] loadCellsFrom storeCells
set_option maxHeartbeats 16000000
set_option maxRecDepth 100000
def AC (p:Am):Int:=orE (protE nameOK p) (Ad (!(p.topo==2||p.topo==3)) 7)
end Go.Proofs.YtjejejmeddkciaaGreatDoor
namespace Go.Proofs.YtjejejmeddkciaaGreatDoor
open K (Am Az nameOK protE Ad orE BC BB inE)
theorem Xy {α:Type} {f:α->Int} {l:List α}:K.Aj f l=0↔∀x∈l,f x=0:=by
 induction l with
 | nil=>simp [K.Aj]
 | cons a l ih=>
  unfold K.Aj;simp only [List.mem_cons,forall_eq_or_imp];rw [AY,ih]
theorem Xb {p:Am} (h:AC p=0):protE nameOK p=0/\(p.topo=2\/p.topo=3):=by
 unfold AC at h;obtain⟨h1,E⟩:=AY.1 h;have C:=(Gg (by decide)).1 E;simp only [Bool.not_eq_false',Bool.or_eq_true,beq_iff_eq] at C;exact⟨h1,C⟩
structure Yk (p:Am):Prop where
 topo:p.topo=2\/p.topo=3
 ns:1<=p.states.length/\p.states.length<=6
 nr:p.rules.length<=8
 rule:∀(i:Nat) (r:Az),p.rules[i]?=some r->inN (p.states.length:Int) r.fr=true/\inN (p.states.length:Int) r.to=true/\(r.kind=5->inN (p.states.length:Int) r.pf=true/\inN (p.states.length:Int) r.pt=true)
theorem W2 {p:Am} (h:AC p=0):Yk p:=by
 obtain⟨h1,ht⟩:=Xb h;unfold protE at h1;simp only [AY] at h1;obtain⟨-,-,G,I,-,-,-,-,-,-,F,-⟩:=h1;have b3:=(Gg (by decide)).1 G;have b4:=(Gg (by decide)).1 I;simp only [Bool.or_eq_false_iff,decide_eq_false_iff_not] at b4;refine⟨ht,⟨?_,by omega⟩,by omega,fun i r E=>?_⟩
 ·cases O:p.states with
  | nil=>rw [O] at b3;cases b3
  | cons x l=>simp
 ·have M:=AP E;have c:=Xy.1 F i (List.mem_range.2 M);unfold BB at c;rw [E] at c;unfold BC at c;simp only [AY] at c;have d:=(Gg (by decide)).1 c.2.2.1;have e:∀x n:Int,inE x n=inN n x:=fun x n=>rfl;simp only [Bool.or_eq_false_iff,Bool.not_eq_false',Bool.and_eq_false_iff,decide_eq_false_iff_not,e] at d;refine⟨d.1.1,d.1.2,fun J=>?_⟩;rcases d.2 with C|C
  ·exact absurd J C.2
  ·exact C
theorem X3 {p:Am} (h:AC p=0):Xf p:=by
 intro r J;obtain⟨i,I⟩:=List.mem_iff_getElem?.1 J;obtain⟨h1,C,G⟩:=(W2 h).rule i r I;unfold A0;split
 ·rename_i h5;obtain⟨E,F⟩:=G h5;split
  ·exact X0 E F h1 C
  ·exact X0 h1 C E F
 ·split
  ·exact aAp h1 C
  ·exact ZF h1 C
end Go.Proofs.YtjejejmeddkciaaGreatDoor
