/-
  Part PC of a proof.
-/
import Derived.Test.YtfcfpoemojjglaaGreatDoorPA
import Derived.Test.YtfcfpoemojjglaaGreatDoorPB
set_option maxHeartbeats 16000000
set_option maxRecDepth 100000
set_option linter.unusedVariables false
set_option linter.unusedSimpArgs false
namespace Go.Proofs.YtfcfpoemojjglaaGreatDoor
open Go.RowKit
theorem FM {w:World} {B:Nat} {A:Option Addr} {c:Nat} {l:List Int} (n:Int) (h:Sl w B 1 Ai A l):
  Calls Tryz.prog 40 #[.int .i64 n,.slice A l.length c] w fun e w'=>e=.returned (.bool (l.all (inN n)))/\w=w':=by
 have W:=h.1;go_enter Tryz.func40,Tryz.ntmps40;go_wp2_with fail
 go_loop [9] (fun y=>∃(k:Nat),y=.int .i64 (k:Int)/\k<=l.length/\Hid ((l.take k).all (inN n)=true)) (fun y=>l.length - (intOf y).toNat)
 case atStart=>exact⟨0,rfl,Nat.zero_le _,rfl⟩
 case round=>
  obtain⟨k,rfl,V,C⟩:=hrel;by_cases J:k<l.length
  ·obtain⟨b,Z,x,rfl,U,G,E⟩:=h.at J;have I:=E 0 (by omega);simp only [Nat.mul_one,Nat.add_zero,Ai] at I;have j:=hide G;clear G E;by_cases M:x<0
   ·have d:=hide (IQ j.out (p:=inN n) (by simp [inN]; omega));go_wp2_with fail;go_ret;exact⟨by rw [d.out]; rfl,rfl⟩
   ·by_cases O:n<=x
    ·have d:=hide (IQ j.out (p:=inN n) (by simp [inN]; omega));go_wp2_with fail;go_ret;exact⟨by rw [d.out]; rfl,rfl⟩
    ·have d:=hide (Mb j.out C.out (p:=inN n) (by simp [inN]; omega));go_wp2_with fail;exact⟨⟨k+1,by go_num,by omega,d⟩,by simp [intOf]; omega⟩
  ·have d:=hide (Ma (by omega) C.out);go_wp2_with fail;go_ret;exact⟨by rw [d.out]; rfl,rfl⟩
def inC (n lo hi:Int):Bool:=decide (lo<=n)&&decide (n<=hi)
theorem aA0 {w:World} {B:Nat} {A:Option Addr} {c:Nat} {l:List Int} (n:Int) (h:Sl w B 1 Ai A l):
  Calls Tryz.prog 129 #[.slice A l.length c,.int .i64 n] w fun e w'=>e=.returned (.bool (decide (n∈l)))/\w=w':=by
 have W:=h.1;go_enter Tryz.func129,Tryz.ntmps129;go_wp2_with fail
 go_loop [5] (fun C=>∃(k:Nat),C=.int .i64 (k:Int)/\k<=l.length/\Hid (n∉l.take k)) (fun C=>l.length - (intOf C).toNat)
 case atStart=>exact⟨0,rfl,Nat.zero_le _,hide (by simp)⟩
 case round=>
  obtain⟨k,rfl,V,E⟩:=hrel;by_cases O:k<l.length
  ·obtain⟨b,a2,x,rfl,U,J,I⟩:=h.at O;have M:=I 0 (by omega);simp only [Nat.mul_one,Nat.add_zero,Ai] at M;have G:=hide J;clear J I;by_cases j:x=n
   ·subst j;have d:=hide (decide_eq_true (List.mem_of_getElem? G.out));go_wp2_with fail;go_ret;exact⟨by rw [d.out]; rfl,rfl⟩
   ·have d:=hide (show n∉l.take (k+1) from by
     rw [B5 G.out,List.mem_append,List.mem_singleton];rintro(y | y)
     ·exact E.out y
     ·exact j y.symm)
    have Z:(x==n)=false:=by simpa using j
    clear j;go_wp2_with fail;exact⟨⟨k+1,by go_num,by omega,d⟩,by simp [intOf]; omega⟩
  ·have d:=hide (show decide (n∈l)=false from by
    have:=E.out;rw [List.take_of_length_le (by omega)] at this;simpa using this)
   go_wp2_with fail;go_ret;exact⟨by rw [d.out]; rfl,rfl⟩
end Go.Proofs.YtfcfpoemojjglaaGreatDoor
namespace Go.Proofs.YtfcfpoemojjglaaGreatDoor
open Go.RowKit
def BX (w:World) (B:Nat) (u:Value) (m:List Bool):Prop:=∃g,g<B/\u=.slice (some ⟨g,0,none⟩) m.length m.length/\Blk w g 4 (m.map Value.bool).toArray
theorem BX.cell {w:World} {g:Nat} {m:List Bool} (h:Blk w g 4 (m.map Value.bool).toArray) {q:Nat} {b:Bool} (d:m[q]?=some b):w.cell? ⟨g,q,none⟩=some (.bool b):=by
 rw [h.cell];simp [d]
theorem BX.keep {w w':World} {B B':Nat} {u:Value} {m:List Bool} (h:BX w B u m) (j:Below B w w') (y:B<=B'):BX w' B' u m:=by
 obtain⟨g,l,e,d⟩:=h;exact⟨g,by omega,e,d.at l j⟩
theorem HE (n:Nat):Array.replicate n (Value.bool false)=((List.replicate n false).map Value.bool).toArray:=by
 apply Array.ext';simp
theorem HF (m:List Bool) (q:Nat):((m.map Value.bool).toArray).setIfInBounds q (.bool true)=((m.set q true).map Value.bool).toArray:=by
 apply Array.ext';simp [List.map_set]
theorem JZ (n:Nat):BN n []=List.replicate n false:=by
 apply List.ext_getElem?;intro i;rcases Nat.lt_or_ge i n with d | d
 ·rw [Dg d,List.getElem?_replicate]; simp [d]
 ·rw [List.getElem?_eq_none (by rw [Dh]; exact d),List.getElem?_eq_none (by simpa using d)]
theorem J0 {n:Nat} (l:List Int) (q:Nat):BN n (l++[(q:Int)])=(BN n l).set q true:=by
 apply List.ext_getElem?;intro i;rcases Nat.lt_or_ge i n with d | d
 ·rw [Dg d,List.getElem?_set];by_cases h:q=i
  ·subst h;simp [Dh,d]
  ·rw [if_neg h,Dg d];congr 1;refine decide_eq_decide.2 ?_;simp only [List.mem_append,List.mem_singleton];constructor
   ·rintro(j | j)
    ·exact j
    ·omega
   ·exact .inl
 ·rw [List.getElem?_eq_none (by rw [Dh]; exact d),List.getElem?_eq_none (by simp [Dh]; exact d)]
def IA (w:World) (n:Nat) (l:List Int) (r:Value) (w':World):Prop:=Below w.heap.size w w'/\BX w' w'.heap.size r (BN n l)/\∀g,r.ownBlock=some g->w.heap.size<=g
theorem Q3 {w:World} {B:Nat} {A:Option Addr} {c:Nat} {l:List Int} {n:Nat} (h:Sl w B 1 Ai A l) (hB:B<=w.heap.size) (hn:n<=200000) (V:∀x∈l,inN n x=true):
  Calls Tryz.prog 60 #[.int .i64 (n:Int),.slice A l.length c] w (Ret fun r w'=>IA w n l r w'):=by
 have ah:=h.1;obtain⟨g,w1,ai,j,J,hg⟩:=HI w n (by omega);rw [HE,<-JZ] at j;have a3:=hide j;have af:=j.lt;have ak:=J.size;have Z:=hide V;clear j V;go_enter Tryz.func60,Tryz.ntmps60;go_wp2_with fail;go_loopw [12] (fun E wr=>∃(k:Nat),E=.int .i64 (k:Int)/\k<=l.length/\Hid (Blk wr g 4 ((BN n (l.take k)).map Value.bool).toArray)/\Ac w1 wr (fun k=>k=g)) (fun E _=>l.length - (intOf E).toNat)
 case atStart=>exact⟨0,rfl,Nat.zero_le _,a3,Ac.refl _ _⟩
 case round=>
  obtain⟨k,rfl,hk,d,G⟩:=hrel;have M:=J.trans (G.below (B:=w.heap.size) (by omega) (fun k' h1 (e:k'=g)=>by omega));by_cases a6:k<l.length
  ·obtain⟨b,al,x,rfl,aa,C,U⟩:=h.at a6;have a4:=(M.cell (by show b<_; omega)).trans (U 0 (by omega));simp only [Nat.mul_one,Nat.add_zero,Ai] at a4;obtain⟨q,rfl,W⟩:=CT (Z.out x (List.mem_of_getElem? C));simp only [Int.toNat_natCast] at W;obtain⟨bq,O⟩:=An (l:=BN n (l.take k)) (i:=q) (by rw [Dh]; exact W);have ab:=BX.cell d.out O;have ad:=d.out.frozen q;have hX:=hide C;clear C U O;go_wp2_with fail;refine⟨⟨k+1,by go_num,by omega,?_,G.setCell (fun _=>rfl) _⟩,by simp [intOf]; omega⟩;have:=d.out.set_ q (.bool true);rw [HF] at this;show Blk _ _ _ _
   rw [B5 hX.out,J0];exact this
  ·have y:=d.out;rw [List.take_of_length_le (by omega)] at y;have I:=hide y;clear y;go_wp2_with fail;go_ret;refine⟨M,⟨g,I.out.lt,by rw [Dh]; rfl,I.out⟩,fun g' a5=>?_⟩;simp [Value.ownBlock] at a5;omega
theorem RS {w:World} {B:Nat} {A:Option Addr} {c:Nat} {l:List Int} {n:Nat} (h:Sl w B 1 Ai A l) (hB:B<=w.heap.size) (hn:n<=200000) (V:∀x∈l,inN n x=true):
  Calls Tryz.prog 174 #[.slice A l.length c,.int .i64 (n:Int)] w (Ret fun r w'=>IA w n l r w'):=by
 have ah:=h.1;obtain⟨g,w1,ai,j,J,hg⟩:=HI w n (by omega);rw [HE,<-JZ] at j;have a3:=hide j;have af:=j.lt;have ak:=J.size;have Z:=hide V;clear j V;go_enter Tryz.func174,Tryz.ntmps174;go_wp2_with fail;go_loopw [6] (fun E wr=>∃(k:Nat),E=.int .i64 (k:Int)/\k<=l.length/\Hid (Blk wr g 4 ((BN n (l.take k)).map Value.bool).toArray)/\Ac w1 wr (fun k=>k=g)) (fun E _=>l.length - (intOf E).toNat)
 case atStart=>exact⟨0,rfl,Nat.zero_le _,a3,Ac.refl _ _⟩
 case round=>
  obtain⟨k,rfl,hk,d,G⟩:=hrel;have M:=J.trans (G.below (B:=w.heap.size) (by omega) (fun k' h1 (e:k'=g)=>by omega));by_cases a6:k<l.length
  ·obtain⟨b,al,x,rfl,aa,C,U⟩:=h.at a6;have a4:=(M.cell (by show b<_; omega)).trans (U 0 (by omega));simp only [Nat.mul_one,Nat.add_zero,Ai] at a4;obtain⟨q,rfl,W⟩:=CT (Z.out x (List.mem_of_getElem? C));simp only [Int.toNat_natCast] at W;obtain⟨bq,O⟩:=An (l:=BN n (l.take k)) (i:=q) (by rw [Dh]; exact W);have ab:=BX.cell d.out O;have ad:=d.out.frozen q;have hX:=hide C;clear C U O;go_wp2_with fail;refine⟨⟨k+1,by go_num,by omega,?_,G.setCell (fun _=>rfl) _⟩,by simp [intOf]; omega⟩;have:=d.out.set_ q (.bool true);rw [HF] at this;show Blk _ _ _ _
   rw [B5 hX.out,J0];exact this
  ·have y:=d.out;rw [List.take_of_length_le (by omega)] at y;have I:=hide y;clear y;go_wp2_with fail;go_ret;refine⟨M,⟨g,I.out.lt,by rw [Dh]; rfl,I.out⟩,fun g' a5=>?_⟩;simp [Value.ownBlock] at a5;omega
end Go.Proofs.YtfcfpoemojjglaaGreatDoor
namespace Go.Proofs.YtfcfpoemojjglaaGreatDoor
open Go.RowKit
set_option maxHeartbeats 16000000
set_option maxRecDepth 100000
theorem S1 (cs:Array Value) (w:World):(method 430 144 (.agg cs) "familycheck/word.shape").run Tryz.prog w=.ok (262,.agg cs) w:=by kernel_rfl
theorem Mg (cs:Array Value) (w:World):(Instr.typeAssert (.iface 144 (.agg cs)) 191 144 true).run Tryz.prog w=.ok (.tuple #[.agg cs,.bool true]) w:=by kernel_rfl
attribute [go_sem] S1 Mg
theorem Il (w:World) (L S:Int) (v2 v3 h:Value):Calls Tryz.prog 262 #[.agg #[.int .i64 L,.int .i64 S,v2,v3,h]] w (Ret fun r w'=>r=.tuple #[.int .i64 L,.int .i64 S]/\Below w.heap.size w w'):=by
 obtain⟨w1,C,d,j,y⟩:=Ae w #[.int .i64 L,.int .i64 S,v2,v3,h] 144;have l:=j.cell;go_enter Tryz.func262,Tryz.ntmps262;go_wp2_with fail;refine Reg.cP [0,1,0,4,3,31] ?_;go_wp2_with fail;exact bodyPost_ret (v:=.tuple #[.int .i64 L,.int .i64 S]) (by simp [results,Tryz.results262,go_sem]) rfl ⟨rfl,(d.trans ((Ap w1).mono d.size))⟩
def De (b:Bool):Int:=if b then 0 else 1
def WA.head (a:WA):Bool:=decide (1<=a.letters)&&decide (a.letters<=8)&&decide (0<=a.states)&&decide (a.states<=400)
theorem WA.ok_eq (a:WA):a.ok=(a.head&&a.start.all (inN a.states)&&a.accept.all (inN a.states)&&a.edges.all a.edgeB):=rfl
theorem Lm (w:World) (l:List Int) (C:l.length<=100):Sl (w.alloc (.cells (l.map (Value.int .i64)).toArray 3)) (w.heap.size+1) 1 Ai (some ⟨w.heap.size,0,none⟩) l:=by
 refine⟨by omega,fun _=>⟨w.heap.size,0,rfl,by omega,fun k d h j y=>?_⟩⟩;obtain rfl:j=0:=by omega
 have:=(Blk.new w 3 (l.map (Value.int .i64)).toArray).cell (0+k*1+0);rw [this];simp [h,Ai]
theorem TY {w:World} {a:WA} {A1 A2 A3:Option Addr} {c1 c2 c3:Nat} (J:Sl w w.heap.size 3 DP A3 a.edges) (C:a.head=false):
  Calls Tryz.prog 86 #[.iface 144 (.agg #[.int .i64 a.letters,.int .i64 a.states,.slice A1 a.start.length c1,.slice A2 a.accept.length c2,.slice A3 a.edges.length c3])] w (Ret fun r w'=>r=.int .i64 (De a.ok)/\Below w.heap.size w w'):=by
 have af:Hid (a.ok=false):=by show _=_; rw [WA.ok_eq,C]; rfl
 obtain⟨L,S,st,ac,d⟩:=a;dsimp only at*;generalize WA.ok ⟨L,S,st,ac,d⟩=OK at*;have ao:=J.1;have a7:L<1\/(1<=L/\8<L)\/(1<=L/\L<=8/\S<0)\/(1<=L/\L<=8/\0<=S/\400<S):=by simp [WA.head] at C; omega
 clear C;rcases a7 with y | ⟨y,I⟩ | ⟨y,I,Z⟩ | ⟨y,I,Z,d4⟩
 all_goals
  go_enter Tryz.func86,Tryz.ntmps86;go_wp2_with (go_at_call 262; refine Calls.ret (Il _ _ _ _ _ _) ?_; rintro v w0 ⟨rfl,U⟩; obtain⟨w1,ap,V,M,ab⟩:=Ae w0 #[.int .i64 L,.int .i64 S,.slice A1 st.length c1,.slice A2 ac.length c2,.slice A3 d.length c3] 144; have am:=M.cell; have ag:=hide (U.trans (V.mono U.size)); clear V M ab);go_loopw [5,51] (fun bb G wr=>∃(k:Nat),G=.int .i64 (k:Int)/\bb=.bool false/\k<=d.length/\Hid (Below w.heap.size w wr)/\Below w1.heap.size w1 wr) (fun _ G _=>d.length - (intOf G).toNat)
  case atStart=>exact⟨0,rfl,rfl,Nat.zero_le _,ag,Below.refl _ _⟩
  case round=>
   obtain⟨k,rfl,rfl,hk,h,O⟩:=hrel;by_cases ae:k<d.length
   ·obtain⟨b,ar,x,rfl,a6,hx,W⟩:=J.at ae;have l:=fun j hj=>(h.out.cell (by exact a6)).trans (W j hj);have e0:=l 0 (by omega);have e1:=l 1 (by omega);have e2:=l 2 (by omega);simp only [Nat.add_zero,DP] at e0 e1 e2;obtain⟨x0,x1,x2⟩:=x;dsimp only at*;obtain⟨w2,aq,E,a5,ad⟩:=Ae wr #[.int .i64 x0,.int .i64 x1,.int .i64 x2] 83;have hf:=hide (h.out.trans (E.mono h.out.size));have a9:=hide (O.trans (E.mono O.size));clear hx W l E a5 ad;go_wp2_with fail;exact⟨⟨k+1,by go_num,rfl,by omega,hf,a9.out⟩,by simp [intOf]; omega⟩
   ·go_wp2_with fail;go_ret;exact⟨by rw [af.out]; rfl,h.out⟩
theorem Jm (n x y:Int) (c:Nat) (w:World):Calls Tryz.prog 40 #[.int .i64 n,.slice (some ⟨w.heap.size,0,none⟩) 2 c] (w.alloc (.cells #[.int .i64 x,.int .i64 y] 3)) fun e w'=>e=.returned (.bool (inN n x&&inN n y))/\w.alloc (.cells #[.int .i64 x,.int .i64 y] 3)=w':=by
 have:=FM (c:=c) n (Lm w [x,y] (by simp));simpa using this
theorem Nl (n x:Int) (c:Nat) (w:World) {g:Nat} (d:g=w.heap.size):Calls Tryz.prog 40 #[.int .i64 n,.slice (some ⟨g,0,none⟩) 1 c] (w.alloc (.cells #[.int .i64 x] 3)) fun e w'=>e=.returned (.bool (inN n x))/\w.alloc (.cells #[.int .i64 x] 3)=w':=by
 subst d;have:=FM (c:=c) n (Lm w [x] (by simp));simpa using this
theorem TZ {w:World} {a:WA} {A1 A2 A3:Option Addr} {c1 c2 c3:Nat} (h1:Sl w w.heap.size 1 Ai A1 a.start) (h2:Sl w w.heap.size 1 Ai A2 a.accept) (h3:Sl w w.heap.size 3 DP A3 a.edges) (hb:a.head=true):
  Calls Tryz.prog 86 #[.iface 144 (.agg #[.int .i64 a.letters,.int .i64 a.states,.slice A1 a.start.length c1,.slice A2 a.accept.length c2,.slice A3 a.edges.length c3])] w (Ret fun r w'=>r=.int .i64 (De a.ok)/\Below w.heap.size w w'):=by
 have ah:=hide (WA.ok_eq a);rw [hb] at ah;obtain⟨L,S,st,ac,d⟩:=a;dsimp only at*;have aM:=h3.1;simp only [WA.head,Bool.and_eq_true,decide_eq_true_eq] at hb;obtain⟨⟨⟨d1,d2⟩,d3⟩,d4⟩:=hb;obtain⟨p,hp⟩:∃p:Edg->Bool,p=WA.edgeB ⟨L,S,st,ac,d⟩:=⟨_,rfl⟩;have aq:∀e:Edg,p e=(inN S e.frm&&inN S e.to&&inN L e.letter):=fun e=>by rw [hp]; rfl
 have ai:Hid (WA.ok ⟨L,S,st,ac,d⟩=(st.all (inN S)&&ac.all (inN S)&&d.all p)):=by show _=_; rw [ah.out,hp]; simp
 have az:=hide aq;clear ah hp aq;generalize WA.ok ⟨L,S,st,ac,d⟩=OK at*;obtain⟨s1,al⟩:∃b,Hid (st.all (inN S)=b):=⟨_,rfl⟩;obtain⟨s2,am⟩:∃b,Hid (ac.all (inN S)=b):=⟨_,rfl⟩;rw [al.out,am.out] at ai;cases s1 <;> cases s2
 case true.true=>
  go_enter Tryz.func86,Tryz.ntmps86
  go_wp2_with (first
   | (go_at_call 262; refine Calls.ret (Il _ _ _ _ _ _) ?_; rintro v w0 ⟨rfl,Z⟩; obtain⟨w1,aB,a2,U,ad⟩:=Ae w0 #[.int .i64 L,.int .i64 S,.slice A1 st.length c1,.slice A2 ac.length c2,.slice A3 d.length c3] 144; have aw:=U.cell; have G:=hide (Z.trans (a2.mono Z.size)); clear a2 U ad)
   | (go_at_call 40; refine(FM _ (by first | exact h1.below G.out | exact h2.below G.out)).mono ?_; rintro e w' ⟨rfl,rfl⟩; first | rw [al.out] | rw [am.out]))
  go_loopw [5,51] (fun bb I wr=>∃(k:Nat) (b:Bool),I=.int .i64 (k:Int)/\bb=.bool b/\k<=d.length/\Hid ((d.take k).all p=b)/\Hid (Below w.heap.size w wr)/\Below w1.heap.size w1 wr) (fun _ I _=>d.length - (intOf I).toNat)
  case atStart=>exact⟨0,true,rfl,rfl,Nat.zero_le _,rfl,G,Below.refl _ _⟩
  case round=>
   obtain⟨k,b,rfl,rfl,hk,hE,h,W⟩:=hrel;by_cases af:k<d.length
   ·obtain⟨bl,aD,x,rfl,aa,hx,hc⟩:=h3.at af;have l:=fun j hj=>(h.out.cell (by exact aa)).trans (hc j hj);have e0:=l 0 (by omega);have e1:=l 1 (by omega);have e2:=l 2 (by omega);simp only [Nat.add_zero,DP] at e0 e1 e2;have aA:=hide (az.out x);have ag:Hid ((d.take (k+1)).all p=(b&&p x)):=by show _=_; rw [B5 hx,List.all_append,hE.out]; simp
    obtain⟨M,J,O⟩:=x;dsimp only at*;obtain⟨w2,aC,y,V,ae⟩:=Ae wr #[.int .i64 M,.int .i64 J,.int .i64 O] 83;have ax:=V.cell;have aL:∀o i,(w2.alloc o).cell? ⟨wr.heap.size,i,none⟩=#[.int .i64 M,.int .i64 J,.int .i64 O][i]?:=fun o i=>(World.cell?_alloc_lt w2 o _ V.lt).trans (ax i);have aN:=hide y.size;have C:=hide (h.out.trans (y.mono h.out.size));have E:=hide (W.trans (y.mono W.size));clear hx hc l y V ae;cases b
    ·go_wp2_with fail;exact⟨⟨k+1,false,by go_num,rfl,by omega,by show _=_; rw [ag.out]; rfl,C,E.out⟩,by simp [intOf]; omega⟩
    ·obtain⟨r1,ak⟩:∃r,Hid ((inN S M&&inN S O)=r):=⟨_,rfl⟩;obtain⟨r2,au⟩:∃r,Hid (inN L J=r):=⟨_,rfl⟩;have ar:Hid (p ⟨M,J,O⟩=(r1&&r2)):=by show _=_; rw [aA.out,ak.out,au.out]
     cases r1
     ·go_wp2_with (go_at_call 40; refine(Jm _ _ _ _ _).mono ?_; rintro e w' ⟨rfl,rfl⟩; rw [ak.out]);exact⟨⟨k+1,false,by go_num,rfl,by omega,by show _=_; rw [ag.out,ar.out]; rfl,hide (C.out.alloc C.out.size _),E.out.alloc E.out.size _⟩,by simp [intOf]; omega⟩
     ·go_wp2_with fail;refine(Jm _ _ _ _ _).mono ?_;rintro e w' ⟨rfl,rfl⟩;rw [ak.out];go_wp2_with fail;refine(Nl L J _ _ (by simp)).mono ?_;rintro e w' ⟨rfl,rfl⟩;rw [au.out];go_wp2_with fail;exact⟨⟨k+1,r2,by go_num,rfl,by omega,by show _=_; rw [ag.out,ar.out]; rfl,hide ((C.out.alloc C.out.size _).alloc (by have:=C.out.size; simp; omega) _),(E.out.alloc E.out.size _).alloc (by have:=E.out.size; simp; omega) _⟩,by simp [intOf]; omega⟩
   ·have hA:Hid (d.all p=b):=by show _=_; rw [<-hE.out,List.take_of_length_le (by omega)]
    cases b
    all_goals
     go_wp2_with fail;go_ret;exact⟨by rw [ai.out,hA.out]; rfl,h.out⟩
 all_goals
  go_enter Tryz.func86,Tryz.ntmps86
  go_wp2_with (first
   | (go_at_call 262; refine Calls.ret (Il _ _ _ _ _ _) ?_; rintro v w0 ⟨rfl,Z⟩; obtain⟨w1,aB,a2,U,ad⟩:=Ae w0 #[.int .i64 L,.int .i64 S,.slice A1 st.length c1,.slice A2 ac.length c2,.slice A3 d.length c3] 144; have aw:=U.cell; have G:=hide (Z.trans (a2.mono Z.size)); clear a2 U ad)
   | (go_at_call 40; refine(FM _ (by first | exact h1.below G.out | exact h2.below G.out)).mono ?_; rintro e w' ⟨rfl,rfl⟩; first | rw [al.out] | rw [am.out]))
  go_loopw [5,51] (fun bb I wr=>∃(k:Nat),I=.int .i64 (k:Int)/\bb=.bool false/\k<=d.length/\Hid (Below w.heap.size w wr)/\Below w1.heap.size w1 wr) (fun _ I _=>d.length - (intOf I).toNat)
  case atStart=>exact⟨0,rfl,rfl,Nat.zero_le _,G,Below.refl _ _⟩
  case round=>
   obtain⟨k,rfl,rfl,hk,h,W⟩:=hrel;by_cases af:k<d.length
   ·obtain⟨b,aD,x,rfl,aa,hx,hc⟩:=h3.at af;have l:=fun j hj=>(h.out.cell (by exact aa)).trans (hc j hj);have e0:=l 0 (by omega);have e1:=l 1 (by omega);have e2:=l 2 (by omega);simp only [Nat.add_zero,DP] at e0 e1 e2;obtain⟨M,J,O⟩:=x;dsimp only at*;obtain⟨w2,aC,y,V,ae⟩:=Ae wr #[.int .i64 M,.int .i64 J,.int .i64 O] 83;have C:=hide (h.out.trans (y.mono h.out.size));have E:=hide (W.trans (y.mono W.size));clear hx hc l y V ae;go_wp2_with fail;exact⟨⟨k+1,by go_num,rfl,by omega,C,E.out⟩,by simp [intOf]; omega⟩
   ·go_wp2_with fail;go_ret;exact⟨by rw [ai.out]; rfl,h.out⟩
theorem TX {v:Value} {a:WA} {w:World} (h:Bj w w.heap.size v a):
  Calls Tryz.prog 86 #[.iface 144 v] w (Ret fun r w'=>r=.int .i64 (De a.ok)/\Below w.heap.size w w'):=by
 obtain⟨A1,c1,A2,c2,A3,c3,rfl,l,y,d,C⟩:=h;cases j:a.head
 ·exact TY d j
 ·exact TZ l y d j
theorem Iv {v:Value} {a:WA} {w:World} (h:Bj w w.heap.size v a):
  Calls Tryz.prog 39 #[v] w (Ret fun r w'=>r=.int .i64 (De a.ok)/\Below w.heap.size w w'):=by
 have I:=hide h;obtain⟨A1,c1,A2,c2,A3,c3,rfl,l,y,C,E⟩:=h;obtain⟨w1,V,d,G,O⟩:=Ae w #[.int .i64 a.letters,.int .i64 a.states,.slice A1 a.start.length c1,.slice A2 a.accept.length c2,.slice A3 a.edges.length c3] 35;have U:=G.cell;have J:=hide ((I.out.below d).keep (fun _ _=>rfl) d.size);have j:=hide d;clear l y C E O d;go_enter Tryz.func39,Tryz.ntmps39;go_wp2_with (go_at_call 86; refine Calls.ret (TX J.out) ?_; rintro v w2 ⟨rfl,M⟩);go_ret;exact⟨rfl,j.out.trans (M.mono j.out.size)⟩
end Go.Proofs.YtfcfpoemojjglaaGreatDoor
