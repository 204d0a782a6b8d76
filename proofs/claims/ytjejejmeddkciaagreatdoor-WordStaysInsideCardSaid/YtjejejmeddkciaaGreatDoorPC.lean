/-
  Part PC of a proof.
-/
import Derived.Test.YtjejejmeddkciaaGreatDoorPA
import Derived.Test.YtjejejmeddkciaaGreatDoorPB
set_option maxHeartbeats 16000000
set_option maxRecDepth 100000
set_option linter.unusedVariables false
set_option linter.unusedSimpArgs false
namespace Go.Proofs.YtjejejmeddkciaaGreatDoor
open Go.RowKit
theorem FM {w:World} {B:Nat} {A:Option Addr} {c:Nat} {l:List Int} (n:Int) (h:Sl w B 1 Ai A l):
  Calls Tryz.prog 25 #[.int .i64 n,.slice A l.length c] w fun e w'=>e=.returned (.bool (l.all (inN n)))/\w=w':=by
 have W:=h.1;go_enter Tryz.func25,Tryz.ntmps25;go_wp2_with fail
 go_loop [9] (fun F=>∃(k:Nat),F=.int .i64 (k:Int)/\k<=l.length/\Hid ((l.take k).all (inN n)=true)) (fun F=>l.length - (intOf F).toNat)
 case atStart=>exact⟨0,rfl,Nat.zero_le _,rfl⟩
 case round=>
  obtain⟨k,rfl,V,G⟩:=hrel;by_cases O:k<l.length
  ·obtain⟨b,off,x,rfl,U,J,I⟩:=h.at O;have M:=I 0 (by omega);simp only [Nat.mul_one,Nat.add_zero,Ai] at M;have E:=hide J;clear J I;by_cases h0:x<0
   ·have C:=hide (IQ E.out (p:=inN n) (by simp [inN];omega));go_wp2_with fail;go_ret;exact⟨by rw [C.out];rfl,rfl⟩
   ·by_cases h1:n<=x
    ·have C:=hide (IQ E.out (p:=inN n) (by simp [inN];omega));go_wp2_with fail;go_ret;exact⟨by rw [C.out];rfl,rfl⟩
    ·have C:=hide (Mb E.out G.out (p:=inN n) (by simp [inN];omega));go_wp2_with fail;exact⟨⟨k+1,by go_num,by omega,C⟩,by simp [intOf];omega⟩
  ·have C:=hide (Ma (by omega) G.out);go_wp2_with fail;go_ret;exact⟨by rw [C.out];rfl,rfl⟩
def inC (n lo hi:Int):Bool:=decide (lo<=n)&&decide (n<=hi)
end Go.Proofs.YtjejejmeddkciaaGreatDoor
namespace Go.Proofs.YtjejejmeddkciaaGreatDoor
open Go.RowKit
def BX (w:World) (B:Nat) (u:Value) (m:List Bool):Prop:=∃g,g<B/\u=.slice (some ⟨g,0,none⟩) m.length m.length/\Blk w g 4 (m.map Value.bool).toArray
theorem BX.cell {w:World} {g:Nat} {m:List Bool} (h:Blk w g 4 (m.map Value.bool).toArray) {q:Nat} {b:Bool} (C:m[q]?=some b):w.cell? ⟨g,q,none⟩=some (.bool b):=by
 rw [h.cell];simp [C]
theorem BX.sl {w:World} {B:Nat} {u:Value} {m:List Bool} (h:BX w B u m) (I:m.length<=4000000):∃A c,u=.slice A m.length c/\Sl w B 1 DH A m:=by
 obtain⟨g,F,rfl,C⟩:=h;refine⟨_,_,rfl,by omega,fun _=>⟨g,0,rfl,F,fun k d E j G=>?_⟩⟩;obtain rfl:j=0:=by omega
 have:=BX.cell C E;simpa [DH] using this
theorem HE (n:Nat):Array.replicate n (Value.bool false)=((List.replicate n false).map Value.bool).toArray:=by
 apply Array.ext';simp
theorem HF (m:List Bool) (q:Nat):((m.map Value.bool).toArray).setIfInBounds q (.bool true)=((m.set q true).map Value.bool).toArray:=by
 apply Array.ext';simp [List.map_set]
theorem JZ (n:Nat):BN n []=List.replicate n false:=by
 apply List.ext_getElem?;intro i;rcases Nat.lt_or_ge i n with h|h
 ·rw [Dg h,List.getElem?_replicate];simp [h]
 ·rw [List.getElem?_eq_none (by rw [Dh];exact h),List.getElem?_eq_none (by simpa using h)]
theorem J0 {n:Nat} (l:List Int) (q:Nat):BN n (l++[(q:Int)])=(BN n l).set q true:=by
 apply List.ext_getElem?;intro i;rcases Nat.lt_or_ge i n with C|C
 ·rw [Dg C,List.getElem?_set];by_cases h:q=i
  ·subst h;simp [Dh,C]
  ·rw [if_neg h,Dg C];congr 1;refine decide_eq_decide.2 ?_;simp only [List.mem_append,List.mem_singleton];constructor
   ·rintro(h1|h1)
    ·exact h1
    ·omega
   ·exact .inl
 ·rw [List.getElem?_eq_none (by rw [Dh];exact C),List.getElem?_eq_none (by simp [Dh];exact C)]
def IA (w:World) (n:Nat) (l:List Int) (r:Value) (w':World):Prop:=Below w.heap.size w w'/\BX w' w'.heap.size r (BN n l)/\∀g,r.ownBlock=some g->w.heap.size<=g
theorem Q3 {w:World} {B:Nat} {A:Option Addr} {c:Nat} {l:List Int} {n:Nat} (h:Sl w B 1 Ai A l) (hB:B<=w.heap.size) (hn:n<=200000) (Z:∀x∈l,inN n x=true):
  Calls Tryz.prog 51 #[.int .i64 (n:Int),.slice A l.length c] w (Ret fun r w'=>IA w n l r w'):=by
 have aj:=h.1;obtain⟨g,w1,ak,E,O,hg⟩:=HI w n (by omega);rw [HE,<-JZ] at E;have a4:=hide E;have ah:=E.lt;have am:=O.size;have hI:=hide Z;clear E Z;go_enter Tryz.func51,Tryz.ntmps51;go_wp2_with fail;go_loopw [12] (fun I wr=>∃(k:Nat),I=.int .i64 (k:Int)/\k<=l.length/\Hid (Blk wr g 4 ((BN n (l.take k)).map Value.bool).toArray)/\Ac w1 wr (fun k=>k=g)) (fun I _=>l.length - (intOf I).toNat)
 case atStart=>exact⟨0,rfl,Nat.zero_le _,a4,Ac.refl _ _⟩
 case round=>
  obtain⟨k,rfl,hk,C,J⟩:=hrel;have U:=O.trans (J.below (B:=w.heap.size) (by omega) (fun k' h1 (e:k'=g)=>by omega));by_cases a7:k<l.length
  ·obtain⟨b,off,x,rfl,ad,G,W⟩:=h.at a7;have a5:=(U.cell (by show b<_;omega)).trans (W 0 (by omega));simp only [Nat.mul_one,Nat.add_zero,Ai] at a5;obtain⟨q,rfl,hq⟩:=CT (hI.out x (List.mem_of_getElem? G));simp only [Int.toNat_natCast] at hq;obtain⟨bq,V⟩:=An (l:=BN n (l.take k)) (i:=q) (by rw [Dh];exact hq);have ae:=BX.cell C.out V;have af:=C.out.frozen q;have hX:=hide G;clear G W V;go_wp2_with fail;refine⟨⟨k+1,by go_num,by omega,?_,J.setCell (fun _=>rfl) _⟩,by simp [intOf];omega⟩;have:=C.out.set_ q (.bool true);rw [HF] at this;show Blk _ _ _ _
   rw [B5 hX.out,J0];exact this
  ·have F:=C.out;rw [List.take_of_length_le (by omega)] at F;have M:=hide F;clear F;go_wp2_with fail;go_ret;refine⟨U,⟨g,M.out.lt,by rw [Dh];rfl,M.out⟩,fun g' a6=>?_⟩;simp [Value.ownBlock] at a6;omega
end Go.Proofs.YtjejejmeddkciaaGreatDoor
namespace Go.Proofs.YtjejejmeddkciaaGreatDoor
open Go.RowKit
set_option maxHeartbeats 16000000
set_option maxRecDepth 100000
theorem S1 (cs:Array Value) (w:World):(method 421 135 (.agg cs) "familycheck/word.shape").run Tryz.prog w=.ok (229,.agg cs) w:=by kernel_rfl
theorem Mg (cs:Array Value) (w:World):(Instr.typeAssert (.iface 135 (.agg cs)) 193 135 true).run Tryz.prog w=.ok (.tuple #[.agg cs,.bool true]) w:=by kernel_rfl
attribute [go_sem] S1 Mg
theorem Il (w:World) (L S:Int) (v2 v3 C:Value):Calls Tryz.prog 229 #[.agg #[.int .i64 L,.int .i64 S,v2,v3,C]] w (Ret fun r w'=>r=.tuple #[.int .i64 L,.int .i64 S]/\Below w.heap.size w w'):=by
 obtain⟨F,J,h,E,I⟩:=Ae w #[.int .i64 L,.int .i64 S,v2,v3,C] 135;have G:=E.cell;go_enter Tryz.func229,Tryz.ntmps229;go_wp2_with fail;refine Reg.cP [0,1,0,4,3,31] ?_;go_wp2_with fail;exact bodyPost_ret (v:=.tuple #[.int .i64 L,.int .i64 S]) (by simp [results,Tryz.results229,go_sem]) rfl ⟨rfl,(h.trans ((Ap F).mono h.size))⟩
def De (b:Bool):Int:=if b then 0 else 1
def WA.head (a:WA):Bool:=decide (1<=a.letters)&&decide (a.letters<=8)&&decide (0<=a.states)&&decide (a.states<=400)
theorem WA.ok_eq (a:WA):a.ok=(a.head&&a.start.all (inN a.states)&&a.accept.all (inN a.states)&&a.edges.all a.edgeB):=rfl
theorem Lm (w:World) (l:List Int) (E:l.length<=100):Sl (w.alloc (.cells (l.map (Value.int .i64)).toArray 3)) (w.heap.size+1) 1 Ai (some ⟨w.heap.size,0,none⟩) l:=by
 refine⟨by omega,fun _=>⟨w.heap.size,0,rfl,by omega,fun k d h j C=>?_⟩⟩;obtain rfl:j=0:=by omega
 have:=(Blk.new w 3 (l.map (Value.int .i64)).toArray).cell (0+k*1+0);rw [this];simp [h,Ai]
theorem TY {w:World} {a:WA} {O U F:Option Addr} {c1 c2 c3:Nat} (W:Sl w w.heap.size 3 DP F a.edges) (I:a.head=false):
  Calls Tryz.prog 58 #[.iface 135 (.agg #[.int .i64 a.letters,.int .i64 a.states,.slice O a.start.length c1,.slice U a.accept.length c2,.slice F a.edges.length c3])] w (Ret fun r w'=>r=.int .i64 (De a.ok)/\Below w.heap.size w w'):=by
 have am:Hid (a.ok=false):=by show _=_;rw [WA.ok_eq,I];rfl
 obtain⟨L,S,st,ac,h⟩:=a;dsimp only at*;generalize WA.ok ⟨L,S,st,ac,h⟩=OK at*;have ax:=W.1;have af:L<1\/(1<=L/\8<L)\/(1<=L/\L<=8/\S<0)\/(1<=L/\L<=8/\0<=S/\400<S):=by simp [WA.head] at I;omega
 clear I;rcases af with G|⟨G,V⟩|⟨G,V,d3⟩|⟨G,V,d3,d4⟩
 all_goals
  go_enter Tryz.func58,Tryz.ntmps58;go_wp2_with (go_at_call 229;refine Calls.ret (Il _ _ _ _ _ _) ?_;rintro v w0 ⟨rfl,a3⟩;obtain⟨w1,ay,a4,Z,aj⟩:=Ae w0 #[.int .i64 L,.int .i64 S,.slice O st.length c1,.slice U ac.length c2,.slice F h.length c3] 135;have av:=Z.cell;have an:=hide (a3.trans (a4.mono a3.size));clear a4 Z aj);go_loopw [5,51] (fun bb M wr=>∃(k:Nat),M=.int .i64 (k:Int)/\bb=.bool false/\k<=h.length/\Hid (Below w.heap.size w wr)/\Below w1.heap.size w1 wr) (fun _ M _=>h.length - (intOf M).toNat)
  case atStart=>exact⟨0,rfl,rfl,Nat.zero_le _,an,Below.refl _ _⟩
  case round=>
   obtain⟨k,rfl,rfl,hk,C,a2⟩:=hrel;by_cases al:k<h.length
   ·obtain⟨b,off,x,rfl,ae,hx,hc⟩:=W.at al;have E:=fun j hj=>(C.out.cell (by exact ae)).trans (hc j hj);have e0:=E 0 (by omega);have e1:=E 1 (by omega);have e2:=E 2 (by omega);simp only [Nat.add_zero,DP] at e0 e1 e2;obtain⟨x0,x1,x2⟩:=x;dsimp only at*;obtain⟨w2,az,J,ad,ak⟩:=Ae wr #[.int .i64 x0,.int .i64 x1,.int .i64 x2] 137;have hf:=hide (C.out.trans (J.mono C.out.size));have ah:=hide (a2.trans (J.mono a2.size));clear hx hc E J ad ak;go_wp2_with fail;exact⟨⟨k+1,by go_num,rfl,by omega,hf,ah.out⟩,by simp [intOf];omega⟩
   ·go_wp2_with fail;go_ret;exact⟨by rw [am.out];rfl,C.out⟩
theorem Jm (n x y:Int) (c:Nat) (w:World):Calls Tryz.prog 25 #[.int .i64 n,.slice (some ⟨w.heap.size,0,none⟩) 2 c] (w.alloc (.cells #[.int .i64 x,.int .i64 y] 3)) fun e w'=>e=.returned (.bool (inN n x&&inN n y))/\w.alloc (.cells #[.int .i64 x,.int .i64 y] 3)=w':=by
 have:=FM (c:=c) n (Lm w [x,y] (by simp));simpa using this
theorem Nl (n x:Int) (c:Nat) (w:World) {g:Nat} (h:g=w.heap.size):Calls Tryz.prog 25 #[.int .i64 n,.slice (some ⟨g,0,none⟩) 1 c] (w.alloc (.cells #[.int .i64 x] 3)) fun e w'=>e=.returned (.bool (inN n x))/\w.alloc (.cells #[.int .i64 x] 3)=w':=by
 subst h;have:=FM (c:=c) n (Lm w [x] (by simp));simpa using this
theorem TZ {w:World} {a:WA} {A1 A2 A3:Option Addr} {c1 c2 c3:Nat} (h1:Sl w w.heap.size 1 Ai A1 a.start) (h2:Sl w w.heap.size 1 Ai A2 a.accept) (h3:Sl w w.heap.size 3 DP A3 a.edges) (hb:a.head=true):
  Calls Tryz.prog 58 #[.iface 135 (.agg #[.int .i64 a.letters,.int .i64 a.states,.slice A1 a.start.length c1,.slice A2 a.accept.length c2,.slice A3 a.edges.length c3])] w (Ret fun r w'=>r=.int .i64 (De a.ok)/\Below w.heap.size w w'):=by
 have ao:=hide (WA.ok_eq a);rw [hb] at ao;obtain⟨L,S,st,ac,h⟩:=a;dsimp only at*;have aS:=h3.1;simp only [WA.head,Bool.and_eq_true,decide_eq_true_eq] at hb;obtain⟨⟨⟨d1,d2⟩,d3⟩,d4⟩:=hb;obtain⟨p,hp⟩:∃p:Edg->Bool,p=WA.edgeB ⟨L,S,st,ac,h⟩:=⟨_,rfl⟩;have ay:∀e:Edg,p e=(inN S e.frm&&inN S e.to&&inN L e.letter):=fun e=>by rw [hp];rfl
 have ap:Hid (WA.ok ⟨L,S,st,ac,h⟩=(st.all (inN S)&&ac.all (inN S)&&h.all p)):=by show _=_;rw [ao.out,hp];simp
 have aF:=hide ay;clear ao hp ay;generalize WA.ok ⟨L,S,st,ac,h⟩=OK at*;obtain⟨s1,au⟩:∃b,Hid (st.all (inN S)=b):=⟨_,rfl⟩;obtain⟨s2,av⟩:∃b,Hid (ac.all (inN S)=b):=⟨_,rfl⟩;rw [au.out,av.out] at ap;cases s1 <;> cases s2
 case true.true=>
  go_enter Tryz.func58,Tryz.ntmps58
  go_wp2_with (first
   | (go_at_call 229;refine Calls.ret (Il _ _ _ _ _ _) ?_;rintro v w0 ⟨rfl,a3⟩;obtain⟨w1,aH,a4,W,ak⟩:=Ae w0 #[.int .i64 L,.int .i64 S,.slice A1 st.length c1,.slice A2 ac.length c2,.slice A3 h.length c3] 135;have aC:=W.cell;have J:=hide (a3.trans (a4.mono a3.size));clear a4 W ak)
   | (go_at_call 25;refine(FM _ (by first|exact h1.below J.out|exact h2.below J.out)).mono ?_;rintro e w' ⟨rfl,rfl⟩;first|rw [au.out]|rw [av.out]))
  go_loopw [5,51] (fun bb M wr=>∃(k:Nat) (b:Bool),M=.int .i64 (k:Int)/\bb=.bool b/\k<=h.length/\Hid ((h.take k).all p=b)/\Hid (Below w.heap.size w wr)/\Below w1.heap.size w1 wr) (fun _ M _=>h.length - (intOf M).toNat)
  case atStart=>exact⟨0,true,rfl,rfl,Nat.zero_le _,rfl,J,Below.refl _ _⟩
  case round=>
   obtain⟨k,b,rfl,rfl,hk,hE,C,a2⟩:=hrel;by_cases am:k<h.length
   ·obtain⟨bl,off,x,rfl,ai,hx,hc⟩:=h3.at am;have E:=fun j hj=>(C.out.cell (by exact ai)).trans (hc j hj);have e0:=E 0 (by omega);have e1:=E 1 (by omega);have e2:=E 2 (by omega);simp only [Nat.add_zero,DP] at e0 e1 e2;have aG:=hide (aF.out x);have an:Hid ((h.take (k+1)).all p=(b&&p x)):=by show _=_;rw [B5 hx,List.all_append,hE.out];simp
    obtain⟨U,O,V⟩:=x;dsimp only at*;obtain⟨w2,aJ,F,Z,al⟩:=Ae wr #[.int .i64 U,.int .i64 O,.int .i64 V] 137;have aD:=Z.cell;have aR:∀o i,(w2.alloc o).cell? ⟨wr.heap.size,i,none⟩=#[.int .i64 U,.int .i64 O,.int .i64 V][i]?:=fun o i=>(World.cell?_alloc_lt w2 o _ Z.lt).trans (aD i);have aT:=hide F.size;have G:=hide (C.out.trans (F.mono C.out.size));have I:=hide (a2.trans (F.mono a2.size));clear hx hc E F Z al;cases b
    ·go_wp2_with fail;exact⟨⟨k+1,false,by go_num,rfl,by omega,by show _=_;rw [an.out];rfl,G,I.out⟩,by simp [intOf];omega⟩
    ·obtain⟨r1,ar⟩:∃r,Hid ((inN S U&&inN S V)=r):=⟨_,rfl⟩;obtain⟨r2,aA⟩:∃r,Hid (inN L O=r):=⟨_,rfl⟩;have az:Hid (p ⟨U,O,V⟩=(r1&&r2)):=by show _=_;rw [aG.out,ar.out,aA.out]
     cases r1
     ·go_wp2_with (go_at_call 25;refine(Jm _ _ _ _ _).mono ?_;rintro e w' ⟨rfl,rfl⟩;rw [ar.out]);exact⟨⟨k+1,false,by go_num,rfl,by omega,by show _=_;rw [an.out,az.out];rfl,hide (G.out.alloc G.out.size _),I.out.alloc I.out.size _⟩,by simp [intOf];omega⟩
     ·go_wp2_with fail;refine(Jm _ _ _ _ _).mono ?_;rintro e w' ⟨rfl,rfl⟩;rw [ar.out];go_wp2_with fail;refine(Nl L O _ _ (by simp)).mono ?_;rintro e w' ⟨rfl,rfl⟩;rw [aA.out];go_wp2_with fail;exact⟨⟨k+1,r2,by go_num,rfl,by omega,by show _=_;rw [an.out,az.out];rfl,hide ((G.out.alloc G.out.size _).alloc (by have:=G.out.size;simp;omega) _),(I.out.alloc I.out.size _).alloc (by have:=I.out.size;simp;omega) _⟩,by simp [intOf];omega⟩
   ·have hA:Hid (h.all p=b):=by show _=_;rw [<-hE.out,List.take_of_length_le (by omega)]
    cases b
    all_goals
     go_wp2_with fail;go_ret;exact⟨by rw [ap.out,hA.out];rfl,C.out⟩
 all_goals
  go_enter Tryz.func58,Tryz.ntmps58
  go_wp2_with (first
   | (go_at_call 229;refine Calls.ret (Il _ _ _ _ _ _) ?_;rintro v w0 ⟨rfl,a3⟩;obtain⟨w1,aH,a4,W,ak⟩:=Ae w0 #[.int .i64 L,.int .i64 S,.slice A1 st.length c1,.slice A2 ac.length c2,.slice A3 h.length c3] 135;have aC:=W.cell;have J:=hide (a3.trans (a4.mono a3.size));clear a4 W ak)
   | (go_at_call 25;refine(FM _ (by first|exact h1.below J.out|exact h2.below J.out)).mono ?_;rintro e w' ⟨rfl,rfl⟩;first|rw [au.out]|rw [av.out]))
  go_loopw [5,51] (fun bb M wr=>∃(k:Nat),M=.int .i64 (k:Int)/\bb=.bool false/\k<=h.length/\Hid (Below w.heap.size w wr)/\Below w1.heap.size w1 wr) (fun _ M _=>h.length - (intOf M).toNat)
  case atStart=>exact⟨0,rfl,rfl,Nat.zero_le _,J,Below.refl _ _⟩
  case round=>
   obtain⟨k,rfl,rfl,hk,C,a2⟩:=hrel;by_cases am:k<h.length
   ·obtain⟨b,off,x,rfl,ai,hx,hc⟩:=h3.at am;have E:=fun j hj=>(C.out.cell (by exact ai)).trans (hc j hj);have e0:=E 0 (by omega);have e1:=E 1 (by omega);have e2:=E 2 (by omega);simp only [Nat.add_zero,DP] at e0 e1 e2;obtain⟨U,O,V⟩:=x;dsimp only at*;obtain⟨w2,aJ,F,Z,al⟩:=Ae wr #[.int .i64 U,.int .i64 O,.int .i64 V] 137;have G:=hide (C.out.trans (F.mono C.out.size));have I:=hide (a2.trans (F.mono a2.size));clear hx hc E F Z al;go_wp2_with fail;exact⟨⟨k+1,by go_num,rfl,by omega,G,I.out⟩,by simp [intOf];omega⟩
   ·go_wp2_with fail;go_ret;exact⟨by rw [ap.out];rfl,C.out⟩
theorem TX {v:Value} {a:WA} {w:World} (h:Bj w w.heap.size v a):
  Calls Tryz.prog 58 #[.iface 135 v] w (Ret fun r w'=>r=.int .i64 (De a.ok)/\Below w.heap.size w w'):=by
 obtain⟨G,c1,I,c2,J,c3,rfl,h1,F,C,M⟩:=h;cases E:a.head
 ·exact TY C E
 ·exact TZ h1 F C E
theorem Iv {v:Value} {a:WA} {w:World} (h:Bj w w.heap.size v a):
  Calls Tryz.prog 24 #[v] w (Ret fun r w'=>r=.int .i64 (De a.ok)/\Below w.heap.size w w'):=by
 have hI:=hide h;obtain⟨F,c1,G,c2,I,c3,rfl,h1,J,M,O⟩:=h;obtain⟨w1,a3,C,U,Z⟩:=Ae w #[.int .i64 a.letters,.int .i64 a.states,.slice F a.start.length c1,.slice G a.accept.length c2,.slice I a.edges.length c3] 33;have a2:=U.cell;have V:=hide ((hI.out.below C).keep (fun _ _=>rfl) C.size);have E:=hide C;clear h1 J M O Z C;go_enter Tryz.func24,Tryz.ntmps24;go_wp2_with (go_at_call 58;refine Calls.ret (TX V.out) ?_;rintro v w2 ⟨rfl,W⟩);go_ret;exact⟨rfl,E.out.trans (W.mono E.out.size)⟩
end Go.Proofs.YtjejejmeddkciaaGreatDoor
