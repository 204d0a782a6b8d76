/-
  Part CD of a proof.
-/
import Derived.BigQuiet
import Derived.Test.YtfcfpoemojjglaaGreatDoorPA
import Derived.Test.YtfcfpoemojjglaaGreatDoorAA
import Derived.Test.YtfcfpoemojjglaaGreatDoorCA
set_option maxHeartbeats 16000000
set_option maxRecDepth 100000
set_option linter.unusedVariables false
set_option linter.unusedSimpArgs false
namespace Go.Proofs.YtfcfpoemojjglaaGreatDoor.K
open Go.RowKit
theorem KY {w:World} {B g5:Nat} {cs:List Value} {r:Az} {nm:ByteArray} (h:AW w B cs r) (l:w.cell? ⟨g5,0,none⟩=some (.string nm)) (W:g5<w.heap.size):
  Calls Tryz.prog 207 #[.agg cs.toArray,.pointer (some ⟨g5,0,none⟩)] w (Ret fun v w'=>v=.bool (decide (r.name=nm))/\Below w.heap.size w w'):=by
 obtain⟨A1,c1,A2,c2,A3,c3,y,c4,C,J,E,M,G,O,I,U,rfl,-⟩:=h;obtain⟨w1,a5,d,j,Z⟩:=Ae w #[.string r.name,.int .i64 r.kind,.int .i64 r.fr,.int .i64 r.to,.int .i64 r.pf,.int .i64 r.pt,.slice A1 r.resp.length c1,.slice A2 r.guards.length c2,.slice A3 r.ex.length c3,.slice y r.fa.length c4,.int .i64 r.rd,.int .i64 r.wr,.slice C r.send.length J,.int .i64 r.at_,.slice E r.left.length M,.slice G r.right.length O,.slice I r.parent.length U,.int .i64 r.dir] 99;have a3:=j.cell 0;have a4:w1.cell? ⟨g5,0,none⟩=some (.string nm):=(d.cell W).trans l;have V:=hide d;have hq:=hide (DM r.name nm);clear d Z j l;go_enter Tryz.func207,Tryz.ntmps207;go_wp2_with fail;go_ret;exact⟨by rw [<-hq.out]; rfl,V.out⟩
theorem Qa {w:World} {g5 c:Nat} {A:Option Addr} {l:List Az} {nm:ByteArray} (h:BR w w.heap.size 18 (AW w w.heap.size) A l) (hc:w.cell? ⟨g5,0,none⟩=some (.string nm)) (hg:g5<w.heap.size):
  Calls Tryz.prog 226 #[.slice A l.length c,.func (.func 207) #[] #[.pointer (some ⟨g5,0,none⟩)]] w (Ret fun v w'=>(∃z:Int,v=.int .i64 z/\(0<=z↔(l.any fun x=>decide (x.name=nm))=true))/\Below w.heap.size w w'):=by
 have hH:=hide h;have hn:=h.1;have hC:=hide hc;clear h hc;go_enter Tryz.func226,Tryz.ntmps226;go_wp2_with fail;go_loopw [8] (fun O wr=>∃(k:Nat),O=.int .i64 (k:Int)/\k<=l.length/\Below w.heap.size w wr/\Hid ((l.take k).all (fun x=>!decide (x.name=nm))=true)) (fun O _=>l.length - (intOf O).toNat)
 case atStart=>exact⟨0,rfl,Nat.zero_le _,Below.refl _ _,by show _=_; simp⟩
 case round=>
  obtain⟨k,rfl,hk,j,W⟩:=hrel;have C:=hide j;by_cases ao:k<l.length
  ·have hr:=hH.out.keep (R':=AW wr w.heap.size) (fun _ J=>j.cell J) (fun _ _ h=>h.keep (fun _ J=>j.cell J) (Nat.le_refl _)) (Nat.le_refl _);obtain⟨b,aN,r,cs,hA,aK,he,-,d,Z⟩:=hr.at ao;have a2:=hide Z;obtain⟨A1,c1,A2,c2,A3,c3,A4,c4,A5,c5,A6,c6,A7,c7,A8,c8,rfl,-⟩:=Z;have a3:Hid (AW wr w.heap.size [.string r.name,.int .i64 r.kind,.int .i64 r.fr,.int .i64 r.to,.int .i64 r.pf,.int .i64 r.pt,.slice A1 r.resp.length c1,.slice A2 r.guards.length c2,.slice A3 r.ex.length c3,.slice A4 r.fa.length c4,.int .i64 r.rd,.int .i64 r.wr,.slice A5 r.send.length c5,.int .i64 r.at_,.slice A6 r.left.length c6,.slice A7 r.right.length c7,.slice A8 r.parent.length c8,.int .i64 r.dir] r):=a2.out;have d0:=d 0 _ rfl;have d1:=d 1 _ rfl;have d2:=d 2 _ rfl;have d3:=d 3 _ rfl;have d4:=d 4 _ rfl;have d5:=d 5 _ rfl;have d6:=d 6 _ rfl;have d7:=d 7 _ rfl;have d8:=d 8 _ rfl;have d9:=d 9 _ rfl;have ar:=d 10 _ rfl;have au:=d 11 _ rfl;have av:=d 12 _ rfl;have aw:=d 13 _ rfl;have ax:=d 14 _ rfl;have ay:=d 15 _ rfl;have az:=d 16 _ rfl;have aA:=d 17 _ rfl;simp only [Nat.add_zero] at d0;have a5:=hide he;have U:wr.cell? ⟨g5,0,none⟩=some (.string nm):=(j.cell hg).trans hC.out;have V:=hide U;have a7:g5<wr.heap.size:=Nat.lt_of_lt_of_le hg j.size;subst hA;clear d he hr j a2 U;cases y:decide (r.name=nm)
   ·have M:=hide (Cq (p:=fun x:Az=>!decide (x.name=nm)) a5.out W.out (by rw [y]; rfl));go_wp2_with (go_at_call 207; refine Calls.ret (KY a3.out V.out a7) ?_; rintro v w2 ⟨rfl,E⟩; rw [y]; have I:=hide (C.out.trans (E.mono C.out.size)); clear E);exact⟨⟨k+1,by go_num,by omega,I.out,M.out⟩,by simp [intOf]; omega⟩
   ·have M:=hide (show(l.any fun x=>decide (x.name=nm))=true from List.any_eq_true.2 ⟨r,List.mem_of_getElem? a5.out,y⟩);go_wp2_with (go_at_call 207; refine Calls.ret (KY a3.out V.out a7) ?_; rintro v w2 ⟨rfl,E⟩; rw [y]; have I:=hide (C.out.trans (E.mono C.out.size)); clear E);go_ret;exact⟨⟨(k:Int),rfl,fun _=>M.out,fun _=>by omega⟩,I.out⟩
  ·have e:k=l.length:=by omega
   have G:=W.out;rw [e,List.take_length] at G;have am:=hide G;clear G e j;go_wp2_with fail;go_ret;refine⟨⟨-1,rfl,fun h=>by omega,fun h=>?_⟩,C.out⟩;obtain⟨x,hx,y⟩:=List.any_eq_true.1 h;have:=List.all_eq_true.1 am.out x hx;rw [y] at this;cases this
theorem M7 {w:World} {g5 c:Nat} {A:Option Addr} {l:List Az} {nm:ByteArray} (h:BR w w.heap.size 18 (AW w w.heap.size) A l) (j:w.cell? ⟨g5,0,none⟩=some (.string nm)) (I:g5<w.heap.size):
  Calls Tryz.prog 206 #[.slice A l.length c,.func (.func 207) #[] #[.pointer (some ⟨g5,0,none⟩)]] w (Ret fun v w'=>v=.bool (l.any fun x=>decide (x.name=nm))/\Below w.heap.size w w'):=by
 have E:=hide h;have C:=hide j;clear h j;go_enter Tryz.func206,Tryz.ntmps206;go_wp2_with fail;refine Calls.ret (Qa E.out C.out I) ?_;rintro v w2 ⟨⟨z,rfl,y⟩,d⟩;have G:=hide d;have J:=hide y;clear d y;go_wp2_with fail;go_ret;refine⟨?_,G.out⟩;have:(l.any fun x=>decide (x.name=nm))=decide (0<=z):=by rw [Bool.eq_iff_iff,<-J.out,decide_eq_true_eq]
 rw [this];rfl
end Go.Proofs.YtfcfpoemojjglaaGreatDoor.K
namespace Go.Proofs.YtfcfpoemojjglaaGreatDoor.K
open Go.RowKit
theorem JH:(Tryz.prog.info? 9).map (fun i=>(i.zero,i.size,i.bytes))=some (some (.string ByteArray.empty),1,16):=by kernel_rfl
theorem EW:Dd Tryz.prog 22 9 1:=EX Tryz.underlying22 JH rfl (by omega) (by omega)
section
variable {P:Program} {w:World}
theorem Ig {t e size:Nat} (R:Dd P t e size) (ty:TypeId) {base:Nat} {v:Value} {n:Nat} {xs:List Value} (l:w.ownsRow base e size v n xs) (A:Option Addr) (c:Nat):
  (Builtin.append_ #[t,t] ty #[v,.slice A 0 c]).run P w=.ok v w:=by
 have ht:=R.ht;obtain⟨i,z,bytes,h,J,I,G,M,E⟩:=R.info;have d:∀(a:Addr),Sem.run P (loadCells a 0) w=.ok #[] w:=fun _=>rfl;rcases l.2 with⟨rfl,rfl⟩ | ⟨g,y,C,rfl,_,_,j,_⟩
 ·cases A <;> simp [Builtin.append_,run_underlying ht,sizeOf,typeInfo,h,Builtin.lenOf,Builtin.firstCells,d]
 ·cases A <;> simp [Builtin.append_,run_underlying ht,sizeOf,typeInfo,h,Builtin.lenOf,Builtin.firstCells,j,storeCells,d]
theorem Ll (z:Array Value) (n:Nat):(Builtin.zeroCells z n).size=n*z.size:=by simp [Builtin.zeroCells]
theorem SM (t u ty e:TypeId) (i:TypeInfo) (z:Value) (ht:P.underlying t=some (.slice e)) (U:P.underlying u=some (.int .i64)) (I:P.info? e=some i) (W:i.zero=some z)
  (n:Nat) (j:0<n) (J:n<=1000000) (hs:0<i.size) (G:i.bytes<=200):
  (Builtin.append_ #[t,u] ty #[.slice none 0 0,.int .i64 n]).run P w=
   .ok (.slice (some ⟨w.heap.size,0,none⟩) n (grownCap w n 0 e)) (w.drew.alloc (.cells (Builtin.zeroCells z.cells n++Builtin.zeroCells z.cells (grownCap w n 0 e - n)) e)):=by
 have a2:n*i.bytes<=1000000*200:=Nat.mul_le_mul J G;have Z:n*i.bytes<=281474976710656:=by omega
 have y:¬((281474976710656:Int)<(n:Int)*(i.bytes:Int)):=by
  rw [<-Int.natCast_mul]; omega
 have d:n≠0:=by omega
 have O:i.size≠0:=by omega
 have V:IntKind.i64.wrap (n:Int)=(n:Int):=IntWalk.i64_in _ (by omega);have C:¬(9223372036854775807<(n:Int)):=by omega
 have l:¬(281474976710656<Builtin.nextslicecap n 0*i.bytes):=by rw [nextslicecap_zero j]; omega
 have M:¬((n:Int)<0):=by omega
 have E:∀w':World,Sem.run P (asInt (Value.int IntKind.i64 (n:Int))) w'=.ok (n:Int) w':=fun _=>rfl;simp [E,Builtin.append_,run_underlying ht,run_underlying U,sizeOf,typeInfo,zeroValue,I,W,V,d,C,l,y,M,Question.forced,run_firstCells_none,newRow,grownCap];intro h;rcases Nat.mul_eq_zero.1 h with h | h
 ·exact absurd h d
 ·exact absurd h O
end
section
variable {P:Program} {ops:Array Oper} {rest:List Oper} {o:Oper} {a:Act} {Q:Exit->Act->World->Prop} {w:World}
theorem Um {w':World} (j:o.guard=none) (s x:Operand) (t u:TypeId)
  (l:o.op=.call { callee:=.builtin .append,args:=#[s,x],argTypes:=#[t,u] }) (v1 v2 v:Value) (C:a.eval s=v1) (E:a.eval x=v2)
  (y:(Builtin.append_ #[t,u] o.type #[v1,v2]).run P w=.ok v w') (h:wpList P ops Q rest (a.put o.dst v) w'):wpList P ops Q (o::rest) a w:=by
 refine wpList_plain j fun K d=>?_;unfold Oper.wp execOp;simp only [l,resolve,invoke,builtin,Sem.run_bind,Sem.run_pure,Result.andThen_ok,List.map_toArray,List.map_cons,List.map_nil,C,E,y];exact d _ _ h
theorem Ei {t e:Nat} {B:Nat} {D:Type} {enc:D->Nat->Value} (R:Dd P t e 1) (M:o.guard=none) (s x:Operand)
  (O:o.op=.call { callee:=.builtin .append,args:=#[s,x],argTypes:=#[t,t] })
  (base:Nat) (v:Value) (n:Nat) (xs:List Value) (U:a.eval s=v) (E:w.ownsRow base e 1 v n xs)
  {A:Option Addr} {l:List D} {c:Nat} (hS:Sl w B 1 enc A l) (G:a.eval x=.slice A l.length c) (h1:∀d,(enc d 0).oneCell'=true)
  (hn:n+l.length<=1000000) (a8:base<=w.heap.size)
  (h:∀V w',w'.ownsRow base e 1 V (n+l.length) (xs++l.map (enc · 0))->Ac w w' (fun k=>v.ownBlock=some k)->wpList P ops Q rest (a.put o.dst V) w'):
  wpList P ops Q (o::rest) a w:=by
 by_cases C:l.length=0
 ·have hl:l=[]:=List.length_eq_zero_iff.1 C;subst hl;have hr:=Ig (P:=P) R o.type E A c;refine wpList_plain M fun K hK=>?_;unfold Oper.wp execOp;rw [List.length_nil] at G;simp only [O,resolve,invoke,builtin,Sem.run_bind,Sem.run_pure,Result.andThen_ok,List.map_toArray,List.map_cons,List.map_nil,U,G,hr];exact hK _ _ (h v w (by simpa using E) (Ac.refl _ _))
 ·obtain⟨b,J,d0,hA,hb,al,hc⟩:=hS.at (k:=0) (by omega);obtain⟨b',o',W,aj,a7⟩:=hS.2 (by intro e; rw [e] at C; exact C rfl);subst hA;refine G9 R M s x O base v n xs U E ⟨b,J,none⟩ l.length c (l.map (enc · 0)) G (by simp) ?_ ?_ (by omega) (Nat.le_trans hn (by decide)) a8 ?_
  ·intro j u y;rw [List.getElem?_map] at y;cases I:l[j]? with
   | none=>rw [I] at y; cases y
   | some d=>
    rw [I] at y;have y:=Option.some.inj y;subst y;have e:=Option.some.inj W;injection e with Z e2 _
    subst Z e2;have:=a7 j d I 0 (by omega);have a6:(⟨b,J,none⟩:Addr).add j=⟨b,J+j*1+0,none⟩:=by unfold Addr.add; split <;> simp_all
    rw [a6];exact this
  ·intro u y;obtain⟨d,_,rfl⟩:=List.mem_map.1 y;exact h1 d
  ·intro g ag w' ad hk _ _;exact h _ w' ad hk
end
theorem Ns (w:World):Below w.heap.size w w.drew:=⟨rfl,rfl,rfl,Nat.le_refl _,fun _ _=>rfl⟩
theorem P4 (n:Nat) (O:n<=1000000) (w:World):Calls Tryz.prog 224 #[.slice none 0 0,.int .i64 (n:Int)] w (Ret fun r w'=>w'.ownsRow w.heap.size 9 1 r 0 []/\Below w.heap.size w w'):=by
 obtain⟨i,M,U,a4,Z⟩:=info_parts JH;by_cases C:n=0
 ·subst C;go_enter Tryz.func224,Tryz.ntmps224;go_wp2_with fail;go_ret;exact⟨World.ownsRow_nil _ _ _ _,Below.refl _ _⟩
 ·have y:=SM (P:=Tryz.prog) (w:=w) 22 3 22 9 i _ Tryz.underlying22 Tryz.underlying3 M U n (by omega) O (by omega) (by omega);have j:=grownCap_ge w n 0 9;have d:grownCap w n 0 9<=maxLen:=grownCap_le_maxLen w n 0 9 (by unfold maxLen; omega);have J:(Value.string ByteArray.empty).cells.size=1:=rfl;have l:=World.ownsRow_made (e:=9) (size:=1) w.drew (Builtin.zeroCells (Value.string ByteArray.empty).cells n++Builtin.zeroCells (Value.string ByteArray.empty).cells (grownCap w n 0 9 - n)) (grownCap w n 0 9) (base:=w.heap.size) (Nat.le_refl _) d (by rw [Array.size_append,Ll,Ll,J]; omega);have h:=(Ns w).alloc (Nat.le_refl _) (.cells (Builtin.zeroCells (Value.string ByteArray.empty).cells n++Builtin.zeroCells (Value.string ByteArray.empty).cells (grownCap w n 0 9 - n)) 9);have a3:n<=grownCap w n 0 9:=j;have a2:grownCap w n 0 9<=9223372036854775807:=by unfold maxLen at d; omega
  generalize grownCap w n 0 9=cap at*;generalize (w.drew.alloc (.cells (Builtin.zeroCells (Value.string ByteArray.empty).cells n++Builtin.zeroCells (Value.string ByteArray.empty).cells (cap - n)) 9))=w1 at*;have G:=hide y;have I:=hide l;have E:=hide h;clear y l h d j;have V:0<n:=by omega
  have W:(0:Int)<(n:Int):=by omega
  go_enter Tryz.func224,Tryz.ntmps224;go_wp2_with (at_builtin; refine Um rfl _ _ _ _ rfl _ _ _ rfl rfl G.out ?_);go_ret;exact⟨I.out,E.out⟩
def LL (w:World) (B b off:Nat) (ad:Nat->Option Addr) (cp:Nat->Nat) (ls:List (List ByteArray)):Prop:=
 ∀(k:Nat) (l:List ByteArray),ls[k]?=some l->w.cell? ⟨b,off+k,none⟩=some (.slice (ad k) l.length (cp k))/\Sl w B 1 BE (ad k) l
theorem Jx {A:Type} {ls:List (List A)} {k:Nat} {l:List A} (h:ls[k]?=some l):(ls.take (k+1)).flatten=(ls.take k).flatten++l:=by
 rw [show ls.take (k+1)=ls.take k++[l] by rw [List.take_add_one,h]; rfl,List.flatten_append];simp
theorem Jv {A:Type} (ls:List (List A)) (k:Nat):(ls.take k).flatten.length<=ls.flatten.length:=by
 conv=>rhs; rw [<-List.take_append_drop k ls,List.flatten_append,List.length_append]
 omega
def DV (l:List ByteArray):List Value:=l.map (BE · 0)
theorem M4 {w:World} {B b a2 c:Nat} {ad:Nat->Option Addr} {cp:Nat->Nat} {ls:List (List ByteArray)} (h:LL w B b a2 ad cp ls) (hb:b<w.heap.size) (hB:B<=w.heap.size) (hn:ls.flatten.length<=900000) (hk:ls.length<=100) (aD:ls.length<=c):
  Calls Tryz.prog 203 #[.slice (some ⟨b,a2,none⟩) ls.length c] w (Ret fun r w'=>w'.ownsRow w.heap.size 9 1 r ls.flatten.length (DV ls.flatten)/\Below w.heap.size w w'):=by
 have hH:=hide h;have a9:=hide hn;clear h hn;go_enter Tryz.func203,Tryz.ntmps203;go_wp2_with fail;go_loopw [3,11] (fun tt y wr=>∃(k s:Nat),y=.int .i64 (k:Int)/\tt=.int .i64 (s:Int)/\k<=ls.length/\s<=900000/\w=wr/\Hid (s=(ls.take k).flatten.length)) (fun _ y _=>ls.length - (intOf y).toNat)
 case atStart=>exact⟨0,0,rfl,rfl,Nat.zero_le _,Nat.zero_le _,(by first | rfl | trivial),by show _=_; simp⟩
 case round=>
  obtain⟨k,s,rfl,rfl,aF,hs,rfl,I⟩:=hrel;by_cases W:k<ls.length
  ·obtain⟨l,j⟩:∃l,ls[k]?=some l:=⟨_,List.getElem?_eq_getElem W⟩;obtain⟨hc,hS⟩:=hH.out k l j;have V:=hide (Jv ls (k+1));have E:=hide (Jx j);have ap:s+l.length<=900000:=by
    have M:=V.out;have h2:=a9.out;rw [E.out,List.length_append,<-I.out] at M;omega
   have am:=hide j;clear hS j;go_wp2_with fail;exact⟨⟨k+1,s+l.length,by go_num,by go_num,by omega,by omega,(by first | rfl | trivial),by show _=_; rw [E.out,List.length_append,<-I.out]⟩,by simp [intOf]; omega⟩
  ·have e:k=ls.length:=by omega
   have O:=I.out;rw [e,List.take_length] at O;have aB:=hide O;clear O e I;go_wp2_with (go_at_call 224; refine Calls.ret (P4 s (by omega) _) ?_; intro v0 w1 ao);obtain⟨aa,a6⟩:=ao;have an:=hide aa;have aj:=hide a6;clear aa a6;go_wp2_with fail;go_loopw [6,27] (fun vv y wr=>∃(k:Nat) (n:Nat),y=.int .i64 (k:Int)/\k<=ls.length/\Hid (wr.ownsRow w.heap.size 9 1 vv n (DV (ls.take k).flatten))/\Hid (n=(ls.take k).flatten.length)/\Hid (Below w.heap.size w wr)) (fun _ y _=>ls.length - (intOf y).toNat)
   case atStart=>exact⟨0,0,rfl,Nat.zero_le _,by show World.ownsRow _ _ _ _ _ _ _; simpa [DV] using an.out,by show _=_; simp,aj.out⟩
   case round=>
    obtain⟨k,n,rfl,aG,G,J,C⟩:=hrel;by_cases W:k<ls.length
    ·obtain⟨l,j⟩:∃l,ls[k]?=some l:=⟨_,List.getElem?_eq_getElem W⟩;obtain⟨a7,hS⟩:=hH.out k l j;have hc:wr.cell? ⟨b,a2+k,none⟩=some (.slice (ad k) l.length (cp k)):=by rw [<-a7]; exact World.cell?_of_block (C.out.block b hb)
     have ah:=hide (hS.keep (fun p hp=>World.cell?_of_block (C.out.block p.block (by omega))) (Nat.le_refl B));have V:=hide (Jv ls (k+1));have E:=hide (Jx j);have ap:n+l.length<=900000:=by
      have M:=V.out;have h2:=a9.out;rw [E.out,List.length_append,<-J.out] at M;omega
     have am:=hide j;clear hS j a7;obtain⟨Av,cv,hv⟩:=AH G.out;subst hv;go_wp2_with (at_builtin; refine Ei EW rfl _ _ rfl w.heap.size _ n _ rfl G.out ah.out rfl (fun d=>rfl) (by omega) C.out.size ?_; intro v2 w2 ab al);obtain⟨ax,az,ar⟩:=AH ab;subst ar;go_wp2_with fail;exact⟨⟨k+1,n+l.length,by go_num,by omega,by show World.ownsRow _ _ _ _ _ _ _; rw [E.out]; simpa [DV] using ab,by show _=_; rw [E.out,List.length_append,<-J.out],C.out.trans (al.below C.out.size fun b' aC e=>by have:=(G.out.lt b' e).1; omega)⟩,by simp [intOf]; omega⟩
    ·have e:k=ls.length:=by omega
     have Z:=J.out;rw [e,List.take_length] at Z;have U:=G.out;rw [e,List.take_length,Z] at U;have ag:=hide U;clear U Z e J G;go_wp2_with fail;go_ret;exact⟨ag.out,C.out⟩
end Go.Proofs.YtfcfpoemojjglaaGreatDoor.K
namespace Go.Proofs.YtfcfpoemojjglaaGreatDoor.K
open Go.RowKit
def DG (g:Thr):Value:=.agg #[.int .i64 g.msg,.int .i64 g.coef,.int .i64 g.bound.c,.int .i64 g.bound.n,.int .i64 g.bound.t,.int .i64 g.bound.f]
theorem KZ (a b:Thr) (w:World):Calls Tryz.prog 221 #[DG a,DG b] w (Ret fun r w'=>r=.bool (decide (a=b))/\Below w.heap.size w w'):=by
 obtain⟨m,k,⟨c,n,t,f⟩⟩:=a;obtain⟨l,j,⟨O,W,t',f'⟩⟩:=b;unfold DG;obtain⟨w1,a6,E,J,U⟩:=Ae w #[.int .i64 m,.int .i64 k,.int .i64 c,.int .i64 n,.int .i64 t,.int .i64 f] 217;obtain⟨w2,a7,G,M,V⟩:=Ae w1 #[.int .i64 l,.int .i64 j,.int .i64 O,.int .i64 W,.int .i64 t',.int .i64 f'] 217;have a5:=M.cell;have a4:=(J.below G).cell;have I:=hide (E.trans (G.mono E.size));clear E G;clear J M U V;by_cases d:m=l
 ·have y:=hide d;have Z:(m==l)=true:=by simp [d]
  clear d;by_cases h:k=j
  ·have C:=hide h;have q2:(k==j)=true:=by simp [h]
   clear h;go_enter Tryz.func221,Tryz.ntmps221;go_wp2_with fail
   all_goals
    go_ret;refine⟨?_,I.out⟩;have d:=y.out;have h:=C.out;simp [*]
  ·have C:=hide h;have q2:(k==j)=false:=by simp [h]
   clear h;go_enter Tryz.func221,Tryz.ntmps221;go_wp2_with fail;go_ret;refine⟨?_,I.out⟩;have h:=C.out;simp [h]
 ·have y:=hide d;have Z:(m==l)=false:=by simp [d]
  clear d;go_enter Tryz.func221,Tryz.ntmps221;go_wp2_with fail;go_ret;refine⟨?_,I.out⟩;have d:=y.out;simp [d]
theorem TI {w:World} {B c:Nat} {A:Option Addr} {l:List Thr} {x:Thr} (h:Sl w B 6 CS A l) (d:B<=w.heap.size):Calls Tryz.prog 193 #[.slice A l.length c,DG x] w (Ret fun r w'=>(∃z:Int,r=.int .i64 z/\(0<=z↔x∈l))/\Below w.heap.size w w'):=by
 obtain⟨m,k,⟨y,fn,E,C⟩⟩:=x;unfold DG;obtain⟨w1,au,J,a5,ak⟩:=Ae w #[.int .i64 m,.int .i64 k,.int .i64 y,.int .i64 fn,.int .i64 E,.int .i64 C] 217;have a2:=J.size;have hH:=hide (h.keep (w':=w1) (B':=w.heap.size) (fun _ hp=>J.cell (by omega)) d);have hn:=h.1;have a7:=hide J;have ah:=hide a5;clear h a5 ak J;go_enter Tryz.func193,Tryz.ntmps193;go_wp2_with fail;go_loopw [5] (fun ii wr=>∃(k':Nat),ii=.int .i64 (k':Int)/\k'<=l.length/\Hid (Below w1.heap.size w1 wr)/\Hid ((⟨m,k,⟨y,fn,E,C⟩⟩:Thr)∉l.take k')) (fun ii _=>l.length - (intOf ii).toNat)
 case atStart=>exact⟨0,rfl,Nat.zero_le _,Below.refl _ _,by show ¬_; simp⟩
 case round=>
  obtain⟨i,rfl,hi,d,hE⟩:=hrel;by_cases al:i<l.length
  ·obtain⟨b,av,g,hA,ao,he,j⟩:=(hH.out.keep (w':=wr) (B':=w1.heap.size) (fun _ hp=>d.out.cell (by omega)) a2).at al;obtain⟨gm,U,⟨gc,gn,V,O⟩⟩:=g;have d0:=j 0 (by omega);have d1:=j 1 (by omega);have d2:=j 2 (by omega);have d3:=j 3 (by omega);have d4:=j 4 (by omega);have d5:=j 5 (by omega);simp only [Nat.add_zero,CS] at d0 d1 d2 d3 d4 d5;have ap:=(ah.out.below d.out).cell;have a8:=hide he;subst hA;clear j he;cases M:decide ((⟨gm,U,⟨gc,gn,V,O⟩⟩:Thr)=⟨m,k,⟨y,fn,E,C⟩⟩) with
   | true=>
    have I:=hide M;clear M;have am:=hide (show(⟨m,k,⟨y,fn,E,C⟩⟩:Thr)∈l from by rw [<-of_decide_eq_true I.out]; exact List.mem_of_getElem? a8.out);go_wp2_with fail;refine Reg.cP [0,0,3,7,0,31] ?_;go_wp2_with (go_at_call 221; refine Calls.ret (KZ ⟨gm,U,⟨gc,gn,V,O⟩⟩ ⟨m,k,⟨y,fn,E,C⟩⟩ _) ?_; rintro r w2 ⟨rfl,G⟩; rw [I.out]; have Z:=hide (d.out.trans (((Ap wr).trans G).mono d.out.size)); clear G);go_ret;exact⟨⟨(i:Int),rfl,fun _=>am.out,fun _=>by omega⟩,a7.out.trans (Z.out.mono a2)⟩
   | false=>
    have I:=hide M;clear M;go_wp2_with fail;refine Reg.cP [0,0,3,7,0,31] ?_;go_wp2_with (go_at_call 221; refine Calls.ret (KZ ⟨gm,U,⟨gc,gn,V,O⟩⟩ ⟨m,k,⟨y,fn,E,C⟩⟩ _) ?_; rintro r w2 ⟨rfl,G⟩; rw [I.out]; have Z:=hide (d.out.trans (((Ap wr).trans G).mono d.out.size)); clear G);exact⟨⟨i+1,by go_num,by omega,Z.out,DQ a8.out hE.out (of_decide_eq_false I.out)⟩,by simp [intOf]; omega⟩
  ·have e:i=l.length:=by omega
   have W:=hE.out;rw [e,List.take_length] at W;have ai:=hide W;clear W e;go_wp2_with fail;go_ret;exact⟨⟨-1,rfl,fun h=>by omega,fun h=>absurd h ai.out⟩,a7.out.trans (d.out.mono a2)⟩
theorem Qe {w:World} {B c:Nat} {A:Option Addr} {l:List Thr} {x:Thr} (h:Sl w B 6 CS A l) (j:B<=w.heap.size):Calls Tryz.prog 227 #[.slice A l.length c,DG x] w (Ret fun r w'=>(∃z:Int,r=.int .i64 z/\(0<=z↔x∈l))/\Below w.heap.size w w'):=by
 obtain⟨m,k,⟨W,fn,ft,Z⟩⟩:=x;unfold DG;obtain⟨w1,aK,a3,ai,aw⟩:=Ae w #[.int .i64 m,.int .i64 k,.int .i64 W,.int .i64 fn,.int .i64 ft,.int .i64 Z] 217;have af:=a3.size;have hH:=hide (h.keep (w':=w1) (B':=w.heap.size) (fun _ hp=>a3.cell (by omega)) j);have hn:=h.1;have aj:=hide a3;have ar:=hide ai;clear h ai aw a3;go_enter Tryz.func227,Tryz.ntmps227;go_wp2_with fail;go_loopw [8] (fun ii wr=>∃(k':Nat),ii=.int .i64 (k':Int)/\k'<=l.length/\Hid (Below w1.heap.size w1 wr)/\Hid ((⟨m,k,⟨W,fn,ft,Z⟩⟩:Thr)∉l.take k')) (fun ii _=>l.length - (intOf ii).toNat)
 case atStart=>exact⟨0,rfl,Nat.zero_le _,Below.refl _ _,by show ¬_; simp⟩
 case round=>
  obtain⟨i,rfl,hi,j,y⟩:=hrel;by_cases ax:i<l.length
  ·obtain⟨b,aL,g,hA,aF,he,E⟩:=(hH.out.keep (w':=wr) (B':=w1.heap.size) (fun _ hp=>j.out.cell (by omega)) af).at ax;obtain⟨gm,gk,⟨gc,gn,gt,gf⟩⟩:=g;have d0:=E 0 (by omega);have d1:=E 1 (by omega);have d2:=E 2 (by omega);have d3:=E 3 (by omega);have d4:=E 4 (by omega);have d5:=E 5 (by omega);simp only [Nat.add_zero,CS] at d0 d1 d2 d3 d4 d5;have aG:=(ar.out.below j.out).cell;have G:=hide he;subst hA;clear E he;have C:=hide (j.out.trans ((Ap wr).mono j.out.size));by_cases I:m=gm
   ·have H0:=hide I;have q0:(m==gm)=true:=by simp [I]
    clear I;by_cases J:k=gk
    ·have H1:=hide J;have q1:(k==gk)=true:=by simp [J]
     clear J;by_cases M:W=gc
     ·have H2:=hide M;have q2:(W==gc)=true:=by simp [M]
      clear M;by_cases O:fn=gn
      ·have H3:=hide O;have q3:(fn==gn)=true:=by simp [O]
       clear O;by_cases U:ft=gt
       ·have H4:=hide U;have q4:(ft==gt)=true:=by simp [U]
        clear U;by_cases V:Z=gf
        ·have H5:=hide V;have q5:(Z==gf)=true:=by simp [V]
         clear V;go_wp2_with fail;refine Reg.cP [0,0,0,6,14,31] ?_;go_wp2_with fail;go_ret;refine⟨⟨(i:Int),rfl,fun _=>List.mem_of_getElem? (i:=i) ?_,fun _=>by omega⟩,aj.out.trans (C.out.mono af)⟩;rw [G.out,H0.out,H1.out,H2.out,H3.out,H4.out,H5.out]
        ·have H5:=hide V;have q5:(Z==gf)=false:=by simp [V]
         clear V;have d:=hide (DQ G.out y.out (fun e=>by have h:=H5.out; simp only [Thr.mk.injEq,Lin.mk.injEq] at e; omega));go_wp2_with fail;refine Reg.cP [0,0,0,6,14,31] ?_;go_wp2_with fail;exact⟨⟨i+1,by go_num,by omega,C.out,d.out⟩,by simp [intOf]; omega⟩
       ·have H4:=hide U;have q4:(ft==gt)=false:=by simp [U]
        clear U;have d:=hide (DQ G.out y.out (fun e=>by have h:=H4.out; simp only [Thr.mk.injEq,Lin.mk.injEq] at e; omega));go_wp2_with fail;refine Reg.cP [0,0,0,6,14,31] ?_;go_wp2_with fail;exact⟨⟨i+1,by go_num,by omega,C.out,d.out⟩,by simp [intOf]; omega⟩
      ·have H3:=hide O;have q3:(fn==gn)=false:=by simp [O]
       clear O;have d:=hide (DQ G.out y.out (fun e=>by have h:=H3.out; simp only [Thr.mk.injEq,Lin.mk.injEq] at e; omega));go_wp2_with fail;refine Reg.cP [0,0,0,6,14,31] ?_;go_wp2_with fail;exact⟨⟨i+1,by go_num,by omega,C.out,d.out⟩,by simp [intOf]; omega⟩
     ·have H2:=hide M;have q2:(W==gc)=false:=by simp [M]
      clear M;have d:=hide (DQ G.out y.out (fun e=>by have h:=H2.out; simp only [Thr.mk.injEq,Lin.mk.injEq] at e; omega));go_wp2_with fail;refine Reg.cP [0,0,0,6,14,31] ?_;go_wp2_with fail;exact⟨⟨i+1,by go_num,by omega,C.out,d.out⟩,by simp [intOf]; omega⟩
    ·have H1:=hide J;have q1:(k==gk)=false:=by simp [J]
     clear J;have d:=hide (DQ G.out y.out (fun e=>by have h:=H1.out; simp only [Thr.mk.injEq,Lin.mk.injEq] at e; omega));go_wp2_with fail;refine Reg.cP [0,0,0,6,14,31] ?_;go_wp2_with fail;exact⟨⟨i+1,by go_num,by omega,C.out,d.out⟩,by simp [intOf]; omega⟩
   ·have H0:=hide I;have q0:(m==gm)=false:=by simp [I]
    clear I;have d:=hide (DQ G.out y.out (fun e=>by have h:=H0.out; simp only [Thr.mk.injEq,Lin.mk.injEq] at e; omega));go_wp2_with fail;refine Reg.cP [0,0,0,6,14,31] ?_;go_wp2_with fail;exact⟨⟨i+1,by go_num,by omega,C.out,d.out⟩,by simp [intOf]; omega⟩
  ·have e:i=l.length:=by omega
   have ae:=y.out;rw [e,List.take_length] at ae;have au:=hide ae;clear ae e;go_wp2_with fail;go_ret;exact⟨⟨-1,rfl,fun h=>by omega,fun h=>absurd h au.out⟩,aj.out.trans (j.out.mono af)⟩
theorem M8 {w:World} {B c:Nat} {A:Option Addr} {l:List Thr} {x:Thr} (h:Sl w B 6 CS A l) (I:B<=w.heap.size):Calls Tryz.prog 213 #[.slice A l.length c,DG x] w (Ret fun r w'=>r=.bool (decide (x∈l))/\Below w.heap.size w w'):=by
 have j:DG x=.agg #[.int .i64 x.msg,.int .i64 x.coef,.int .i64 x.bound.c,.int .i64 x.bound.n,.int .i64 x.bound.t,.int .i64 x.bound.f]:=rfl;obtain⟨w1,a4,d,y,U⟩:=Ae w #[.int .i64 x.msg,.int .i64 x.coef,.int .i64 x.bound.c,.int .i64 x.bound.n,.int .i64 x.bound.t,.int .i64 x.bound.f] 217;have Z:=y.cell;have V:=d.size;have J:=hide (h.keep (w':=w1) (B':=w.heap.size) (fun _ hp=>d.cell (by omega)) I);have hn:=h.1;have O:=hide d;have E:=hide (Qe (c:=c) (x:=x) J.out (by omega));rw [j] at E;rw [j];clear h U d y j;go_enter Tryz.func213,Tryz.ntmps213;go_wp2_with (go_at_call 227; refine Calls.ret E.out ?_; rintro r w' ⟨⟨z,rfl,G⟩,C⟩; have M:=hide C; clear C);have W:=hide G;clear G;go_ret;refine⟨?_,O.out.trans (M.out.mono V)⟩;have:decide (x∈l)=decide (0<=z):=decide_eq_decide.2 W.out.symm;rw [this];first | rfl | trace_state
end Go.Proofs.YtfcfpoemojjglaaGreatDoor.K
