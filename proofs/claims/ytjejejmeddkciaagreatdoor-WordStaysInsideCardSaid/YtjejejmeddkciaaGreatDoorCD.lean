/-
  Part CD of a proof.
-/
import Derived.BigQuiet
import Derived.Test.YtjejejmeddkciaaGreatDoorPA
import Derived.Test.YtjejejmeddkciaaGreatDoorAA
import Derived.Test.YtjejejmeddkciaaGreatDoorCA
set_option maxHeartbeats 16000000
set_option maxRecDepth 100000
set_option linter.unusedVariables false
set_option linter.unusedSimpArgs false
namespace Go.Proofs.YtjejejmeddkciaaGreatDoor.K
open Go.RowKit
theorem KY {w:World} {B g5:Nat} {cs:List Value} {r:Az} {nm:ByteArray} (h:AW w B cs r) (F:w.cell? ⟨g5,0,none⟩=some (.string nm)) (hg:g5<w.heap.size):
  Calls Tryz.prog 172 #[.agg cs.toArray,.pointer (some ⟨g5,0,none⟩)] w (Ret fun v w'=>v=.bool (decide (r.name=nm))/\Below w.heap.size w w'):=by
 obtain⟨G,c1,I,c2,J,c3,M,W,O,Z,U,c6,A7,c7,V,c8,rfl,-⟩:=h;obtain⟨w1,ab,C,E,a6⟩:=Ae w #[.string r.name,.int .i64 r.kind,.int .i64 r.fr,.int .i64 r.to,.int .i64 r.pf,.int .i64 r.pt,.slice G r.resp.length c1,.slice I r.guards.length c2,.slice J r.ex.length c3,.slice M r.fa.length W,.int .i64 r.rd,.int .i64 r.wr,.slice O r.send.length Z,.int .i64 r.at_,.slice U r.left.length c6,.slice A7 r.right.length c7,.slice V r.parent.length c8,.int .i64 r.dir] 109;have a9:=E.cell 0;have aa:w1.cell? ⟨g5,0,none⟩=some (.string nm):=(C.cell hg).trans F;have a4:=hide C;have hq:=hide (DM r.name nm);clear C a6 E F;go_enter Tryz.func172,Tryz.ntmps172;go_wp2_with fail;go_ret;exact⟨by rw [<-hq.out];rfl,a4.out⟩
theorem Qa {w:World} {g5 c:Nat} {A:Option Addr} {l:List Az} {nm:ByteArray} (h:BR w w.heap.size 18 (AW w w.heap.size) A l) (hc:w.cell? ⟨g5,0,none⟩=some (.string nm)) (hg:g5<w.heap.size):
  Calls Tryz.prog 192 #[.slice A l.length c,.func (.func 172) #[] #[.pointer (some ⟨g5,0,none⟩)]] w (Ret fun v w'=>(∃z:Int,v=.int .i64 z/\(0<=z↔(l.any fun x=>decide (x.name=nm))=true))/\Below w.heap.size w w'):=by
 have hH:=hide h;have hn:=h.1;have hC:=hide hc;clear h hc;go_enter Tryz.func192,Tryz.ntmps192;go_wp2_with fail;go_loopw [8] (fun V wr=>∃(k:Nat),V=.int .i64 (k:Int)/\k<=l.length/\Below w.heap.size w wr/\Hid ((l.take k).all (fun x=>!decide (x.name=nm))=true)) (fun V _=>l.length - (intOf V).toNat)
 case atStart=>exact⟨0,rfl,Nat.zero_le _,Below.refl _ _,by show _=_;simp⟩
 case round=>
  obtain⟨k,rfl,hk,E,hE⟩:=hrel;have G:=hide E;by_cases av:k<l.length
  ·have hr:=hH.out.keep (R':=AW wr w.heap.size) (fun _ O=>E.cell O) (fun _ _ h=>h.keep (fun _ O=>E.cell O) (Nat.le_refl _)) (Nat.le_refl _);obtain⟨b,off,r,cs,hA,aP,he,-,C,hR⟩:=hr.at av;have a4:=hide hR;obtain⟨A1,c1,A2,c2,A3,c3,A4,c4,A5,c5,A6,c6,A7,c7,A8,c8,rfl,-⟩:=hR;have a5:Hid (AW wr w.heap.size [.string r.name,.int .i64 r.kind,.int .i64 r.fr,.int .i64 r.to,.int .i64 r.pf,.int .i64 r.pt,.slice A1 r.resp.length c1,.slice A2 r.guards.length c2,.slice A3 r.ex.length c3,.slice A4 r.fa.length c4,.int .i64 r.rd,.int .i64 r.wr,.slice A5 r.send.length c5,.int .i64 r.at_,.slice A6 r.left.length c6,.slice A7 r.right.length c7,.slice A8 r.parent.length c8,.int .i64 r.dir] r):=a4.out;have d0:=C 0 _ rfl;have d1:=C 1 _ rfl;have d2:=C 2 _ rfl;have d3:=C 3 _ rfl;have d4:=C 4 _ rfl;have d5:=C 5 _ rfl;have d6:=C 6 _ rfl;have d7:=C 7 _ rfl;have d8:=C 8 _ rfl;have d9:=C 9 _ rfl;have ay:=C 10 _ rfl;have az:=C 11 _ rfl;have aA:=C 12 _ rfl;have aB:=C 13 _ rfl;have aC:=C 14 _ rfl;have aD:=C 15 _ rfl;have aE:=C 16 _ rfl;have aF:=C 17 _ rfl;simp only [Nat.add_zero] at d0;have a8:=hide he;have W:wr.cell? ⟨g5,0,none⟩=some (.string nm):=(E.cell hg).trans hC.out;have Z:=hide W;have aa:g5<wr.heap.size:=Nat.lt_of_lt_of_le hg E.size;subst hA;clear C he hr E a4 W;cases F:decide (r.name=nm)
   ·have U:=hide (Cq (p:=fun x:Az=>!decide (x.name=nm)) a8.out hE.out (by rw [F];rfl));go_wp2_with (go_at_call 172;refine Calls.ret (KY a5.out Z.out aa) ?_;rintro v w2 ⟨rfl,I⟩;rw [F];have M:=hide (G.out.trans (I.mono G.out.size));clear I);exact⟨⟨k+1,by go_num,by omega,M.out,U.out⟩,by simp [intOf];omega⟩
   ·have U:=hide (show(l.any fun x=>decide (x.name=nm))=true from List.any_eq_true.2 ⟨r,List.mem_of_getElem? a8.out,F⟩);go_wp2_with (go_at_call 172;refine Calls.ret (KY a5.out Z.out aa) ?_;rintro v w2 ⟨rfl,I⟩;rw [F];have M:=hide (G.out.trans (I.mono G.out.size));clear I);go_ret;exact⟨⟨(k:Int),rfl,fun _=>U.out,fun _=>by omega⟩,M.out⟩
  ·have e:k=l.length:=by omega
   have J:=hE.out;rw [e,List.take_length] at J;have ar:=hide J;clear J e E;go_wp2_with fail;go_ret;refine⟨⟨-1,rfl,fun h=>by omega,fun h=>?_⟩,G.out⟩;obtain⟨x,hx,F⟩:=List.any_eq_true.1 h;have:=List.all_eq_true.1 ar.out x hx;rw [F] at this;cases this
theorem M7 {w:World} {g5 c:Nat} {A:Option Addr} {l:List Az} {nm:ByteArray} (h:BR w w.heap.size 18 (AW w w.heap.size) A l) (E:w.cell? ⟨g5,0,none⟩=some (.string nm)) (M:g5<w.heap.size):
  Calls Tryz.prog 171 #[.slice A l.length c,.func (.func 172) #[] #[.pointer (some ⟨g5,0,none⟩)]] w (Ret fun v w'=>v=.bool (l.any fun x=>decide (x.name=nm))/\Below w.heap.size w w'):=by
 have I:=hide h;have G:=hide E;clear h E;go_enter Tryz.func171,Tryz.ntmps171;go_wp2_with fail;refine Calls.ret (Qa I.out G.out M) ?_;rintro v w2 ⟨⟨z,rfl,F⟩,C⟩;have J:=hide C;have O:=hide F;clear C F;go_wp2_with fail;go_ret;refine⟨?_,J.out⟩;have:(l.any fun x=>decide (x.name=nm))=decide (0<=z):=by rw [Bool.eq_iff_iff,<-O.out,decide_eq_true_eq]
 rw [this];rfl
end Go.Proofs.YtjejejmeddkciaaGreatDoor.K
namespace Go.Proofs.YtjejejmeddkciaaGreatDoor.K
open Go.RowKit
theorem JH:(Tryz.prog.info? 9).map (fun i=>(i.zero,i.size,i.bytes))=some (some (.string ByteArray.empty),1,16):=by kernel_rfl
theorem EW:Dd Tryz.prog 22 9 1:=EX Tryz.underlying22 JH rfl (by omega) (by omega)
section
variable {P:Program} {w:World}
theorem Ig {t e size:Nat} (R:Dd P t e size) (ty:TypeId) {base:Nat} {v:Value} {n:Nat} {xs:List Value} (F:w.ownsRow base e size v n xs) (A:Option Addr) (c:Nat):
  (Builtin.append_ #[t,t] ty #[v,.slice A 0 c]).run P w=.ok v w:=by
 have ht:=R.ht;obtain⟨i,z,bytes,C,O,M,J,U,I⟩:=R.info;have h:∀(a:Addr),Sem.run P (loadCells a 0) w=.ok #[] w:=fun _=>rfl;rcases F.2 with⟨rfl,rfl⟩|⟨g,cap,G,rfl,_,_,E,_⟩
 ·cases A <;> simp [Builtin.append_,run_underlying ht,sizeOf,typeInfo,C,Builtin.lenOf,Builtin.firstCells,h]
 ·cases A <;> simp [Builtin.append_,run_underlying ht,sizeOf,typeInfo,C,Builtin.lenOf,Builtin.firstCells,E,storeCells,h]
theorem Ll (z:Array Value) (n:Nat):(Builtin.zeroCells z n).size=n*z.size:=by simp [Builtin.zeroCells]
theorem SM (t u ty e:TypeId) (i:TypeInfo) (z:Value) (ht:P.underlying t=some (.slice e)) (W:P.underlying u=some (.int .i64)) (M:P.info? e=some i) (hz:i.zero=some z)
  (n:Nat) (h0:0<n) (O:n<=1000000) (hs:0<i.size) (J:i.bytes<=200):
  (Builtin.append_ #[t,u] ty #[.slice none 0 0,.int .i64 n]).run P w=
   .ok (.slice (some ⟨w.heap.size,0,none⟩) n (grownCap w n 0 e)) (w.drew.alloc (.cells (Builtin.zeroCells z.cells n++Builtin.zeroCells z.cells (grownCap w n 0 e - n)) e)):=by
 have a4:n*i.bytes<=1000000*200:=Nat.mul_le_mul O J;have a3:n*i.bytes<=281474976710656:=by omega
 have F:¬((281474976710656:Int)<(n:Int)*(i.bytes:Int)):=by
  rw [<-Int.natCast_mul];omega
 have C:n≠0:=by omega
 have V:i.size≠0:=by omega
 have Z:IntKind.i64.wrap (n:Int)=(n:Int):=IntWalk.i64_in _ (by omega);have G:¬(9223372036854775807<(n:Int)):=by omega
 have E:¬(281474976710656<Builtin.nextslicecap n 0*i.bytes):=by rw [nextslicecap_zero h0];omega
 have U:¬((n:Int)<0):=by omega
 have I:∀w':World,Sem.run P (asInt (Value.int IntKind.i64 (n:Int))) w'=.ok (n:Int) w':=fun _=>rfl;simp [I,Builtin.append_,run_underlying ht,run_underlying W,sizeOf,typeInfo,zeroValue,M,hz,Z,C,G,E,F,U,Question.forced,run_firstCells_none,newRow,grownCap];intro h;rcases Nat.mul_eq_zero.1 h with h|h
 ·exact absurd h C
 ·exact absurd h V
end
section
variable {P:Program} {ops:Array Oper} {rest:List Oper} {o:Oper} {a:Act} {Q:Exit->Act->World->Prop} {w:World}
theorem Um {w':World} (E:o.guard=none) (s x:Operand) (t u:TypeId)
  (ho:o.op=.call { callee:=.builtin .append,args:=#[s,x],argTypes:=#[t,u] }) (v1 v2 v:Value) (G:a.eval s=v1) (I:a.eval x=v2)
  (F:(Builtin.append_ #[t,u] o.type #[v1,v2]).run P w=.ok v w') (h:wpList P ops Q rest (a.put o.dst v) w'):wpList P ops Q (o::rest) a w:=by
 refine wpList_plain E fun K C=>?_;unfold Oper.wp execOp;simp only [ho,resolve,invoke,builtin,Sem.run_bind,Sem.run_pure,Result.andThen_ok,List.map_toArray,List.map_cons,List.map_nil,G,I,F];exact C _ _ h
theorem Ei {t e:Nat} {B:Nat} {D:Type} {enc:D->Nat->Value} (R:Dd P t e 1) (I:o.guard=none) (s x:Operand)
  (ho:o.op=.call { callee:=.builtin .append,args:=#[s,x],argTypes:=#[t,t] })
  (base:Nat) (v:Value) (n:Nat) (xs:List Value) (J:a.eval s=v) (E:w.ownsRow base e 1 v n xs)
  {A:Option Addr} {l:List D} {c:Nat} (hS:Sl w B 1 enc A l) (F:a.eval x=.slice A l.length c) (h1:∀d,(enc d 0).oneCell'=true)
  (hn:n+l.length<=1000000) (a4:base<=w.heap.size)
  (h:∀M w',w'.ownsRow base e 1 M (n+l.length) (xs++l.map (enc · 0))->Ac w w' (fun k=>v.ownBlock=some k)->wpList P ops Q rest (a.put o.dst M) w'):
  wpList P ops Q (o::rest) a w:=by
 by_cases h0:l.length=0
 ·have hl:l=[]:=List.length_eq_zero_iff.1 h0;subst hl;have hr:=Ig (P:=P) R o.type E A c;refine wpList_plain I fun K Z=>?_;unfold Oper.wp execOp;rw [List.length_nil] at F;simp only [ho,resolve,invoke,builtin,Sem.run_bind,Sem.run_pure,Result.andThen_ok,List.map_toArray,List.map_cons,List.map_nil,J,F,hr];exact Z _ _ (h v w (by simpa using E) (Ac.refl _ _))
 ·obtain⟨b,off,d0,W,hb,ag,hc⟩:=hS.at (k:=0) (by omega);obtain⟨b',o',O,ae,a3⟩:=hS.2 (by intro e;rw [e] at h0;exact h0 rfl);subst W;refine G9 R I s x ho base v n xs J E ⟨b,off,none⟩ l.length c (l.map (enc · 0)) F (by simp) ?_ ?_ (by omega) (Nat.le_trans hn (by decide)) a4 ?_
  ·intro j u C;rw [List.getElem?_map] at C;cases G:l[j]? with
   | none=>rw [G] at C;cases C
   | some d=>
    rw [G] at C;have C:=Option.some.inj C;subst C;have e:=Option.some.inj O;injection e with U V _
    subst U V;have:=a3 j d G 0 (by omega);have a2:(⟨b,off,none⟩:Addr).add j=⟨b,off+j*1+0,none⟩:=by unfold Addr.add;split <;> simp_all
    rw [a2];exact this
  ·intro u C;obtain⟨d,_,rfl⟩:=List.mem_map.1 C;exact h1 d
  ·intro g cap w' a8 hk _ _;exact h _ w' a8 hk
end
theorem Ns (w:World):Below w.heap.size w w.drew:=⟨rfl,rfl,rfl,Nat.le_refl _,fun _ _=>rfl⟩
theorem P4 (n:Nat) (V:n<=1000000) (w:World):Calls Tryz.prog 190 #[.slice none 0 0,.int .i64 (n:Int)] w (Ret fun r w'=>w'.ownsRow w.heap.size 9 1 r 0 []/\Below w.heap.size w w'):=by
 obtain⟨i,U,W,a5,a2⟩:=info_parts JH;by_cases h0:n=0
 ·subst h0;go_enter Tryz.func190,Tryz.ntmps190;go_wp2_with fail;go_ret;exact⟨World.ownsRow_nil _ _ _ _,Below.refl _ _⟩
 ·have G:=SM (P:=Tryz.prog) (w:=w) 22 3 22 9 i _ Tryz.underlying22 Tryz.underlying3 U W n (by omega) V (by omega) (by omega);have E:=grownCap_ge w n 0 9;have h:grownCap w n 0 9<=maxLen:=grownCap_le_maxLen w n 0 9 (by unfold maxLen;omega);have O:(Value.string ByteArray.empty).cells.size=1:=rfl;have F:=World.ownsRow_made (e:=9) (size:=1) w.drew (Builtin.zeroCells (Value.string ByteArray.empty).cells n++Builtin.zeroCells (Value.string ByteArray.empty).cells (grownCap w n 0 9 - n)) (grownCap w n 0 9) (base:=w.heap.size) (Nat.le_refl _) h (by rw [Array.size_append,Ll,Ll,O];omega);have C:=(Ns w).alloc (Nat.le_refl _) (.cells (Builtin.zeroCells (Value.string ByteArray.empty).cells n++Builtin.zeroCells (Value.string ByteArray.empty).cells (grownCap w n 0 9 - n)) 9);have a4:n<=grownCap w n 0 9:=E;have a3:grownCap w n 0 9<=9223372036854775807:=by unfold maxLen at h;omega
  generalize grownCap w n 0 9=cap at*;generalize (w.drew.alloc (.cells (Builtin.zeroCells (Value.string ByteArray.empty).cells n++Builtin.zeroCells (Value.string ByteArray.empty).cells (cap - n)) 9))=w1 at*;have J:=hide G;have M:=hide F;have I:=hide C;clear G F C h E;have h1:0<n:=by omega
  have Z:(0:Int)<(n:Int):=by omega
  go_enter Tryz.func190,Tryz.ntmps190;go_wp2_with (at_builtin;refine Um rfl _ _ _ _ rfl _ _ _ rfl rfl J.out ?_);go_ret;exact⟨M.out,I.out⟩
def LL (w:World) (B b off:Nat) (ad:Nat->Option Addr) (cp:Nat->Nat) (ls:List (List ByteArray)):Prop:=
 ∀(k:Nat) (l:List ByteArray),ls[k]?=some l->w.cell? ⟨b,off+k,none⟩=some (.slice (ad k) l.length (cp k))/\Sl w B 1 BE (ad k) l
theorem Jx {A:Type} {ls:List (List A)} {k:Nat} {l:List A} (h:ls[k]?=some l):(ls.take (k+1)).flatten=(ls.take k).flatten++l:=by
 rw [show ls.take (k+1)=ls.take k++[l] by rw [List.take_add_one,h];rfl,List.flatten_append];simp
theorem Jv {A:Type} (ls:List (List A)) (k:Nat):(ls.take k).flatten.length<=ls.flatten.length:=by
 conv=>rhs;rw [<-List.take_append_drop k ls,List.flatten_append,List.length_append]
 omega
def DV (l:List ByteArray):List Value:=l.map (BE · 0)
theorem M4 {w:World} {B b off c:Nat} {ad:Nat->Option Addr} {cp:Nat->Nat} {ls:List (List ByteArray)} (h:LL w B b off ad cp ls) (hb:b<w.heap.size) (hB:B<=w.heap.size) (hn:ls.flatten.length<=900000) (hk:ls.length<=100) (aB:ls.length<=c):
  Calls Tryz.prog 168 #[.slice (some ⟨b,off,none⟩) ls.length c] w (Ret fun r w'=>w'.ownsRow w.heap.size 9 1 r ls.flatten.length (DV ls.flatten)/\Below w.heap.size w w'):=by
 have hH:=hide h;have a8:=hide hn;clear h hn;go_enter Tryz.func168,Tryz.ntmps168;go_wp2_with fail;go_loopw [3,11] (fun tt E wr=>∃(k s:Nat),E=.int .i64 (k:Int)/\tt=.int .i64 (s:Int)/\k<=ls.length/\s<=900000/\w=wr/\Hid (s=(ls.take k).flatten.length)) (fun _ E _=>ls.length - (intOf E).toNat)
 case atStart=>exact⟨0,0,rfl,rfl,Nat.zero_le _,Nat.zero_le _,(by first|rfl|trivial),by show _=_;simp⟩
 case round=>
  obtain⟨k,s,rfl,rfl,aD,hs,rfl,J⟩:=hrel;by_cases W:k<ls.length
  ·obtain⟨l,C⟩:∃l,ls[k]?=some l:=⟨_,List.getElem?_eq_getElem W⟩;obtain⟨hc,hS⟩:=hH.out k l C;have V:=hide (Jv ls (k+1));have G:=hide (Jx C);have ao:s+l.length<=900000:=by
    have h1:=V.out;have h2:=a8.out;rw [G.out,List.length_append,<-J.out] at h1;omega
   have al:=hide C;clear hS C;go_wp2_with fail;exact⟨⟨k+1,s+l.length,by go_num,by go_num,by omega,by omega,(by first|rfl|trivial),by show _=_;rw [G.out,List.length_append,<-J.out]⟩,by simp [intOf];omega⟩
  ·have e:k=ls.length:=by omega
   have O:=J.out;rw [e,List.take_length] at O;have az:=hide O;clear O e J;go_wp2_with (go_at_call 190;refine Calls.ret (P4 s (by omega) _) ?_;intro v0 w1 an);obtain⟨a9,a5⟩:=an;have am:=hide a9;have ai:=hide a5;clear a9 a5;go_wp2_with fail;go_loopw [6,27] (fun vv E wr=>∃(k:Nat) (n:Nat),E=.int .i64 (k:Int)/\k<=ls.length/\Hid (wr.ownsRow w.heap.size 9 1 vv n (DV (ls.take k).flatten))/\Hid (n=(ls.take k).flatten.length)/\Hid (Below w.heap.size w wr)) (fun _ E _=>ls.length - (intOf E).toNat)
   case atStart=>exact⟨0,0,rfl,Nat.zero_le _,by show World.ownsRow _ _ _ _ _ _ _;simpa [DV] using am.out,by show _=_;simp,ai.out⟩
   case round=>
    obtain⟨k,n,rfl,aE,I,M,F⟩:=hrel;by_cases W:k<ls.length
    ·obtain⟨l,C⟩:∃l,ls[k]?=some l:=⟨_,List.getElem?_eq_getElem W⟩;obtain⟨a6,hS⟩:=hH.out k l C;have hc:wr.cell? ⟨b,off+k,none⟩=some (.slice (ad k) l.length (cp k)):=by rw [<-a6];exact World.cell?_of_block (F.out.block b hb)
     have ag:=hide (hS.keep (fun p hp=>World.cell?_of_block (F.out.block p.block (by omega))) (Nat.le_refl B));have V:=hide (Jv ls (k+1));have G:=hide (Jx C);have ao:n+l.length<=900000:=by
      have h1:=V.out;have h2:=a8.out;rw [G.out,List.length_append,<-M.out] at h1;omega
     have al:=hide C;clear hS C a6;obtain⟨Av,cv,hv⟩:=AH I.out;subst hv;go_wp2_with (at_builtin;refine Ei EW rfl _ _ rfl w.heap.size _ n _ rfl I.out ag.out rfl (fun d=>rfl) (by omega) F.out.size ?_;intro v2 w2 aa ak);obtain⟨av,ax,aq⟩:=AH aa;subst aq;go_wp2_with fail;exact⟨⟨k+1,n+l.length,by go_num,by omega,by show World.ownsRow _ _ _ _ _ _ _;rw [G.out];simpa [DV] using aa,by show _=_;rw [G.out,List.length_append,<-M.out],F.out.trans (ak.below F.out.size fun b' aA e=>by have:=(I.out.lt b' e).1;omega)⟩,by simp [intOf];omega⟩
    ·have e:k=ls.length:=by omega
     have Z:=M.out;rw [e,List.take_length] at Z;have U:=I.out;rw [e,List.take_length,Z] at U;have af:=hide U;clear U Z e M I;go_wp2_with fail;go_ret;exact⟨af.out,F.out⟩
end Go.Proofs.YtjejejmeddkciaaGreatDoor.K
namespace Go.Proofs.YtjejejmeddkciaaGreatDoor.K
open Go.RowKit
def DG (g:Thr):Value:=.agg #[.int .i64 g.msg,.int .i64 g.coef,.int .i64 g.bound.c,.int .i64 g.bound.n,.int .i64 g.bound.t,.int .i64 g.bound.f]
theorem KZ (a b:Thr) (w:World):Calls Tryz.prog 199 #[DG a,DG b] w (Ret fun r w'=>r=.bool (decide (a=b))/\Below w.heap.size w w'):=by
 obtain⟨m,k,⟨c,n,t,f⟩⟩:=a;obtain⟨E,C,⟨c',n',t',V⟩⟩:=b;unfold DG;obtain⟨w1,a9,I,O,W⟩:=Ae w #[.int .i64 m,.int .i64 k,.int .i64 c,.int .i64 n,.int .i64 t,.int .i64 f] 208;obtain⟨w2,aa,J,U,Z⟩:=Ae w1 #[.int .i64 E,.int .i64 C,.int .i64 c',.int .i64 n',.int .i64 t',.int .i64 V] 208;have a8:=U.cell;have a7:=(O.below J).cell;have M:=hide (I.trans (J.mono I.size));clear I J;clear O U W Z;by_cases h1:m=E
 ·have F:=hide h1;have q1:(m==E)=true:=by simp [h1]
  clear h1;by_cases h:k=C
  ·have G:=hide h;have q2:(k==C)=true:=by simp [h]
   clear h;go_enter Tryz.func199,Tryz.ntmps199;go_wp2_with fail
   all_goals
    go_ret;refine⟨?_,M.out⟩;have h1:=F.out;have h:=G.out;simp [*]
  ·have G:=hide h;have q2:(k==C)=false:=by simp [h]
   clear h;go_enter Tryz.func199,Tryz.ntmps199;go_wp2_with fail;go_ret;refine⟨?_,M.out⟩;have h:=G.out;simp [h]
 ·have F:=hide h1;have q1:(m==E)=false:=by simp [h1]
  clear h1;go_enter Tryz.func199,Tryz.ntmps199;go_wp2_with fail;go_ret;refine⟨?_,M.out⟩;have h1:=F.out;simp [h1]
theorem TI {w:World} {B c:Nat} {A:Option Addr} {l:List Thr} {x:Thr} (h:Sl w B 6 CS A l) (C:B<=w.heap.size):Calls Tryz.prog 189 #[.slice A l.length c,DG x] w (Ret fun r w'=>(∃z:Int,r=.int .i64 z/\(0<=z↔x∈l))/\Below w.heap.size w w'):=by
 obtain⟨m,k,⟨F,fn,I,G⟩⟩:=x;unfold DG;obtain⟨V,ay,O,a8,ao⟩:=Ae w #[.int .i64 m,.int .i64 k,.int .i64 F,.int .i64 fn,.int .i64 I,.int .i64 G] 208;have a5:=O.size;have hH:=hide (h.keep (w':=V) (B':=w.heap.size) (fun _ hp=>O.cell (by omega)) C);have hn:=h.1;have aa:=hide O;have al:=hide a8;clear h a8 ao O;go_enter Tryz.func189,Tryz.ntmps189;go_wp2_with fail;go_loopw [5] (fun ii wr=>∃(k':Nat),ii=.int .i64 (k':Int)/\k'<=l.length/\Hid (Below V.heap.size V wr)/\Hid ((⟨m,k,⟨F,fn,I,G⟩⟩:Thr)∉l.take k')) (fun ii _=>l.length - (intOf ii).toNat)
 case atStart=>exact⟨0,rfl,Nat.zero_le _,Below.refl _ _,by show ¬_;simp⟩
 case round=>
  obtain⟨i,rfl,hi,C,hE⟩:=hrel;by_cases ap:i<l.length
  ·obtain⟨b,off,g,hA,au,he,E⟩:=(hH.out.keep (w':=wr) (B':=V.heap.size) (fun _ hp=>C.out.cell (by omega)) a5).at ap;obtain⟨gm,Z,⟨gc,gn,gt,W⟩⟩:=g;have d0:=E 0 (by omega);have d1:=E 1 (by omega);have d2:=E 2 (by omega);have d3:=E 3 (by omega);have d4:=E 4 (by omega);have d5:=E 5 (by omega);simp only [Nat.add_zero,CS] at d0 d1 d2 d3 d4 d5;have av:=(al.out.below C.out).cell;have ad:=hide he;subst hA;clear E he;cases U:decide ((⟨gm,Z,⟨gc,gn,gt,W⟩⟩:Thr)=⟨m,k,⟨F,fn,I,G⟩⟩) with
   | true=>
    have M:=hide U;clear U;have aq:=hide (show(⟨m,k,⟨F,fn,I,G⟩⟩:Thr)∈l from by rw [<-of_decide_eq_true M.out];exact List.mem_of_getElem? ad.out);go_wp2_with fail;refine Reg.cP [0,0,3,7,0,31] ?_;go_wp2_with (go_at_call 199;refine Calls.ret (KZ ⟨gm,Z,⟨gc,gn,gt,W⟩⟩ ⟨m,k,⟨F,fn,I,G⟩⟩ _) ?_;rintro r w2 ⟨rfl,J⟩;rw [M.out];have a4:=hide (C.out.trans (((Ap wr).trans J).mono C.out.size));clear J);go_ret;exact⟨⟨(i:Int),rfl,fun _=>aq.out,fun _=>by omega⟩,aa.out.trans (a4.out.mono a5)⟩
   | false=>
    have M:=hide U;clear U;go_wp2_with fail;refine Reg.cP [0,0,3,7,0,31] ?_;go_wp2_with (go_at_call 199;refine Calls.ret (KZ ⟨gm,Z,⟨gc,gn,gt,W⟩⟩ ⟨m,k,⟨F,fn,I,G⟩⟩ _) ?_;rintro r w2 ⟨rfl,J⟩;rw [M.out];have a4:=hide (C.out.trans (((Ap wr).trans J).mono C.out.size));clear J);exact⟨⟨i+1,by go_num,by omega,a4.out,DQ ad.out hE.out (of_decide_eq_false M.out)⟩,by simp [intOf];omega⟩
  ·have e:i=l.length:=by omega
   have a3:=hE.out;rw [e,List.take_length] at a3;have am:=hide a3;clear a3 e;go_wp2_with fail;go_ret;exact⟨⟨-1,rfl,fun h=>by omega,fun h=>absurd h am.out⟩,aa.out.trans (C.out.mono a5)⟩
theorem Qe {w:World} {B c:Nat} {A:Option Addr} {l:List Thr} {x:Thr} (h:Sl w B 6 CS A l) (E:B<=w.heap.size):Calls Tryz.prog 193 #[.slice A l.length c,DG x] w (Ret fun r w'=>(∃z:Int,r=.int .i64 z/\(0<=z↔x∈l))/\Below w.heap.size w w'):=by
 obtain⟨m,k,⟨W,fn,ft,Z⟩⟩:=x;unfold DG;obtain⟨w1,aM,a3,aj,ay⟩:=Ae w #[.int .i64 m,.int .i64 k,.int .i64 W,.int .i64 fn,.int .i64 ft,.int .i64 Z] 208;have ag:=a3.size;have hH:=hide (h.keep (w':=w1) (B':=w.heap.size) (fun _ hp=>a3.cell (by omega)) E);have hn:=h.1;have ak:=hide a3;have av:=hide aj;clear h aj ay a3;go_enter Tryz.func193,Tryz.ntmps193;go_wp2_with fail;go_loopw [8] (fun ii wr=>∃(k':Nat),ii=.int .i64 (k':Int)/\k'<=l.length/\Hid (Below w1.heap.size w1 wr)/\Hid ((⟨m,k,⟨W,fn,ft,Z⟩⟩:Thr)∉l.take k')) (fun ii _=>l.length - (intOf ii).toNat)
 case atStart=>exact⟨0,rfl,Nat.zero_le _,Below.refl _ _,by show ¬_;simp⟩
 case round=>
  obtain⟨i,rfl,hi,E,F⟩:=hrel;by_cases az:i<l.length
  ·obtain⟨b,off,g,hA,aH,he,I⟩:=(hH.out.keep (w':=wr) (B':=w1.heap.size) (fun _ hp=>E.out.cell (by omega)) ag).at az;obtain⟨gm,gk,⟨gc,gn,gt,gf⟩⟩:=g;have d0:=I 0 (by omega);have d1:=I 1 (by omega);have d2:=I 2 (by omega);have d3:=I 3 (by omega);have d4:=I 4 (by omega);have d5:=I 5 (by omega);simp only [Nat.add_zero,CS] at d0 d1 d2 d3 d4 d5;have aJ:=(av.out.below E.out).cell;have J:=hide he;subst hA;clear I he;have G:=hide (E.out.trans ((Ap wr).mono E.out.size));by_cases h0:m=gm
   ·have H0:=hide h0;have q0:(m==gm)=true:=by simp [h0]
    clear h0;by_cases h1:k=gk
    ·have H1:=hide h1;have q1:(k==gk)=true:=by simp [h1]
     clear h1;by_cases M:W=gc
     ·have H2:=hide M;have q2:(W==gc)=true:=by simp [M]
      clear M;by_cases O:fn=gn
      ·have H3:=hide O;have q3:(fn==gn)=true:=by simp [O]
       clear O;by_cases U:ft=gt
       ·have H4:=hide U;have q4:(ft==gt)=true:=by simp [U]
        clear U;by_cases V:Z=gf
        ·have H5:=hide V;have q5:(Z==gf)=true:=by simp [V]
         clear V;go_wp2_with fail;refine Reg.cP [0,0,0,6,14,31] ?_;go_wp2_with fail;go_ret;refine⟨⟨(i:Int),rfl,fun _=>List.mem_of_getElem? (i:=i) ?_,fun _=>by omega⟩,ak.out.trans (G.out.mono ag)⟩;rw [J.out,H0.out,H1.out,H2.out,H3.out,H4.out,H5.out]
        ·have H5:=hide V;have q5:(Z==gf)=false:=by simp [V]
         clear V;have C:=hide (DQ J.out F.out (fun e=>by have h:=H5.out;simp only [Thr.mk.injEq,Lin.mk.injEq] at e;omega));go_wp2_with fail;refine Reg.cP [0,0,0,6,14,31] ?_;go_wp2_with fail;exact⟨⟨i+1,by go_num,by omega,G.out,C.out⟩,by simp [intOf];omega⟩
       ·have H4:=hide U;have q4:(ft==gt)=false:=by simp [U]
        clear U;have C:=hide (DQ J.out F.out (fun e=>by have h:=H4.out;simp only [Thr.mk.injEq,Lin.mk.injEq] at e;omega));go_wp2_with fail;refine Reg.cP [0,0,0,6,14,31] ?_;go_wp2_with fail;exact⟨⟨i+1,by go_num,by omega,G.out,C.out⟩,by simp [intOf];omega⟩
      ·have H3:=hide O;have q3:(fn==gn)=false:=by simp [O]
       clear O;have C:=hide (DQ J.out F.out (fun e=>by have h:=H3.out;simp only [Thr.mk.injEq,Lin.mk.injEq] at e;omega));go_wp2_with fail;refine Reg.cP [0,0,0,6,14,31] ?_;go_wp2_with fail;exact⟨⟨i+1,by go_num,by omega,G.out,C.out⟩,by simp [intOf];omega⟩
     ·have H2:=hide M;have q2:(W==gc)=false:=by simp [M]
      clear M;have C:=hide (DQ J.out F.out (fun e=>by have h:=H2.out;simp only [Thr.mk.injEq,Lin.mk.injEq] at e;omega));go_wp2_with fail;refine Reg.cP [0,0,0,6,14,31] ?_;go_wp2_with fail;exact⟨⟨i+1,by go_num,by omega,G.out,C.out⟩,by simp [intOf];omega⟩
    ·have H1:=hide h1;have q1:(k==gk)=false:=by simp [h1]
     clear h1;have C:=hide (DQ J.out F.out (fun e=>by have h:=H1.out;simp only [Thr.mk.injEq,Lin.mk.injEq] at e;omega));go_wp2_with fail;refine Reg.cP [0,0,0,6,14,31] ?_;go_wp2_with fail;exact⟨⟨i+1,by go_num,by omega,G.out,C.out⟩,by simp [intOf];omega⟩
   ·have H0:=hide h0;have q0:(m==gm)=false:=by simp [h0]
    clear h0;have C:=hide (DQ J.out F.out (fun e=>by have h:=H0.out;simp only [Thr.mk.injEq,Lin.mk.injEq] at e;omega));go_wp2_with fail;refine Reg.cP [0,0,0,6,14,31] ?_;go_wp2_with fail;exact⟨⟨i+1,by go_num,by omega,G.out,C.out⟩,by simp [intOf];omega⟩
  ·have e:i=l.length:=by omega
   have af:=F.out;rw [e,List.take_length] at af;have aw:=hide af;clear af e;go_wp2_with fail;go_ret;exact⟨⟨-1,rfl,fun h=>by omega,fun h=>absurd h aw.out⟩,ak.out.trans (E.out.mono ag)⟩
theorem M8 {w:World} {B c:Nat} {A:Option Addr} {l:List Thr} {x:Thr} (h:Sl w B 6 CS A l) (M:B<=w.heap.size):Calls Tryz.prog 178 #[.slice A l.length c,DG x] w (Ret fun r w'=>r=.bool (decide (x∈l))/\Below w.heap.size w w'):=by
 have E:DG x=.agg #[.int .i64 x.msg,.int .i64 x.coef,.int .i64 x.bound.c,.int .i64 x.bound.n,.int .i64 x.bound.t,.int .i64 x.bound.f]:=rfl;obtain⟨w1,a7,C,F,W⟩:=Ae w #[.int .i64 x.msg,.int .i64 x.coef,.int .i64 x.bound.c,.int .i64 x.bound.n,.int .i64 x.bound.t,.int .i64 x.bound.f] 208;have a4:=F.cell;have Z:=C.size;have O:=hide (h.keep (w':=w1) (B':=w.heap.size) (fun _ hp=>C.cell (by omega)) M);have hn:=h.1;have V:=hide C;have I:=hide (Qe (c:=c) (x:=x) O.out (by omega));rw [E] at I;rw [E];clear h W C F E;go_enter Tryz.func178,Tryz.ntmps178;go_wp2_with (go_at_call 193;refine Calls.ret I.out ?_;rintro r w' ⟨⟨z,rfl,J⟩,G⟩;have U:=hide G;clear G);have a2:=hide J;clear J;go_ret;refine⟨?_,V.out.trans (U.out.mono Z)⟩;have:decide (x∈l)=decide (0<=z):=decide_eq_decide.2 a2.out.symm;rw [this];first|rfl|trace_state
end Go.Proofs.YtjejejmeddkciaaGreatDoor.K
