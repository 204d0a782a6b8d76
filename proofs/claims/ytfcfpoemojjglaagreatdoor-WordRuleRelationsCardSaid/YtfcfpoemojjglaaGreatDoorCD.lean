/-
  Part CD of a proof.
-/
import Derived.BigQuiet
import Derived.Test.YtfcfpoemojjglaaGreatDoorPA
import Derived.Test.YtfcfpoemojjglaaGreatDoorAA
import Derived.Test.YtfcfpoemojjglaaGreatDoorCA
set_option maxHeartbeats 16000000
set_option maxRecDepth 100000
set_option linter.unusedVariables false
set_option linter.unusedSimpArgs false
namespace Go.Proofs.YtfcfpoemojjglaaGreatDoor.K
open Go.RowKit
theorem KY {w:World} {B g5:Nat} {cs:List Value} {r:Az} {nm:ByteArray} (h:AW w B cs r) (C:w.cell? ⟨g5,0,none⟩=some (.string nm)) (W:g5<w.heap.size):
  Calls Tryz.prog 207 #[.agg cs.toArray,.pointer (some ⟨g5,0,none⟩)] w (Ret fun v w'=>v=.bool (decide (r.name=nm))∧Below w.heap.size w w'):=by
 obtain⟨A1,c1,A2,c2,A3,c3,E,J,F,M,G,O,A7,c7,I,U,rfl,-⟩:=h
 obtain⟨w1,a6,x,y,Z⟩:=Ae w #[.string r.name,.int .i64 r.kind,.int .i64 r.fr,.int .i64 r.to,.int .i64 r.pf,.int .i64 r.pt,.slice A1 r.resp.length c1,.slice A2 r.guards.length c2,.slice A3 r.ex.length c3,.slice E r.fa.length J,.int .i64 r.rd,.int .i64 r.wr,.slice F r.send.length M,.int .i64 r.at_,.slice G r.left.length O,.slice A7 r.right.length c7,.slice I r.parent.length U,.int .i64 r.dir] 99
 have a4:=y.cell 0
 have a5:w1.cell? ⟨g5,0,none⟩=some (.string nm):=(x.cell W).trans C
 have V:=hide x
 have hq:=hide (DM r.name nm)
 clear x Z y C
 go_enter Tryz.func207,Tryz.ntmps207
 go_wp2_with fail
 go_ret
 exact⟨by rw [←hq.out]; rfl,V.out⟩
theorem Qa {w:World} {g5 c:Nat} {A:Option Addr} {l:List Az} {nm:ByteArray} (h:BR w w.heap.size 18 (AW w w.heap.size) A l) (hc:w.cell? ⟨g5,0,none⟩=some (.string nm)) (hg:g5<w.heap.size):
  Calls Tryz.prog 226 #[.slice A l.length c,.func (.func 207) #[] #[.pointer (some ⟨g5,0,none⟩)]] w (Ret fun v w'=>(∃z:Int,v=.int .i64 z∧(0≤z↔(l.any fun x=>decide (x.name=nm))=true))∧Below w.heap.size w w'):=by
 have hH:=hide h
 have hn:=h.1
 have hC:=hide hc
 clear h hc
 go_enter Tryz.func226,Tryz.ntmps226
 go_wp2_with fail
 go_loopw [8] (fun U wr=>∃(k:Nat),U=.int .i64 (k:Int)∧k≤l.length∧Below w.heap.size w wr∧Hid ((l.take k).all (fun x=>!decide (x.name=nm))=true)) (fun U _=>l.length - (intOf U).toNat)
 case atStart=>exact⟨0,rfl,Nat.zero_le _,Below.refl _ _,by show _=_; simp⟩
 case round=>
  obtain⟨k,rfl,hk,C,Z⟩:=hrel
  have F:=hide C
  by_cases ao:k<l.length
  ·have hr:=hH.out.keep (R':=AW wr w.heap.size) (fun _ M=>C.cell M) (fun _ _ h=>h.keep (fun _ M=>C.cell M) (Nat.le_refl _)) (Nat.le_refl _)
   obtain⟨b,off,r,cs,hA,aL,he,-,y,hR⟩:=hr.at ao
   have a3:=hide hR
   obtain⟨A1,c1,A2,c2,A3,c3,A4,c4,A5,c5,A6,c6,A7,c7,A8,c8,rfl,-⟩:=hR
   have a4:Hid (AW wr w.heap.size [.string r.name,.int .i64 r.kind,.int .i64 r.fr,.int .i64 r.to,.int .i64 r.pf,.int .i64 r.pt,.slice A1 r.resp.length c1,.slice A2 r.guards.length c2,.slice A3 r.ex.length c3,.slice A4 r.fa.length c4,.int .i64 r.rd,.int .i64 r.wr,.slice A5 r.send.length c5,.int .i64 r.at_,.slice A6 r.left.length c6,.slice A7 r.right.length c7,.slice A8 r.parent.length c8,.int .i64 r.dir] r):=a3.out
   have d0:=y 0 _ rfl
   have d1:=y 1 _ rfl
   have d2:=y 2 _ rfl
   have d3:=y 3 _ rfl
   have d4:=y 4 _ rfl
   have d5:=y 5 _ rfl
   have d6:=y 6 _ rfl
   have d7:=y 7 _ rfl
   have d8:=y 8 _ rfl
   have d9:=y 9 _ rfl
   have au:=y 10 _ rfl
   have av:=y 11 _ rfl
   have aw:=y 12 _ rfl
   have ax:=y 13 _ rfl
   have ay:=y 14 _ rfl
   have az:=y 15 _ rfl
   have aA:=y 16 _ rfl
   have aB:=y 17 _ rfl
   simp only [Nat.add_zero] at d0
   have a7:=hide he
   have V:wr.cell? ⟨g5,0,none⟩=some (.string nm):=(C.cell hg).trans hC.out
   have W:=hide V
   have a9:g5<wr.heap.size:=Nat.lt_of_lt_of_le hg C.size
   subst hA
   clear y he hr C a3 V
   cases E:decide (r.name=nm)
   ·have O:=hide (Cq (p:=fun x:Az=>!decide (x.name=nm)) a7.out Z.out (by rw [E]; rfl))
    go_wp2_with (go_at_call 207; refine Calls.ret (KY a4.out W.out a9) ?_; rintro v w2 ⟨rfl,G⟩; rw [E]; have J:=hide (F.out.trans (G.mono F.out.size)); clear G)
    exact⟨⟨k+1,by go_num,by omega,J.out,O.out⟩,by simp [intOf]; omega⟩
   ·have O:=hide (show(l.any fun x=>decide (x.name=nm))=true from List.any_eq_true.2 ⟨r,List.mem_of_getElem? a7.out,E⟩)
    go_wp2_with (go_at_call 207; refine Calls.ret (KY a4.out W.out a9) ?_; rintro v w2 ⟨rfl,G⟩; rw [E]; have J:=hide (F.out.trans (G.mono F.out.size)); clear G)
    go_ret
    exact⟨⟨(k:Int),rfl,fun _=>O.out,fun _=>by omega⟩,J.out⟩
  ·have e:k=l.length:=by omega
   have I:=Z.out
   rw [e,List.take_length] at I
   have am:=hide I
   clear I e C
   go_wp2_with fail
   go_ret
   refine⟨⟨-1,rfl,fun h=>by omega,fun h=>?_⟩,F.out⟩
   obtain⟨x,hx,E⟩:=List.any_eq_true.1 h
   have:=List.all_eq_true.1 am.out x hx
   rw [E] at this
   cases this
theorem M7 {w:World} {g5 c:Nat} {A:Option Addr} {l:List Az} {nm:ByteArray} (h:BR w w.heap.size 18 (AW w w.heap.size) A l) (C:w.cell? ⟨g5,0,none⟩=some (.string nm)) (J:g5<w.heap.size):
  Calls Tryz.prog 206 #[.slice A l.length c,.func (.func 207) #[] #[.pointer (some ⟨g5,0,none⟩)]] w (Ret fun v w'=>v=.bool (l.any fun x=>decide (x.name=nm))∧Below w.heap.size w w'):=by
 have G:=hide h
 have F:=hide C
 clear h C
 go_enter Tryz.func206,Tryz.ntmps206
 go_wp2_with fail
 refine Calls.ret (Qa G.out F.out J) ?_
 rintro v O ⟨⟨z,rfl,E⟩,y⟩
 have I:=hide y
 have M:=hide E
 clear y E
 go_wp2_with fail
 go_ret
 refine⟨?_,I.out⟩
 have:(l.any fun x=>decide (x.name=nm))=decide (0≤z):=by rw [Bool.eq_iff_iff,←M.out,decide_eq_true_eq]
 rw [this]
 rfl
end Go.Proofs.YtfcfpoemojjglaaGreatDoor.K
namespace Go.Proofs.YtfcfpoemojjglaaGreatDoor.K
open Go.RowKit
theorem JH:(Tryz.prog.info? 9).map (fun i=>(i.zero,i.size,i.bytes))=some (some (.string ByteArray.empty),1,16):=by kernel_rfl
theorem EW:Dd Tryz.prog 22 9 1:=EX Tryz.underlying22 JH rfl (by omega) (by omega)
section
variable {P:Program} {w:World}
theorem Ig {t e size:Nat} (R:Dd P t e size) (ty:TypeId) {base:Nat} {v:Value} {n:Nat} {xs:List Value} (C:w.ownsRow base e size v n xs) (A:Option Addr) (c:Nat):
  (Builtin.append_ #[t,t] ty #[v,.slice A 0 c]).run P w=.ok v w:=by
 have ht:=R.ht
 obtain⟨i,z,bytes,x,J,I,G,M,F⟩:=R.info
 have h:∀(a:Addr),Sem.run P (loadCells a 0) w=.ok #[] w:=fun _=>rfl
 rcases C.2 with⟨rfl,rfl⟩ | ⟨g,cap,E,rfl,_,_,y,_⟩
 ·cases A <;> simp [Builtin.append_,run_underlying ht,sizeOf,typeInfo,x,Builtin.lenOf,Builtin.firstCells,h]
 ·cases A <;> simp [Builtin.append_,run_underlying ht,sizeOf,typeInfo,x,Builtin.lenOf,Builtin.firstCells,y,storeCells,h]
theorem Ll (z:Array Value) (n:Nat):(Builtin.zeroCells z n).size=n*z.size:=by simp [Builtin.zeroCells]
theorem SM (t u ty e:TypeId) (i:TypeInfo) (z:Value) (ht:P.underlying t=some (.slice e)) (U:P.underlying u=some (.int .i64)) (I:P.info? e=some i) (W:i.zero=some z)
  (n:Nat) (h0:0<n) (J:n≤1000000) (hs:0<i.size) (G:i.bytes≤200):
  (Builtin.append_ #[t,u] ty #[.slice none 0 0,.int .i64 n]).run P w=
   .ok (.slice (some ⟨w.heap.size,0,none⟩) n (grownCap w n 0 e)) (w.drew.alloc (.cells (Builtin.zeroCells z.cells n++Builtin.zeroCells z.cells (grownCap w n 0 e - n)) e)):=by
 have a2:n*i.bytes≤1000000*200:=Nat.mul_le_mul J G
 have Z:n*i.bytes≤281474976710656:=by omega
 have C:¬((281474976710656:Int)<(n:Int)*(i.bytes:Int)):=by
  rw [←Int.natCast_mul]; omega
 have x:n≠0:=by omega
 have O:i.size≠0:=by omega
 have V:IntKind.i64.wrap (n:Int)=(n:Int):=IntWalk.i64_in _ (by omega)
 have E:¬(9223372036854775807<(n:Int)):=by omega
 have y:¬(281474976710656<Builtin.nextslicecap n 0*i.bytes):=by rw [nextslicecap_zero h0]; omega
 have M:¬((n:Int)<0):=by omega
 have F:∀w':World,Sem.run P (asInt (Value.int IntKind.i64 (n:Int))) w'=.ok (n:Int) w':=fun _=>rfl
 simp [F,Builtin.append_,run_underlying ht,run_underlying U,sizeOf,typeInfo,zeroValue,I,W,V,x,E,y,C,M,Question.forced,run_firstCells_none,newRow,grownCap]
 intro h
 rcases Nat.mul_eq_zero.1 h with h | h
 ·exact absurd h x
 ·exact absurd h O
end
section
variable {P:Program} {ops:Array Oper} {rest:List Oper} {o:Oper} {a:Act} {Q:Exit→Act→World→Prop} {w:World}
theorem Um {w':World} (F:o.guard=none) (s x:Operand) (t u:TypeId)
  (ho:o.op=.call { callee:=.builtin .append,args:=#[s,x],argTypes:=#[t,u] }) (y C v:Value) (I:a.eval s=y) (J:a.eval x=C)
  (G:(Builtin.append_ #[t,u] o.type #[y,C]).run P w=.ok v w') (h:wpList P ops Q rest (a.put o.dst v) w'):wpList P ops Q (o::rest) a w:=by
 refine wpList_plain F fun K E=>?_
 unfold Oper.wp execOp
 simp only [ho,resolve,invoke,builtin,Sem.run_bind,Sem.run_pure,Result.andThen_ok,List.map_toArray,List.map_cons,List.map_nil,I,J,G]
 exact E _ _ h
theorem Ei {t e:Nat} {B:Nat} {D:Type} {enc:D→Nat→Value} (R:Dd P t e 1) (G:o.guard=none) (s x:Operand)
  (ho:o.op=.call { callee:=.builtin .append,args:=#[s,x],argTypes:=#[t,t] })
  (base:Nat) (v:Value) (n:Nat) (xs:List Value) (I:a.eval s=v) (C:w.ownsRow base e 1 v n xs)
  {A:Option Addr} {l:List D} {c:Nat} (hS:Sl w B 1 enc A l) (E:a.eval x=.slice A l.length c) (h1:∀d,(enc d 0).oneCell'=true)
  (hn:n+l.length≤1000000) (a3:base≤w.heap.size)
  (h:∀J w',w'.ownsRow base e 1 J (n+l.length) (xs++l.map (enc · 0))→Ac w w' (fun k=>v.ownBlock=some k)→wpList P ops Q rest (a.put o.dst J) w'):
  wpList P ops Q (o::rest) a w:=by
 by_cases h0:l.length=0
 ·have hl:l=[]:=List.length_eq_zero_iff.1 h0
  subst hl
  have hr:=Ig (P:=P) R o.type C A c
  refine wpList_plain G fun K W=>?_
  unfold Oper.wp execOp
  rw [List.length_nil] at E
  simp only [ho,resolve,invoke,builtin,Sem.run_bind,Sem.run_pure,Result.andThen_ok,List.map_toArray,List.map_cons,List.map_nil,I,E,hr]
  exact W _ _ (h v w (by simpa using C) (Ac.refl _ _))
 ·obtain⟨b,off,d0,V,hb,ad,hc⟩:=hS.at (k:=0) (by omega)
  obtain⟨b',o',M,ab,a2⟩:=hS.2 (by intro e; rw [e] at h0; exact h0 rfl)
  subst V
  refine G9 R G s x ho base v n xs I C ⟨b,off,none⟩ l.length c (l.map (enc · 0)) E (by simp) ?_ ?_ (by omega) (Nat.le_trans hn (by decide)) a3 ?_
  ·intro j u y
   rw [List.getElem?_map] at y
   cases F:l[j]? with
   | none=>rw [F] at y; cases y
   | some d=>
    rw [F] at y
    have y:=Option.some.inj y
    subst y
    have e:=Option.some.inj M
    injection e with O U _
    subst O U
    have:=a2 j d F 0 (by omega)
    have Z:(⟨b,off,none⟩:Addr).add j=⟨b,off+j*1+0,none⟩:=by unfold Addr.add; split <;> simp_all
    rw [Z]
    exact this
  ·intro u y
   obtain⟨d,_,rfl⟩:=List.mem_map.1 y
   exact h1 d
  ·intro g cap w' a6 hk _ _
   exact h _ w' a6 hk
end
theorem Ns (w:World):Below w.heap.size w w.drew:=⟨rfl,rfl,rfl,Nat.le_refl _,fun _ _=>rfl⟩
theorem P4 (n:Nat) (O:n≤1000000) (w:World):Calls Tryz.prog 224 #[.slice none 0 0,.int .i64 (n:Int)] w (Ret fun r w'=>w'.ownsRow w.heap.size 9 1 r 0 []∧Below w.heap.size w w'):=by
 obtain⟨i,M,U,a3,W⟩:=info_parts JH
 by_cases h0:n=0
 ·subst h0
  go_enter Tryz.func224,Tryz.ntmps224
  go_wp2_with fail
  go_ret
  exact⟨World.ownsRow_nil _ _ _ _,Below.refl _ _⟩
 ·have E:=SM (P:=Tryz.prog) (w:=w) 22 3 22 9 i _ Tryz.underlying22 Tryz.underlying3 M U n (by omega) O (by omega) (by omega)
  have y:=grownCap_ge w n 0 9
  have h:grownCap w n 0 9≤maxLen:=grownCap_le_maxLen w n 0 9 (by unfold maxLen; omega)
  have J:(Value.string ByteArray.empty).cells.size=1:=rfl
  have C:=World.ownsRow_made (e:=9) (size:=1) w.drew (Builtin.zeroCells (Value.string ByteArray.empty).cells n++Builtin.zeroCells (Value.string ByteArray.empty).cells (grownCap w n 0 9 - n)) (grownCap w n 0 9) (base:=w.heap.size) (Nat.le_refl _) h (by rw [Array.size_append,Ll,Ll,J]; omega)
  have x:=(Ns w).alloc (Nat.le_refl _) (.cells (Builtin.zeroCells (Value.string ByteArray.empty).cells n++Builtin.zeroCells (Value.string ByteArray.empty).cells (grownCap w n 0 9 - n)) 9)
  have a2:n≤grownCap w n 0 9:=y
  have Z:grownCap w n 0 9≤9223372036854775807:=by unfold maxLen at h; omega
  generalize grownCap w n 0 9=cap at*
  generalize (w.drew.alloc (.cells (Builtin.zeroCells (Value.string ByteArray.empty).cells n++Builtin.zeroCells (Value.string ByteArray.empty).cells (cap - n)) 9))=w1 at*
  have G:=hide E
  have I:=hide C
  have F:=hide x
  clear E C x h y
  have h1:0<n:=by omega
  have V:(0:Int)<(n:Int):=by omega
  go_enter Tryz.func224,Tryz.ntmps224
  go_wp2_with (at_builtin; refine Um rfl _ _ _ _ rfl _ _ _ rfl rfl G.out ?_)
  go_ret
  exact⟨I.out,F.out⟩
def LL (w:World) (B b off:Nat) (ad:Nat→Option Addr) (cp:Nat→Nat) (ls:List (List ByteArray)):Prop:=
 ∀(k:Nat) (l:List ByteArray),ls[k]?=some l→w.cell? ⟨b,off+k,none⟩=some (.slice (ad k) l.length (cp k))∧Sl w B 1 BE (ad k) l
theorem Jx {A:Type} {ls:List (List A)} {k:Nat} {l:List A} (h:ls[k]?=some l):(ls.take (k+1)).flatten=(ls.take k).flatten++l:=by
 rw [show ls.take (k+1)=ls.take k++[l] by rw [List.take_add_one,h]; rfl,List.flatten_append]
 simp
theorem Jv {A:Type} (ls:List (List A)) (k:Nat):(ls.take k).flatten.length≤ls.flatten.length:=by
 conv=>rhs; rw [←List.take_append_drop k ls,List.flatten_append,List.length_append]
 omega
def DV (l:List ByteArray):List Value:=l.map (BE · 0)
theorem M4 {w:World} {B b off c:Nat} {W:Nat→Option Addr} {Z:Nat→Nat} {ls:List (List ByteArray)} (h:LL w B b off W Z ls) (hb:b<w.heap.size) (hB:B≤w.heap.size) (hn:ls.flatten.length≤900000) (hk:ls.length≤100) (ay:ls.length≤c):
  Calls Tryz.prog 203 #[.slice (some ⟨b,off,none⟩) ls.length c] w (Ret fun r w'=>w'.ownsRow w.heap.size 9 1 r ls.flatten.length (DV ls.flatten)∧Below w.heap.size w w'):=by
 have hH:=hide h
 have a6:=hide hn
 clear h hn
 go_enter Tryz.func203,Tryz.ntmps203
 go_wp2_with fail
 go_loopw [3,11] (fun tt y wr=>∃(k s:Nat),y=.int .i64 (k:Int)∧tt=.int .i64 (s:Int)∧k≤ls.length∧s≤900000∧w=wr∧Hid (s=(ls.take k).flatten.length)) (fun _ y _=>ls.length - (intOf y).toNat)
 case atStart=>exact⟨0,0,rfl,rfl,Nat.zero_le _,Nat.zero_le _,(by first | rfl | trivial),by show _=_; simp⟩
 case round=>
  obtain⟨k,s,rfl,rfl,az,hs,rfl,G⟩:=hrel
  by_cases U:k<ls.length
  ·obtain⟨l,x⟩:∃l,ls[k]?=some l:=⟨_,List.getElem?_eq_getElem U⟩
   obtain⟨hc,hS⟩:=hH.out k l x
   have O:=hide (Jv ls (k+1))
   have E:=hide (Jx x)
   have al:s+l.length≤900000:=by
    have h1:=O.out
    have h2:=a6.out
    rw [E.out,List.length_append,←G.out] at h1
    omega
   have ai:=hide x
   clear hS x
   go_wp2_with fail
   exact⟨⟨k+1,s+l.length,by go_num,by go_num,by omega,by omega,(by first | rfl | trivial),by show _=_; rw [E.out,List.length_append,←G.out]⟩,by simp [intOf]; omega⟩
  ·have e:k=ls.length:=by omega
   have J:=G.out
   rw [e,List.take_length] at J
   have aw:=hide J
   clear J e G
   go_wp2_with (go_at_call 224; refine Calls.ret (P4 s (by omega) _) ?_; intro v0 w1 ak)
   obtain⟨a7,a3⟩:=ak
   have aj:=hide a7
   have af:=hide a3
   clear a7 a3
   go_wp2_with fail
   go_loopw [6,27] (fun vv y wr=>∃(k:Nat) (n:Nat),y=.int .i64 (k:Int)∧k≤ls.length∧Hid (wr.ownsRow w.heap.size 9 1 vv n (DV (ls.take k).flatten))∧Hid (n=(ls.take k).flatten.length)∧Hid (Below w.heap.size w wr)) (fun _ y _=>ls.length - (intOf y).toNat)
   case atStart=>exact⟨0,0,rfl,Nat.zero_le _,by show World.ownsRow _ _ _ _ _ _ _; simpa [DV] using aj.out,by show _=_; simp,af.out⟩
   case round=>
    obtain⟨k,n,rfl,aA,F,I,C⟩:=hrel
    by_cases U:k<ls.length
    ·obtain⟨l,x⟩:∃l,ls[k]?=some l:=⟨_,List.getElem?_eq_getElem U⟩
     obtain⟨a4,hS⟩:=hH.out k l x
     have hc:wr.cell? ⟨b,off+k,none⟩=some (.slice (W k) l.length (Z k)):=by rw [←a4]; exact World.cell?_of_block (C.out.block b hb)
     have ac:=hide (hS.keep (fun p hp=>World.cell?_of_block (C.out.block p.block (by omega))) (Nat.le_refl B))
     have O:=hide (Jv ls (k+1))
     have E:=hide (Jx x)
     have al:n+l.length≤900000:=by
      have h1:=O.out
      have h2:=a6.out
      rw [E.out,List.length_append,←I.out] at h1
      omega
     have ai:=hide x
     clear hS x a4
     obtain⟨Av,cv,hv⟩:=AH F.out
     subst hv
     go_wp2_with (at_builtin; refine Ei EW rfl _ _ rfl w.heap.size _ n _ rfl F.out ac.out rfl (fun d=>rfl) (by omega) C.out.size ?_; intro v2 w2 a8 ah)
     obtain⟨aq,au,an⟩:=AH a8
     subst an
     go_wp2_with fail
     exact⟨⟨k+1,n+l.length,by go_num,by omega,by show World.ownsRow _ _ _ _ _ _ _; rw [E.out]; simpa [DV] using a8,by show _=_; rw [E.out,List.length_append,←I.out],C.out.trans (ah.below C.out.size fun b' ax e=>by have:=(F.out.lt b' e).1; omega)⟩,by simp [intOf]; omega⟩
    ·have e:k=ls.length:=by omega
     have V:=I.out
     rw [e,List.take_length] at V
     have M:=F.out
     rw [e,List.take_length,V] at M
     have ab:=hide M
     clear M V e I F
     go_wp2_with fail
     go_ret
     exact⟨ab.out,C.out⟩
end Go.Proofs.YtfcfpoemojjglaaGreatDoor.K
namespace Go.Proofs.YtfcfpoemojjglaaGreatDoor.K
open Go.RowKit
def DG (g:Thr):Value:=.agg #[.int .i64 g.msg,.int .i64 g.coef,.int .i64 g.bound.c,.int .i64 g.bound.n,.int .i64 g.bound.t,.int .i64 g.bound.f]
theorem KZ (a b:Thr) (w:World):Calls Tryz.prog 221 #[DG a,DG b] w (Ret fun r w'=>r=.bool (decide (a=b))∧Below w.heap.size w w'):=by
 obtain⟨m,k,⟨c,n,t,f⟩⟩:=a
 obtain⟨y,x,⟨c',W,t',O⟩⟩:=b
 unfold DG
 obtain⟨w1,a7,F,J,U⟩:=Ae w #[.int .i64 m,.int .i64 k,.int .i64 c,.int .i64 n,.int .i64 t,.int .i64 f] 217
 obtain⟨w2,a8,G,M,V⟩:=Ae w1 #[.int .i64 y,.int .i64 x,.int .i64 c',.int .i64 W,.int .i64 t',.int .i64 O] 217
 have a6:=M.cell
 have a5:=(J.below G).cell
 have I:=hide (F.trans (G.mono F.size))
 clear F G
 clear J M U V
 by_cases h1:m=y
 ·have C:=hide h1
  have Z:(m==y)=true:=by simp [h1]
  clear h1
  by_cases h:k=x
  ·have E:=hide h
   have q2:(k==x)=true:=by simp [h]
   clear h
   go_enter Tryz.func221,Tryz.ntmps221
   go_wp2_with fail
   all_goals
    go_ret
    refine⟨?_,I.out⟩
    have h1:=C.out
    have h:=E.out
    simp [*]
  ·have E:=hide h
   have q2:(k==x)=false:=by simp [h]
   clear h
   go_enter Tryz.func221,Tryz.ntmps221
   go_wp2_with fail
   go_ret
   refine⟨?_,I.out⟩
   have h:=E.out
   simp [h]
 ·have C:=hide h1
  have Z:(m==y)=false:=by simp [h1]
  clear h1
  go_enter Tryz.func221,Tryz.ntmps221
  go_wp2_with fail
  go_ret
  refine⟨?_,I.out⟩
  have h1:=C.out
  simp [h1]
theorem TI {w:World} {B c:Nat} {A:Option Addr} {l:List Thr} {x:Thr} (h:Sl w B 6 CS A l) (y:B≤w.heap.size):Calls Tryz.prog 193 #[.slice A l.length c,DG x] w (Ret fun r w'=>(∃z:Int,r=.int .i64 z∧(0≤z↔x∈l))∧Below w.heap.size w w'):=by
 obtain⟨m,k,⟨E,fn,G,F⟩⟩:=x
 unfold DG
 obtain⟨U,ax,M,a7,am⟩:=Ae w #[.int .i64 m,.int .i64 k,.int .i64 E,.int .i64 fn,.int .i64 G,.int .i64 F] 217
 have a4:=M.size
 have hH:=hide (h.keep (w':=U) (B':=w.heap.size) (fun _ hp=>M.cell (by omega)) y)
 have hn:=h.1
 have a9:=hide M
 have aj:=hide a7
 clear h a7 am M
 go_enter Tryz.func193,Tryz.ntmps193
 go_wp2_with fail
 go_loopw [5] (fun ii wr=>∃(k':Nat),ii=.int .i64 (k':Int)∧k'≤l.length∧Hid (Below U.heap.size U wr)∧Hid ((⟨m,k,⟨E,fn,G,F⟩⟩:Thr)∉l.take k')) (fun ii _=>l.length - (intOf ii).toNat)
 case atStart=>exact⟨0,rfl,Nat.zero_le _,Below.refl _ _,by show ¬_; simp⟩
 case round=>
  obtain⟨i,rfl,hi,y,hE⟩:=hrel
  by_cases an:i<l.length
  ·obtain⟨b,off,g,hA,ar,he,C⟩:=(hH.out.keep (w':=wr) (B':=U.heap.size) (fun _ hp=>y.out.cell (by omega)) a4).at an
   obtain⟨gm,W,⟨gc,gn,Z,V⟩⟩:=g
   have d0:=C 0 (by omega)
   have d1:=C 1 (by omega)
   have d2:=C 2 (by omega)
   have d3:=C 3 (by omega)
   have d4:=C 4 (by omega)
   have d5:=C 5 (by omega)
   simp only [Nat.add_zero,CS] at d0 d1 d2 d3 d4 d5
   have au:=(aj.out.below y.out).cell
   have ab:=hide he
   subst hA
   clear C he
   cases O:decide ((⟨gm,W,⟨gc,gn,Z,V⟩⟩:Thr)=⟨m,k,⟨E,fn,G,F⟩⟩) with
   | true=>
    have J:=hide O
    clear O
    have ao:=hide (show(⟨m,k,⟨E,fn,G,F⟩⟩:Thr)∈l from by rw [←of_decide_eq_true J.out]; exact List.mem_of_getElem? ab.out)
    go_wp2_with fail
    refine Reg.cP [0,0,3,7,0,31] ?_
    go_wp2_with (go_at_call 221; refine Calls.ret (KZ ⟨gm,W,⟨gc,gn,Z,V⟩⟩ ⟨m,k,⟨E,fn,G,F⟩⟩ _) ?_; rintro r w2 ⟨rfl,I⟩; rw [J.out]; have a3:=hide (y.out.trans (((Ap wr).trans I).mono y.out.size)); clear I)
    go_ret
    exact⟨⟨(i:Int),rfl,fun _=>ao.out,fun _=>by omega⟩,a9.out.trans (a3.out.mono a4)⟩
   | false=>
    have J:=hide O
    clear O
    go_wp2_with fail
    refine Reg.cP [0,0,3,7,0,31] ?_
    go_wp2_with (go_at_call 221; refine Calls.ret (KZ ⟨gm,W,⟨gc,gn,Z,V⟩⟩ ⟨m,k,⟨E,fn,G,F⟩⟩ _) ?_; rintro r w2 ⟨rfl,I⟩; rw [J.out]; have a3:=hide (y.out.trans (((Ap wr).trans I).mono y.out.size)); clear I)
    exact⟨⟨i+1,by go_num,by omega,a3.out,DQ ab.out hE.out (of_decide_eq_false J.out)⟩,by simp [intOf]; omega⟩
  ·have e:i=l.length:=by omega
   have a2:=hE.out
   rw [e,List.take_length] at a2
   have ak:=hide a2
   clear a2 e
   go_wp2_with fail
   go_ret
   exact⟨⟨-1,rfl,fun h=>by omega,fun h=>absurd h ak.out⟩,a9.out.trans (y.out.mono a4)⟩
theorem Qe {w:World} {B c:Nat} {A:Option Addr} {l:List Thr} {x:Thr} (h:Sl w B 6 CS A l) (C:B≤w.heap.size):Calls Tryz.prog 227 #[.slice A l.length c,DG x] w (Ret fun r w'=>(∃z:Int,r=.int .i64 z∧(0≤z↔x∈l))∧Below w.heap.size w w'):=by
 obtain⟨m,k,⟨V,fn,Z,W⟩⟩:=x
 unfold DG
 obtain⟨w1,aK,a2,ah,aw⟩:=Ae w #[.int .i64 m,.int .i64 k,.int .i64 V,.int .i64 fn,.int .i64 Z,.int .i64 W] 217
 have ae:=a2.size
 have hH:=hide (h.keep (w':=w1) (B':=w.heap.size) (fun _ hp=>a2.cell (by omega)) C)
 have hn:=h.1
 have ai:=hide a2
 have ar:=hide ah
 clear h ah aw a2
 go_enter Tryz.func227,Tryz.ntmps227
 go_wp2_with fail
 go_loopw [8] (fun ii wr=>∃(k':Nat),ii=.int .i64 (k':Int)∧k'≤l.length∧Hid (Below w1.heap.size w1 wr)∧Hid ((⟨m,k,⟨V,fn,Z,W⟩⟩:Thr)∉l.take k')) (fun ii _=>l.length - (intOf ii).toNat)
 case atStart=>exact⟨0,rfl,Nat.zero_le _,Below.refl _ _,by show ¬_; simp⟩
 case round=>
  obtain⟨i,rfl,hi,C,E⟩:=hrel
  by_cases ax:i<l.length
  ·obtain⟨b,off,g,hA,aF,he,G⟩:=(hH.out.keep (w':=wr) (B':=w1.heap.size) (fun _ hp=>C.out.cell (by omega)) ae).at ax
   obtain⟨gm,gk,⟨gc,gn,gt,gf⟩⟩:=g
   have d0:=G 0 (by omega)
   have d1:=G 1 (by omega)
   have d2:=G 2 (by omega)
   have d3:=G 3 (by omega)
   have d4:=G 4 (by omega)
   have d5:=G 5 (by omega)
   simp only [Nat.add_zero,CS] at d0 d1 d2 d3 d4 d5
   have aG:=(ar.out.below C.out).cell
   have I:=hide he
   subst hA
   clear G he
   have F:=hide (C.out.trans ((Ap wr).mono C.out.size))
   by_cases h0:m=gm
   ·have H0:=hide h0
    have q0:(m==gm)=true:=by simp [h0]
    clear h0
    by_cases h1:k=gk
    ·have H1:=hide h1
     have q1:(k==gk)=true:=by simp [h1]
     clear h1
     by_cases J:V=gc
     ·have H2:=hide J
      have q2:(V==gc)=true:=by simp [J]
      clear J
      by_cases M:fn=gn
      ·have H3:=hide M
       have q3:(fn==gn)=true:=by simp [M]
       clear M
       by_cases O:Z=gt
       ·have H4:=hide O
        have q4:(Z==gt)=true:=by simp [O]
        clear O
        by_cases U:W=gf
        ·have H5:=hide U
         have q5:(W==gf)=true:=by simp [U]
         clear U
         go_wp2_with fail
         refine Reg.cP [0,0,0,6,14,31] ?_
         go_wp2_with fail
         go_ret
         refine⟨⟨(i:Int),rfl,fun _=>List.mem_of_getElem? (i:=i) ?_,fun _=>by omega⟩,ai.out.trans (F.out.mono ae)⟩
         rw [I.out,H0.out,H1.out,H2.out,H3.out,H4.out,H5.out]
        ·have H5:=hide U
         have q5:(W==gf)=false:=by simp [U]
         clear U
         have y:=hide (DQ I.out E.out (fun e=>by have h:=H5.out; simp only [Thr.mk.injEq,Lin.mk.injEq] at e; omega))
         go_wp2_with fail
         refine Reg.cP [0,0,0,6,14,31] ?_
         go_wp2_with fail
         exact⟨⟨i+1,by go_num,by omega,F.out,y.out⟩,by simp [intOf]; omega⟩
       ·have H4:=hide O
        have q4:(Z==gt)=false:=by simp [O]
        clear O
        have y:=hide (DQ I.out E.out (fun e=>by have h:=H4.out; simp only [Thr.mk.injEq,Lin.mk.injEq] at e; omega))
        go_wp2_with fail
        refine Reg.cP [0,0,0,6,14,31] ?_
        go_wp2_with fail
        exact⟨⟨i+1,by go_num,by omega,F.out,y.out⟩,by simp [intOf]; omega⟩
      ·have H3:=hide M
       have q3:(fn==gn)=false:=by simp [M]
       clear M
       have y:=hide (DQ I.out E.out (fun e=>by have h:=H3.out; simp only [Thr.mk.injEq,Lin.mk.injEq] at e; omega))
       go_wp2_with fail
       refine Reg.cP [0,0,0,6,14,31] ?_
       go_wp2_with fail
       exact⟨⟨i+1,by go_num,by omega,F.out,y.out⟩,by simp [intOf]; omega⟩
     ·have H2:=hide J
      have q2:(V==gc)=false:=by simp [J]
      clear J
      have y:=hide (DQ I.out E.out (fun e=>by have h:=H2.out; simp only [Thr.mk.injEq,Lin.mk.injEq] at e; omega))
      go_wp2_with fail
      refine Reg.cP [0,0,0,6,14,31] ?_
      go_wp2_with fail
      exact⟨⟨i+1,by go_num,by omega,F.out,y.out⟩,by simp [intOf]; omega⟩
    ·have H1:=hide h1
     have q1:(k==gk)=false:=by simp [h1]
     clear h1
     have y:=hide (DQ I.out E.out (fun e=>by have h:=H1.out; simp only [Thr.mk.injEq,Lin.mk.injEq] at e; omega))
     go_wp2_with fail
     refine Reg.cP [0,0,0,6,14,31] ?_
     go_wp2_with fail
     exact⟨⟨i+1,by go_num,by omega,F.out,y.out⟩,by simp [intOf]; omega⟩
   ·have H0:=hide h0
    have q0:(m==gm)=false:=by simp [h0]
    clear h0
    have y:=hide (DQ I.out E.out (fun e=>by have h:=H0.out; simp only [Thr.mk.injEq,Lin.mk.injEq] at e; omega))
    go_wp2_with fail
    refine Reg.cP [0,0,0,6,14,31] ?_
    go_wp2_with fail
    exact⟨⟨i+1,by go_num,by omega,F.out,y.out⟩,by simp [intOf]; omega⟩
  ·have e:i=l.length:=by omega
   have ad:=E.out
   rw [e,List.take_length] at ad
   have au:=hide ad
   clear ad e
   go_wp2_with fail
   go_ret
   exact⟨⟨-1,rfl,fun h=>by omega,fun h=>absurd h au.out⟩,ai.out.trans (C.out.mono ae)⟩
theorem M8 {w:World} {B c:Nat} {A:Option Addr} {l:List Thr} {x:Thr} (h:Sl w B 6 CS A l) (J:B≤w.heap.size):Calls Tryz.prog 213 #[.slice A l.length c,DG x] w (Ret fun r w'=>r=.bool (decide (x∈l))∧Below w.heap.size w w'):=by
 have C:DG x=.agg #[.int .i64 x.msg,.int .i64 x.coef,.int .i64 x.bound.c,.int .i64 x.bound.n,.int .i64 x.bound.t,.int .i64 x.bound.f]:=rfl
 obtain⟨w1,a6,y,E,V⟩:=Ae w #[.int .i64 x.msg,.int .i64 x.coef,.int .i64 x.bound.c,.int .i64 x.bound.n,.int .i64 x.bound.t,.int .i64 x.bound.f] 217
 have a3:=E.cell
 have W:=y.size
 have M:=hide (h.keep (w':=w1) (B':=w.heap.size) (fun _ hp=>y.cell (by omega)) J)
 have hn:=h.1
 have U:=hide y
 have G:=hide (Qe (c:=c) (x:=x) M.out (by omega))
 rw [C] at G
 rw [C]
 clear h V y E C
 go_enter Tryz.func213,Tryz.ntmps213
 go_wp2_with (go_at_call 227; refine Calls.ret G.out ?_; rintro r w' ⟨⟨z,rfl,I⟩,F⟩; have O:=hide F; clear F)
 have Z:=hide I
 clear I
 go_ret
 refine⟨?_,U.out.trans (O.out.mono W)⟩
 have:decide (x∈l)=decide (0≤z):=decide_eq_decide.2 Z.out.symm
 rw [this]
 first | rfl | trace_state
end Go.Proofs.YtfcfpoemojjglaaGreatDoor.K
