/-
  Part CD of a proof.
-/
import Derived.BigQuiet
import Derived.Test.YtfcfpoemojjglaaGreatDoorPA
import Derived.Test.YtfcfpoemojjglaaGreatDoorAA
import Derived.Test.YtfcfpoemojjglaaGreatDoorCA
set_option maxHeartbeats 16000000
set_option maxRecDepth 100000
set_option linter.unusedVariables false
set_option linter.unusedSimpArgs false
namespace Go.Proofs.YtfcfpoemojjglaaGreatDoor.K
open Go.RowKit
theorem KY {w:World} {B g5:Nat} {cs:List Value} {r:Az} {nm:ByteArray} (h:AW w B cs r) (C:w.cell? ⟨g5,0,none⟩=some (.string nm)) (hg:g5<w.heap.size):
  Calls Tryz.prog 207 #[.agg cs.toArray,.pointer (some ⟨g5,0,none⟩)] w (Ret fun v w'=>v=.bool (decide (r.name=nm))∧Below w.heap.size w w'):=by
 obtain⟨E,c1,G,c2,I,W,J,Z,M,c5,O,c6,U,c7,V,c8,rfl,-⟩:=h
 obtain⟨w1,ad,y,z,a8⟩:=Ae w #[.string r.name,.int .i64 r.kind,.int .i64 r.fr,.int .i64 r.to,.int .i64 r.pf,.int .i64 r.pt,.slice E r.resp.length c1,.slice G r.guards.length c2,.slice I r.ex.length W,.slice J r.fa.length Z,.int .i64 r.rd,.int .i64 r.wr,.slice M r.send.length c5,.int .i64 r.at_,.slice O r.left.length c6,.slice U r.right.length c7,.slice V r.parent.length c8,.int .i64 r.dir] 99
 have aa:=z.cell 0
 have ab:w1.cell? ⟨g5,0,none⟩=some (.string nm):=(y.cell hg).trans C
 have a6:=hide y
 have hq:=hide (DM r.name nm)
 clear y a8 z C
 go_enter Tryz.func207,Tryz.ntmps207
 go_wp2_with fail
 go_ret
 exact⟨by rw [←hq.out]; rfl,a6.out⟩
theorem Qa {w:World} {g5 c:Nat} {A:Option Addr} {l:List Az} {nm:ByteArray} (h:BR w w.heap.size 18 (AW w w.heap.size) A l) (hc:w.cell? ⟨g5,0,none⟩=some (.string nm)) (hg:g5<w.heap.size):
  Calls Tryz.prog 226 #[.slice A l.length c,.func (.func 207) #[] #[.pointer (some ⟨g5,0,none⟩)]] w (Ret fun v w'=>(∃z:Int,v=.int .i64 z∧(0≤z↔(l.any fun x=>decide (x.name=nm))=true))∧Below w.heap.size w w'):=by
 have hH:=hide h
 have hn:=h.1
 have hC:=hide hc
 clear h hc
 go_enter Tryz.func226,Tryz.ntmps226
 go_wp2_with fail
 go_loopw [8] (fun V wr=>∃(k:Nat),V=.int .i64 (k:Int)∧k≤l.length∧Below w.heap.size w wr∧Hid ((l.take k).all (fun x=>!decide (x.name=nm))=true)) (fun V _=>l.length - (intOf V).toNat)
 case atStart=>exact⟨0,rfl,Nat.zero_le _,Below.refl _ _,by show _=_; simp⟩
 case round=>
  obtain⟨k,rfl,hk,C,hE⟩:=hrel
  have G:=hide C
  by_cases ay:k<l.length
  ·have hr:=hH.out.keep (R':=AW wr w.heap.size) (fun _ O=>C.cell O) (fun _ _ h=>h.keep (fun _ O=>C.cell O) (Nat.le_refl _)) (Nat.le_refl _)
   obtain⟨b,aU,r,cs,hA,aS,he,-,y,hR⟩:=hr.at ay
   have a4:=hide hR
   obtain⟨A1,c1,A2,c2,A3,c3,A4,c4,A5,c5,A6,c6,A7,c7,A8,c8,rfl,-⟩:=hR
   have a5:Hid (AW wr w.heap.size [.string r.name,.int .i64 r.kind,.int .i64 r.fr,.int .i64 r.to,.int .i64 r.pf,.int .i64 r.pt,.slice A1 r.resp.length c1,.slice A2 r.guards.length c2,.slice A3 r.ex.length c3,.slice A4 r.fa.length c4,.int .i64 r.rd,.int .i64 r.wr,.slice A5 r.send.length c5,.int .i64 r.at_,.slice A6 r.left.length c6,.slice A7 r.right.length c7,.slice A8 r.parent.length c8,.int .i64 r.dir] r):=a4.out
   have d0:=y 0 _ rfl
   have d1:=y 1 _ rfl
   have d2:=y 2 _ rfl
   have d3:=y 3 _ rfl
   have d4:=y 4 _ rfl
   have d5:=y 5 _ rfl
   have d6:=y 6 _ rfl
   have d7:=y 7 _ rfl
   have d8:=y 8 _ rfl
   have d9:=y 9 _ rfl
   have aB:=y 10 _ rfl
   have aC:=y 11 _ rfl
   have aD:=y 12 _ rfl
   have aE:=y 13 _ rfl
   have aF:=y 14 _ rfl
   have aG:=y 15 _ rfl
   have aH:=y 16 _ rfl
   have aJ:=y 17 _ rfl
   simp only [Nat.add_zero] at d0
   have a8:=hide he
   have W:wr.cell? ⟨g5,0,none⟩=some (.string nm):=(C.cell hg).trans hC.out
   have Z:=hide W
   have aa:g5<wr.heap.size:=Nat.lt_of_lt_of_le hg C.size
   subst hA
   clear y he hr C a4 W
   cases E:decide (r.name=nm)
   ·have U:=hide (Cq (p:=fun x:Az=>!decide (x.name=nm)) a8.out hE.out (by rw [E]; rfl))
    go_wp2_with (go_at_call 207; refine Calls.ret (KY a5.out Z.out aa) ?_; rintro v w2 ⟨rfl,I⟩; rw [E]; have M:=hide (G.out.trans (I.mono G.out.size)); clear I)
    exact⟨⟨k+1,by go_num,by omega,M.out,U.out⟩,by simp [intOf]; omega⟩
   ·have U:=hide (show(l.any fun x=>decide (x.name=nm))=true from List.any_eq_true.2 ⟨r,List.mem_of_getElem? a8.out,E⟩)
    go_wp2_with (go_at_call 207; refine Calls.ret (KY a5.out Z.out aa) ?_; rintro v w2 ⟨rfl,I⟩; rw [E]; have M:=hide (G.out.trans (I.mono G.out.size)); clear I)
    go_ret
    exact⟨⟨(k:Int),rfl,fun _=>U.out,fun _=>by omega⟩,M.out⟩
  ·have e:k=l.length:=by omega
   have J:=hE.out
   rw [e,List.take_length] at J
   have aw:=hide J
   clear J e C
   go_wp2_with fail
   go_ret
   refine⟨⟨-1,rfl,fun h=>by omega,fun h=>?_⟩,G.out⟩
   obtain⟨x,hx,E⟩:=List.any_eq_true.1 h
   have:=List.all_eq_true.1 aw.out x hx
   rw [E] at this
   cases this
theorem M7 {w:World} {g5 c:Nat} {A:Option Addr} {l:List Az} {nm:ByteArray} (h:BR w w.heap.size 18 (AW w w.heap.size) A l) (C:w.cell? ⟨g5,0,none⟩=some (.string nm)) (M:g5<w.heap.size):
  Calls Tryz.prog 206 #[.slice A l.length c,.func (.func 207) #[] #[.pointer (some ⟨g5,0,none⟩)]] w (Ret fun v w'=>v=.bool (l.any fun x=>decide (x.name=nm))∧Below w.heap.size w w'):=by
 have I:=hide h
 have G:=hide C
 clear h C
 go_enter Tryz.func206,Tryz.ntmps206
 go_wp2_with fail
 refine Calls.ret (Qa I.out G.out M) ?_
 rintro v w2 ⟨⟨z,rfl,E⟩,y⟩
 have J:=hide y
 have O:=hide E
 clear y E
 go_wp2_with fail
 go_ret
 refine⟨?_,J.out⟩
 have:(l.any fun x=>decide (x.name=nm))=decide (0≤z):=by rw [Bool.eq_iff_iff,←O.out,decide_eq_true_eq]
 rw [this]
 rfl
end Go.Proofs.YtfcfpoemojjglaaGreatDoor.K
namespace Go.Proofs.YtfcfpoemojjglaaGreatDoor.K
open Go.RowKit
theorem JH:(Tryz.prog.info? 9).map (fun i=>(i.zero,i.size,i.bytes))=some (some (.string ByteArray.empty),1,16):=by kernel_rfl
theorem EW:Dd Tryz.prog 22 9 1:=EX Tryz.underlying22 JH rfl (by omega) (by omega)
section
variable {P:Program} {w:World}
theorem Ig {t e size:Nat} (R:Dd P t e size) (ty:TypeId) {base:Nat} {v:Value} {n:Nat} {xs:List Value} (E:w.ownsRow base e size v n xs) (A:Option Addr) (c:Nat):
  (Builtin.append_ #[t,t] ty #[v,.slice A 0 c]).run P w=.ok v w:=by
 have ht:=R.ht
 obtain⟨i,z,bytes,y,U,O,M,V,J⟩:=R.info
 have h:∀(a:Addr),Sem.run P (loadCells a 0) w=.ok #[] w:=fun _=>rfl
 rcases E.2 with⟨rfl,rfl⟩ | ⟨g,G,I,rfl,_,_,C,_⟩
 ·cases A <;> simp [Builtin.append_,run_underlying ht,sizeOf,typeInfo,y,Builtin.lenOf,Builtin.firstCells,h]
 ·cases A <;> simp [Builtin.append_,run_underlying ht,sizeOf,typeInfo,y,Builtin.lenOf,Builtin.firstCells,C,storeCells,h]
theorem Ll (z:Array Value) (n:Nat):(Builtin.zeroCells z n).size=n*z.size:=by simp [Builtin.zeroCells]
theorem SM (t u ty e:TypeId) (i:TypeInfo) (z:Value) (ht:P.underlying t=some (.slice e)) (Z:P.underlying u=some (.int .i64)) (O:P.info? e=some i) (hz:i.zero=some z)
  (n:Nat) (C:0<n) (U:n≤1000000) (hs:0<i.size) (M:i.bytes≤200):
  (Builtin.append_ #[t,u] ty #[.slice none 0 0,.int .i64 n]).run P w=
   .ok (.slice (some ⟨w.heap.size,0,none⟩) n (grownCap w n 0 e)) (w.drew.alloc (.cells (Builtin.zeroCells z.cells n++Builtin.zeroCells z.cells (grownCap w n 0 e - n)) e)):=by
 have a5:n*i.bytes≤1000000*200:=Nat.mul_le_mul U M
 have a4:n*i.bytes≤281474976710656:=by omega
 have G:¬((281474976710656:Int)<(n:Int)*(i.bytes:Int)):=by
  rw [←Int.natCast_mul]; omega
 have y:n≠0:=by omega
 have W:i.size≠0:=by omega
 have hw:IntKind.i64.wrap (n:Int)=(n:Int):=IntWalk.i64_in _ (by omega)
 have I:¬(9223372036854775807<(n:Int)):=by omega
 have E:¬(281474976710656<Builtin.nextslicecap n 0*i.bytes):=by rw [nextslicecap_zero C]; omega
 have V:¬((n:Int)<0):=by omega
 have J:∀w':World,Sem.run P (asInt (Value.int IntKind.i64 (n:Int))) w'=.ok (n:Int) w':=fun _=>rfl
 simp [J,Builtin.append_,run_underlying ht,run_underlying Z,sizeOf,typeInfo,zeroValue,O,hz,hw,y,I,E,G,V,Question.forced,run_firstCells_none,newRow,grownCap]
 intro h
 rcases Nat.mul_eq_zero.1 h with h | h
 ·exact absurd h y
 ·exact absurd h W
end
section
variable {P:Program} {ops:Array Oper} {rest:List Oper} {o:Oper} {a:Act} {Q:Exit→Act→World→Prop} {w:World}
theorem Um {w':World} (z:o.guard=none) (s x:Operand) (t u:TypeId)
  (C:o.op=.call { callee:=.builtin .append,args:=#[s,x],argTypes:=#[t,u] }) (v1 v2 v:Value) (G:a.eval s=v1) (I:a.eval x=v2)
  (E:(Builtin.append_ #[t,u] o.type #[v1,v2]).run P w=.ok v w') (h:wpList P ops Q rest (a.put o.dst v) w'):wpList P ops Q (o::rest) a w:=by
 refine wpList_plain z fun K y=>?_
 unfold Oper.wp execOp
 simp only [C,resolve,invoke,builtin,Sem.run_bind,Sem.run_pure,Result.andThen_ok,List.map_toArray,List.map_cons,List.map_nil,G,I,E]
 exact y _ _ h
theorem Ei {t e:Nat} {B:Nat} {D:Type} {enc:D→Nat→Value} (R:Dd P t e 1) (J:o.guard=none) (s x:Operand)
  (M:o.op=.call { callee:=.builtin .append,args:=#[s,x],argTypes:=#[t,t] })
  (base:Nat) (v:Value) (n:Nat) (xs:List Value) (O:a.eval s=v) (C:w.ownsRow base e 1 v n xs)
  {A:Option Addr} {l:List D} {c:Nat} (hS:Sl w B 1 enc A l) (E:a.eval x=.slice A l.length c) (h1:∀d,(enc d 0).oneCell'=true)
  (hn:n+l.length≤1000000) (a7:base≤w.heap.size)
  (h:∀U w',w'.ownsRow base e 1 U (n+l.length) (xs++l.map (enc · 0))→Ac w w' (fun k=>v.ownBlock=some k)→wpList P ops Q rest (a.put o.dst U) w'):
  wpList P ops Q (o::rest) a w:=by
 by_cases z:l.length=0
 ·have hl:l=[]:=List.length_eq_zero_iff.1 z
  subst hl
  have hr:=Ig (P:=P) R o.type C A c
  refine wpList_plain J fun K hK=>?_
  unfold Oper.wp execOp
  rw [List.length_nil] at E
  simp only [M,resolve,invoke,builtin,Sem.run_bind,Sem.run_pure,Result.andThen_ok,List.map_toArray,List.map_cons,List.map_nil,O,E,hr]
  exact hK _ _ (h v w (by simpa using C) (Ac.refl _ _))
 ·obtain⟨b,I,d0,hA,hb,aj,hc⟩:=hS.at (k:=0) (by omega)
  obtain⟨b',o',V,ah,a6⟩:=hS.2 (by intro e; rw [e] at z; exact z rfl)
  subst hA
  refine G9 R J s x M base v n xs O C ⟨b,I,none⟩ l.length c (l.map (enc · 0)) E (by simp) ?_ ?_ (by omega) (Nat.le_trans hn (by decide)) a7 ?_
  ·intro j u y
   rw [List.getElem?_map] at y
   cases G:l[j]? with
   | none=>rw [G] at y; cases y
   | some d=>
    rw [G] at y
    have y:=Option.some.inj y
    subst y
    have e:=Option.some.inj V
    injection e with W Z _
    subst W Z
    have:=a6 j d G 0 (by omega)
    have a5:(⟨b,I,none⟩:Addr).add j=⟨b,I+j*1+0,none⟩:=by unfold Addr.add; split <;> simp_all
    rw [a5]
    exact this
  ·intro u y
   obtain⟨d,_,rfl⟩:=List.mem_map.1 y
   exact h1 d
  ·intro g ae w' aa hk _ _
   exact h _ w' aa hk
end
theorem Ns (w:World):Below w.heap.size w w.drew:=⟨rfl,rfl,rfl,Nat.le_refl _,fun _ _=>rfl⟩
theorem P4 (n:Nat) (V:n≤1000000) (w:World):Calls Tryz.prog 224 #[.slice none 0 0,.int .i64 (n:Int)] w (Ret fun r w'=>w'.ownsRow w.heap.size 9 1 r 0 []∧Below w.heap.size w w'):=by
 obtain⟨i,U,W,a6,a3⟩:=info_parts JH
 by_cases G:n=0
 ·subst G
  go_enter Tryz.func224,Tryz.ntmps224
  go_wp2_with fail
  go_ret
  exact⟨World.ownsRow_nil _ _ _ _,Below.refl _ _⟩
 ·have E:=SM (P:=Tryz.prog) (w:=w) 22 3 22 9 i _ Tryz.underlying22 Tryz.underlying3 U W n (by omega) V (by omega) (by omega)
  have z:=grownCap_ge w n 0 9
  have h:grownCap w n 0 9≤maxLen:=grownCap_le_maxLen w n 0 9 (by unfold maxLen; omega)
  have O:(Value.string ByteArray.empty).cells.size=1:=rfl
  have C:=World.ownsRow_made (e:=9) (size:=1) w.drew (Builtin.zeroCells (Value.string ByteArray.empty).cells n++Builtin.zeroCells (Value.string ByteArray.empty).cells (grownCap w n 0 9 - n)) (grownCap w n 0 9) (base:=w.heap.size) (Nat.le_refl _) h (by rw [Array.size_append,Ll,Ll,O]; omega)
  have y:=(Ns w).alloc (Nat.le_refl _) (.cells (Builtin.zeroCells (Value.string ByteArray.empty).cells n++Builtin.zeroCells (Value.string ByteArray.empty).cells (grownCap w n 0 9 - n)) 9)
  have a5:n≤grownCap w n 0 9:=z
  have a4:grownCap w n 0 9≤9223372036854775807:=by unfold maxLen at h; omega
  generalize grownCap w n 0 9=cap at*
  generalize (w.drew.alloc (.cells (Builtin.zeroCells (Value.string ByteArray.empty).cells n++Builtin.zeroCells (Value.string ByteArray.empty).cells (cap - n)) 9))=w1 at*
  have J:=hide E
  have M:=hide C
  have I:=hide y
  clear E C y h z
  have Z:0<n:=by omega
  have h2:(0:Int)<(n:Int):=by omega
  go_enter Tryz.func224,Tryz.ntmps224
  go_wp2_with (at_builtin; refine Um rfl _ _ _ _ rfl _ _ _ rfl rfl J.out ?_)
  go_ret
  exact⟨M.out,I.out⟩
def LL (w:World) (B b off:Nat) (ad:Nat→Option Addr) (cp:Nat→Nat) (ls:List (List ByteArray)):Prop:=
 ∀(k:Nat) (l:List ByteArray),ls[k]?=some l→w.cell? ⟨b,off+k,none⟩=some (.slice (ad k) l.length (cp k))∧Sl w B 1 BE (ad k) l
theorem Jx {A:Type} {y:List (List A)} {k:Nat} {l:List A} (h:y[k]?=some l):(y.take (k+1)).flatten=(y.take k).flatten++l:=by
 rw [show y.take (k+1)=y.take k++[l] by rw [List.take_add_one,h]; rfl,List.flatten_append]
 simp
theorem Jv {A:Type} (h:List (List A)) (k:Nat):(h.take k).flatten.length≤h.flatten.length:=by
 conv=>rhs; rw [←List.take_append_drop k h,List.flatten_append,List.length_append]
 omega
def DV (l:List ByteArray):List Value:=l.map (BE · 0)
theorem M4 {w:World} {B b a3 c:Nat} {ad:Nat→Option Addr} {cp:Nat→Nat} {y:List (List ByteArray)} (h:LL w B b a3 ad cp y) (hb:b<w.heap.size) (hB:B≤w.heap.size) (hn:y.flatten.length≤900000) (hk:y.length≤100) (aE:y.length≤c):
  Calls Tryz.prog 203 #[.slice (some ⟨b,a3,none⟩) y.length c] w (Ret fun r w'=>w'.ownsRow w.heap.size 9 1 r y.flatten.length (DV y.flatten)∧Below w.heap.size w w'):=by
 have hH:=hide h
 have aa:=hide hn
 clear h hn
 go_enter Tryz.func203,Tryz.ntmps203
 go_wp2_with fail
 go_loopw [3,11] (fun tt C wr=>∃(k s:Nat),C=.int .i64 (k:Int)∧tt=.int .i64 (s:Int)∧k≤y.length∧s≤900000∧w=wr∧Hid (s=(y.take k).flatten.length)) (fun _ C _=>y.length - (intOf C).toNat)
 case atStart=>exact⟨0,0,rfl,rfl,Nat.zero_le _,Nat.zero_le _,(by first | rfl | trivial),by show _=_; simp⟩
 case round=>
  obtain⟨k,s,rfl,rfl,aF,hs,rfl,J⟩:=hrel
  by_cases Z:k<y.length
  ·obtain⟨l,z⟩:∃l,y[k]?=some l:=⟨_,List.getElem?_eq_getElem Z⟩
   obtain⟨hc,hS⟩:=hH.out k l z
   have W:=hide (Jv y (k+1))
   have G:=hide (Jx z)
   have aq:s+l.length≤900000:=by
    have O:=W.out
    have h2:=aa.out
    rw [G.out,List.length_append,←J.out] at O
    omega
   have an:=hide z
   clear hS z
   go_wp2_with fail
   exact⟨⟨k+1,s+l.length,by go_num,by go_num,by omega,by omega,(by first | rfl | trivial),by show _=_; rw [G.out,List.length_append,←J.out]⟩,by simp [intOf]; omega⟩
  ·have e:k=y.length:=by omega
   have U:=J.out
   rw [e,List.take_length] at U
   have aC:=hide U
   clear U e J
   go_wp2_with (go_at_call 224; refine Calls.ret (P4 s (by omega) _) ?_; intro v0 w1 ap)
   obtain⟨ab,a7⟩:=ap
   have ao:=hide ab
   have ak:=hide a7
   clear ab a7
   go_wp2_with fail
   go_loopw [6,27] (fun vv C wr=>∃(k:Nat) (n:Nat),C=.int .i64 (k:Int)∧k≤y.length∧Hid (wr.ownsRow w.heap.size 9 1 vv n (DV (y.take k).flatten))∧Hid (n=(y.take k).flatten.length)∧Hid (Below w.heap.size w wr)) (fun _ C _=>y.length - (intOf C).toNat)
   case atStart=>exact⟨0,0,rfl,Nat.zero_le _,by show World.ownsRow _ _ _ _ _ _ _; simpa [DV] using ao.out,by show _=_; simp,ak.out⟩
   case round=>
    obtain⟨k,n,rfl,aG,I,M,E⟩:=hrel
    by_cases Z:k<y.length
    ·obtain⟨l,z⟩:∃l,y[k]?=some l:=⟨_,List.getElem?_eq_getElem Z⟩
     obtain⟨a8,hS⟩:=hH.out k l z
     have hc:wr.cell? ⟨b,a3+k,none⟩=some (.slice (ad k) l.length (cp k)):=by rw [←a8]; exact World.cell?_of_block (E.out.block b hb)
     have ai:=hide (hS.keep (fun p hp=>World.cell?_of_block (E.out.block p.block (by omega))) (Nat.le_refl B))
     have W:=hide (Jv y (k+1))
     have G:=hide (Jx z)
     have aq:n+l.length≤900000:=by
      have O:=W.out
      have h2:=aa.out
      rw [G.out,List.length_append,←M.out] at O
      omega
     have an:=hide z
     clear hS z a8
     obtain⟨Av,cv,hv⟩:=AH I.out
     subst hv
     go_wp2_with (at_builtin; refine Ei EW rfl _ _ rfl w.heap.size _ n _ rfl I.out ai.out rfl (fun d=>rfl) (by omega) E.out.size ?_; intro v2 w2 ae am)
     obtain⟨ay,aA,au⟩:=AH ae
     subst au
     go_wp2_with fail
     exact⟨⟨k+1,n+l.length,by go_num,by omega,by show World.ownsRow _ _ _ _ _ _ _; rw [G.out]; simpa [DV] using ae,by show _=_; rw [G.out,List.length_append,←M.out],E.out.trans (am.below E.out.size fun b' aD e=>by have:=(I.out.lt b' e).1; omega)⟩,by simp [intOf]; omega⟩
    ·have e:k=y.length:=by omega
     have a2:=M.out
     rw [e,List.take_length] at a2
     have V:=I.out
     rw [e,List.take_length,a2] at V
     have ah:=hide V
     clear V a2 e M I
     go_wp2_with fail
     go_ret
     exact⟨ah.out,E.out⟩
end Go.Proofs.YtfcfpoemojjglaaGreatDoor.K
namespace Go.Proofs.YtfcfpoemojjglaaGreatDoor.K
open Go.RowKit
def DG (g:Thr):Value:=.agg #[.int .i64 g.msg,.int .i64 g.coef,.int .i64 g.bound.c,.int .i64 g.bound.n,.int .i64 g.bound.t,.int .i64 g.bound.f]
theorem KZ (a b:Thr) (w:World):Calls Tryz.prog 221 #[DG a,DG b] w (Ret fun r w'=>r=.bool (decide (a=b))∧Below w.heap.size w w'):=by
 obtain⟨m,k,⟨c,n,t,f⟩⟩:=a
 obtain⟨m',z,⟨U,n',t',V⟩⟩:=b
 unfold DG
 obtain⟨w1,a8,G,M,W⟩:=Ae w #[.int .i64 m,.int .i64 k,.int .i64 c,.int .i64 n,.int .i64 t,.int .i64 f] 217
 obtain⟨w2,a9,I,O,Z⟩:=Ae w1 #[.int .i64 m',.int .i64 z,.int .i64 U,.int .i64 n',.int .i64 t',.int .i64 V] 217
 have a7:=O.cell
 have a6:=(M.below I).cell
 have J:=hide (G.trans (I.mono G.size))
 clear G I
 clear M O W Z
 by_cases h:m=m'
 ·have C:=hide h
  have q1:(m==m')=true:=by simp [h]
  clear h
  by_cases y:k=z
  ·have E:=hide y
   have q2:(k==z)=true:=by simp [y]
   clear y
   go_enter Tryz.func221,Tryz.ntmps221
   go_wp2_with fail
   all_goals
    go_ret
    refine⟨?_,J.out⟩
    have h:=C.out
    have y:=E.out
    simp [*]
  ·have E:=hide y
   have q2:(k==z)=false:=by simp [y]
   clear y
   go_enter Tryz.func221,Tryz.ntmps221
   go_wp2_with fail
   go_ret
   refine⟨?_,J.out⟩
   have y:=E.out
   simp [y]
 ·have C:=hide h
  have q1:(m==m')=false:=by simp [h]
  clear h
  go_enter Tryz.func221,Tryz.ntmps221
  go_wp2_with fail
  go_ret
  refine⟨?_,J.out⟩
  have h:=C.out
  simp [h]
theorem TI {w:World} {B c:Nat} {A:Option Addr} {l:List Thr} {x:Thr} (h:Sl w B 6 CS A l) (y:B≤w.heap.size):Calls Tryz.prog 193 #[.slice A l.length c,DG x] w (Ret fun r w'=>(∃z:Int,r=.int .i64 z∧(0≤z↔x∈l))∧Below w.heap.size w w'):=by
 obtain⟨m,k,⟨E,fn,I,G⟩⟩:=x
 unfold DG
 obtain⟨w1,ax,O,a7,an⟩:=Ae w #[.int .i64 m,.int .i64 k,.int .i64 E,.int .i64 fn,.int .i64 I,.int .i64 G] 217
 have a4:=O.size
 have hH:=hide (h.keep (w':=w1) (B':=w.heap.size) (fun _ hp=>O.cell (by omega)) y)
 have hn:=h.1
 have a9:=hide O
 have ak:=hide a7
 clear h a7 an O
 go_enter Tryz.func193,Tryz.ntmps193
 go_wp2_with fail
 go_loopw [5] (fun ii wr=>∃(k':Nat),ii=.int .i64 (k':Int)∧k'≤l.length∧Hid (Below w1.heap.size w1 wr)∧Hid ((⟨m,k,⟨E,fn,I,G⟩⟩:Thr)∉l.take k')) (fun ii _=>l.length - (intOf ii).toNat)
 case atStart=>exact⟨0,rfl,Nat.zero_le _,Below.refl _ _,by show ¬_; simp⟩
 case round=>
  obtain⟨i,rfl,hi,y,hE⟩:=hrel
  by_cases ao:i<l.length
  ·obtain⟨b,ay,g,hA,ar,he,C⟩:=(hH.out.keep (w':=wr) (B':=w1.heap.size) (fun _ hp=>y.out.cell (by omega)) a4).at ao
   obtain⟨gm,V,⟨gc,W,Z,gf⟩⟩:=g
   have d0:=C 0 (by omega)
   have d1:=C 1 (by omega)
   have d2:=C 2 (by omega)
   have d3:=C 3 (by omega)
   have d4:=C 4 (by omega)
   have d5:=C 5 (by omega)
   simp only [Nat.add_zero,CS] at d0 d1 d2 d3 d4 d5
   have au:=(ak.out.below y.out).cell
   have ab:=hide he
   subst hA
   clear C he
   cases U:decide ((⟨gm,V,⟨gc,W,Z,gf⟩⟩:Thr)=⟨m,k,⟨E,fn,I,G⟩⟩) with
   | true=>
    have M:=hide U
    clear U
    have ap:=hide (show(⟨m,k,⟨E,fn,I,G⟩⟩:Thr)∈l from by rw [←of_decide_eq_true M.out]; exact List.mem_of_getElem? ab.out)
    go_wp2_with fail
    refine Reg.cP [0,0,3,7,0,31] ?_
    go_wp2_with (go_at_call 221; refine Calls.ret (KZ ⟨gm,V,⟨gc,W,Z,gf⟩⟩ ⟨m,k,⟨E,fn,I,G⟩⟩ _) ?_; rintro r w2 ⟨rfl,J⟩; rw [M.out]; have a3:=hide (y.out.trans (((Ap wr).trans J).mono y.out.size)); clear J)
    go_ret
    exact⟨⟨(i:Int),rfl,fun _=>ap.out,fun _=>by omega⟩,a9.out.trans (a3.out.mono a4)⟩
   | false=>
    have M:=hide U
    clear U
    go_wp2_with fail
    refine Reg.cP [0,0,3,7,0,31] ?_
    go_wp2_with (go_at_call 221; refine Calls.ret (KZ ⟨gm,V,⟨gc,W,Z,gf⟩⟩ ⟨m,k,⟨E,fn,I,G⟩⟩ _) ?_; rintro r w2 ⟨rfl,J⟩; rw [M.out]; have a3:=hide (y.out.trans (((Ap wr).trans J).mono y.out.size)); clear J)
    exact⟨⟨i+1,by go_num,by omega,a3.out,DQ ab.out hE.out (of_decide_eq_false M.out)⟩,by simp [intOf]; omega⟩
  ·have e:i=l.length:=by omega
   have a2:=hE.out
   rw [e,List.take_length] at a2
   have al:=hide a2
   clear a2 e
   go_wp2_with fail
   go_ret
   exact⟨⟨-1,rfl,fun h=>by omega,fun h=>absurd h al.out⟩,a9.out.trans (y.out.mono a4)⟩
theorem Qe {w:World} {B c:Nat} {A:Option Addr} {l:List Thr} {x:Thr} (h:Sl w B 6 CS A l) (C:B≤w.heap.size):Calls Tryz.prog 227 #[.slice A l.length c,DG x] w (Ret fun r w'=>(∃z:Int,r=.int .i64 z∧(0≤z↔x∈l))∧Below w.heap.size w w'):=by
 obtain⟨m,k,⟨fc,fn,ft,ff⟩⟩:=x
 unfold DG
 obtain⟨w1,aN,a5,ak,az⟩:=Ae w #[.int .i64 m,.int .i64 k,.int .i64 fc,.int .i64 fn,.int .i64 ft,.int .i64 ff] 217
 have ah:=a5.size
 have hH:=hide (h.keep (w':=w1) (B':=w.heap.size) (fun _ hp=>a5.cell (by omega)) C)
 have hn:=h.1
 have al:=hide a5
 have aw:=hide ak
 clear h ak az a5
 go_enter Tryz.func227,Tryz.ntmps227
 go_wp2_with fail
 go_loopw [8] (fun ii wr=>∃(k':Nat),ii=.int .i64 (k':Int)∧k'≤l.length∧Hid (Below w1.heap.size w1 wr)∧Hid ((⟨m,k,⟨fc,fn,ft,ff⟩⟩:Thr)∉l.take k')) (fun ii _=>l.length - (intOf ii).toNat)
 case atStart=>exact⟨0,rfl,Nat.zero_le _,Below.refl _ _,by show ¬_; simp⟩
 case round=>
  obtain⟨i,rfl,hi,C,E⟩:=hrel
  by_cases aA:i<l.length
  ·obtain⟨b,aO,g,hA,aJ,he,I⟩:=(hH.out.keep (w':=wr) (B':=w1.heap.size) (fun _ hp=>C.out.cell (by omega)) ah).at aA
   obtain⟨gm,gk,⟨gc,gn,gt,gf⟩⟩:=g
   have d0:=I 0 (by omega)
   have d1:=I 1 (by omega)
   have d2:=I 2 (by omega)
   have d3:=I 3 (by omega)
   have d4:=I 4 (by omega)
   have d5:=I 5 (by omega)
   simp only [Nat.add_zero,CS] at d0 d1 d2 d3 d4 d5
   have aK:=(aw.out.below C.out).cell
   have J:=hide he
   subst hA
   clear I he
   have G:=hide (C.out.trans ((Ap wr).mono C.out.size))
   by_cases M:m=gm
   ·have H0:=hide M
    have q0:(m==gm)=true:=by simp [M]
    clear M
    by_cases O:k=gk
    ·have H1:=hide O
     have q1:(k==gk)=true:=by simp [O]
     clear O
     by_cases U:fc=gc
     ·have H2:=hide U
      have q2:(fc==gc)=true:=by simp [U]
      clear U
      by_cases V:fn=gn
      ·have H3:=hide V
       have q3:(fn==gn)=true:=by simp [V]
       clear V
       by_cases W:ft=gt
       ·have H4:=hide W
        have q4:(ft==gt)=true:=by simp [W]
        clear W
        by_cases Z:ff=gf
        ·have H5:=hide Z
         have q5:(ff==gf)=true:=by simp [Z]
         clear Z
         go_wp2_with fail
         refine Reg.cP [0,0,0,6,14,31] ?_
         go_wp2_with fail
         go_ret
         refine⟨⟨(i:Int),rfl,fun _=>List.mem_of_getElem? (i:=i) ?_,fun _=>by omega⟩,al.out.trans (G.out.mono ah)⟩
         rw [J.out,H0.out,H1.out,H2.out,H3.out,H4.out,H5.out]
        ·have H5:=hide Z
         have q5:(ff==gf)=false:=by simp [Z]
         clear Z
         have y:=hide (DQ J.out E.out (fun e=>by have h:=H5.out; simp only [Thr.mk.injEq,Lin.mk.injEq] at e; omega))
         go_wp2_with fail
         refine Reg.cP [0,0,0,6,14,31] ?_
         go_wp2_with fail
         exact⟨⟨i+1,by go_num,by omega,G.out,y.out⟩,by simp [intOf]; omega⟩
       ·have H4:=hide W
        have q4:(ft==gt)=false:=by simp [W]
        clear W
        have y:=hide (DQ J.out E.out (fun e=>by have h:=H4.out; simp only [Thr.mk.injEq,Lin.mk.injEq] at e; omega))
        go_wp2_with fail
        refine Reg.cP [0,0,0,6,14,31] ?_
        go_wp2_with fail
        exact⟨⟨i+1,by go_num,by omega,G.out,y.out⟩,by simp [intOf]; omega⟩
      ·have H3:=hide V
       have q3:(fn==gn)=false:=by simp [V]
       clear V
       have y:=hide (DQ J.out E.out (fun e=>by have h:=H3.out; simp only [Thr.mk.injEq,Lin.mk.injEq] at e; omega))
       go_wp2_with fail
       refine Reg.cP [0,0,0,6,14,31] ?_
       go_wp2_with fail
       exact⟨⟨i+1,by go_num,by omega,G.out,y.out⟩,by simp [intOf]; omega⟩
     ·have H2:=hide U
      have q2:(fc==gc)=false:=by simp [U]
      clear U
      have y:=hide (DQ J.out E.out (fun e=>by have h:=H2.out; simp only [Thr.mk.injEq,Lin.mk.injEq] at e; omega))
      go_wp2_with fail
      refine Reg.cP [0,0,0,6,14,31] ?_
      go_wp2_with fail
      exact⟨⟨i+1,by go_num,by omega,G.out,y.out⟩,by simp [intOf]; omega⟩
    ·have H1:=hide O
     have q1:(k==gk)=false:=by simp [O]
     clear O
     have y:=hide (DQ J.out E.out (fun e=>by have h:=H1.out; simp only [Thr.mk.injEq,Lin.mk.injEq] at e; omega))
     go_wp2_with fail
     refine Reg.cP [0,0,0,6,14,31] ?_
     go_wp2_with fail
     exact⟨⟨i+1,by go_num,by omega,G.out,y.out⟩,by simp [intOf]; omega⟩
   ·have H0:=hide M
    have q0:(m==gm)=false:=by simp [M]
    clear M
    have y:=hide (DQ J.out E.out (fun e=>by have h:=H0.out; simp only [Thr.mk.injEq,Lin.mk.injEq] at e; omega))
    go_wp2_with fail
    refine Reg.cP [0,0,0,6,14,31] ?_
    go_wp2_with fail
    exact⟨⟨i+1,by go_num,by omega,G.out,y.out⟩,by simp [intOf]; omega⟩
  ·have e:i=l.length:=by omega
   have ag:=E.out
   rw [e,List.take_length] at ag
   have ax:=hide ag
   clear ag e
   go_wp2_with fail
   go_ret
   exact⟨⟨-1,rfl,fun h=>by omega,fun h=>absurd h ax.out⟩,al.out.trans (C.out.mono ah)⟩
theorem M8 {w:World} {B c:Nat} {A:Option Addr} {l:List Thr} {x:Thr} (h:Sl w B 6 CS A l) (M:B≤w.heap.size):Calls Tryz.prog 213 #[.slice A l.length c,DG x] w (Ret fun r w'=>r=.bool (decide (x∈l))∧Below w.heap.size w w'):=by
 have C:DG x=.agg #[.int .i64 x.msg,.int .i64 x.coef,.int .i64 x.bound.c,.int .i64 x.bound.n,.int .i64 x.bound.t,.int .i64 x.bound.f]:=rfl
 obtain⟨w1,a6,y,E,W⟩:=Ae w #[.int .i64 x.msg,.int .i64 x.coef,.int .i64 x.bound.c,.int .i64 x.bound.n,.int .i64 x.bound.t,.int .i64 x.bound.f] 217
 have a3:=E.cell
 have Z:=y.size
 have O:=hide (h.keep (w':=w1) (B':=w.heap.size) (fun _ hp=>y.cell (by omega)) M)
 have hn:=h.1
 have V:=hide y
 have I:=hide (Qe (c:=c) (x:=x) O.out (by omega))
 rw [C] at I
 rw [C]
 clear h W y E C
 go_enter Tryz.func213,Tryz.ntmps213
 go_wp2_with (go_at_call 227; refine Calls.ret I.out ?_; rintro r w' ⟨⟨z,rfl,J⟩,G⟩; have U:=hide G; clear G)
 have a2:=hide J
 clear J
 go_ret
 refine⟨?_,V.out.trans (U.out.mono Z)⟩
 have:decide (x∈l)=decide (0≤z):=decide_eq_decide.2 a2.out.symm
 rw [this]
 first | rfl | trace_state
end Go.Proofs.YtfcfpoemojjglaaGreatDoor.K
