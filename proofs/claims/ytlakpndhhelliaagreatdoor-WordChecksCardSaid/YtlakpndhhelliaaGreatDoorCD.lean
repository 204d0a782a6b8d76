/-
  Part CD of a proof.
-/
import Derived.BigQuiet
import Derived.Test.YtlakpndhhelliaaGreatDoorPA
import Derived.Test.YtlakpndhhelliaaGreatDoorAA
import Derived.Test.YtlakpndhhelliaaGreatDoorCA
set_option maxHeartbeats 16000000
set_option maxRecDepth 100000
set_option linter.unusedVariables false
set_option linter.unusedSimpArgs false
namespace Go.Proofs.YtlakpndhhelliaaGreatDoor.K
open Go.RowKit
theorem Io {w:World} {B g5:Nat} {cs:List Value} {r:As} {nm:ByteArray} (h:AB w B cs r) (y:w.cell? ⟨g5,0,none⟩=some (.string nm)) (C:g5<w.heap.size):
  Calls Tryz.prog 73 #[.agg cs.toArray,.pointer (some ⟨g5,0,none⟩)] w (Ret fun v w'=>v=.bool (decide (r.name=nm))∧Below w.heap.size w w'):=by
 obtain⟨E,F,G,c2,I,J,M,O,U,V,W,Z,A7,c7,A8,c8,rfl,-⟩:=h
 obtain⟨w1,a9,f,z,a6⟩:=Ag w #[.string r.name,.int .i64 r.kind,.int .i64 r.fr,.int .i64 r.to,.int .i64 r.pf,.int .i64 r.pt,.slice E r.resp.length F,.slice G r.guards.length c2,.slice I r.ex.length J,.slice M r.fa.length O,.int .i64 r.rd,.int .i64 r.wr,.slice U r.send.length V,.int .i64 r.at_,.slice W r.left.length Z,.slice A7 r.right.length c7,.slice A8 r.parent.length c8,.int .i64 r.dir] 48
 have aa:=z.cell 0
 have ab:w1.cell? ⟨g5,0,none⟩=some (.string nm):=(f.cell C).trans y
 have a7:=hide f
 have hq:=hide (CR r.name nm)
 clear f a6 z y
 go_enter Tryz.func73,Tryz.ntmps73
 go_wp2_with fail
 go_ret
 exact⟨by rw [←hq.out]; rfl,a7.out⟩
theorem Rs {w:World} {g5 c:Nat} {A:Option Addr} {l:List As} {nm:ByteArray} (h:BJ w w.heap.size 18 (AB w w.heap.size) A l) (U:w.cell? ⟨g5,0,none⟩=some (.string nm)) (V:g5<w.heap.size):
  Calls Tryz.prog 93 #[.slice A l.length c,.func (.func 73) #[] #[.pointer (some ⟨g5,0,none⟩)]] w (Ret fun v w'=>(∃z:Int,v=.int .i64 z∧(0≤z↔(l.any fun x=>decide (x.name=nm))=true))∧Below w.heap.size w w'):=by
 have hH:=hide h
 have hn:=h.1
 have hC:=hide U
 clear h U
 go_enter Tryz.func93,Tryz.ntmps93
 go_wp2_with fail
 go_loopw [8] (fun G wr=>∃(k:Nat),G=.int .i64 (k:Int)∧k≤l.length∧Below w.heap.size w wr∧Hid ((l.take k).all (fun x=>!decide (x.name=nm))=true)) (fun G _=>l.length - (intOf G).toNat)
 case atStart=>exact⟨0,rfl,Nat.zero_le _,Below.refl _ _,by show _=_; simp⟩
 case round=>
  obtain⟨k,rfl,hk,y,W⟩:=hrel
  have E:=hide y
  by_cases ad:k<l.length
  ·have Z:=hH.out.keep (R':=AB wr w.heap.size) (fun _ I=>y.cell I) (fun _ _ h=>h.keep (fun _ I=>y.cell I) (Nat.le_refl _)) (Nat.le_refl _)
   obtain⟨b,aA,r,cs,hA,aB,he,-,f,hR⟩:=Z.at ad
   have a4:=hide hR
   obtain⟨A1,c1,A2,c2,A3,c3,A4,c4,A5,c5,A6,c6,A7,c7,A8,c8,rfl,-⟩:=hR
   have a5:Hid (AB wr w.heap.size [.string r.name,.int .i64 r.kind,.int .i64 r.fr,.int .i64 r.to,.int .i64 r.pf,.int .i64 r.pt,.slice A1 r.resp.length c1,.slice A2 r.guards.length c2,.slice A3 r.ex.length c3,.slice A4 r.fa.length c4,.int .i64 r.rd,.int .i64 r.wr,.slice A5 r.send.length c5,.int .i64 r.at_,.slice A6 r.left.length c6,.slice A7 r.right.length c7,.slice A8 r.parent.length c8,.int .i64 r.dir] r):=a4.out
   have d0:=f 0 _ rfl
   have d1:=f 1 _ rfl
   have d2:=f 2 _ rfl
   have d3:=f 3 _ rfl
   have d4:=f 4 _ rfl
   have d5:=f 5 _ rfl
   have d6:=f 6 _ rfl
   have d7:=f 7 _ rfl
   have d8:=f 8 _ rfl
   have d9:=f 9 _ rfl
   have aM:=f 10 _ rfl
   have aN:=f 11 _ rfl
   have aO:=f 12 _ rfl
   have aP:=f 13 _ rfl
   have aQ:=f 14 _ rfl
   have aR:=f 15 _ rfl
   have aS:=f 16 _ rfl
   have aT:=f 17 _ rfl
   simp only [Nat.add_zero] at d0
   have a6:=hide he
   have a7:wr.cell? ⟨g5,0,none⟩=some (.string nm):=(y.cell V).trans hC.out
   have a8:=hide a7
   have a9:g5<wr.heap.size:=Nat.lt_of_lt_of_le V y.size
   subst hA
   clear f he Z y a4 a7
   cases C:decide (r.name=nm)
   ·have J:=hide (BP (p:=fun x:As=>!decide (x.name=nm)) a6.out W.out (by rw [C]; rfl))
    go_wp2_with (go_at_call 73; refine Calls.ret (Io a5.out a8.out a9) ?_; rintro v w2 ⟨rfl,F⟩; rw [C]; have M:=hide (E.out.trans (F.mono E.out.size)); clear F)
    exact⟨⟨k+1,by go_num,by omega,M.out,J.out⟩,by simp [intOf]; omega⟩
   ·have J:=hide (show(l.any fun x=>decide (x.name=nm))=true from List.any_eq_true.2 ⟨r,List.mem_of_getElem? a6.out,C⟩)
    go_wp2_with (go_at_call 73; refine Calls.ret (Io a5.out a8.out a9) ?_; rintro v w2 ⟨rfl,F⟩; rw [C]; have M:=hide (E.out.trans (F.mono E.out.size)); clear F)
    go_ret
    exact⟨⟨(k:Int),rfl,fun _=>J.out,fun _=>by omega⟩,M.out⟩
  ·have e:k=l.length:=by omega
   have O:=W.out
   rw [e,List.take_length] at O
   have ax:=hide O
   clear O e y
   go_wp2_with fail
   go_ret
   refine⟨⟨-1,rfl,fun h=>by omega,fun h=>?_⟩,E.out⟩
   obtain⟨x,hx,C⟩:=List.any_eq_true.1 h
   have:=List.all_eq_true.1 ax.out x hx
   rw [C] at this
   cases this
theorem PX {w:World} {g5 c:Nat} {A:Option Addr} {l:List As} {nm:ByteArray} (h:BJ w w.heap.size 18 (AB w w.heap.size) A l) (f:w.cell? ⟨g5,0,none⟩=some (.string nm)) (E:g5<w.heap.size):
  Calls Tryz.prog 72 #[.slice A l.length c,.func (.func 73) #[] #[.pointer (some ⟨g5,0,none⟩)]] w (Ret fun v w'=>v=.bool (l.any fun x=>decide (x.name=nm))∧Below w.heap.size w w'):=by
 have F:=hide h
 have G:=hide f
 clear h f
 go_enter Tryz.func72,Tryz.ntmps72
 go_wp2_with fail
 refine Calls.ret (Rs F.out G.out E) ?_
 rintro v w2 ⟨⟨z,rfl,y⟩,C⟩
 have I:=hide C
 have J:=hide y
 clear C y
 go_wp2_with fail
 go_ret
 refine⟨?_,I.out⟩
 have:(l.any fun x=>decide (x.name=nm))=decide (0≤z):=by rw [Bool.eq_iff_iff,←J.out,decide_eq_true_eq]
 rw [this]
 rfl
end Go.Proofs.YtlakpndhhelliaaGreatDoor.K
namespace Go.Proofs.YtlakpndhhelliaaGreatDoor.K
open Go.RowKit
theorem Ih:(Tryz.prog.info? 9).map (fun i=>(i.zero,i.size,i.bytes))=some (some (.string ByteArray.empty),1,16):=by kernel_rfl
theorem D8:C4 Tryz.prog 22 9 1:=EH Tryz.underlying22 Ih rfl (by omega) (by omega)
section
variable {P:Program} {w:World}
theorem Gw {t e size:Nat} (R:C4 P t e size) (ty:TypeId) {base:Nat} {v:Value} {n:Nat} {xs:List Value} (y:w.ownsRow base e size v n xs) (A:Option Addr) (c:Nat):
  (Builtin.append_ #[t,t] ty #[v,.slice A 0 c]).run P w=.ok v w:=by
 have ht:=R.ht
 obtain⟨i,z,bytes,f,E,F,G,I,J⟩:=R.info
 have h:∀(a:Addr),Sem.run P (loadCells a 0) w=.ok #[] w:=fun _=>rfl
 rcases y.2 with⟨rfl,rfl⟩ | ⟨g,M,O,rfl,_,_,C,_⟩
 ·cases A <;> simp [Builtin.append_,run_underlying ht,sizeOf,typeInfo,f,Builtin.lenOf,Builtin.firstCells,h]
 ·cases A <;> simp [Builtin.append_,run_underlying ht,sizeOf,typeInfo,f,Builtin.lenOf,Builtin.firstCells,C,storeCells,h]
theorem JX (z:Array Value) (n:Nat):(Builtin.zeroCells z n).size=n*z.size:=by simp [Builtin.zeroCells]
theorem KK (t u ty e:TypeId) (i:TypeInfo) (z:Value) (ht:P.underlying t=some (.slice e)) (y:P.underlying u=some (.int .i64)) (C:P.info? e=some i) (E:i.zero=some z)
  (n:Nat) (F:0<n) (G:n≤1000000) (hs:0<i.size) (I:i.bytes≤200):
  (Builtin.append_ #[t,u] ty #[.slice none 0 0,.int .i64 n]).run P w=
   .ok (.slice (some ⟨w.heap.size,0,none⟩) n (grownCap w n 0 e)) (w.drew.alloc (.cells (Builtin.zeroCells z.cells n++Builtin.zeroCells z.cells (grownCap w n 0 e - n)) e)):=by
 have a3:n*i.bytes≤1000000*200:=Nat.mul_le_mul G I
 have a4:n*i.bytes≤281474976710656:=by omega
 have J:¬((281474976710656:Int)<(n:Int)*(i.bytes:Int)):=by
  rw [←Int.natCast_mul]; omega
 have f:n≠0:=by omega
 have M:i.size≠0:=by omega
 have O:IntKind.i64.wrap (n:Int)=(n:Int):=IntWalk.i64_in _ (by omega)
 have U:¬(9223372036854775807<(n:Int)):=by omega
 have V:¬(281474976710656<Builtin.nextslicecap n 0*i.bytes):=by rw [nextslicecap_zero F]; omega
 have W:¬((n:Int)<0):=by omega
 have Z:∀w':World,Sem.run P (asInt (Value.int IntKind.i64 (n:Int))) w'=.ok (n:Int) w':=fun _=>rfl
 simp [Z,Builtin.append_,run_underlying ht,run_underlying y,sizeOf,typeInfo,zeroValue,C,E,O,f,U,V,J,W,Question.forced,run_firstCells_none,newRow,grownCap]
 intro h
 rcases Nat.mul_eq_zero.1 h with h | h
 ·exact absurd h f
 ·exact absurd h M
end
section
variable {P:Program} {ops:Array Oper} {rest:List Oper} {o:Oper} {a:Act} {Q:Exit→Act→World→Prop} {w:World}
theorem Oc {w':World} (f:o.guard=none) (s x:Operand) (t u:TypeId)
  (y:o.op=.call { callee:=.builtin .append,args:=#[s,x],argTypes:=#[t,u] }) (v1 v2 v:Value) (z:a.eval s=v1) (C:a.eval x=v2)
  (E:(Builtin.append_ #[t,u] o.type #[v1,v2]).run P w=.ok v w') (h:wpList P ops Q rest (a.put o.dst v) w'):wpList P ops Q (o::rest) a w:=by
 refine wpList_plain f fun K F=>?_
 unfold Oper.wp execOp
 simp only [y,resolve,invoke,builtin,Sem.run_bind,Sem.run_pure,Result.andThen_ok,List.map_toArray,List.map_cons,List.map_nil,z,C,E]
 exact F _ _ h
theorem DR {t e:Nat} {B:Nat} {D:Type} {enc:D→Nat→Value} (R:C4 P t e 1) (G:o.guard=none) (s x:Operand)
  (I:o.op=.call { callee:=.builtin .append,args:=#[s,x],argTypes:=#[t,t] })
  (base:Nat) (v:Value) (n:Nat) (xs:List Value) (J:a.eval s=v) (y:w.ownsRow base e 1 v n xs)
  {A:Option Addr} {l:List D} {c:Nat} (hS:Sl w B 1 enc A l) (z:a.eval x=.slice A l.length c) (O:∀d,(enc d 0).oneCell'=true)
  (U:n+l.length≤1000000) (V:base≤w.heap.size)
  (h:∀M w',w'.ownsRow base e 1 M (n+l.length) (xs++l.map (enc · 0))→Ae w w' (fun k=>v.ownBlock=some k)→wpList P ops Q rest (a.put o.dst M) w'):
  wpList P ops Q (o::rest) a w:=by
 by_cases C:l.length=0
 ·have W:l=[]:=List.length_eq_zero_iff.1 C
  subst W
  have Z:=Gw (P:=P) R o.type y A c
  refine wpList_plain G fun K hK=>?_
  unfold Oper.wp execOp
  rw [List.length_nil] at z
  simp only [I,resolve,invoke,builtin,Sem.run_bind,Sem.run_pure,Result.andThen_ok,List.map_toArray,List.map_cons,List.map_nil,J,z,Z]
  exact hK _ _ (h v w (by simpa using y) (Ae.refl _ _))
 ·obtain⟨b,E,d0,hA,hb,ad,hc⟩:=hS.at (k:=0) (by omega)
  obtain⟨b',o',e',ah,a5⟩:=hS.2 (by intro e; rw [e] at C; exact C rfl)
  subst hA
  refine GP R G s x I base v n xs J y ⟨b,E,none⟩ l.length c (l.map (enc · 0)) z (by simp) ?_ ?_ (by omega) (Nat.le_trans U (by decide)) V ?_
  ·intro j u f
   rw [List.getElem?_map] at f
   cases F:l[j]? with
   | none=>rw [F] at f; cases f
   | some d=>
    rw [F] at f
    have f:=Option.some.inj f
    subst f
    have e:=Option.some.inj e'
    injection e with e1 e2 _
    subst e1 e2
    have:=a5 j d F 0 (by omega)
    have a8:(⟨b,E,none⟩:Addr).add j=⟨b,E+j*1+0,none⟩:=by unfold Addr.add; split <;> simp_all
    rw [a8]
    exact this
  ·intro u f
   obtain⟨d,_,rfl⟩:=List.mem_map.1 f
   exact O d
  ·intro g ai w' a9 hk _ _
   exact h _ w' a9 hk
end
theorem Mq (w:World):Below w.heap.size w w.drew:=⟨rfl,rfl,rfl,Nat.le_refl _,fun _ _=>rfl⟩
theorem Ri (n:Nat) (E:n≤1000000) (w:World):Calls Tryz.prog 91 #[.slice none 0 0,.int .i64 (n:Int)] w (Ret fun r w'=>w'.ownsRow w.heap.size 9 1 r 0 []∧Below w.heap.size w w'):=by
 obtain⟨i,F,G,V,W⟩:=info_parts Ih
 by_cases I:n=0
 ·subst I
  go_enter Tryz.func91,Tryz.ntmps91
  go_wp2_with fail
  go_ret
  exact⟨World.ownsRow_nil _ _ _ _,Below.refl _ _⟩
 ·have h:=KK (P:=Tryz.prog) (w:=w) 22 3 22 9 i _ Tryz.underlying22 Tryz.underlying3 F G n (by omega) E (by omega) (by omega)
  have y:=grownCap_ge w n 0 9
  have f:grownCap w n 0 9≤maxLen:=grownCap_le_maxLen w n 0 9 (by unfold maxLen; omega)
  have J:(Value.string ByteArray.empty).cells.size=1:=rfl
  have z:=World.ownsRow_made (e:=9) (size:=1) w.drew (Builtin.zeroCells (Value.string ByteArray.empty).cells n++Builtin.zeroCells (Value.string ByteArray.empty).cells (grownCap w n 0 9 - n)) (grownCap w n 0 9) (base:=w.heap.size) (Nat.le_refl _) f (by rw [Array.size_append,JX,JX,J]; omega)
  have C:=(Mq w).alloc (Nat.le_refl _) (.cells (Builtin.zeroCells (Value.string ByteArray.empty).cells n++Builtin.zeroCells (Value.string ByteArray.empty).cells (grownCap w n 0 9 - n)) 9)
  have Z:n≤grownCap w n 0 9:=y
  have a2:grownCap w n 0 9≤9223372036854775807:=by unfold maxLen at f; omega
  generalize grownCap w n 0 9=cap at*
  generalize (w.drew.alloc (.cells (Builtin.zeroCells (Value.string ByteArray.empty).cells n++Builtin.zeroCells (Value.string ByteArray.empty).cells (cap - n)) 9))=w1 at*
  have M:=hide h
  have O:=hide z
  have U:=hide C
  clear h z C f y
  have h1:0<n:=by omega
  have h2:(0:Int)<(n:Int):=by omega
  go_enter Tryz.func91,Tryz.ntmps91
  go_wp2_with (at_builtin; refine Oc rfl _ _ _ _ rfl _ _ _ rfl rfl M.out ?_)
  go_ret
  exact⟨O.out,U.out⟩
def LL (w:World) (B b off:Nat) (ad:Nat→Option Addr) (cp:Nat→Nat) (ls:List (List ByteArray)):Prop:=
 ∀(k:Nat) (l:List ByteArray),ls[k]?=some l→w.cell? ⟨b,off+k,none⟩=some (.slice (ad k) l.length (cp k))∧Sl w B 1 Bx (ad k) l
theorem Js {A:Type} {f:List (List A)} {k:Nat} {l:List A} (h:f[k]?=some l):(f.take (k+1)).flatten=(f.take k).flatten++l:=by
 rw [show f.take (k+1)=f.take k++[l] by rw [List.take_add_one,h]; rfl,List.flatten_append]
 simp
theorem JP {A:Type} (f:List (List A)) (k:Nat):(f.take k).flatten.length≤f.flatten.length:=by
 conv=>rhs; rw [←List.take_append_drop k f,List.flatten_append,List.length_append]
 omega
def Dl (l:List ByteArray):List Value:=l.map (Bx · 0)
theorem MA {w:World} {B b J c:Nat} {ad:Nat→Option Addr} {cp:Nat→Nat} {f:List (List ByteArray)} (h:LL w B b J ad cp f) (hb:b<w.heap.size) (hB:B≤w.heap.size) (hn:f.flatten.length≤900000) (hk:f.length≤100) (aw:f.length≤c):
  Calls Tryz.prog 69 #[.slice (some ⟨b,J,none⟩) f.length c] w (Ret fun r w'=>w'.ownsRow w.heap.size 9 1 r f.flatten.length (Dl f.flatten)∧Below w.heap.size w w'):=by
 have hH:=hide h
 have a6:=hide hn
 clear h hn
 go_enter Tryz.func69,Tryz.ntmps69
 go_wp2_with fail
 go_loopw [3,11] (fun tt z wr=>∃(k s:Nat),z=.int .i64 (k:Int)∧tt=.int .i64 (s:Int)∧k≤f.length∧s≤900000∧w=wr∧Hid (s=(f.take k).flatten.length)) (fun _ z _=>f.length - (intOf z).toNat)
 case atStart=>exact⟨0,0,rfl,rfl,Nat.zero_le _,Nat.zero_le _,(by first | rfl | trivial),by show _=_; simp⟩
 case round=>
  obtain⟨k,s,rfl,rfl,ax,hs,rfl,G⟩:=hrel
  by_cases M:k<f.length
  ·obtain⟨l,y⟩:∃l,f[k]?=some l:=⟨_,List.getElem?_eq_getElem M⟩
   obtain⟨hc,hS⟩:=hH.out k l y
   have O:=hide (JP f (k+1))
   have C:=hide (Js y)
   have ag:s+l.length≤900000:=by
    have U:=O.out
    have h2:=a6.out
    rw [C.out,List.length_append,←G.out] at U
    omega
   have ai:=hide y
   clear hS y
   go_wp2_with fail
   exact⟨⟨k+1,s+l.length,by go_num,by go_num,by omega,by omega,(by first | rfl | trivial),by show _=_; rw [C.out,List.length_append,←G.out]⟩,by simp [intOf]; omega⟩
  ·have e:k=f.length:=by omega
   have V:=G.out
   rw [e,List.take_length] at V
   have az:=hide V
   clear V e G
   go_wp2_with (go_at_call 91; refine Calls.ret (Ri s (by omega) _) ?_; intro v0 w1 aj)
   obtain⟨a7,a8⟩:=aj
   have ak:=hide a7
   have al:=hide a8
   clear a7 a8
   go_wp2_with fail
   go_loopw [6,27] (fun vv z wr=>∃(k:Nat) (n:Nat),z=.int .i64 (k:Int)∧k≤f.length∧Hid (wr.ownsRow w.heap.size 9 1 vv n (Dl (f.take k).flatten))∧Hid (n=(f.take k).flatten.length)∧Hid (Below w.heap.size w wr)) (fun _ z _=>f.length - (intOf z).toNat)
   case atStart=>exact⟨0,0,rfl,Nat.zero_le _,by show World.ownsRow _ _ _ _ _ _ _; simpa [Dl] using ak.out,by show _=_; simp,al.out⟩
   case round=>
    obtain⟨k,n,rfl,aA,F,I,E⟩:=hrel
    by_cases M:k<f.length
    ·obtain⟨l,y⟩:∃l,f[k]?=some l:=⟨_,List.getElem?_eq_getElem M⟩
     obtain⟨a9,hS⟩:=hH.out k l y
     have hc:wr.cell? ⟨b,J+k,none⟩=some (.slice (ad k) l.length (cp k)):=by rw [←a9]; exact World.cell?_of_block (E.out.block b hb)
     have an:=hide (hS.keep (fun p hp=>World.cell?_of_block (E.out.block p.block (by omega))) (Nat.le_refl B))
     have O:=hide (JP f (k+1))
     have C:=hide (Js y)
     have ag:n+l.length≤900000:=by
      have U:=O.out
      have h2:=a6.out
      rw [C.out,List.length_append,←I.out] at U
      omega
     have ai:=hide y
     clear hS y a9
     obtain⟨Av,cv,hv⟩:=AV F.out
     subst hv
     go_wp2_with (at_builtin; refine DR D8 rfl _ _ rfl w.heap.size _ n _ rfl F.out an.out rfl (fun d=>rfl) (by omega) E.out.size ?_; intro v2 w2 aa ap)
     obtain⟨aE,aF,aq⟩:=AV aa
     subst aq
     go_wp2_with fail
     exact⟨⟨k+1,n+l.length,by go_num,by omega,by show World.ownsRow _ _ _ _ _ _ _; rw [C.out]; simpa [Dl] using aa,by show _=_; rw [C.out,List.length_append,←I.out],E.out.trans (ap.below E.out.size fun b' aG e=>by have:=(F.out.lt b' e).1; omega)⟩,by simp [intOf]; omega⟩
    ·have e:k=f.length:=by omega
     have W:=I.out
     rw [e,List.take_length] at W
     have Z:=F.out
     rw [e,List.take_length,W] at Z
     have au:=hide Z
     clear Z W e I F
     go_wp2_with fail
     go_ret
     exact⟨au.out,E.out⟩
end Go.Proofs.YtlakpndhhelliaaGreatDoor.K
namespace Go.Proofs.YtlakpndhhelliaaGreatDoor.K
open Go.RowKit
def Dj (g:Thr):Value:=.agg #[.int .i64 g.msg,.int .i64 g.coef,.int .i64 g.bound.c,.int .i64 g.bound.n,.int .i64 g.bound.t,.int .i64 g.bound.f]
theorem RR (a b:Thr):(a=b)↔(a.msg=b.msg∧a.coef=b.coef∧a.bound=b.bound):=by
 obtain⟨_,_,_⟩:=a
 obtain⟨_,_,_⟩:=b
 simp
theorem JD (a b:Thr) (w:World):Calls Tryz.prog 97 #[Dj a,Dj b] w (Ret fun r w'=>r=.bool (decide (a=b))∧Below w.heap.size w w'):=by
 obtain⟨m,k,⟨c,n,t,f⟩⟩:=a
 obtain⟨m',z,⟨O,U,V,W⟩⟩:=b
 unfold Dj
 obtain⟨w1,a5,C,J,Z⟩:=Ag w #[.int .i64 m,.int .i64 k,.int .i64 c,.int .i64 n,.int .i64 t,.int .i64 f] 128
 obtain⟨w2,a6,E,M,a2⟩:=Ag w1 #[.int .i64 m',.int .i64 z,.int .i64 O,.int .i64 U,.int .i64 V,.int .i64 W] 128
 have a7:=M.cell
 have a8:=(J.below E).cell
 have F:=hide (C.trans (E.mono C.size))
 clear C E
 clear J M Z a2
 by_cases h:m=m'
 ·have G:=hide h
  have q1:(m==m')=true:=by simp [h]
  clear h
  by_cases y:k=z
  ·have I:=hide y
   have q2:(k==z)=true:=by simp [y]
   clear y
   go_enter Tryz.func97,Tryz.ntmps97
   go_wp2_with fail
   all_goals
    go_ret
    refine⟨?_,F.out⟩
    have h:=G.out
    have y:=I.out
    simp [*]
  ·have I:=hide y
   have q2:(k==z)=false:=by simp [y]
   clear y
   go_enter Tryz.func97,Tryz.ntmps97
   go_wp2_with fail
   go_ret
   refine⟨?_,F.out⟩
   have y:=I.out
   simp [y]
 ·have G:=hide h
  have q1:(m==m')=false:=by simp [h]
  clear h
  go_enter Tryz.func97,Tryz.ntmps97
  go_wp2_with fail
  go_ret
  refine⟨?_,F.out⟩
  have h:=G.out
  simp [h]
theorem Nz {w:World} {B c:Nat} {A:Option Addr} {l:List Thr} {x:Thr} (h:Sl w B 6 CC A l) (f:B≤w.heap.size):Calls Tryz.prog 82 #[.slice A l.length c,Dj x] w (Ret fun r w'=>(∃z:Int,r=.int .i64 z∧(0≤z↔x∈l))∧Below w.heap.size w w'):=by
 obtain⟨m,k,⟨C,fn,E,F⟩⟩:=x
 unfold Dj
 obtain⟨w1,ap,J,a5,aa⟩:=Ag w #[.int .i64 m,.int .i64 k,.int .i64 C,.int .i64 fn,.int .i64 E,.int .i64 F] 128
 have O:=J.size
 have hH:=hide (h.keep (w':=w1) (B':=w.heap.size) (fun _ hp=>J.cell (by omega)) f)
 have hn:=h.1
 have a6:=hide J
 have ae:=hide a5
 clear h a5 aa J
 go_enter Tryz.func82,Tryz.ntmps82
 go_wp2_with fail
 go_loopw [5] (fun U wr=>∃(V:Nat),U=.int .i64 (V:Int)∧V≤l.length∧Hid (Below w1.heap.size w1 wr)∧Hid ((⟨m,k,⟨C,fn,E,F⟩⟩:Thr)∉l.take V)) (fun U _=>l.length - (intOf U).toNat)
 case atStart=>exact⟨0,rfl,Nat.zero_le _,Below.refl _ _,by show ¬_; simp⟩
 case round=>
  obtain⟨i,rfl,hi,f,hE⟩:=hrel
  by_cases af:i<l.length
  ·obtain⟨b,au,g,hA,av,he,y⟩:=(hH.out.keep (w':=wr) (B':=w1.heap.size) (fun _ hp=>f.out.cell (by omega)) O).at af
   obtain⟨gm,W,⟨gc,Z,gt,gf⟩⟩:=g
   have d0:=y 0 (by omega)
   have d1:=y 1 (by omega)
   have d2:=y 2 (by omega)
   have d3:=y 3 (by omega)
   have d4:=y 4 (by omega)
   have d5:=y 5 (by omega)
   simp only [Nat.add_zero,CC] at d0 d1 d2 d3 d4 d5
   have aw:=(ae.out.below f.out).cell
   have a9:=hide he
   subst hA
   clear y he
   cases M:decide ((⟨gm,W,⟨gc,Z,gt,gf⟩⟩:Thr)=⟨m,k,⟨C,fn,E,F⟩⟩) with
   | true=>
    have G:=hide M
    clear M
    have an:=hide (show(⟨m,k,⟨C,fn,E,F⟩⟩:Thr)∈l from by rw [←of_decide_eq_true G.out]; exact List.mem_of_getElem? a9.out)
    go_wp2_with fail
    refine Reg.cP [0,0,3,7,0,31] ?_
    go_wp2_with (go_at_call 97; refine Calls.ret (JD ⟨gm,W,⟨gc,Z,gt,gf⟩⟩ ⟨m,k,⟨C,fn,E,F⟩⟩ _) ?_; rintro r w2 ⟨rfl,I⟩; rw [G.out]; have a3:=hide (f.out.trans (((Ap wr).trans I).mono f.out.size)); clear I)
    go_ret
    exact⟨⟨(i:Int),rfl,fun _=>an.out,fun _=>by omega⟩,a6.out.trans (a3.out.mono O)⟩
   | false=>
    have G:=hide M
    clear M
    go_wp2_with fail
    refine Reg.cP [0,0,3,7,0,31] ?_
    go_wp2_with (go_at_call 97; refine Calls.ret (JD ⟨gm,W,⟨gc,Z,gt,gf⟩⟩ ⟨m,k,⟨C,fn,E,F⟩⟩ _) ?_; rintro r w2 ⟨rfl,I⟩; rw [G.out]; have a3:=hide (f.out.trans (((Ap wr).trans I).mono f.out.size)); clear I)
    exact⟨⟨i+1,by go_num,by omega,a3.out,Do a9.out hE.out (of_decide_eq_false G.out)⟩,by simp [intOf]; omega⟩
  ·have e:i=l.length:=by omega
   have a4:=hE.out
   rw [e,List.take_length] at a4
   have ao:=hide a4
   clear a4 e
   go_wp2_with fail
   go_ret
   exact⟨⟨-1,rfl,fun h=>by omega,fun h=>absurd h ao.out⟩,a6.out.trans (f.out.mono O)⟩
theorem My {w:World} {B c:Nat} {A:Option Addr} {l:List Thr} {x:Thr} (h:Sl w B 6 CC A l) (y:B≤w.heap.size):Calls Tryz.prog 94 #[.slice A l.length c,Dj x] w (Ret fun r w'=>(∃z:Int,r=.int .i64 z∧(0≤z↔x∈l))∧Below w.heap.size w w'):=by
 obtain⟨m,k,⟨W,fn,Z,ff⟩⟩:=x
 unfold Dj
 obtain⟨w1,aG,a3,ai,al⟩:=Ag w #[.int .i64 m,.int .i64 k,.int .i64 W,.int .i64 fn,.int .i64 Z,.int .i64 ff] 128
 have a4:=a3.size
 have hH:=hide (h.keep (w':=w1) (B':=w.heap.size) (fun _ hp=>a3.cell (by omega)) y)
 have hn:=h.1
 have aj:=hide a3
 have ao:=hide ai
 clear h ai al a3
 go_enter Tryz.func94,Tryz.ntmps94
 go_wp2_with fail
 go_loopw [8] (fun ii wr=>∃(k':Nat),ii=.int .i64 (k':Int)∧k'≤l.length∧Hid (Below w1.heap.size w1 wr)∧Hid ((⟨m,k,⟨W,fn,Z,ff⟩⟩:Thr)∉l.take k')) (fun ii _=>l.length - (intOf ii).toNat)
 case atStart=>exact⟨0,rfl,Nat.zero_le _,Below.refl _ _,by show ¬_; simp⟩
 case round=>
  obtain⟨i,rfl,hi,y,C⟩:=hrel
  by_cases ap:i<l.length
  ·obtain⟨b,aK,g,hA,aL,he,E⟩:=(hH.out.keep (w':=wr) (B':=w1.heap.size) (fun _ hp=>y.out.cell (by omega)) a4).at ap
   obtain⟨gm,gk,⟨gc,gn,gt,gf⟩⟩:=g
   have d0:=E 0 (by omega)
   have d1:=E 1 (by omega)
   have d2:=E 2 (by omega)
   have d3:=E 3 (by omega)
   have d4:=E 4 (by omega)
   have d5:=E 5 (by omega)
   simp only [Nat.add_zero,CC] at d0 d1 d2 d3 d4 d5
   have aM:=(ao.out.below y.out).cell
   have F:=hide he
   subst hA
   clear E he
   have G:=hide (y.out.trans ((Ap wr).mono y.out.size))
   by_cases I:m=gm
   ·have H0:=hide I
    have q0:(m==gm)=true:=by simp [I]
    clear I
    by_cases J:k=gk
    ·have H1:=hide J
     have q1:(k==gk)=true:=by simp [J]
     clear J
     by_cases M:W=gc
     ·have H2:=hide M
      have q2:(W==gc)=true:=by simp [M]
      clear M
      by_cases O:fn=gn
      ·have H3:=hide O
       have q3:(fn==gn)=true:=by simp [O]
       clear O
       by_cases U:Z=gt
       ·have H4:=hide U
        have q4:(Z==gt)=true:=by simp [U]
        clear U
        by_cases V:ff=gf
        ·have H5:=hide V
         have q5:(ff==gf)=true:=by simp [V]
         clear V
         go_wp2_with fail
         refine Reg.cP [0,0,0,6,14,31] ?_
         go_wp2_with fail
         go_ret
         refine⟨⟨(i:Int),rfl,fun _=>List.mem_of_getElem? (i:=i) ?_,fun _=>by omega⟩,aj.out.trans (G.out.mono a4)⟩
         rw [F.out,H0.out,H1.out,H2.out,H3.out,H4.out,H5.out]
        ·have H5:=hide V
         have q5:(ff==gf)=false:=by simp [V]
         clear V
         have f:=hide (Do F.out C.out (fun e=>by have h:=H5.out; simp only [Thr.mk.injEq,Lin.mk.injEq] at e; omega))
         go_wp2_with fail
         refine Reg.cP [0,0,0,6,14,31] ?_
         go_wp2_with fail
         exact⟨⟨i+1,by go_num,by omega,G.out,f.out⟩,by simp [intOf]; omega⟩
       ·have H4:=hide U
        have q4:(Z==gt)=false:=by simp [U]
        clear U
        have f:=hide (Do F.out C.out (fun e=>by have h:=H4.out; simp only [Thr.mk.injEq,Lin.mk.injEq] at e; omega))
        go_wp2_with fail
        refine Reg.cP [0,0,0,6,14,31] ?_
        go_wp2_with fail
        exact⟨⟨i+1,by go_num,by omega,G.out,f.out⟩,by simp [intOf]; omega⟩
      ·have H3:=hide O
       have q3:(fn==gn)=false:=by simp [O]
       clear O
       have f:=hide (Do F.out C.out (fun e=>by have h:=H3.out; simp only [Thr.mk.injEq,Lin.mk.injEq] at e; omega))
       go_wp2_with fail
       refine Reg.cP [0,0,0,6,14,31] ?_
       go_wp2_with fail
       exact⟨⟨i+1,by go_num,by omega,G.out,f.out⟩,by simp [intOf]; omega⟩
     ·have H2:=hide M
      have q2:(W==gc)=false:=by simp [M]
      clear M
      have f:=hide (Do F.out C.out (fun e=>by have h:=H2.out; simp only [Thr.mk.injEq,Lin.mk.injEq] at e; omega))
      go_wp2_with fail
      refine Reg.cP [0,0,0,6,14,31] ?_
      go_wp2_with fail
      exact⟨⟨i+1,by go_num,by omega,G.out,f.out⟩,by simp [intOf]; omega⟩
    ·have H1:=hide J
     have q1:(k==gk)=false:=by simp [J]
     clear J
     have f:=hide (Do F.out C.out (fun e=>by have h:=H1.out; simp only [Thr.mk.injEq,Lin.mk.injEq] at e; omega))
     go_wp2_with fail
     refine Reg.cP [0,0,0,6,14,31] ?_
     go_wp2_with fail
     exact⟨⟨i+1,by go_num,by omega,G.out,f.out⟩,by simp [intOf]; omega⟩
   ·have H0:=hide I
    have q0:(m==gm)=false:=by simp [I]
    clear I
    have f:=hide (Do F.out C.out (fun e=>by have h:=H0.out; simp only [Thr.mk.injEq,Lin.mk.injEq] at e; omega))
    go_wp2_with fail
    refine Reg.cP [0,0,0,6,14,31] ?_
    go_wp2_with fail
    exact⟨⟨i+1,by go_num,by omega,G.out,f.out⟩,by simp [intOf]; omega⟩
  ·have e:i=l.length:=by omega
   have ah:=C.out
   rw [e,List.take_length] at ah
   have aF:=hide ah
   clear ah e
   go_wp2_with fail
   go_ret
   exact⟨⟨-1,rfl,fun h=>by omega,fun h=>absurd h aF.out⟩,aj.out.trans (y.out.mono a4)⟩
theorem Kt {w:World} {B c:Nat} {A:Option Addr} {l:List Thr} {x:Thr} (h:Sl w B 6 CC A l) (J:B≤w.heap.size):Calls Tryz.prog 79 #[.slice A l.length c,Dj x] w (Ret fun r w'=>r=.bool (decide (x∈l))∧Below w.heap.size w w'):=by
 have C:Dj x=.agg #[.int .i64 x.msg,.int .i64 x.coef,.int .i64 x.bound.c,.int .i64 x.bound.n,.int .i64 x.bound.t,.int .i64 x.bound.f]:=rfl
 obtain⟨w1,a2,y,E,M⟩:=Ag w #[.int .i64 x.msg,.int .i64 x.coef,.int .i64 x.bound.c,.int .i64 x.bound.n,.int .i64 x.bound.t,.int .i64 x.bound.f] 128
 have a3:=E.cell
 have O:=y.size
 have U:=hide (h.keep (w':=w1) (B':=w.heap.size) (fun _ hp=>y.cell (by omega)) J)
 have hn:=h.1
 have V:=hide y
 have F:=hide (My (c:=c) (x:=x) U.out (by omega))
 rw [C] at F
 rw [C]
 clear h M y E C
 go_enter Tryz.func79,Tryz.ntmps79
 go_wp2_with (go_at_call 94; refine Calls.ret F.out ?_; rintro r w' ⟨⟨z,rfl,G⟩,I⟩; have W:=hide I; clear I)
 have Z:=hide G
 clear G
 go_ret
 refine⟨?_,V.out.trans (W.out.mono O)⟩
 have:decide (x∈l)=decide (0≤z):=decide_eq_decide.2 Z.out.symm
 rw [this]
 first | rfl | trace_state
end Go.Proofs.YtlakpndhhelliaaGreatDoor.K
