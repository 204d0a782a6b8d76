/-
  Part SC of a proof.
-/
import Derived.Laws.CopyRow
import Derived.Deep.WholeRow
import Derived.Test.YtfcfpoemojjglaaGreatDoorPA
import Derived.Test.YtfcfpoemojjglaaGreatDoorSB
import Derived.Test.YtfcfpoemojjglaaGreatDoorSA
import Derived.Test.YtfcfpoemojjglaaGreatDoorCA
import Derived.Test.YtfcfpoemojjglaaGreatDoorCE
set_option maxHeartbeats 16000000
set_option maxRecDepth 100000
set_option linter.unusedVariables false
set_option linter.unusedSimpArgs false
namespace Go.Proofs.YtfcfpoemojjglaaGreatDoor
open Go.RowKit
set_option maxHeartbeats 16000000
set_option maxRecDepth 100000
def Wk (k:Nme):Value:=.agg #[.int .i64 (k.1:Int),.int .i64 (k.2.1:Int),.int .i64 (k.2.2:Int),.int .i64 0]
theorem t3s:Tryz.t3.size=1:=by kernel_rfl
theorem eq3 (a b:Int) (d:Nat) (w:World):(Op.equalIn (d+1) 3 (.int .i64 a) (.int .i64 b)).run Tryz.prog w=.ok (a==b) w:=by
 simp [Op.equalIn,go_sem]
theorem XY (a b c d e f:Int) (w:World):(Op.equalIn (9998+1+1) 251 (.agg #[.int .i64 a,.int .i64 b,.int .i64 c,.int .i64 0]) (.agg #[.int .i64 d,.int .i64 e,.int .i64 f,.int .i64 0])).run Tryz.prog w=.ok (a==d&&(b==e&&c==f)) w:=by
 rw [Op.equalIn]
 by_cases h1:a=d <;> by_cases h:b=e <;> by_cases y:c=f <;> simp [go_sem,List.range',eq3,part,isAgg,sizeOf,t3s,h1,h,y]
theorem XZ (w:World) (s t:Nme):(Op.equal 251 (Wk s) (Wk t)).run Tryz.prog w=.ok (decide (s=t)) w:=by
 obtain⟨a,b,c⟩:=s
 obtain⟨d,e,f⟩:=t
 refine(XY a b c d e f w).trans ?_
 congr 1
 rw [Bool.eq_iff_iff]
 simp
 omega
theorem Xm (h:Nat) (y:Bool) (w:World) (s:Nme):(Instr.checkKey y (h+1+1) 251 (Wk s)).run Tryz.prog w=.ok () w:=by
 unfold Wk
 simp [Instr.checkKey,go_sem,List.range',part,isAgg,sizeOf,t3s]
theorem W3:El Tryz.prog 251 Wk:=VK Tryz.underlying251 (fun _ _=>rfl) (fun h w s=>Xm 9998 h w s) XZ
def mC (e:Mv):List Value:=[.int .i64 e.frm,.int .i64 e.inn,.int .i64 e.out,.int .i64 e.to]
theorem W0:∀{l:List Mv} {k j:Nat} {e:Mv},l[k]?=some e→j<4→(l.flatMap mC)[k*4+j]?=some (Q6 e j)
 | [],_,_,_,h,_=>by simp at h
 | d::l,0,j,e,h,hj=>by
  have:d=e:=by simpa using h
  subst this
  rw [List.flatMap_cons,List.getElem?_append_left (by simp [mC]; omega)]
  match j,hj with
  | 0,_=>rfl
  | 1,_=>rfl
  | 2,_=>rfl
  | 3,_=>rfl
 | d::l,k+1,j,e,h,hj=>by
  rw [List.flatMap_cons,List.getElem?_append_right (by simp [mC]; omega)]
  have z:=W0 (l:=l) (k:=k) (j:=j) (by simpa using h) hj
  have y:(k+1)*4+j - (mC d).length=k*4+j:=by simp [mC]; omega
  rw [y]
  exact z
theorem WN {w:World} {base n B:Nat} {v:Value} {l:List Mv} (h:w.ownsRow base 108 4 v n (l.flatMap mC)) (F:l.length=n) (G:w.heap.size≤B) (M:n≤9223372036854775807):∃A c,v=.slice A l.length c∧Sl w B 4 Q6 A l:=by
 subst F
 rcases h.2 with⟨rfl,h0⟩ | ⟨g,z,C,rfl,I,y,J,O,U,ht⟩
 ·have:l=[]:=List.length_eq_zero_iff.1 h0
  subst this
  exact⟨none,0,rfl,Sl.nil rfl⟩
 ·refine⟨_,z,rfl,by omega,fun _=>⟨g,0,rfl,?_,fun k d hd j E=>?_⟩⟩
  ·have:=(Array.getElem?_eq_some_iff.1 y).1; omega
  ·rw [cell_of_row w g _ C 108 (0,0) y]
   have:=W0 hd E
   rw [←ht,List.getElem?_take] at this
   split at this
   ·simpa using this
   ·cases this
theorem X6:(Tryz.prog.info? 108).map (fun i=>(i.zero,i.size,i.bytes))=some (some (.agg #[.int .i64 0,.int .i64 0,.int .i64 0,.int .i64 0]),4,32):=by kernel_rfl
theorem Xg:Dd Tryz.prog 53 108 4:=EX Tryz.underlying53 X6 rfl (by omega) (by omega)
def Drw.size (d:Drw):Nat:=d.nm.length+d.mv.length+d.ac.length+d.st.length
def AR (d:Drw) (k:Nme):Value:=.int .i64 (d.num k:Int)
structure DrM (w0 wr:World) (gd gm:Nat) (vS vA vM:Value) (d:Drw) (n:Nat) (ls:List (Nat×TypeId×Array Value)):Prop where
 below:Below w0.heap.size w0 wr
 bd:Blk wr gd 160 #[.int .i64 (d.L:Int),.int .i64 (d.nm.length:Int),vS,vA,vM,.map (some gm)]
 map:Bw wr gm (d.nm.map Wk)
 st:wr.ownsRow w0.heap.size 3 1 vS d.st.length (d.st.map (AR d))
 ac:wr.ownsRow w0.heap.size 3 1 vA d.ac.length (d.ac.map (AR d))
 mv:wr.ownsRow w0.heap.size 108 4 vM d.mv.length ((d.mv.map d.enc).flatMap mC)
 ok:d.Ok
 sz:d.size≤n
 sep:∀g,vS.ownBlock=some g→vA.ownBlock≠some g
 oth:∀x∈ls,Blk wr x.1 x.2.1 x.2.2∧x.1≠gd∧vS.ownBlock≠some x.1∧vA.ownBlock≠some x.1∧vM.ownBlock≠some x.1
 ge:w0.heap.size≤gd∧w0.heap.size≤gm
section
variable {w0 wr w':World} {gd gm n:Nat} {vS vA vM:Value} {d:Drw} {ls ls':List (Nat×TypeId×Array Value)}
theorem DrM.keep (h:DrM w0 wr gd gm vS vA vM d n ls) (y:Below wr.heap.size wr w'):DrM w0 w' gd gm vS vA vM d n ls:=
 ⟨h.below.trans (y.mono h.below.size),h.bd.below y,h.map.keep (y.block _ h.map.lt),Bt h.st y,Bt h.ac y,Bt h.mv y,h.ok,h.sz,h.sep,fun x z=>⟨(h.oth x z).1.below y,(h.oth x z).2⟩,h.ge⟩
theorem DrM.sub (h:DrM w0 wr gd gm vS vA vM d n ls) (y:∀x∈ls',x∈ls):DrM w0 wr gd gm vS vA vM d n ls':=
 ⟨h.below,h.bd,h.map,h.st,h.ac,h.mv,h.ok,h.sz,h.sep,fun x z=>h.oth x (y x z),h.ge⟩
theorem DrM.big (h:DrM w0 wr gd gm vS vA vM d n ls) {m:Nat} (y:n≤m):DrM w0 wr gd gm vS vA vM d m ls:=
 ⟨h.below,h.bd,h.map,h.st,h.ac,h.mv,h.ok,Nat.le_trans h.sz y,h.sep,h.oth,h.ge⟩
theorem DrM.push (h:DrM w0 wr gd gm vS vA vM d n ls) (t:TypeId) (cs:Array Value):DrM w0 (wr.alloc (.cells cs t)) gd gm vS vA vM d n ((wr.heap.size,t,cs)::ls):=by
 obtain⟨w1,E,C,z,-⟩:=Ae wr cs t
 rw [E]
 have h1:=h.keep C
 refine⟨h1.below,h1.bd,h1.map,h1.st,h1.ac,h1.mv,h1.ok,h1.sz,h1.sep,fun x y=>?_,h1.ge⟩
 rcases List.mem_cons.1 y with rfl | y
 ·have:=h.bd.lt
  exact⟨z,by show wr.heap.size≠gd; omega,fun e=>absurd (Cj h.st e) (by show ¬wr.heap.size<_; omega),fun e=>absurd (Cj h.ac e) (by show ¬wr.heap.size<_; omega),fun e=>absurd (Cj h.mv e) (by show ¬wr.heap.size<_; omega)⟩
 ·exact h1.oth x y
theorem DrM.blk (h:DrM w0 wr gd gm vS vA vM d n ls) {g:Nat} {t:TypeId} {cs:Array Value} (y:(g,t,cs)∈ls):Blk wr g t cs:=(h.oth _ y).1
theorem Drw.size_add (d:Drw) (k:Nme):(d.add k).size≤d.size+1:=by
 unfold Drw.add Drw.size
 split
 ·omega
 ·simp only [List.length_append,List.length_singleton]; omega
theorem W7 (d:Drw) (k:Nme) {l:List Nme} (y:∀j∈l,j∈d.nm):l.map (AR (d.add k))=l.map (AR d):=List.map_congr_left fun j h=>by unfold AR; rw [Drw.add_num d k (y j h)]
theorem DrM.old (h:DrM w0 wr gd gm vS vA vM d n ls) {k:Nme} (hk:k∈d.nm):DrM w0 wr gd gm vS vA vM (d.add k) (n+1) ls:=by
 rw [Drw.add_of_mem hk]
 exact h.big (by omega)
theorem DrM.addN {k:Nme} {y:World} (h:DrM w0 wr gd gm vS vA vM d n ls) (hk:k∉d.nm) (M:Bw y gm ((d.nm++[k]).map Wk)) (V:wr.grownBy y (some gm)):
  DrM w0 (y.setCell ⟨gd,1,none⟩ (.int .i64 ((d.nm.length:Int)+1))) gd gm vS vA vM (d.add k) (n+1) ls:=by
 have J:Ac wr y (fun k=>k=gm):=(Ac.of_grown V).mono fun b _ e=>(Option.some.inj e).symm
 have I:=(Ac.refl y (fun k=>k=gd)).setCell (p:=⟨gd,1,none⟩) (fun _=>rfl) (.int .i64 ((d.nm.length:Int)+1))
 have C:Ac wr (y.setCell ⟨gd,1,none⟩ (.int .i64 ((d.nm.length:Int)+1))) (fun k=>k=gm∨k=gd):=(J.mono fun _ _ e=>.inl e).trans I fun _ _ e=>.inr e
 have G:=h.bd.kept J (BT h.bd h.map)
 have Z:=h.ge
 have F:d.add k={ d with nm:=d.nm++[k] }:=if_neg hk
 have E:∀{e m:Nat} {sz:Nat} {v:Value} {xs:List Value},e≠160→wr.ownsRow w0.heap.size e sz v m xs→(y.setCell ⟨gd,1,none⟩ (.int .i64 ((d.nm.length:Int)+1))).ownsRow w0.heap.size e sz v m xs:=fun U ho=>C.ownsRow ho fun g O e=>by
  rcases e with rfl | rfl
  ·exact Di ho h.map O
  ·exact Aw ho h.bd U O
 refine⟨h.below.trans (C.below h.below.size fun b W e=>by omega),?_,?_,?_,?_,?_,h.ok.add k,Nat.le_trans (d.size_add k) (by have:=h.sz; omega),h.sep,fun x z=>⟨(h.oth x z).1.kept C ?_,(h.oth x z).2⟩,h.ge⟩
 ·have:=G.set_ 1 (.int .i64 ((d.nm.length:Int)+1))
  rw [Drw.add_L]
  have e:((d.add k).nm.length:Int)=(d.nm.length:Int)+1:=by rw [F]; simp
  rw [e]
  exact this
 ·rw [F]
  exact M.kept I (BT G M).symm
 ·rw [Drw.add_st,W7 d k h.ok.st]
  exact E (by decide) h.st
 ·rw [Drw.add_ac,W7 d k h.ok.ac]
  exact E (by decide) h.ac
 ·rw [h.ok.mv_add k,Drw.add_mv]
  exact E (by decide) h.mv
 ·rintro(e | e)
  ·exact BT (h.oth x z).1 h.map e
  ·exact(h.oth x z).2.1 e
theorem DrM.addM {a b:Nme} {i o:Int} {vM':Value} {w1:World} (h:DrM w0 wr gd gm vS vA vM d n ls) (U:a∈d.nm) (E:b∈d.nm) (I:Ac wr w1 (fun k=>vM.ownBlock=some k))
  (ho:w1.ownsRow w0.heap.size 108 4 vM' (d.mv.length+1) ((d.mv.map d.enc).flatMap mC++mC (d.enc (a,i,o,b)))) (V:BJ wr vM vM'):
  DrM w0 (w1.setCell ⟨gd,4,none⟩ vM') gd gm vS vA vM' (d.mov a i o b) (n+1) ls:=by
 have F:=h.bd.kept I (Aw h.mv h.bd (by decide))
 have J:=(Ac.refl w1 (fun k=>k=gd)).setCell (p:=⟨gd,4,none⟩) (fun _=>rfl) vM'
 have z:Ac wr (w1.setCell ⟨gd,4,none⟩ vM') (fun k=>vM.ownBlock=some k∨k=gd):=(I.mono fun _ _ e=>.inl e).trans J fun _ _ e=>.inr e
 have W:=h.ge
 have M:∀{m:Nat} {sz:Nat} {v:Value} {xs:List Value},wr.ownsRow w0.heap.size 3 sz v m xs→(w1.setCell ⟨gd,4,none⟩ vM').ownsRow w0.heap.size 3 sz v m xs:=fun C=>z.ownsRow C fun g G e=>by
  rcases e with e | rfl
  ·exact Wq C h.mv (by decide) G e
  ·exact Aw C h.bd (by decide) G
 refine⟨h.below.trans (z.below h.below.size fun b E e=>?_),F.set_ 4 vM',h.map.kept z ?_,M h.st,M h.ac,?_,h.ok.mov i o U E,?_,h.sep,fun x y=>⟨(h.oth x y).1.kept z ?_,(h.oth x y).2.1,(h.oth x y).2.2.1,(h.oth x y).2.2.2.1,V.ne (h.oth x y).1.lt (h.oth x y).2.2.2.2⟩,h.ge⟩
 ·rcases e with e | e
  ·have:=Bb h.mv e; omega
  ·omega
 ·rintro(e | e)
  ·exact Di h.mv h.map e
  ·exact(BT h.bd h.map).symm e
 ·show World.ownsRow _ _ _ _ _ (d.mv++[(a,i,o,b)]).length (((d.mv++[(a,i,o,b)]).map d.enc).flatMap mC)
  rw [List.length_append,List.map_append,List.flatMap_append]
  exact AK J (by simpa using ho) (fun g cs e O=>by subst e; exact O.ne_ F (by decide) rfl)
 ·have:=h.sz
  unfold Drw.size Drw.mov at*
  simp only [List.length_append,List.length_singleton]
  omega
 ·rintro(e | e)
  ·exact(h.oth x y).2.2.2.2 e
  ·exact(h.oth x y).2.1 e
theorem DrM.addA {a:Nme} {vA':Value} {w1:World} (h:DrM w0 wr gd gm vS vA vM d n ls) (M:a∈d.nm) (F:Ac wr w1 (fun k=>vA.ownBlock=some k))
  (ho:w1.ownsRow w0.heap.size 3 1 vA' (d.ac.length+1) (d.ac.map (AR d)++[AR d a])) (I:BJ wr vA vA'):
  DrM w0 (w1.setCell ⟨gd,3,none⟩ vA') gd gm vS vA' vM (d.acc a) (n+1) ls:=by
 have E:=h.bd.kept F (Aw h.ac h.bd (by decide))
 have G:=(Ac.refl w1 (fun k=>k=gd)).setCell (p:=⟨gd,3,none⟩) (fun _=>rfl) vA'
 have C:Ac wr (w1.setCell ⟨gd,3,none⟩ vA') (fun k=>vA.ownBlock=some k∨k=gd):=(F.mono fun _ _ e=>.inl e).trans G fun _ _ e=>.inr e
 have U:=h.ge
 refine⟨h.below.trans (C.below h.below.size fun b O e=>?_),E.set_ 3 vA',h.map.kept C ?_,C.ownsRow h.st fun g y e=>?_,?_,C.ownsRow h.mv fun g y e=>?_,h.ok.acc M,?_,fun g y e=>?_,fun x z=>⟨(h.oth x z).1.kept C ?_,(h.oth x z).2.1,(h.oth x z).2.2.1,I.ne (h.oth x z).1.lt (h.oth x z).2.2.2.1,(h.oth x z).2.2.2.2⟩,h.ge⟩
 ·rcases e with e | e
  ·have:=Bb h.ac e; omega
  ·omega
 ·rintro(e | e)
  ·exact Di h.ac h.map e
  ·exact(BT h.bd h.map).symm e
 ·rcases e with e | rfl
  ·exact h.sep g y e
  ·exact Aw h.st h.bd (by decide) y
 ·show World.ownsRow _ _ _ _ _ (d.ac++[a]).length ((d.ac++[a]).map (AR d))
  rw [List.length_append,List.map_append]
  exact AK G ho (fun g cs e J=>by subst e; exact J.ne_ E (by decide) rfl)
 ·rcases e with e | rfl
  ·exact Wq h.mv h.ac (by decide) y e
  ·exact Aw h.mv h.bd (by decide) y
 ·have:=h.sz
  unfold Drw.size Drw.acc at*
  simp only [List.length_append,List.length_singleton]
  omega
 ·exact I.ne (Cj h.st y) (h.sep g y) e
 ·rintro(e | e)
  ·exact(h.oth x z).2.2.2.1 e
  ·exact(h.oth x z).2.1 e
theorem DrM.addS {a:Nme} {vS':Value} {w1:World} (h:DrM w0 wr gd gm vS vA vM d n ls) (M:a∈d.nm) (F:Ac wr w1 (fun k=>vS.ownBlock=some k))
  (ho:w1.ownsRow w0.heap.size 3 1 vS' (d.st.length+1) (d.st.map (AR d)++[AR d a])) (I:BJ wr vS vS'):
  DrM w0 (w1.setCell ⟨gd,2,none⟩ vS') gd gm vS' vA vM (d.beg a) (n+1) ls:=by
 have E:=h.bd.kept F (Aw h.st h.bd (by decide))
 have G:=(Ac.refl w1 (fun k=>k=gd)).setCell (p:=⟨gd,2,none⟩) (fun _=>rfl) vS'
 have C:Ac wr (w1.setCell ⟨gd,2,none⟩ vS') (fun k=>vS.ownBlock=some k∨k=gd):=(F.mono fun _ _ e=>.inl e).trans G fun _ _ e=>.inr e
 have V:=h.ge
 refine⟨h.below.trans (C.below h.below.size fun b U e=>?_),E.set_ 2 vS',h.map.kept C ?_,?_,C.ownsRow h.ac fun g y e=>?_,C.ownsRow h.mv fun g y e=>?_,h.ok.beg M,?_,fun g y e=>?_,fun x z=>⟨(h.oth x z).1.kept C ?_,(h.oth x z).2.1,I.ne (h.oth x z).1.lt (h.oth x z).2.2.1,(h.oth x z).2.2.2⟩,h.ge⟩
 ·rcases e with e | e
  ·have:=Bb h.st e; omega
  ·omega
 ·rintro(e | e)
  ·exact Di h.st h.map e
  ·exact(BT h.bd h.map).symm e
 ·show World.ownsRow _ _ _ _ _ (d.st++[a]).length ((d.st++[a]).map (AR d))
  rw [List.length_append,List.map_append]
  exact AK G ho (fun g cs e J=>by subst e; exact J.ne_ E (by decide) rfl)
 ·rcases e with e | rfl
  ·exact h.sep g e y
  ·exact Aw h.ac h.bd (by decide) y
 ·rcases e with e | rfl
  ·exact Wq h.mv h.st (by decide) y e
  ·exact Aw h.mv h.bd (by decide) y
 ·have:=h.sz
  unfold Drw.size Drw.beg at*
  simp only [List.length_append,List.length_singleton]
  omega
 ·exact I.ne (Cj h.ac e) (fun O=>h.sep g O e) y
 ·rintro(e | e)
  ·exact(h.oth x z).2.2.1 e
  ·exact(h.oth x z).2.1 e
theorem DrM.tr (h:DrM w0 wr gd gm vS vA vM d n ls) (hn:n≤4000000) (U:∀A m c,vS=.slice A m c→m≤c):
  H6 wr wr.heap.size (.agg #[.int .i64 (d.L:Int),.int .i64 (d.nm.length:Int),vS,vA,vM]) d.tr:=by
 have V:=h.sz
 unfold Drw.size at V
 have y:∀l:List Nme,l.map (AR d)=(l.map fun k=>(d.num k:Int)).map (Value.int .i64):=fun l=>by rw [List.map_map]; rfl
 have C:=h.st
 have z:=h.ac
 rw [y] at C z
 obtain⟨E,I,y,W⟩:=B8 (B:=wr.heap.size) C (by simp) (Nat.le_refl _) (by omega)
 obtain⟨F,c2,M,Z⟩:=B8 (B:=wr.heap.size) z (by simp) (Nat.le_refl _) (by omega)
 obtain⟨G,J,O,r3⟩:=WN (B:=wr.heap.size) h.mv (by simp) (Nat.le_refl _) (by omega)
 exact⟨E,I,F,c2,G,J,by rw [y,M,O]; rfl,W,Z,r3,U _ _ _ y⟩
end
end Go.Proofs.YtfcfpoemojjglaaGreatDoor
namespace Go.Proofs.YtfcfpoemojjglaaGreatDoor
open Go.RowKit
set_option maxHeartbeats 16000000
set_option maxRecDepth 100000
theorem YQ (w:World):(zeroValue 3).run Tryz.prog w=.ok (.int .i64 0) w:=by kernel_rfl
def nmC (k:Nme):Nat→List Value
 | 1=>[.int .i64 (k.1:Int)]
 | 2=>[.int .i64 (k.1:Int),.int .i64 (k.2.1:Int)]
 | _=>[.int .i64 (k.1:Int),.int .i64 (k.2.1:Int),.int .i64 (k.2.2:Int)]
def WF (k:Nme) (m:Nat):Prop:=(m=1∧k.2.1=0∧k.2.2=0)∨(m=2∧k.2.2=0)∨m=3
def nmF (k:Nme):Array Value:=#[.int .i64 (k.1:Int),.int .i64 (k.2.1:Int),.int .i64 (k.2.2:Int),.int .i64 0]
def WJ:Array Value:=#[.int .i64 0,.int .i64 0,.int .i64 0,.int .i64 0]
theorem WE (b:Bool) (w:World):Calls Tryz.prog 151 #[.bool b] w fun e w'=>e=.returned (.int .i64 (K3 b:Int))∧w=w':=by
 cases b
 all_goals
  go_enter Tryz.func151,Tryz.ntmps151
  go_wp2_with fail
  go_ret
  exact⟨rfl,rfl⟩
theorem Xs {w:World} {gs m c:Nat} {k:Nme} (F:Blk w gs 3 (nmC k m).toArray) (C:WF k m):
  (Builtin.copy_ #[24,24] 3 #[.slice (some ⟨w.heap.size,0,none⟩) 4 4,.slice (some ⟨gs,0,none⟩) m c]).run Tryz.prog (w.alloc (.cells WJ 251))=.ok (goInt m) (w.alloc (.cells (nmF k) 251)):=by
 have z:(nmC k m).length=m:=by rcases C with⟨rfl,-⟩ | ⟨rfl,-⟩ | rfl <;> rfl
 have E:m=1∨m=2∨m=3:=by rcases C with⟨rfl,-⟩ | ⟨rfl,-⟩ | rfl <;> simp
 have I:=run_copy_row (P:=Tryz.prog) (w.alloc (.cells WJ 251)) 24 24 3 3 w.heap.size 0 4 4 ⟨gs,0,none⟩ m c WJ 251 (nmC k m) Tryz.underlying24 (by simpa using congrArg (Option.map fun x:Option Value×Nat×Nat=>x.2.1) JF) (heap_alloc_new w _) (by rw [z]; rcases E with rfl | rfl | rfl <;> rfl)
  (fun j v y=>by
   have G:(⟨gs,0,none⟩:Addr).add j=⟨gs,j,none⟩:=by unfold Addr.add; split <;> simp_all
   rw [G,World.cell?_alloc_lt w _ _ F.lt,F.cell]
   simpa using y) (by rw [z]; show 0+m≤4; omega) (fun v y=>by rcases E with rfl | rfl | rfl <;> (simp [nmC] at y; rcases y with rfl | rfl | rfl <;> rfl))
 rw [I,z,World.setRow_alloc_new]
 congr 4
 obtain⟨a,b,e⟩:=k
 rcases C with⟨rfl,h1,h⟩ | ⟨rfl,h⟩ | rfl
 ·simp only at h1 h
  subst h1 h
  rfl
 ·simp only at h
  subst h
  rfl
 ·rfl
theorem Xj {w0 wr:World} {gd gm n gs m c:Nat} {vS vA vM:Value} {d:Drw} {ls:List (Nat×TypeId×Array Value)} {k:Nme} (h:DrM w0 wr gd gm vS vA vM d n ls) (Z:Blk wr gs 3 (nmC k m).toArray) (W:WF k m) (hn:n≤1000000):
  Calls Tryz.prog 143 #[.pointer (some ⟨gd,0,none⟩),.slice (some ⟨gs,0,none⟩) m c] wr (Ret fun v w'=>v=AR (d.add k) k∧DrM w0 w' gd gm vS vA vM (d.add k) (n+1) ls):=by
 have U:=Xs (c:=c) Z W
 obtain⟨w1,a7,J,F,a5⟩:=Ae wr (nmF k) 251
 rw [a7] at U
 unfold WJ at U
 have h1:=h.keep J
 have C:=h1.keep (Ap w1)
 have a9:=h1.bd.cell
 have a4:=F.cell
 have O:=Ft W3 Tryz.underlying158 YQ C.map k
 have a2:=h.sz
 have ag:d.nm.length≤1000000:=by unfold Drw.size at a2; omega
 clear Z W a5 h a2 h1
 unfold nmF at a4
 by_cases y:k∈d.nm
 ·simp only [y,if_true,decide_true,Wk] at O
  rw [show @List.idxOf Nme instBEqOfDecidableEq k d.nm=d.num k from rfl] at O
  have I:Hid (AR (d.add k) k=.int .i64 (d.num k:Int)):=by show _=_; rw [Drw.add_of_mem y]; rfl
  have G:=hide (C.old y)
  clear C y J F
  go_enter Tryz.func143,Tryz.ntmps143
  go_wp2_with fail
  refine Reg.cP [0,1,3,7,0,31,63,127,127,255,1023] ?_
  go_wp2_with fail
  exact bodyPost_ret (v:=AR (d.add k) k) (by rw [I.out]; simp [results,Tryz.results143,go_sem]) rfl ⟨rfl,G.out⟩
 ·simp only [y,if_false,decide_false,Wk] at O
  have z:=C.keep (Ap w1.drew)
  obtain⟨wm,a6,a3,M,ad⟩:=EY W3 Tryz.underlying158 z.map k y
  simp only [Wk] at a6
  have V:Ac w1.drew.drew wm (fun k=>k=gm):=(Ac.of_grown M).mono fun b _ e=>(Option.some.inj e).symm
  have E:=z.bd.kept V (BT z.bd z.map)
  have aa:=E.cell
  have ab:=E.frozen 1
  have ae:=E.lt
  have I:Hid (AR (d.add k) k=.int .i64 (d.nm.length:Int)):=by
   show _=_
   unfold AR Drw.num Drw.add
   rw [if_neg y,X5 y]
  have G:=hide (z.addN y a3 M)
  clear C z y J F V E a3 M
  go_enter Tryz.func143,Tryz.ntmps143
  go_wp2_with fail
  refine Reg.cP [0,1,3,7,0,31,63,127,127,255,1023] ?_
  go_wp2_with fail
  refine Reg.cP [0,1,3,7,0,0,63] ?_
  go_wp2_with fail
  exact bodyPost_ret (v:=AR (d.add k) k) (by rw [I.out]; simp [results,Tryz.results143,go_sem]) rfl ⟨rfl,G.out⟩
theorem Wy {w0 wr:World} {gd gm n m c:Nat} {vS vA vM:Value} {d:Drw} {ls:List (Nat×TypeId×Array Value)} (k:Nme) (h:DrM w0 wr gd gm vS vA vM d n ls) (C:WF k m) (E:n≤1000000) {cs:Array Value} (z:cs=(nmC k m).toArray):
  Calls Tryz.prog 143 #[.pointer (some ⟨gd,0,none⟩),.slice (some ⟨wr.heap.size,0,none⟩) m c] (wr.alloc (.cells cs 3)) (Ret fun v w'=>v=AR (d.add k) k∧DrM w0 w' gd gm vS vA vM (d.add k) (n+1) ls):=by
 subst z
 have y:=h.push 3 (nmC k m).toArray
 exact Xj (y.sub fun x F=>List.mem_cons_of_mem _ F) (y.blk (List.mem_cons_self)) C E
theorem W6 {w0 wr:World} {gd gm n:Nat} {vS vA vM:Value} {d:Drw} {ls:List (Nat×TypeId×Array Value)} {a b:Nme} {i o:Int} (h:DrM w0 wr gd gm vS vA vM d n ls) (E:a∈d.nm) (F:b∈d.nm) (hn:n≤1000000):
  Calls Tryz.prog 147 #[.pointer (some ⟨gd,0,none⟩),AR d a,.int .i64 i,.int .i64 o,AR d b] wr (Ret fun v w'=>v=.tuple #[]∧∃vM',DrM w0 w' gd gm vS vA vM' (d.mov a i o b) (n+1) ls):=by
 have a6:=h.bd.cell
 have C:=h.mv
 obtain⟨M,O,rfl⟩:=AH C
 have J:=h.sz
 have aa:d.mv.length≤1000000:=by unfold Drw.size at J; omega
 have a3:=h.below.size
 have y:=hide h
 have I:=hide C
 have V:=hide E
 have W:=hide F
 clear h E F J C
 unfold AR
 go_enter Tryz.func147,Tryz.ntmps147
 go_wp2_with (at_builtin; refine BP Xg rfl _ _ rfl w0.heap.size (.slice M d.mv.length O) d.mv.length _ rfl I.out (mC (d.enc (a,i,o,b))) 1 rfl rfl (by simp [mC,Value.oneCell']) (by omega) a3 ?_; intro g a4 w2 a2 G Z a8; have z:=y.out.bd.kept G (Aw I.out y.out.bd (by decide)); have a5:=z.cell; have a7:=z.frozen 4; have a9:=z.lt; have U:=hide (y.out.addM V.out W.out G a2 Z))
 exact bodyPost_ret (v:=.tuple #[]) (by simp [results,Tryz.results147,go_sem]) rfl ⟨rfl,_,U.out⟩
theorem X1 {w:World} {g F:Nat} {x n:Int} (y:F=194∨F=146∨F=148) (h:Blk w g 3 #[.int .i64 n]):Calls Tryz.prog F #[.int .i64 x,.pointer (some ⟨g,0,none⟩)] w fun e w'=>e=.returned (.int .i64 n)∧w=w':=by
 have z:=h.cell
 rcases y with rfl | rfl | rfl
 ·go_enter Tryz.func194,Tryz.ntmps194
  go_wp2_with fail
  go_ret
  exact⟨rfl,rfl⟩
 ·go_enter Tryz.func146,Tryz.ntmps146
  go_wp2_with fail
  go_ret
  exact⟨rfl,rfl⟩
 ·go_enter Tryz.func148,Tryz.ntmps148
  go_wp2_with fail
  go_ret
  exact⟨rfl,rfl⟩
end Go.Proofs.YtfcfpoemojjglaaGreatDoor
namespace Go.Proofs.YtfcfpoemojjglaaGreatDoor
open Go.RowKit
open K (Az Fc AW)
attribute [-go_sem] loadCellsFrom storeCells
set_option maxHeartbeats 16000000
set_option maxRecDepth 100000
theorem Qc {w:World} {B c:Nat} {A:Option Addr} {l:List Int} {x:Int} (h:Sl w B 1 Ai A l):Calls Tryz.prog 149 #[.slice A l.length c,.int .i64 x] w fun e w'=>e=.returned (.bool (alw l x))∧w=w':=by
 have C:=K.containsI_any (c:=c) (x:=x) h
 have F:=h.1
 obtain⟨m,y⟩:∃m,m=l.length:=⟨_,rfl⟩
 have z:Hid (alw l x=(decide (m=0)||decide (x∈l))):=by show _=_; rw [y]; rfl
 rw [←y] at C F ⊢
 rw [z.out]
 clear z h y
 generalize decide (x∈l)=b at*
 by_cases h0:m=0
 ·subst h0
  go_enter Tryz.func149,Tryz.ntmps149
  go_wp2_with fail
  go_ret
  exact⟨rfl,rfl⟩
 ·have G:((m:Int)==0)=false:=by simp; omega
  have E:Hid ((decide (m=0)||b)=b):=by show _=_; rw [decide_eq_false h0]; rfl
  rw [E.out]
  clear h0
  go_enter Tryz.func149,Tryz.ntmps149
  go_wp2_with (go_at_call 74; refine C.mono ?_; rintro e w' ⟨rfl,rfl⟩)
  go_ret
  exact⟨rfl,rfl⟩
def Drw.addO (d:Drw):Option Nme→Drw
 | none=>d
 | some k=>d.add k
def WK (d:Drw):Option Nme→Value
 | none=>.int .i64 (-1)
 | some k=>AR (d.add k) k
def Drw.Has (d:Drw) (S:List (Nme×Nat)):Prop:=∀p∈S,p.1∈d.nm∧d.num p.1=p.2
abbrev Lst:=List (Nat×TypeId×Array Value)
def Wj (w0:World) (gd gm:Nat) (vS vA:Value) (ls:Lst) (L F:Nat) (caps:List Value) (κ:Nat→Option Nme) (S:List (Nme×Nat)):Prop:=
 ∀(wr:World) (vM:Value) (d:Drw) (n x:Nat),x<L→n≤900000→DrM w0 wr gd gm vS vA vM d n ls→d.Has S→
  Calls Tryz.prog F (Value.int .i64 (x:Int)::caps).toArray wr (Ret fun v w'=>v=WK d (κ x)∧DrM w0 w' gd gm vS vA vM (d.addO (κ x)) (n+1) ls)
structure MR (w0:World) (rc:Array Value) (f t:Int) (left right:List Int):Prop where
 fr:rc[2]?=some (.int .i64 f)
 tt:rc[3]?=some (.int .i64 t)
 left:∃A c,rc[14]?=some (.slice A left.length c)∧Sl w0 w0.heap.size 1 Ai A left
 right:∃A c,rc[15]?=some (.slice A right.length c)∧Sl w0 w0.heap.size 1 Ai A right
section
variable {w0:World} {gd gm L g3 g5 g7 g9 e:Nat} {vS vA:Value} {ls:Lst} {rc:Array Value} {left right:List Int} {f t:Int}
theorem WL {g F:Nat} {s:Nme} {e:Nat} (z:F=194∨F=146∨F=148) (C:(g,3,#[.int .i64 (e:Int)])∈ls):Wj w0 gd gm vS vA ls L F [.pointer (some ⟨g,0,none⟩)] (fun _=>some s) [(s,e)]:=by
 intro wr vM d n x _ _ h hS
 refine(X1 z (h.blk C)).mono ?_
 rintro E w' ⟨rfl,rfl⟩
 obtain⟨h1,y⟩:=hS (s,e) (by simp)
 refine⟨?_,h.old h1⟩
 show _=AR (d.add s) s
 rw [Drw.add_of_mem h1]
 unfold AR
 rw [y]
theorem Xo (U:MR w0 rc f t left right) (G:(g3,99,rc)∈ls) (I:(g7,3,#[.int .i64 (e:Int)])∈ls):Wj w0 gd gm vS vA ls L 156 [.pointer (some ⟨g3,0,none⟩),.pointer (some ⟨g7,0,none⟩)] (HH right) [((5,0,0),e)]:=by
 intro wr vM d n x _ _ h hS
 obtain⟨A,c,V,J⟩:=U.right
 clear U
 obtain⟨F,W⟩:=hS ((5,0,0),e) (by simp)
 have M:=(h.blk G).cell 15
 rw [V] at M
 have a6:=(h.blk I).cell
 have z:=Qc (c:=c) (x:=(x:Int)) (J.keep (w':=wr) (fun p hp=>h.below.cell hp) (Nat.le_refl _))
 have hF:=hide (h.old F)
 have hE:Hid (AR (d.add (5,0,0)) (5,0,0)=.int .i64 (e:Int)):=by show _=_; rw [Drw.add_of_mem F]; unfold AR; rw [W]
 have a4:=hide (h.big (m:=n+1) (by omega))
 obtain⟨b,E⟩:∃b,alw right (x:Int)=b:=⟨_,rfl⟩
 rw [E] at z
 obtain⟨m,O⟩:∃m,m=right.length:=⟨_,rfl⟩
 rw [←O] at M z
 have C:=hide E
 clear h F W J V G I hS E O
 show Calls _ _ #[_,_,_] _ _
 cases b
 ·have y:Hid (HH right x=none):=by show _=_; unfold HH; rw [C.out]; rfl
  rw [y.out]
  clear y C
  go_enter Tryz.func156,Tryz.ntmps156
  go_wp2_with (go_at_call 149; refine z.mono ?_; rintro Z w' ⟨rfl,rfl⟩)
  go_ret
  exact⟨rfl,a4.out⟩
 ·have y:Hid (HH right x=some (5,0,0)):=by show _=_; unfold HH; rw [C.out]; rfl
  rw [y.out]
  clear y C
  go_enter Tryz.func156,Tryz.ntmps156
  go_wp2_with (go_at_call 149; refine z.mono ?_; rintro Z w' ⟨rfl,rfl⟩)
  go_ret
  exact⟨Eq.trans rfl hE.out.symm,hF.out⟩
theorem WW (U:MR w0 rc f t left right) (G:(g3,99,rc)∈ls) (I:(g7,3,#[.int .i64 (e:Int)])∈ls):Wj w0 gd gm vS vA ls L 155 [.pointer (some ⟨g3,0,none⟩),.pointer (some ⟨g7,0,none⟩)] (HH right) [((5,0,0),e)]:=by
 intro wr vM d n x _ _ h hS
 obtain⟨A,c,V,J⟩:=U.right
 clear U
 obtain⟨F,W⟩:=hS ((5,0,0),e) (by simp)
 have M:=(h.blk G).cell 15
 rw [V] at M
 have a6:=(h.blk I).cell
 have z:=Qc (c:=c) (x:=(x:Int)) (J.keep (w':=wr) (fun p hp=>h.below.cell hp) (Nat.le_refl _))
 have hF:=hide (h.old F)
 have hE:Hid (AR (d.add (5,0,0)) (5,0,0)=.int .i64 (e:Int)):=by show _=_; rw [Drw.add_of_mem F]; unfold AR; rw [W]
 have a4:=hide (h.big (m:=n+1) (by omega))
 obtain⟨b,E⟩:∃b,alw right (x:Int)=b:=⟨_,rfl⟩
 rw [E] at z
 obtain⟨m,O⟩:∃m,m=right.length:=⟨_,rfl⟩
 rw [←O] at M z
 have C:=hide E
 clear h F W J V G I hS E O
 show Calls _ _ #[_,_,_] _ _
 cases b
 ·have y:Hid (HH right x=none):=by show _=_; unfold HH; rw [C.out]; rfl
  rw [y.out]
  clear y C
  go_enter Tryz.func155,Tryz.ntmps155
  go_wp2_with (go_at_call 149; refine z.mono ?_; rintro Z w' ⟨rfl,rfl⟩)
  go_ret
  exact⟨rfl,a4.out⟩
 ·have y:Hid (HH right x=some (5,0,0)):=by show _=_; unfold HH; rw [C.out]; rfl
  rw [y.out]
  clear y C
  go_enter Tryz.func155,Tryz.ntmps155
  go_wp2_with (go_at_call 149; refine z.mono ?_; rintro Z w' ⟨rfl,rfl⟩)
  go_ret
  exact⟨Eq.trans rfl hE.out.symm,hF.out⟩
theorem WX (I:MR w0 rc f t left right) (z:(g3,99,rc)∈ls) (M:(g5,161,#[.pointer (some ⟨gd,0,none⟩)])∈ls):Wj w0 gd gm vS vA ls L 157 [.pointer (some ⟨g5,0,none⟩),.pointer (some ⟨g3,0,none⟩)] (Wl left) []:=by
 intro wr vM d n x _ hn h hS
 obtain⟨A,c,a5,U⟩:=I.left
 obtain⟨A',c',a6,V⟩:=I.right
 clear I
 have hd:=h.keep (Ap wr)
 have Z:=(hd.blk z).cell 14
 rw [a5] at Z
 have a2:=(hd.blk z).cell 15
 rw [a6] at a2
 have ab:=(hd.blk M).cell
 have C:=Qc (c:=c) (x:=(x:Int)) (U.keep (w':=wr.drew) (fun p G=>hd.below.cell G) (Nat.le_refl _))
 have W:=Qc (c:=c') (x:=(x:Int)) (V.keep (w':=wr.drew) (fun p G=>hd.below.cell G) (Nat.le_refl _))
 obtain⟨b,E⟩:∃b,alw left (x:Int)=b:=⟨_,rfl⟩
 obtain⟨b',F⟩:∃b,alw right (x:Int)=b:=⟨_,rfl⟩
 have O:Hid (Wl left x=some (1,K3 b,0)):=by show _=_; unfold Wl; simp only [E,F]
 rw [E] at C
 rw [F] at W
 rw [O.out]
 have J:=hide (Wy (c:=2) (1,K3 b,0) hd (m:=2) (by right; left; exact⟨rfl,rfl⟩) (by omega) rfl)
 obtain⟨m,hm⟩:∃m,m=left.length:=⟨_,rfl⟩
 rw [←hm] at Z C
 obtain⟨m',a4⟩:∃m,m=right.length:=⟨_,rfl⟩
 rw [←a4] at a2 W
 clear h hd U a5 V a6 z M hS E F hm a4 O
 show Calls _ _ #[_,_,_] _ _
 unfold nmC at J
 dsimp only [List.toArray] at J
 go_enter Tryz.func157,Tryz.ntmps157
 go_wp2_with fail
 refine Reg.cC [0,0,2,0,14,30,62,127,255] [0,1,2,3,4,5,6,7,8] ?_
 refine Reg.rest_walk' [0,1,2,3] [4,5,6,7,8] rfl (by kernel_rfl) ?_
 intro Qf y
 go_wp2_with fail
 first | refine y _ _ ?_ | skip
 try clear y
 refine Reg.rest_act' 4 [5,6,7,8] [0] rfl (by kernel_rfl) ?_
 intro Qf y
 simp only [gT,gS,gZ]
 go_wp2_with fail
 refine C.mono ?_
 rintro e' w' ⟨rfl,rfl⟩
 go_wp2_with fail
 first | refine y _ _ ⟨Reg.same_below (Below.refl _ _) [0] rfl,?_⟩ | refine⟨Reg.same_below (Below.refl _ _) [0] rfl,?_⟩
 try clear y
 refine Reg.rest_act' 5 [6,7,8] [0] rfl (by kernel_rfl) ?_
 intro Qf y
 simp only [gT,gS,gZ]
 go_wp2_with fail
 refine(WE _ _).mono ?_
 rintro e' w' ⟨rfl,rfl⟩
 go_wp2_with fail
 first | refine y _ _ ⟨Reg.same_below (Below.refl _ _) [0] rfl,?_⟩ | refine⟨Reg.same_below (Below.refl _ _) [0] rfl,?_⟩
 try clear y
 refine Reg.rest_walk' [6] [7,8] rfl (by kernel_rfl) ?_
 intro Qf y
 go_wp2_with fail
 first | refine y _ _ ?_ | skip
 try clear y
 refine Reg.rest_act' 7 [8] [] rfl (by kernel_rfl) ?_
 intro Qf y
 simp only [gT,gS,gZ]
 go_wp2_with fail
 refine Calls.ret J.out ?_
 rintro v w2 ⟨rfl,hF⟩
 go_wp2_with fail
 first | refine y _ _ ⟨Reg.nm,?_⟩ | refine⟨Reg.nm,?_⟩
 try clear y
 refine Reg.rest_walk' [8] [] rfl (by kernel_rfl) ?_
 intro Qf y
 go_wp2_with fail
 first | refine y _ _ ?_ | skip
 try clear y
 first | refine Reg.rest_end ?_ | skip
 go_wp2_with fail
 go_ret
 exact⟨Eq.trans rfl rfl,hF⟩
theorem WY (I:MR w0 rc f t left right) (z:(g3,99,rc)∈ls) (M:(g5,161,#[.pointer (some ⟨gd,0,none⟩)])∈ls):Wj w0 gd gm vS vA ls L 150 [.pointer (some ⟨g5,0,none⟩),.pointer (some ⟨g3,0,none⟩)] (Wo left) []:=by
 intro wr vM d n x _ hn h hS
 obtain⟨A,c,a5,U⟩:=I.left
 obtain⟨A',c',a6,V⟩:=I.right
 clear I
 have hd:=h.keep (Ap wr)
 have Z:=(hd.blk z).cell 14
 rw [a5] at Z
 have a2:=(hd.blk z).cell 15
 rw [a6] at a2
 have ab:=(hd.blk M).cell
 have C:=Qc (c:=c) (x:=(x:Int)) (U.keep (w':=wr.drew) (fun p G=>hd.below.cell G) (Nat.le_refl _))
 have W:=Qc (c:=c') (x:=(x:Int)) (V.keep (w':=wr.drew) (fun p G=>hd.below.cell G) (Nat.le_refl _))
 obtain⟨b,E⟩:∃b,alw left (x:Int)=b:=⟨_,rfl⟩
 obtain⟨b',F⟩:∃b,alw right (x:Int)=b:=⟨_,rfl⟩
 have O:Hid (Wo left x=some (4,K3 b,0)):=by show _=_; unfold Wo; simp only [E,F]
 rw [E] at C
 rw [F] at W
 rw [O.out]
 have J:=hide (Wy (c:=2) (4,K3 b,0) hd (m:=2) (by right; left; exact⟨rfl,rfl⟩) (by omega) rfl)
 obtain⟨m,hm⟩:∃m,m=left.length:=⟨_,rfl⟩
 rw [←hm] at Z C
 obtain⟨m',a4⟩:∃m,m=right.length:=⟨_,rfl⟩
 rw [←a4] at a2 W
 clear h hd U a5 V a6 z M hS E F hm a4 O
 show Calls _ _ #[_,_,_] _ _
 unfold nmC at J
 dsimp only [List.toArray] at J
 go_enter Tryz.func150,Tryz.ntmps150
 go_wp2_with fail
 refine Reg.cC [0,0,2,0,14,30,62,127,255] [0,1,2,3,4,5,6,7,8] ?_
 refine Reg.rest_walk' [0,1,2,3] [4,5,6,7,8] rfl (by kernel_rfl) ?_
 intro Qf y
 go_wp2_with fail
 first | refine y _ _ ?_ | skip
 try clear y
 refine Reg.rest_act' 4 [5,6,7,8] [0] rfl (by kernel_rfl) ?_
 intro Qf y
 simp only [gT,gS,gZ]
 go_wp2_with fail
 refine C.mono ?_
 rintro e' w' ⟨rfl,rfl⟩
 go_wp2_with fail
 first | refine y _ _ ⟨Reg.same_below (Below.refl _ _) [0] rfl,?_⟩ | refine⟨Reg.same_below (Below.refl _ _) [0] rfl,?_⟩
 try clear y
 refine Reg.rest_act' 5 [6,7,8] [0] rfl (by kernel_rfl) ?_
 intro Qf y
 simp only [gT,gS,gZ]
 go_wp2_with fail
 refine(WE _ _).mono ?_
 rintro e' w' ⟨rfl,rfl⟩
 go_wp2_with fail
 first | refine y _ _ ⟨Reg.same_below (Below.refl _ _) [0] rfl,?_⟩ | refine⟨Reg.same_below (Below.refl _ _) [0] rfl,?_⟩
 try clear y
 refine Reg.rest_walk' [6] [7,8] rfl (by kernel_rfl) ?_
 intro Qf y
 go_wp2_with fail
 first | refine y _ _ ?_ | skip
 try clear y
 refine Reg.rest_act' 7 [8] [] rfl (by kernel_rfl) ?_
 intro Qf y
 simp only [gT,gS,gZ]
 go_wp2_with fail
 refine Calls.ret J.out ?_
 rintro v w2 ⟨rfl,hF⟩
 go_wp2_with fail
 first | refine y _ _ ⟨Reg.nm,?_⟩ | refine⟨Reg.nm,?_⟩
 try clear y
 refine Reg.rest_walk' [8] [] rfl (by kernel_rfl) ?_
 intro Qf y
 go_wp2_with fail
 first | refine y _ _ ?_ | skip
 try clear y
 first | refine Reg.rest_end ?_ | skip
 go_wp2_with fail
 go_ret
 exact⟨Eq.trans rfl rfl,hF⟩
theorem Xp (M:MR w0 rc f t left right) (C:(g3,99,rc)∈ls) (V:(g5,161,#[.pointer (some ⟨gd,0,none⟩)])∈ls):Wj w0 gd gm vS vA ls L 153 [.pointer (some ⟨g5,0,none⟩),.pointer (some ⟨g3,0,none⟩)] (Wu left right) []:=by
 intro wr vM d n x _ hn h hS
 obtain⟨A,c,a7,Z⟩:=M.left
 obtain⟨A',c',a8,a2⟩:=M.right
 clear M
 have hd:=h.keep (Ap wr)
 have a3:=(hd.blk C).cell 14
 rw [a7] at a3
 have a4:=(hd.blk C).cell 15
 rw [a8] at a4
 have ab:=(hd.blk V).cell
 have E:=Qc (c:=c) (x:=(x:Int)) (Z.keep (w':=wr.drew) (fun p J=>hd.below.cell J) (Nat.le_refl _))
 have F:=Qc (c:=c') (x:=(x:Int)) (a2.keep (w':=wr.drew) (fun p J=>hd.below.cell J) (Nat.le_refl _))
 obtain⟨b,G⟩:∃b,alw left (x:Int)=b:=⟨_,rfl⟩
 obtain⟨U,I⟩:∃b,alw right (x:Int)=b:=⟨_,rfl⟩
 have W:Hid (Wu left right x=some (1,K3 b,K3 U)):=by show _=_; unfold Wu; simp only [G,I]
 rw [G] at E
 rw [I] at F
 rw [W.out]
 have O:=hide (Wy (c:=3) (1,K3 b,K3 U) hd (m:=3) (by right; right; rfl) (by omega) rfl)
 obtain⟨m,hm⟩:∃m,m=left.length:=⟨_,rfl⟩
 rw [←hm] at a3 E
 obtain⟨m',a6⟩:∃m,m=right.length:=⟨_,rfl⟩
 rw [←a6] at a4 F
 clear h hd Z a7 a2 a8 C V hS G I hm a6 W
 show Calls _ _ #[_,_,_] _ _
 unfold nmC at O
 dsimp only [List.toArray] at O
 go_enter Tryz.func153,Tryz.ntmps153
 go_wp2_with fail
 refine Reg.cC [0,0,2,0,14,30,0,64,0,510,1022,2046,4095,8191] [0,1,2,3,6,7,8,4,5,9,10,11,12,13] ?_
 refine Reg.rest_walk' [0,1,2,3,6,7,8] [4,5,9,10,11,12,13] rfl (by kernel_rfl) ?_
 intro Qf y
 go_wp2_with fail
 first | refine y _ _ ?_ | skip
 try clear y
 refine Reg.rest_act' 4 [5,9,10,11,12,13] [0,7] rfl (by kernel_rfl) ?_
 intro Qf y
 simp only [gT,gS,gZ]
 go_wp2_with fail
 refine E.mono ?_
 rintro z w' ⟨rfl,rfl⟩
 go_wp2_with fail
 first | refine y _ _ ⟨Reg.same_below (Below.refl _ _) [0,7] rfl,?_⟩ | refine⟨Reg.same_below (Below.refl _ _) [0,7] rfl,?_⟩
 try clear y
 refine Reg.rest_act' 5 [9,10,11,12,13] [0,7] rfl (by kernel_rfl) ?_
 intro Qf y
 simp only [gT,gS,gZ]
 go_wp2_with fail
 refine(WE _ _).mono ?_
 rintro z w' ⟨rfl,rfl⟩
 go_wp2_with fail
 first | refine y _ _ ⟨Reg.same_below (Below.refl _ _) [0,7] rfl,?_⟩ | refine⟨Reg.same_below (Below.refl _ _) [0,7] rfl,?_⟩
 try clear y
 refine Reg.rest_act' 9 [10,11,12,13] [0] rfl (by kernel_rfl) ?_
 intro Qf y
 simp only [gT,gS,gZ]
 go_wp2_with fail
 refine F.mono ?_
 rintro z w' ⟨rfl,rfl⟩
 go_wp2_with fail
 first | refine y _ _ ⟨Reg.same_below (Below.refl _ _) [0] rfl,?_⟩ | refine⟨Reg.same_below (Below.refl _ _) [0] rfl,?_⟩
 try clear y
 refine Reg.rest_act' 10 [11,12,13] [0] rfl (by kernel_rfl) ?_
 intro Qf y
 simp only [gT,gS,gZ]
 go_wp2_with fail
 refine(WE _ _).mono ?_
 rintro z w' ⟨rfl,rfl⟩
 go_wp2_with fail
 first | refine y _ _ ⟨Reg.same_below (Below.refl _ _) [0] rfl,?_⟩ | refine⟨Reg.same_below (Below.refl _ _) [0] rfl,?_⟩
 try clear y
 refine Reg.rest_walk' [11] [12,13] rfl (by kernel_rfl) ?_
 intro Qf y
 go_wp2_with fail
 first | refine y _ _ ?_ | skip
 try clear y
 refine Reg.rest_act' 12 [13] [] rfl (by kernel_rfl) ?_
 intro Qf y
 simp only [gT,gS,gZ]
 go_wp2_with fail
 refine Calls.ret O.out ?_
 rintro v w2 ⟨rfl,hF⟩
 go_wp2_with fail
 first | refine y _ _ ⟨Reg.nm,?_⟩ | refine⟨Reg.nm,?_⟩
 try clear y
 refine Reg.rest_walk' [13] [] rfl (by kernel_rfl) ?_
 intro Qf y
 go_wp2_with fail
 first | refine y _ _ ?_ | skip
 try clear y
 first | refine Reg.rest_end ?_ | skip
 go_wp2_with fail
 go_ret
 exact⟨Eq.trans rfl rfl,hF⟩
theorem Xr {g11 r:Nat} (I:MR w0 rc f t left right) (z:(g3,99,rc)∈ls) (M:(g5,161,#[.pointer (some ⟨gd,0,none⟩)])∈ls) (h9:(g11,3,#[.int .i64 (r:Int)])∈ls):Wj w0 gd gm vS vA ls L 154 [.pointer (some ⟨g5,0,none⟩),.pointer (some ⟨g3,0,none⟩),.pointer (some ⟨g11,0,none⟩)] (Wt left r) []:=by
 intro wr vM d n x _ hn h hS
 obtain⟨A,c,a5,U⟩:=I.left
 obtain⟨A',c',a6,V⟩:=I.right
 clear I
 have hd:=h.keep (Ap wr)
 have Z:=(hd.blk z).cell 14
 rw [a5] at Z
 have a2:=(hd.blk z).cell 15
 rw [a6] at a2
 have ad:=(hd.blk M).cell
 have ae:=(hd.blk h9).cell
 have C:=Qc (c:=c) (x:=(x:Int)) (U.keep (w':=wr.drew) (fun p G=>hd.below.cell G) (Nat.le_refl _))
 have W:=Qc (c:=c') (x:=(x:Int)) (V.keep (w':=wr.drew) (fun p G=>hd.below.cell G) (Nat.le_refl _))
 obtain⟨b,E⟩:∃b,alw left (x:Int)=b:=⟨_,rfl⟩
 obtain⟨b',F⟩:∃b,alw right (x:Int)=b:=⟨_,rfl⟩
 have O:Hid (Wt left r x=some (1,K3 b,r)):=by show _=_; unfold Wt; simp only [E,F]
 rw [E] at C
 rw [F] at W
 rw [O.out]
 have J:=hide (Wy (c:=3) (1,K3 b,r) hd (m:=3) (by right; right; rfl) (by omega) rfl)
 obtain⟨m,hm⟩:∃m,m=left.length:=⟨_,rfl⟩
 rw [←hm] at Z C
 obtain⟨m',a4⟩:∃m,m=right.length:=⟨_,rfl⟩
 rw [←a4] at a2 W
 clear h hd U a5 V a6 z M hS E F hm a4 O
 show Calls _ _ #[_,_,_,_] _ _
 unfold nmC at J
 dsimp only [List.toArray] at J
 go_enter Tryz.func154,Tryz.ntmps154
 go_wp2_with fail
 refine Reg.cC [0,0,2,0,14,30,0,126,255,511] [0,1,2,3,6,4,5,7,8,9] ?_
 refine Reg.rest_walk' [0,1,2,3,6] [4,5,7,8,9] rfl (by kernel_rfl) ?_
 intro Qf y
 go_wp2_with fail
 first | refine y _ _ ?_ | skip
 try clear y
 refine Reg.rest_act' 4 [5,7,8,9] [0,6] rfl (by kernel_rfl) ?_
 intro Qf y
 simp only [gT,gS,gZ]
 go_wp2_with fail
 refine C.mono ?_
 rintro e' w' ⟨rfl,rfl⟩
 go_wp2_with fail
 first | refine y _ _ ⟨Reg.same_below (Below.refl _ _) [0,6] rfl,?_⟩ | refine⟨Reg.same_below (Below.refl _ _) [0,6] rfl,?_⟩
 try clear y
 refine Reg.rest_act' 5 [7,8,9] [0,6] rfl (by kernel_rfl) ?_
 intro Qf y
 simp only [gT,gS,gZ]
 go_wp2_with fail
 refine(WE _ _).mono ?_
 rintro e' w' ⟨rfl,rfl⟩
 go_wp2_with fail
 first | refine y _ _ ⟨Reg.same_below (Below.refl _ _) [0,6] rfl,?_⟩ | refine⟨Reg.same_below (Below.refl _ _) [0,6] rfl,?_⟩
 try clear y
 refine Reg.rest_walk' [7] [8,9] rfl (by kernel_rfl) ?_
 intro Qf y
 go_wp2_with fail
 first | refine y _ _ ?_ | skip
 try clear y
 refine Reg.rest_act' 8 [9] [] rfl (by kernel_rfl) ?_
 intro Qf y
 simp only [gT,gS,gZ]
 go_wp2_with fail
 refine Calls.ret J.out ?_
 rintro v w2 ⟨rfl,hF⟩
 go_wp2_with fail
 first | refine y _ _ ⟨Reg.nm,?_⟩ | refine⟨Reg.nm,?_⟩
 try clear y
 refine Reg.rest_walk' [9] [] rfl (by kernel_rfl) ?_
 intro Qf y
 go_wp2_with fail
 first | refine y _ _ ?_ | skip
 try clear y
 first | refine Reg.rest_end ?_ | skip
 go_wp2_with fail
 go_ret
 exact⟨Eq.trans rfl rfl,hF⟩
end
end Go.Proofs.YtfcfpoemojjglaaGreatDoor
