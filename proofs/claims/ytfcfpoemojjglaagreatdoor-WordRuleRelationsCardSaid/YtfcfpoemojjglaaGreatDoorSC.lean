/-
  Part SC of a proof.
-/
import Derived.Laws.CopyRow
import Derived.Deep.WholeRow
import Derived.Test.YtfcfpoemojjglaaGreatDoorPA
import Derived.Test.YtfcfpoemojjglaaGreatDoorSB
import Derived.Test.YtfcfpoemojjglaaGreatDoorSA
import Derived.Test.YtfcfpoemojjglaaGreatDoorCA
import Derived.Test.YtfcfpoemojjglaaGreatDoorCE
set_option maxHeartbeats 16000000
set_option maxRecDepth 100000
set_option linter.unusedVariables false
set_option linter.unusedSimpArgs false
namespace Go.Proofs.YtfcfpoemojjglaaGreatDoor
open Go.RowKit
set_option maxHeartbeats 16000000
set_option maxRecDepth 100000
def Wr (k:Nme):Value:=.agg #[.int .i64 (k.1:Int),.int .i64 (k.2.1:Int),.int .i64 (k.2.2:Int),.int .i64 0]
theorem t3s:Tryz.t3.size=1:=by kernel_rfl
theorem eq3 (a b:Int) (d:Nat) (w:World):(Op.equalIn (d+1) 3 (.int .i64 a) (.int .i64 b)).run Tryz.prog w=.ok (a==b) w:=by
 simp [Op.equalIn,go_sem]
theorem Zr (a b c d e f:Int) (w:World):(Op.equalIn (9998+1+1) 251 (.agg #[.int .i64 a,.int .i64 b,.int .i64 c,.int .i64 0]) (.agg #[.int .i64 d,.int .i64 e,.int .i64 f,.int .i64 0])).run Tryz.prog w=.ok (a==d&&(b==e&&c==f)) w:=by
 rw [Op.equalIn]
 by_cases h1:a=d <;> by_cases h:b=e <;> by_cases x:c=f <;> simp [go_sem,List.range',eq3,part,isAgg,sizeOf,t3s,h1,h,x]
theorem Zs (w:World) (s t:Nme):(Op.equal 251 (Wr s) (Wr t)).run Tryz.prog w=.ok (decide (s=t)) w:=by
 obtain⟨a,b,c⟩:=s
 obtain⟨d,e,f⟩:=t
 refine(Zr a b c d e f w).trans ?_
 congr 1
 rw [Bool.eq_iff_iff]
 simp
 omega
theorem Yu (h:Nat) (x:Bool) (w:World) (s:Nme):(Instr.checkKey x (h+1+1) 251 (Wr s)).run Tryz.prog w=.ok () w:=by
 unfold Wr
 simp [Instr.checkKey,go_sem,List.range',part,isAgg,sizeOf,t3s]
theorem XM:El Tryz.prog 251 Wr:=VK Tryz.underlying251 (fun _ _=>rfl) (fun h w s=>Yu 9998 h w s) Zs
def mC (e:Mv):List Value:=[.int .i64 e.frm,.int .i64 e.inn,.int .i64 e.out,.int .i64 e.to]
theorem XG:∀{l:List Mv} {k j:Nat} {e:Mv},l[k]?=some e→j<4→(l.flatMap mC)[k*4+j]?=some (Wy e j)
 | [],_,_,_,h,_=>by simp at h
 | d::l,0,j,e,h,hj=>by
  have:d=e:=by simpa using h
  subst this
  rw [List.flatMap_cons,List.getElem?_append_left (by simp [mC]; omega)]
  match j,hj with
  | 0,_=>rfl
  | 1,_=>rfl
  | 2,_=>rfl
  | 3,_=>rfl
 | d::l,k+1,j,e,h,hj=>by
  rw [List.flatMap_cons,List.getElem?_append_right (by simp [mC]; omega)]
  have y:=XG (l:=l) (k:=k) (j:=j) (by simpa using h) hj
  have x:(k+1)*4+j - (mC d).length=k*4+j:=by simp [mC]; omega
  rw [x]
  exact y
theorem XZ {w:World} {base n B:Nat} {v:Value} {l:List Mv} (h:w.ownsRow base 108 4 v n (l.flatMap mC)) (E:l.length=n) (F:w.heap.size≤B) (J:n≤9223372036854775807):∃A c,v=.slice A l.length c∧Sl w B 4 Wy A l:=by
 subst E
 rcases h.2 with⟨rfl,h0⟩ | ⟨g,cap,y,rfl,G,x,I,M,O,ht⟩
 ·have:l=[]:=List.length_eq_zero_iff.1 h0
  subst this
  exact⟨none,0,rfl,Sl.nil rfl⟩
 ·refine⟨_,cap,rfl,by omega,fun _=>⟨g,0,rfl,?_,fun k d hd j C=>?_⟩⟩
  ·have:=(Array.getElem?_eq_some_iff.1 x).1; omega
  ·rw [cell_of_row w g _ y 108 (0,0) x]
   have:=XG hd C
   rw [←ht,List.getElem?_take] at this
   split at this
   ·simpa using this
   ·cases this
theorem Zx:(Tryz.prog.info? 108).map (fun i=>(i.zero,i.size,i.bytes))=some (some (.agg #[.int .i64 0,.int .i64 0,.int .i64 0,.int .i64 0]),4,32):=by kernel_rfl
theorem Yb:Dd Tryz.prog 53 108 4:=EX Tryz.underlying53 Zx rfl (by omega) (by omega)
def Drw.size (d:Drw):Nat:=d.nm.length+d.mv.length+d.ac.length+d.st.length
def Af (d:Drw) (k:Nme):Value:=.int .i64 (d.num k:Int)
structure DrM (w0 wr:World) (gd gm:Nat) (vS vA vM:Value) (d:Drw) (n:Nat) (ls:List (Nat×TypeId×Array Value)):Prop where
 below:Below w0.heap.size w0 wr
 bd:Blk wr gd 160 #[.int .i64 (d.L:Int),.int .i64 (d.nm.length:Int),vS,vA,vM,.map (some gm)]
 map:Bw wr gm (d.nm.map Wr)
 st:wr.ownsRow w0.heap.size 3 1 vS d.st.length (d.st.map (Af d))
 ac:wr.ownsRow w0.heap.size 3 1 vA d.ac.length (d.ac.map (Af d))
 mv:wr.ownsRow w0.heap.size 108 4 vM d.mv.length ((d.mv.map d.enc).flatMap mC)
 ok:d.Ok
 sz:d.size≤n
 sep:∀g,vS.ownBlock=some g→vA.ownBlock≠some g
 oth:∀x∈ls,Blk wr x.1 x.2.1 x.2.2∧x.1≠gd∧vS.ownBlock≠some x.1∧vA.ownBlock≠some x.1∧vM.ownBlock≠some x.1
 ge:w0.heap.size≤gd∧w0.heap.size≤gm
section
variable {w0 wr w':World} {gd gm n:Nat} {vS vA vM:Value} {d:Drw} {ls ls':List (Nat×TypeId×Array Value)}
theorem DrM.keep (h:DrM w0 wr gd gm vS vA vM d n ls) (y:Below wr.heap.size wr w'):DrM w0 w' gd gm vS vA vM d n ls:=
 ⟨h.below.trans (y.mono h.below.size),h.bd.below y,h.map.keep (y.block _ h.map.lt),Bt h.st y,Bt h.ac y,Bt h.mv y,h.ok,h.sz,h.sep,fun x C=>⟨(h.oth x C).1.below y,(h.oth x C).2⟩,h.ge⟩
theorem DrM.sub (h:DrM w0 wr gd gm vS vA vM d n ls) (y:∀x∈ls',x∈ls):DrM w0 wr gd gm vS vA vM d n ls':=
 ⟨h.below,h.bd,h.map,h.st,h.ac,h.mv,h.ok,h.sz,h.sep,fun x C=>h.oth x (y x C),h.ge⟩
theorem DrM.big (h:DrM w0 wr gd gm vS vA vM d n ls) {m:Nat} (x:n≤m):DrM w0 wr gd gm vS vA vM d m ls:=
 ⟨h.below,h.bd,h.map,h.st,h.ac,h.mv,h.ok,Nat.le_trans h.sz x,h.sep,h.oth,h.ge⟩
theorem DrM.push (h:DrM w0 wr gd gm vS vA vM d n ls) (t:TypeId) (cs:Array Value):DrM w0 (wr.alloc (.cells cs t)) gd gm vS vA vM d n ((wr.heap.size,t,cs)::ls):=by
 obtain⟨G,F,E,C,-⟩:=Ae wr cs t
 rw [F]
 have h1:=h.keep E
 refine⟨h1.below,h1.bd,h1.map,h1.st,h1.ac,h1.mv,h1.ok,h1.sz,h1.sep,fun x y=>?_,h1.ge⟩
 rcases List.mem_cons.1 y with rfl | y
 ·have:=h.bd.lt
  exact⟨C,by show wr.heap.size≠gd; omega,fun e=>absurd (Cj h.st e) (by show ¬wr.heap.size<_; omega),fun e=>absurd (Cj h.ac e) (by show ¬wr.heap.size<_; omega),fun e=>absurd (Cj h.mv e) (by show ¬wr.heap.size<_; omega)⟩
 ·exact h1.oth x y
theorem DrM.blk (h:DrM w0 wr gd gm vS vA vM d n ls) {g:Nat} {t:TypeId} {cs:Array Value} (x:(g,t,cs)∈ls):Blk wr g t cs:=(h.oth _ x).1
theorem Drw.size_add (d:Drw) (k:Nme):(d.add k).size≤d.size+1:=by
 unfold Drw.add Drw.size
 split
 ·omega
 ·simp only [List.length_append,List.length_singleton]; omega
theorem XX (d:Drw) (k:Nme) {l:List Nme} (x:∀j∈l,j∈d.nm):l.map (Af (d.add k))=l.map (Af d):=List.map_congr_left fun j h=>by unfold Af; rw [Drw.add_num d k (x j h)]
theorem DrM.old (h:DrM w0 wr gd gm vS vA vM d n ls) {k:Nme} (hk:k∈d.nm):DrM w0 wr gd gm vS vA vM (d.add k) (n+1) ls:=by
 rw [Drw.add_of_mem hk]
 exact h.big (by omega)
theorem DrM.addN {k:Nme} {y:World} (h:DrM w0 wr gd gm vS vA vM d n ls) (hk:k∉d.nm) (O:Bw y gm ((d.nm++[k]).map Wr)) (W:wr.grownBy y (some gm)):
  DrM w0 (y.setCell ⟨gd,1,none⟩ (.int .i64 ((d.nm.length:Int)+1))) gd gm vS vA vM (d.add k) (n+1) ls:=by
 have M:Ac wr y (fun k=>k=gm):=(Ac.of_grown W).mono fun b _ e=>(Option.some.inj e).symm
 have J:=(Ac.refl y (fun k=>k=gd)).setCell (p:=⟨gd,1,none⟩) (fun _=>rfl) (.int .i64 ((d.nm.length:Int)+1))
 have E:Ac wr (y.setCell ⟨gd,1,none⟩ (.int .i64 ((d.nm.length:Int)+1))) (fun k=>k=gm∨k=gd):=(M.mono fun _ _ e=>.inl e).trans J fun _ _ e=>.inr e
 have I:=h.bd.kept M (BT h.bd h.map)
 have a2:=h.ge
 have G:d.add k={ d with nm:=d.nm++[k] }:=if_neg hk
 have F:∀{e m:Nat} {sz:Nat} {v:Value} {xs:List Value},e≠160→wr.ownsRow w0.heap.size e sz v m xs→(y.setCell ⟨gd,1,none⟩ (.int .i64 ((d.nm.length:Int)+1))).ownsRow w0.heap.size e sz v m xs:=fun V ho=>E.ownsRow ho fun g U e=>by
  rcases e with rfl | rfl
  ·exact Di ho h.map U
  ·exact Aw ho h.bd V U
 refine⟨h.below.trans (E.below h.below.size fun b Z e=>by omega),?_,?_,?_,?_,?_,h.ok.add k,Nat.le_trans (d.size_add k) (by have:=h.sz; omega),h.sep,fun x C=>⟨(h.oth x C).1.kept E ?_,(h.oth x C).2⟩,h.ge⟩
 ·have:=I.set_ 1 (.int .i64 ((d.nm.length:Int)+1))
  rw [Drw.add_L]
  have e:((d.add k).nm.length:Int)=(d.nm.length:Int)+1:=by rw [G]; simp
  rw [e]
  exact this
 ·rw [G]
  exact O.kept J (BT I O).symm
 ·rw [Drw.add_st,XX d k h.ok.st]
  exact F (by decide) h.st
 ·rw [Drw.add_ac,XX d k h.ok.ac]
  exact F (by decide) h.ac
 ·rw [h.ok.mv_add k,Drw.add_mv]
  exact F (by decide) h.mv
 ·rintro(e | e)
  ·exact BT (h.oth x C).1 h.map e
  ·exact(h.oth x C).2.1 e
theorem DrM.addM {a b:Nme} {i o:Int} {C:Value} {E:World} (h:DrM w0 wr gd gm vS vA vM d n ls) (Z:a∈d.nm) (I:b∈d.nm) (O:Ac wr E (fun k=>vM.ownBlock=some k))
  (ho:E.ownsRow w0.heap.size 108 4 C (d.mv.length+1) ((d.mv.map d.enc).flatMap mC++mC (d.enc (a,i,o,b)))) (a2:BJ wr vM C):
  DrM w0 (E.setCell ⟨gd,4,none⟩ C) gd gm vS vA C (d.mov a i o b) (n+1) ls:=by
 have J:=h.bd.kept O (Aw h.mv h.bd (by decide))
 have U:=(Ac.refl E (fun k=>k=gd)).setCell (p:=⟨gd,4,none⟩) (fun _=>rfl) C
 have F:Ac wr (E.setCell ⟨gd,4,none⟩ C) (fun k=>vM.ownBlock=some k∨k=gd):=(O.mono fun _ _ e=>.inl e).trans U fun _ _ e=>.inr e
 have a3:=h.ge
 have V:∀{m:Nat} {sz:Nat} {v:Value} {xs:List Value},wr.ownsRow w0.heap.size 3 sz v m xs→(E.setCell ⟨gd,4,none⟩ C).ownsRow w0.heap.size 3 sz v m xs:=fun G=>F.ownsRow G fun g M e=>by
  rcases e with e | rfl
  ·exact WO G h.mv (by decide) M e
  ·exact Aw G h.bd (by decide) M
 refine⟨h.below.trans (F.below h.below.size fun b I e=>?_),J.set_ 4 C,h.map.kept F ?_,V h.st,V h.ac,?_,h.ok.mov i o Z I,?_,h.sep,fun x y=>⟨(h.oth x y).1.kept F ?_,(h.oth x y).2.1,(h.oth x y).2.2.1,(h.oth x y).2.2.2.1,a2.ne (h.oth x y).1.lt (h.oth x y).2.2.2.2⟩,h.ge⟩
 ·rcases e with e | e
  ·have:=Bb h.mv e; omega
  ·omega
 ·rintro(e | e)
  ·exact Di h.mv h.map e
  ·exact(BT h.bd h.map).symm e
 ·show World.ownsRow _ _ _ _ _ (d.mv++[(a,i,o,b)]).length (((d.mv++[(a,i,o,b)]).map d.enc).flatMap mC)
  rw [List.length_append,List.map_append,List.flatMap_append]
  exact AK U (by simpa using ho) (fun g cs e W=>by subst e; exact W.ne_ J (by decide) rfl)
 ·have:=h.sz
  unfold Drw.size Drw.mov at*
  simp only [List.length_append,List.length_singleton]
  omega
 ·rintro(e | e)
  ·exact(h.oth x y).2.2.2.2 e
  ·exact(h.oth x y).2.1 e
theorem DrM.addA {a:Nme} {vA':Value} {F:World} (h:DrM w0 wr gd gm vS vA vM d n ls) (U:a∈d.nm) (I:Ac wr F (fun k=>vA.ownBlock=some k))
  (ho:F.ownsRow w0.heap.size 3 1 vA' (d.ac.length+1) (d.ac.map (Af d)++[Af d a])) (M:BJ wr vA vA'):
  DrM w0 (F.setCell ⟨gd,3,none⟩ vA') gd gm vS vA' vM (d.acc a) (n+1) ls:=by
 have G:=h.bd.kept I (Aw h.ac h.bd (by decide))
 have J:=(Ac.refl F (fun k=>k=gd)).setCell (p:=⟨gd,3,none⟩) (fun _=>rfl) vA'
 have E:Ac wr (F.setCell ⟨gd,3,none⟩ vA') (fun k=>vA.ownBlock=some k∨k=gd):=(I.mono fun _ _ e=>.inl e).trans J fun _ _ e=>.inr e
 have W:=h.ge
 refine⟨h.below.trans (E.below h.below.size fun b V e=>?_),G.set_ 3 vA',h.map.kept E ?_,E.ownsRow h.st fun g y e=>?_,?_,E.ownsRow h.mv fun g y e=>?_,h.ok.acc U,?_,fun g y e=>?_,fun x C=>⟨(h.oth x C).1.kept E ?_,(h.oth x C).2.1,(h.oth x C).2.2.1,M.ne (h.oth x C).1.lt (h.oth x C).2.2.2.1,(h.oth x C).2.2.2.2⟩,h.ge⟩
 ·rcases e with e | e
  ·have:=Bb h.ac e; omega
  ·omega
 ·rintro(e | e)
  ·exact Di h.ac h.map e
  ·exact(BT h.bd h.map).symm e
 ·rcases e with e | rfl
  ·exact h.sep g y e
  ·exact Aw h.st h.bd (by decide) y
 ·show World.ownsRow _ _ _ _ _ (d.ac++[a]).length ((d.ac++[a]).map (Af d))
  rw [List.length_append,List.map_append]
  exact AK J ho (fun g cs e O=>by subst e; exact O.ne_ G (by decide) rfl)
 ·rcases e with e | rfl
  ·exact WO h.mv h.ac (by decide) y e
  ·exact Aw h.mv h.bd (by decide) y
 ·have:=h.sz
  unfold Drw.size Drw.acc at*
  simp only [List.length_append,List.length_singleton]
  omega
 ·exact M.ne (Cj h.st y) (h.sep g y) e
 ·rintro(e | e)
  ·exact(h.oth x C).2.2.2.1 e
  ·exact(h.oth x C).2.1 e
theorem DrM.addS {a:Nme} {E:Value} {G:World} (h:DrM w0 wr gd gm vS vA vM d n ls) (V:a∈d.nm) (J:Ac wr G (fun k=>vS.ownBlock=some k))
  (ho:G.ownsRow w0.heap.size 3 1 E (d.st.length+1) (d.st.map (Af d)++[Af d a])) (O:BJ wr vS E):
  DrM w0 (G.setCell ⟨gd,2,none⟩ E) gd gm E vA vM (d.beg a) (n+1) ls:=by
 have I:=h.bd.kept J (Aw h.st h.bd (by decide))
 have M:=(Ac.refl G (fun k=>k=gd)).setCell (p:=⟨gd,2,none⟩) (fun _=>rfl) E
 have F:Ac wr (G.setCell ⟨gd,2,none⟩ E) (fun k=>vS.ownBlock=some k∨k=gd):=(J.mono fun _ _ e=>.inl e).trans M fun _ _ e=>.inr e
 have a2:=h.ge
 refine⟨h.below.trans (F.below h.below.size fun b Z e=>?_),I.set_ 2 E,h.map.kept F ?_,?_,F.ownsRow h.ac fun g y e=>?_,F.ownsRow h.mv fun g y e=>?_,h.ok.beg V,?_,fun g y e=>?_,fun x C=>⟨(h.oth x C).1.kept F ?_,(h.oth x C).2.1,O.ne (h.oth x C).1.lt (h.oth x C).2.2.1,(h.oth x C).2.2.2⟩,h.ge⟩
 ·rcases e with e | e
  ·have:=Bb h.st e; omega
  ·omega
 ·rintro(e | e)
  ·exact Di h.st h.map e
  ·exact(BT h.bd h.map).symm e
 ·show World.ownsRow _ _ _ _ _ (d.st++[a]).length ((d.st++[a]).map (Af d))
  rw [List.length_append,List.map_append]
  exact AK M ho (fun g cs e U=>by subst e; exact U.ne_ I (by decide) rfl)
 ·rcases e with e | rfl
  ·exact h.sep g e y
  ·exact Aw h.ac h.bd (by decide) y
 ·rcases e with e | rfl
  ·exact WO h.mv h.st (by decide) y e
  ·exact Aw h.mv h.bd (by decide) y
 ·have:=h.sz
  unfold Drw.size Drw.beg at*
  simp only [List.length_append,List.length_singleton]
  omega
 ·exact O.ne (Cj h.ac e) (fun W=>h.sep g W e) y
 ·rintro(e | e)
  ·exact(h.oth x C).2.2.1 e
  ·exact(h.oth x C).2.1 e
theorem DrM.tr (h:DrM w0 wr gd gm vS vA vM d n ls) (J:n≤4000000) (G:∀A m c,vS=.slice A m c→m≤c):
  Wi wr wr.heap.size (.agg #[.int .i64 (d.L:Int),.int .i64 (d.nm.length:Int),vS,vA,vM]) d.tr:=by
 have I:=h.sz
 unfold Drw.size at I
 have x:∀l:List Nme,l.map (Af d)=(l.map fun k=>(d.num k:Int)).map (Value.int .i64):=fun l=>by rw [List.map_map]; rfl
 have C:=h.st
 have y:=h.ac
 rw [x] at C y
 obtain⟨A1,c1,x,r1⟩:=B8 (B:=wr.heap.size) C (by simp) (Nat.le_refl _) (by omega)
 obtain⟨A2,c2,E,r2⟩:=B8 (B:=wr.heap.size) y (by simp) (Nat.le_refl _) (by omega)
 obtain⟨A3,c3,F,r3⟩:=XZ (B:=wr.heap.size) h.mv (by simp) (Nat.le_refl _) (by omega)
 exact⟨A1,c1,A2,c2,A3,c3,by rw [x,E,F]; rfl,r1,r2,r3,G _ _ _ x⟩
end
end Go.Proofs.YtfcfpoemojjglaaGreatDoor
namespace Go.Proofs.YtfcfpoemojjglaaGreatDoor
open Go.RowKit
set_option maxHeartbeats 16000000
set_option maxRecDepth 100000
theorem aAV (w:World):(zeroValue 3).run Tryz.prog w=.ok (.int .i64 0) w:=by kernel_rfl
def nmC (k:Nme):Nat→List Value
 | 1=>[.int .i64 (k.1:Int)]
 | 2=>[.int .i64 (k.1:Int),.int .i64 (k.2.1:Int)]
 | _=>[.int .i64 (k.1:Int),.int .i64 (k.2.1:Int),.int .i64 (k.2.2:Int)]
def W1 (k:Nme) (m:Nat):Prop:=(m=1∧k.2.1=0∧k.2.2=0)∨(m=2∧k.2.2=0)∨m=3
def nmF (k:Nme):Array Value:=#[.int .i64 (k.1:Int),.int .i64 (k.2.1:Int),.int .i64 (k.2.2:Int),.int .i64 0]
def Xd:Array Value:=#[.int .i64 0,.int .i64 0,.int .i64 0,.int .i64 0]
theorem WY (b:Bool) (w:World):Calls Tryz.prog 151 #[.bool b] w fun e w'=>e=.returned (.int .i64 (Ab b:Int))∧w=w':=by
 cases b
 all_goals
  go_enter Tryz.func151,Tryz.ntmps151
  go_wp2_with fail
  go_ret
  exact⟨rfl,rfl⟩
theorem YA {w:World} {h m c:Nat} {k:Nme} (I:Blk w h 3 (nmC k m).toArray) (F:W1 k m):
  (Builtin.copy_ #[24,24] 3 #[.slice (some ⟨w.heap.size,0,none⟩) 4 4,.slice (some ⟨h,0,none⟩) m c]).run Tryz.prog (w.alloc (.cells Xd 251))=.ok (goInt m) (w.alloc (.cells (nmF k) 251)):=by
 have E:(nmC k m).length=m:=by rcases F with⟨rfl,-⟩ | ⟨rfl,-⟩ | rfl <;> rfl
 have G:m=1∨m=2∨m=3:=by rcases F with⟨rfl,-⟩ | ⟨rfl,-⟩ | rfl <;> simp
 have M:=run_copy_row (P:=Tryz.prog) (w.alloc (.cells Xd 251)) 24 24 3 3 w.heap.size 0 4 4 ⟨h,0,none⟩ m c Xd 251 (nmC k m) Tryz.underlying24 (by simpa using congrArg (Option.map fun x:Option Value×Nat×Nat=>x.2.1) JF) (heap_alloc_new w _) (by rw [E]; rcases G with rfl | rfl | rfl <;> rfl)
  (fun j v C=>by
   have J:(⟨h,0,none⟩:Addr).add j=⟨h,j,none⟩:=by unfold Addr.add; split <;> simp_all
   rw [J,World.cell?_alloc_lt w _ _ I.lt,I.cell]
   simpa using C) (by rw [E]; show 0+m≤4; omega) (fun v C=>by rcases G with rfl | rfl | rfl <;> (simp [nmC] at C; rcases C with rfl | rfl | rfl <;> rfl))
 rw [M,E,World.setRow_alloc_new]
 congr 4
 obtain⟨a,b,e⟩:=k
 rcases F with⟨rfl,h1,y⟩ | ⟨rfl,y⟩ | rfl
 ·simp only at h1 y
  subst h1 y
  rfl
 ·simp only at y
  subst y
  rfl
 ·rfl
theorem Yf {w0 wr:World} {gd gm n V m c:Nat} {vS vA vM:Value} {d:Drw} {ls:List (Nat×TypeId×Array Value)} {k:Nme} (h:DrM w0 wr gd gm vS vA vM d n ls) (hs:Blk wr V 3 (nmC k m).toArray) (hm:W1 k m) (hn:n≤1000000):
  Calls Tryz.prog 143 #[.pointer (some ⟨gd,0,none⟩),.slice (some ⟨V,0,none⟩) m c] wr (Ret fun v w'=>v=Af (d.add k) k∧DrM w0 w' gd gm vS vA vM (d.add k) (n+1) ls):=by
 have W:=YA (c:=c) hs hm
 obtain⟨U,a9,J,F,a7⟩:=Ae wr (nmF k) 251
 rw [a9] at W
 unfold Xd at W
 have h1:=h.keep J
 have C:=h1.keep (Ap U)
 have ab:=h1.bd.cell
 have a6:=F.cell
 have O:=Ft XM Tryz.underlying158 aAV C.map k
 have a4:=h.sz
 have ah:d.nm.length≤1000000:=by unfold Drw.size at a4; omega
 clear hs hm a7 h a4 h1
 unfold nmF at a6
 by_cases x:k∈d.nm
 ·simp only [x,if_true,decide_true,Wr] at O
  rw [show @List.idxOf Nme instBEqOfDecidableEq k d.nm=d.num k from rfl] at O
  have I:Hid (Af (d.add k) k=.int .i64 (d.num k:Int)):=by show _=_; rw [Drw.add_of_mem x]; rfl
  have G:=hide (C.old x)
  clear C x J F
  go_enter Tryz.func143,Tryz.ntmps143
  go_wp2_with fail
  refine Reg.cP [0,1,3,7,0,31,63,127,127,255,1023] ?_
  go_wp2_with fail
  exact bodyPost_ret (v:=Af (d.add k) k) (by rw [I.out]; simp [results,Tryz.results143,go_sem]) rfl ⟨rfl,G.out⟩
 ·simp only [x,if_false,decide_false,Wr] at O
  have y:=C.keep (Ap U.drew)
  obtain⟨wm,a8,a5,M,ae⟩:=EY XM Tryz.underlying158 y.map k x
  simp only [Wr] at a8
  have Z:Ac U.drew.drew wm (fun k=>k=gm):=(Ac.of_grown M).mono fun b _ e=>(Option.some.inj e).symm
  have E:=y.bd.kept Z (BT y.bd y.map)
  have ac:=E.cell
  have ad:=E.frozen 1
  have af:=E.lt
  have I:Hid (Af (d.add k) k=.int .i64 (d.nm.length:Int)):=by
   show _=_
   unfold Af Drw.num Drw.add
   rw [if_neg x,Zw x]
  have G:=hide (y.addN x a5 M)
  clear C y x J F Z E a5 M
  go_enter Tryz.func143,Tryz.ntmps143
  go_wp2_with fail
  refine Reg.cP [0,1,3,7,0,31,63,127,127,255,1023] ?_
  go_wp2_with fail
  refine Reg.cP [0,1,3,7,0,0,63] ?_
  go_wp2_with fail
  exact bodyPost_ret (v:=Af (d.add k) k) (by rw [I.out]; simp [results,Tryz.results143,go_sem]) rfl ⟨rfl,G.out⟩
theorem WR {w0 wr:World} {gd gm n m c:Nat} {vS vA vM:Value} {d:Drw} {ls:List (Nat×TypeId×Array Value)} (k:Nme) (h:DrM w0 wr gd gm vS vA vM d n ls) (E:W1 k m) (F:n≤1000000) {cs:Array Value} (C:cs=(nmC k m).toArray):
  Calls Tryz.prog 143 #[.pointer (some ⟨gd,0,none⟩),.slice (some ⟨wr.heap.size,0,none⟩) m c] (wr.alloc (.cells cs 3)) (Ret fun v w'=>v=Af (d.add k) k∧DrM w0 w' gd gm vS vA vM (d.add k) (n+1) ls):=by
 subst C
 have y:=h.push 3 (nmC k m).toArray
 exact Yf (y.sub fun x G=>List.mem_cons_of_mem _ G) (y.blk (List.mem_cons_self)) E F
theorem XR {w0 wr:World} {gd gm n:Nat} {vS vA vM:Value} {d:Drw} {ls:List (Nat×TypeId×Array Value)} {a b:Nme} {i o:Int} (h:DrM w0 wr gd gm vS vA vM d n ls) (E:a∈d.nm) (F:b∈d.nm) (hn:n≤1000000):
  Calls Tryz.prog 147 #[.pointer (some ⟨gd,0,none⟩),Af d a,.int .i64 i,.int .i64 o,Af d b] wr (Ret fun v w'=>v=.tuple #[]∧∃a4,DrM w0 w' gd gm vS vA a4 (d.mov a i o b) (n+1) ls):=by
 have a6:=h.bd.cell
 have C:=h.mv
 obtain⟨M,O,rfl⟩:=AH C
 have J:=h.sz
 have aa:d.mv.length≤1000000:=by unfold Drw.size at J; omega
 have a3:=h.below.size
 have x:=hide h
 have I:=hide C
 have V:=hide E
 have W:=hide F
 clear h E F J C
 unfold Af
 go_enter Tryz.func147,Tryz.ntmps147
 go_wp2_with (at_builtin; refine BP Yb rfl _ _ rfl w0.heap.size (.slice M d.mv.length O) d.mv.length _ rfl I.out (mC (d.enc (a,i,o,b))) 1 rfl rfl (by simp [mC,Value.oneCell']) (by omega) a3 ?_; intro g cap w2 a2 G Z a8; have y:=x.out.bd.kept G (Aw I.out x.out.bd (by decide)); have a5:=y.cell; have a7:=y.frozen 4; have a9:=y.lt; have U:=hide (x.out.addM V.out W.out G a2 Z))
 exact bodyPost_ret (v:=.tuple #[]) (by simp [results,Tryz.results147,go_sem]) rfl ⟨rfl,_,U.out⟩
theorem Zu {w:World} {g F:Nat} {x n:Int} (y:F=194∨F=146∨F=148) (h:Blk w g 3 #[.int .i64 n]):Calls Tryz.prog F #[.int .i64 x,.pointer (some ⟨g,0,none⟩)] w fun e w'=>e=.returned (.int .i64 n)∧w=w':=by
 have C:=h.cell
 rcases y with rfl | rfl | rfl
 ·go_enter Tryz.func194,Tryz.ntmps194
  go_wp2_with fail
  go_ret
  exact⟨rfl,rfl⟩
 ·go_enter Tryz.func146,Tryz.ntmps146
  go_wp2_with fail
  go_ret
  exact⟨rfl,rfl⟩
 ·go_enter Tryz.func148,Tryz.ntmps148
  go_wp2_with fail
  go_ret
  exact⟨rfl,rfl⟩
end Go.Proofs.YtfcfpoemojjglaaGreatDoor
namespace Go.Proofs.YtfcfpoemojjglaaGreatDoor
open Go.RowKit
open K (Az Fc AW)
attribute [-go_sem] loadCellsFrom storeCells
set_option maxHeartbeats 16000000
set_option maxRecDepth 100000
theorem Wj {w:World} {B c:Nat} {A:Option Addr} {l:List Int} {x:Int} (h:Sl w B 1 Ai A l):Calls Tryz.prog 149 #[.slice A l.length c,.int .i64 x] w fun e w'=>e=.returned (.bool (alw l x))∧w=w':=by
 have E:=K.containsI_any (c:=c) (x:=x) h
 have G:=h.1
 obtain⟨m,y⟩:∃m,m=l.length:=⟨_,rfl⟩
 have C:Hid (alw l x=(decide (m=0)||decide (x∈l))):=by show _=_; rw [y]; rfl
 rw [←y] at E G ⊢
 rw [C.out]
 clear C h y
 generalize decide (x∈l)=b at*
 by_cases h0:m=0
 ·subst h0
  go_enter Tryz.func149,Tryz.ntmps149
  go_wp2_with fail
  go_ret
  exact⟨rfl,rfl⟩
 ·have I:((m:Int)==0)=false:=by simp; omega
  have F:Hid ((decide (m=0)||b)=b):=by show _=_; rw [decide_eq_false h0]; rfl
  rw [F.out]
  clear h0
  go_enter Tryz.func149,Tryz.ntmps149
  go_wp2_with (go_at_call 74; refine E.mono ?_; rintro e w' ⟨rfl,rfl⟩)
  go_ret
  exact⟨rfl,rfl⟩
def Drw.addO (d:Drw):Option Nme→Drw
 | none=>d
 | some k=>d.add k
def Xj (d:Drw):Option Nme→Value
 | none=>.int .i64 (-1)
 | some k=>Af (d.add k) k
def Drw.Has (d:Drw) (S:List (Nme×Nat)):Prop:=∀p∈S,p.1∈d.nm∧d.num p.1=p.2
abbrev Lst:=List (Nat×TypeId×Array Value)
def Wq (w0:World) (gd gm:Nat) (vS vA:Value) (ls:Lst) (L F:Nat) (caps:List Value) (κ:Nat→Option Nme) (S:List (Nme×Nat)):Prop:=
 ∀(wr:World) (vM:Value) (d:Drw) (n x:Nat),x<L→n≤900000→DrM w0 wr gd gm vS vA vM d n ls→d.Has S→
  Calls Tryz.prog F (Value.int .i64 (x:Int)::caps).toArray wr (Ret fun v w'=>v=Xj d (κ x)∧DrM w0 w' gd gm vS vA vM (d.addO (κ x)) (n+1) ls)
structure K4 (w0:World) (rc:Array Value) (f t:Int) (left right:List Int):Prop where
 fr:rc[2]?=some (.int .i64 f)
 tt:rc[3]?=some (.int .i64 t)
 left:∃A c,rc[14]?=some (.slice A left.length c)∧Sl w0 w0.heap.size 1 Ai A left
 right:∃A c,rc[15]?=some (.slice A right.length c)∧Sl w0 w0.heap.size 1 Ai A right
section
variable {w0:World} {gd gm L g3 g5 g7 g9 e:Nat} {vS vA:Value} {ls:Lst} {rc:Array Value} {left right:List Int} {f t:Int}
theorem Xk {g F:Nat} {s:Nme} {e:Nat} (C:F=194∨F=146∨F=148) (E:(g,3,#[.int .i64 (e:Int)])∈ls):Wq w0 gd gm vS vA ls L F [.pointer (some ⟨g,0,none⟩)] (fun _=>some s) [(s,e)]:=by
 intro wr vM d n x _ _ h hS
 refine(Zu C (h.blk E)).mono ?_
 rintro G w' ⟨rfl,rfl⟩
 obtain⟨h1,y⟩:=hS (s,e) (by simp)
 refine⟨?_,h.old h1⟩
 show _=Af (d.add s) s
 rw [Drw.add_of_mem h1]
 unfold Af
 rw [y]
theorem Yv (U:K4 w0 rc f t left right) (G:(g3,99,rc)∈ls) (I:(g7,3,#[.int .i64 (e:Int)])∈ls):Wq w0 gd gm vS vA ls L 156 [.pointer (some ⟨g3,0,none⟩),.pointer (some ⟨g7,0,none⟩)] (B4 right) [((5,0,0),e)]:=by
 intro wr vM d n x _ _ h hS
 obtain⟨A,c,V,J⟩:=U.right
 clear U
 obtain⟨k1,k2⟩:=hS ((5,0,0),e) (by simp)
 have M:=(h.blk G).cell 15
 rw [V] at M
 have a5:=(h.blk I).cell
 have C:=Wj (c:=c) (x:=(x:Int)) (J.keep (w':=wr) (fun p hp=>h.below.cell hp) (Nat.le_refl _))
 have hF:=hide (h.old k1)
 have Z:Hid (Af (d.add (5,0,0)) (5,0,0)=.int .i64 (e:Int)):=by show _=_; rw [Drw.add_of_mem k1]; unfold Af; rw [k2]
 have a3:=hide (h.big (m:=n+1) (by omega))
 obtain⟨b,F⟩:∃b,alw right (x:Int)=b:=⟨_,rfl⟩
 rw [F] at C
 obtain⟨m,O⟩:∃m,m=right.length:=⟨_,rfl⟩
 rw [←O] at M C
 have E:=hide F
 clear h k1 k2 J V G I hS F O
 show Calls _ _ #[_,_,_] _ _
 cases b
 ·have y:Hid (B4 right x=none):=by show _=_; unfold B4; rw [E.out]; rfl
  rw [y.out]
  clear y E
  go_enter Tryz.func156,Tryz.ntmps156
  go_wp2_with (go_at_call 149; refine C.mono ?_; rintro W w' ⟨rfl,rfl⟩)
  go_ret
  exact⟨rfl,a3.out⟩
 ·have y:Hid (B4 right x=some (5,0,0)):=by show _=_; unfold B4; rw [E.out]; rfl
  rw [y.out]
  clear y E
  go_enter Tryz.func156,Tryz.ntmps156
  go_wp2_with (go_at_call 149; refine C.mono ?_; rintro W w' ⟨rfl,rfl⟩)
  go_ret
  exact⟨Eq.trans rfl Z.out.symm,hF.out⟩
theorem XA (U:K4 w0 rc f t left right) (G:(g3,99,rc)∈ls) (I:(g7,3,#[.int .i64 (e:Int)])∈ls):Wq w0 gd gm vS vA ls L 155 [.pointer (some ⟨g3,0,none⟩),.pointer (some ⟨g7,0,none⟩)] (B4 right) [((5,0,0),e)]:=by
 intro wr vM d n x _ _ h hS
 obtain⟨A,c,V,J⟩:=U.right
 clear U
 obtain⟨k1,k2⟩:=hS ((5,0,0),e) (by simp)
 have M:=(h.blk G).cell 15
 rw [V] at M
 have a5:=(h.blk I).cell
 have C:=Wj (c:=c) (x:=(x:Int)) (J.keep (w':=wr) (fun p hp=>h.below.cell hp) (Nat.le_refl _))
 have hF:=hide (h.old k1)
 have Z:Hid (Af (d.add (5,0,0)) (5,0,0)=.int .i64 (e:Int)):=by show _=_; rw [Drw.add_of_mem k1]; unfold Af; rw [k2]
 have a3:=hide (h.big (m:=n+1) (by omega))
 obtain⟨b,F⟩:∃b,alw right (x:Int)=b:=⟨_,rfl⟩
 rw [F] at C
 obtain⟨m,O⟩:∃m,m=right.length:=⟨_,rfl⟩
 rw [←O] at M C
 have E:=hide F
 clear h k1 k2 J V G I hS F O
 show Calls _ _ #[_,_,_] _ _
 cases b
 ·have y:Hid (B4 right x=none):=by show _=_; unfold B4; rw [E.out]; rfl
  rw [y.out]
  clear y E
  go_enter Tryz.func155,Tryz.ntmps155
  go_wp2_with (go_at_call 149; refine C.mono ?_; rintro W w' ⟨rfl,rfl⟩)
  go_ret
  exact⟨rfl,a3.out⟩
 ·have y:Hid (B4 right x=some (5,0,0)):=by show _=_; unfold B4; rw [E.out]; rfl
  rw [y.out]
  clear y E
  go_enter Tryz.func155,Tryz.ntmps155
  go_wp2_with (go_at_call 149; refine C.mono ?_; rintro W w' ⟨rfl,rfl⟩)
  go_ret
  exact⟨Eq.trans rfl Z.out.symm,hF.out⟩
theorem XB (J:K4 w0 rc f t left right) (C:(g3,99,rc)∈ls) (O:(g5,161,#[.pointer (some ⟨gd,0,none⟩)])∈ls):Wq w0 gd gm vS vA ls L 157 [.pointer (some ⟨g5,0,none⟩),.pointer (some ⟨g3,0,none⟩)] (Wh left) []:=by
 intro wr vM d n x _ hn h hS
 obtain⟨A,c,a6,V⟩:=J.left
 obtain⟨A',c',a7,W⟩:=J.right
 clear J
 have hd:=h.keep (Ap wr)
 have a2:=(hd.blk C).cell 14
 rw [a6] at a2
 have a3:=(hd.blk C).cell 15
 rw [a7] at a3
 have ac:=(hd.blk O).cell
 have E:=Wj (c:=c) (x:=(x:Int)) (V.keep (w':=wr.drew) (fun p I=>hd.below.cell I) (Nat.le_refl _))
 have Z:=Wj (c:=c') (x:=(x:Int)) (W.keep (w':=wr.drew) (fun p I=>hd.below.cell I) (Nat.le_refl _))
 obtain⟨b,F⟩:∃b,alw left (x:Int)=b:=⟨_,rfl⟩
 obtain⟨b',G⟩:∃b,alw right (x:Int)=b:=⟨_,rfl⟩
 have U:Hid (Wh left x=some (1,Ab b,0)):=by show _=_; unfold Wh; simp only [F,G]
 rw [F] at E
 rw [G] at Z
 rw [U.out]
 have M:=hide (WR (c:=2) (1,Ab b,0) hd (m:=2) (by right; left; exact⟨rfl,rfl⟩) (by omega) rfl)
 obtain⟨m,hm⟩:∃m,m=left.length:=⟨_,rfl⟩
 rw [←hm] at a2 E
 obtain⟨m',a5⟩:∃m,m=right.length:=⟨_,rfl⟩
 rw [←a5] at a3 Z
 clear h hd V a6 W a7 C O hS F G hm a5 U
 show Calls _ _ #[_,_,_] _ _
 unfold nmC at M
 dsimp only [List.toArray] at M
 go_enter Tryz.func157,Tryz.ntmps157
 go_wp2_with fail
 refine Reg.cC [0,0,2,0,14,30,62,127,255] [0,1,2,3,4,5,6,7,8] ?_
 refine Reg.rest_walk' [0,1,2,3] [4,5,6,7,8] rfl (by kernel_rfl) ?_
 intro Qf y
 go_wp2_with fail
 first | refine y _ _ ?_ | skip
 try clear y
 refine Reg.rest_act' 4 [5,6,7,8] [0] rfl (by kernel_rfl) ?_
 intro Qf y
 simp only [gT,gS,gZ]
 go_wp2_with fail
 refine E.mono ?_
 rintro e' w' ⟨rfl,rfl⟩
 go_wp2_with fail
 first | refine y _ _ ⟨Reg.same_below (Below.refl _ _) [0] rfl,?_⟩ | refine⟨Reg.same_below (Below.refl _ _) [0] rfl,?_⟩
 try clear y
 refine Reg.rest_act' 5 [6,7,8] [0] rfl (by kernel_rfl) ?_
 intro Qf y
 simp only [gT,gS,gZ]
 go_wp2_with fail
 refine(WY _ _).mono ?_
 rintro e' w' ⟨rfl,rfl⟩
 go_wp2_with fail
 first | refine y _ _ ⟨Reg.same_below (Below.refl _ _) [0] rfl,?_⟩ | refine⟨Reg.same_below (Below.refl _ _) [0] rfl,?_⟩
 try clear y
 refine Reg.rest_walk' [6] [7,8] rfl (by kernel_rfl) ?_
 intro Qf y
 go_wp2_with fail
 first | refine y _ _ ?_ | skip
 try clear y
 refine Reg.rest_act' 7 [8] [] rfl (by kernel_rfl) ?_
 intro Qf y
 simp only [gT,gS,gZ]
 go_wp2_with fail
 refine Calls.ret M.out ?_
 rintro v w2 ⟨rfl,hF⟩
 go_wp2_with fail
 first | refine y _ _ ⟨Reg.nm,?_⟩ | refine⟨Reg.nm,?_⟩
 try clear y
 refine Reg.rest_walk' [8] [] rfl (by kernel_rfl) ?_
 intro Qf y
 go_wp2_with fail
 first | refine y _ _ ?_ | skip
 try clear y
 first | refine Reg.rest_end ?_ | skip
 go_wp2_with fail
 go_ret
 exact⟨Eq.trans rfl rfl,hF⟩
theorem XC (J:K4 w0 rc f t left right) (C:(g3,99,rc)∈ls) (O:(g5,161,#[.pointer (some ⟨gd,0,none⟩)])∈ls):Wq w0 gd gm vS vA ls L 150 [.pointer (some ⟨g5,0,none⟩),.pointer (some ⟨g3,0,none⟩)] (Wt left) []:=by
 intro wr vM d n x _ hn h hS
 obtain⟨A,c,a6,V⟩:=J.left
 obtain⟨A',c',a7,W⟩:=J.right
 clear J
 have hd:=h.keep (Ap wr)
 have a2:=(hd.blk C).cell 14
 rw [a6] at a2
 have a3:=(hd.blk C).cell 15
 rw [a7] at a3
 have ac:=(hd.blk O).cell
 have E:=Wj (c:=c) (x:=(x:Int)) (V.keep (w':=wr.drew) (fun p I=>hd.below.cell I) (Nat.le_refl _))
 have Z:=Wj (c:=c') (x:=(x:Int)) (W.keep (w':=wr.drew) (fun p I=>hd.below.cell I) (Nat.le_refl _))
 obtain⟨b,F⟩:∃b,alw left (x:Int)=b:=⟨_,rfl⟩
 obtain⟨b',G⟩:∃b,alw right (x:Int)=b:=⟨_,rfl⟩
 have U:Hid (Wt left x=some (4,Ab b,0)):=by show _=_; unfold Wt; simp only [F,G]
 rw [F] at E
 rw [G] at Z
 rw [U.out]
 have M:=hide (WR (c:=2) (4,Ab b,0) hd (m:=2) (by right; left; exact⟨rfl,rfl⟩) (by omega) rfl)
 obtain⟨m,hm⟩:∃m,m=left.length:=⟨_,rfl⟩
 rw [←hm] at a2 E
 obtain⟨m',a5⟩:∃m,m=right.length:=⟨_,rfl⟩
 rw [←a5] at a3 Z
 clear h hd V a6 W a7 C O hS F G hm a5 U
 show Calls _ _ #[_,_,_] _ _
 unfold nmC at M
 dsimp only [List.toArray] at M
 go_enter Tryz.func150,Tryz.ntmps150
 go_wp2_with fail
 refine Reg.cC [0,0,2,0,14,30,62,127,255] [0,1,2,3,4,5,6,7,8] ?_
 refine Reg.rest_walk' [0,1,2,3] [4,5,6,7,8] rfl (by kernel_rfl) ?_
 intro Qf y
 go_wp2_with fail
 first | refine y _ _ ?_ | skip
 try clear y
 refine Reg.rest_act' 4 [5,6,7,8] [0] rfl (by kernel_rfl) ?_
 intro Qf y
 simp only [gT,gS,gZ]
 go_wp2_with fail
 refine E.mono ?_
 rintro e' w' ⟨rfl,rfl⟩
 go_wp2_with fail
 first | refine y _ _ ⟨Reg.same_below (Below.refl _ _) [0] rfl,?_⟩ | refine⟨Reg.same_below (Below.refl _ _) [0] rfl,?_⟩
 try clear y
 refine Reg.rest_act' 5 [6,7,8] [0] rfl (by kernel_rfl) ?_
 intro Qf y
 simp only [gT,gS,gZ]
 go_wp2_with fail
 refine(WY _ _).mono ?_
 rintro e' w' ⟨rfl,rfl⟩
 go_wp2_with fail
 first | refine y _ _ ⟨Reg.same_below (Below.refl _ _) [0] rfl,?_⟩ | refine⟨Reg.same_below (Below.refl _ _) [0] rfl,?_⟩
 try clear y
 refine Reg.rest_walk' [6] [7,8] rfl (by kernel_rfl) ?_
 intro Qf y
 go_wp2_with fail
 first | refine y _ _ ?_ | skip
 try clear y
 refine Reg.rest_act' 7 [8] [] rfl (by kernel_rfl) ?_
 intro Qf y
 simp only [gT,gS,gZ]
 go_wp2_with fail
 refine Calls.ret M.out ?_
 rintro v w2 ⟨rfl,hF⟩
 go_wp2_with fail
 first | refine y _ _ ⟨Reg.nm,?_⟩ | refine⟨Reg.nm,?_⟩
 try clear y
 refine Reg.rest_walk' [8] [] rfl (by kernel_rfl) ?_
 intro Qf y
 go_wp2_with fail
 first | refine y _ _ ?_ | skip
 try clear y
 first | refine Reg.rest_end ?_ | skip
 go_wp2_with fail
 go_ret
 exact⟨Eq.trans rfl rfl,hF⟩
theorem Yw (O:K4 w0 rc f t left right) (E:(g3,99,rc)∈ls) (W:(g5,161,#[.pointer (some ⟨gd,0,none⟩)])∈ls):Wq w0 gd gm vS vA ls L 153 [.pointer (some ⟨g5,0,none⟩),.pointer (some ⟨g3,0,none⟩)] (WH left right) []:=by
 intro wr vM d n x _ hn h hS
 obtain⟨A,c,a8,a2⟩:=O.left
 obtain⟨A',c',a9,a3⟩:=O.right
 clear O
 have hd:=h.keep (Ap wr)
 have a4:=(hd.blk E).cell 14
 rw [a8] at a4
 have a5:=(hd.blk E).cell 15
 rw [a9] at a5
 have ac:=(hd.blk W).cell
 have F:=Wj (c:=c) (x:=(x:Int)) (a2.keep (w':=wr.drew) (fun p M=>hd.below.cell M) (Nat.le_refl _))
 have G:=Wj (c:=c') (x:=(x:Int)) (a3.keep (w':=wr.drew) (fun p M=>hd.below.cell M) (Nat.le_refl _))
 obtain⟨b,I⟩:∃b,alw left (x:Int)=b:=⟨_,rfl⟩
 obtain⟨V,J⟩:∃b,alw right (x:Int)=b:=⟨_,rfl⟩
 have Z:Hid (WH left right x=some (1,Ab b,Ab V)):=by show _=_; unfold WH; simp only [I,J]
 rw [I] at F
 rw [J] at G
 rw [Z.out]
 have U:=hide (WR (c:=3) (1,Ab b,Ab V) hd (m:=3) (by right; right; rfl) (by omega) rfl)
 obtain⟨m,hm⟩:∃m,m=left.length:=⟨_,rfl⟩
 rw [←hm] at a4 F
 obtain⟨m',a7⟩:∃m,m=right.length:=⟨_,rfl⟩
 rw [←a7] at a5 G
 clear h hd a2 a8 a3 a9 E W hS I J hm a7 Z
 show Calls _ _ #[_,_,_] _ _
 unfold nmC at U
 dsimp only [List.toArray] at U
 go_enter Tryz.func153,Tryz.ntmps153
 go_wp2_with fail
 refine Reg.cC [0,0,2,0,14,30,0,64,0,510,1022,2046,4095,8191] [0,1,2,3,6,7,8,4,5,9,10,11,12,13] ?_
 refine Reg.rest_walk' [0,1,2,3,6,7,8] [4,5,9,10,11,12,13] rfl (by kernel_rfl) ?_
 intro Qf y
 go_wp2_with fail
 first | refine y _ _ ?_ | skip
 try clear y
 refine Reg.rest_act' 4 [5,9,10,11,12,13] [0,7] rfl (by kernel_rfl) ?_
 intro Qf y
 simp only [gT,gS,gZ]
 go_wp2_with fail
 refine F.mono ?_
 rintro C w' ⟨rfl,rfl⟩
 go_wp2_with fail
 first | refine y _ _ ⟨Reg.same_below (Below.refl _ _) [0,7] rfl,?_⟩ | refine⟨Reg.same_below (Below.refl _ _) [0,7] rfl,?_⟩
 try clear y
 refine Reg.rest_act' 5 [9,10,11,12,13] [0,7] rfl (by kernel_rfl) ?_
 intro Qf y
 simp only [gT,gS,gZ]
 go_wp2_with fail
 refine(WY _ _).mono ?_
 rintro C w' ⟨rfl,rfl⟩
 go_wp2_with fail
 first | refine y _ _ ⟨Reg.same_below (Below.refl _ _) [0,7] rfl,?_⟩ | refine⟨Reg.same_below (Below.refl _ _) [0,7] rfl,?_⟩
 try clear y
 refine Reg.rest_act' 9 [10,11,12,13] [0] rfl (by kernel_rfl) ?_
 intro Qf y
 simp only [gT,gS,gZ]
 go_wp2_with fail
 refine G.mono ?_
 rintro C w' ⟨rfl,rfl⟩
 go_wp2_with fail
 first | refine y _ _ ⟨Reg.same_below (Below.refl _ _) [0] rfl,?_⟩ | refine⟨Reg.same_below (Below.refl _ _) [0] rfl,?_⟩
 try clear y
 refine Reg.rest_act' 10 [11,12,13] [0] rfl (by kernel_rfl) ?_
 intro Qf y
 simp only [gT,gS,gZ]
 go_wp2_with fail
 refine(WY _ _).mono ?_
 rintro C w' ⟨rfl,rfl⟩
 go_wp2_with fail
 first | refine y _ _ ⟨Reg.same_below (Below.refl _ _) [0] rfl,?_⟩ | refine⟨Reg.same_below (Below.refl _ _) [0] rfl,?_⟩
 try clear y
 refine Reg.rest_walk' [11] [12,13] rfl (by kernel_rfl) ?_
 intro Qf y
 go_wp2_with fail
 first | refine y _ _ ?_ | skip
 try clear y
 refine Reg.rest_act' 12 [13] [] rfl (by kernel_rfl) ?_
 intro Qf y
 simp only [gT,gS,gZ]
 go_wp2_with fail
 refine Calls.ret U.out ?_
 rintro v w2 ⟨rfl,hF⟩
 go_wp2_with fail
 first | refine y _ _ ⟨Reg.nm,?_⟩ | refine⟨Reg.nm,?_⟩
 try clear y
 refine Reg.rest_walk' [13] [] rfl (by kernel_rfl) ?_
 intro Qf y
 go_wp2_with fail
 first | refine y _ _ ?_ | skip
 try clear y
 first | refine Reg.rest_end ?_ | skip
 go_wp2_with fail
 go_ret
 exact⟨Eq.trans rfl rfl,hF⟩
theorem Yy {g11 r:Nat} (J:K4 w0 rc f t left right) (C:(g3,99,rc)∈ls) (O:(g5,161,#[.pointer (some ⟨gd,0,none⟩)])∈ls) (h9:(g11,3,#[.int .i64 (r:Int)])∈ls):Wq w0 gd gm vS vA ls L 154 [.pointer (some ⟨g5,0,none⟩),.pointer (some ⟨g3,0,none⟩),.pointer (some ⟨g11,0,none⟩)] (WG left r) []:=by
 intro wr vM d n x _ hn h hS
 obtain⟨A,c,a6,V⟩:=J.left
 obtain⟨A',c',a7,W⟩:=J.right
 clear J
 have hd:=h.keep (Ap wr)
 have a2:=(hd.blk C).cell 14
 rw [a6] at a2
 have a3:=(hd.blk C).cell 15
 rw [a7] at a3
 have ad:=(hd.blk O).cell
 have ae:=(hd.blk h9).cell
 have E:=Wj (c:=c) (x:=(x:Int)) (V.keep (w':=wr.drew) (fun p I=>hd.below.cell I) (Nat.le_refl _))
 have Z:=Wj (c:=c') (x:=(x:Int)) (W.keep (w':=wr.drew) (fun p I=>hd.below.cell I) (Nat.le_refl _))
 obtain⟨b,F⟩:∃b,alw left (x:Int)=b:=⟨_,rfl⟩
 obtain⟨b',G⟩:∃b,alw right (x:Int)=b:=⟨_,rfl⟩
 have U:Hid (WG left r x=some (1,Ab b,r)):=by show _=_; unfold WG; simp only [F,G]
 rw [F] at E
 rw [G] at Z
 rw [U.out]
 have M:=hide (WR (c:=3) (1,Ab b,r) hd (m:=3) (by right; right; rfl) (by omega) rfl)
 obtain⟨m,hm⟩:∃m,m=left.length:=⟨_,rfl⟩
 rw [←hm] at a2 E
 obtain⟨m',a5⟩:∃m,m=right.length:=⟨_,rfl⟩
 rw [←a5] at a3 Z
 clear h hd V a6 W a7 C O hS F G hm a5 U
 show Calls _ _ #[_,_,_,_] _ _
 unfold nmC at M
 dsimp only [List.toArray] at M
 go_enter Tryz.func154,Tryz.ntmps154
 go_wp2_with fail
 refine Reg.cC [0,0,2,0,14,30,0,126,255,511] [0,1,2,3,6,4,5,7,8,9] ?_
 refine Reg.rest_walk' [0,1,2,3,6] [4,5,7,8,9] rfl (by kernel_rfl) ?_
 intro Qf y
 go_wp2_with fail
 first | refine y _ _ ?_ | skip
 try clear y
 refine Reg.rest_act' 4 [5,7,8,9] [0,6] rfl (by kernel_rfl) ?_
 intro Qf y
 simp only [gT,gS,gZ]
 go_wp2_with fail
 refine E.mono ?_
 rintro e' w' ⟨rfl,rfl⟩
 go_wp2_with fail
 first | refine y _ _ ⟨Reg.same_below (Below.refl _ _) [0,6] rfl,?_⟩ | refine⟨Reg.same_below (Below.refl _ _) [0,6] rfl,?_⟩
 try clear y
 refine Reg.rest_act' 5 [7,8,9] [0,6] rfl (by kernel_rfl) ?_
 intro Qf y
 simp only [gT,gS,gZ]
 go_wp2_with fail
 refine(WY _ _).mono ?_
 rintro e' w' ⟨rfl,rfl⟩
 go_wp2_with fail
 first | refine y _ _ ⟨Reg.same_below (Below.refl _ _) [0,6] rfl,?_⟩ | refine⟨Reg.same_below (Below.refl _ _) [0,6] rfl,?_⟩
 try clear y
 refine Reg.rest_walk' [7] [8,9] rfl (by kernel_rfl) ?_
 intro Qf y
 go_wp2_with fail
 first | refine y _ _ ?_ | skip
 try clear y
 refine Reg.rest_act' 8 [9] [] rfl (by kernel_rfl) ?_
 intro Qf y
 simp only [gT,gS,gZ]
 go_wp2_with fail
 refine Calls.ret M.out ?_
 rintro v w2 ⟨rfl,hF⟩
 go_wp2_with fail
 first | refine y _ _ ⟨Reg.nm,?_⟩ | refine⟨Reg.nm,?_⟩
 try clear y
 refine Reg.rest_walk' [9] [] rfl (by kernel_rfl) ?_
 intro Qf y
 go_wp2_with fail
 first | refine y _ _ ?_ | skip
 try clear y
 first | refine Reg.rest_end ?_ | skip
 go_wp2_with fail
 go_ret
 exact⟨Eq.trans rfl rfl,hF⟩
end
end Go.Proofs.YtfcfpoemojjglaaGreatDoor
