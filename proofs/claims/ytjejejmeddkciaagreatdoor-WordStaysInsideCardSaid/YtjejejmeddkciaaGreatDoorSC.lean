/-
  Part SC of a proof.
-/
import Derived.Laws.CopyRow
import Derived.Deep.WholeRow
import Derived.Test.YtjejejmeddkciaaGreatDoorPA
import Derived.Test.YtjejejmeddkciaaGreatDoorSB
import Derived.Test.YtjejejmeddkciaaGreatDoorSA
import Derived.Test.YtjejejmeddkciaaGreatDoorCA
import Derived.Test.YtjejejmeddkciaaGreatDoorCE
set_option maxHeartbeats 16000000
set_option maxRecDepth 100000
set_option linter.unusedVariables false
set_option linter.unusedSimpArgs false
namespace Go.Proofs.YtjejejmeddkciaaGreatDoor
open Go.RowKit
set_option maxHeartbeats 16000000
set_option maxRecDepth 100000
def Wr (k:Nme):Value:=.agg #[.int .i64 (k.1:Int),.int .i64 (k.2.1:Int),.int .i64 (k.2.2:Int),.int .i64 0]
theorem t3s:Tryz.t3.size=1:=by kernel_rfl
theorem eq3 (a b:Int) (d:Nat) (w:World):(Op.equalIn (d+1) 3 (.int .i64 a) (.int .i64 b)).run Tryz.prog w=.ok (a==b) w:=by
 simp [Op.equalIn,go_sem]
theorem Zr (a b c d e f:Int) (w:World):(Op.equalIn (9998+1+1) 238 (.agg #[.int .i64 a,.int .i64 b,.int .i64 c,.int .i64 0]) (.agg #[.int .i64 d,.int .i64 e,.int .i64 f,.int .i64 0])).run Tryz.prog w=.ok (a==d&&(b==e&&c==f)) w:=by
 rw [Op.equalIn];by_cases h1:a=d <;> by_cases h:b=e <;> by_cases C:c=f <;> simp [go_sem,List.range',eq3,part,isAgg,sizeOf,t3s,h1,h,C]
theorem Zs (w:World) (s t:Nme):(Op.equal 238 (Wr s) (Wr t)).run Tryz.prog w=.ok (decide (s=t)) w:=by
 obtain⟨a,b,c⟩:=s;obtain⟨d,e,f⟩:=t;refine(Zr a b c d e f w).trans ?_;congr 1;rw [Bool.eq_iff_iff];simp;omega
theorem Yu (h:Nat) (C:Bool) (w:World) (s:Nme):(Instr.checkKey C (h+1+1) 238 (Wr s)).run Tryz.prog w=.ok () w:=by
 unfold Wr;simp [Instr.checkKey,go_sem,List.range',part,isAgg,sizeOf,t3s]
theorem XM:El Tryz.prog 238 Wr:=VK Tryz.underlying238 (fun _ _=>rfl) (fun h w s=>Yu 9998 h w s) Zs
def mC (e:Mv):List Value:=[.int .i64 e.frm,.int .i64 e.inn,.int .i64 e.out,.int .i64 e.to]
theorem XG:∀{l:List Mv} {k j:Nat} {e:Mv},l[k]?=some e->j<4->(l.flatMap mC)[k*4+j]?=some (Wy e j)
 | [],_,_,_,h,_=>by simp at h
 | d::l,0,j,e,h,hj=>by
  have:d=e:=by simpa using h
  subst this;rw [List.flatMap_cons,List.getElem?_append_left (by simp [mC];omega)]
  match j,hj with
  | 0,_=>rfl
  | 1,_=>rfl
  | 2,_=>rfl
  | 3,_=>rfl
 | d::l,k+1,j,e,h,hj=>by
  rw [List.flatMap_cons,List.getElem?_append_right (by simp [mC];omega)];have E:=XG (l:=l) (k:=k) (j:=j) (by simpa using h) hj;have C:(k+1)*4+j - (mC d).length=k*4+j:=by simp [mC];omega
  rw [C];exact E
theorem XZ {w:World} {base n B:Nat} {v:Value} {l:List Mv} (h:w.ownsRow base 119 4 v n (l.flatMap mC)) (I:l.length=n) (J:w.heap.size<=B) (U:n<=9223372036854775807):∃A c,v=.slice A l.length c/\Sl w B 4 Wy A l:=by
 subst I;rcases h.2 with⟨rfl,h0⟩|⟨g,cap,E,rfl,M,C,O,V,W,ht⟩
 ·have:l=[]:=List.length_eq_zero_iff.1 h0;subst this;exact⟨none,0,rfl,Sl.nil rfl⟩
 ·refine⟨_,cap,rfl,by omega,fun _=>⟨g,0,rfl,?_,fun k d F j G=>?_⟩⟩
  ·have:=(Array.getElem?_eq_some_iff.1 C).1;omega
  ·rw [cell_of_row w g _ E 119 (0,0) C];have:=XG F G;rw [<-ht,List.getElem?_take] at this;split at this
   ·simpa using this
   ·cases this
theorem Zx:(Tryz.prog.info? 119).map (fun i=>(i.zero,i.size,i.bytes))=some (some (.agg #[.int .i64 0,.int .i64 0,.int .i64 0,.int .i64 0]),4,32):=by kernel_rfl
theorem Yb:Dd Tryz.prog 74 119 4:=EX Tryz.underlying74 Zx rfl (by omega) (by omega)
def Drw.size (d:Drw):Nat:=d.nm.length+d.mv.length+d.ac.length+d.st.length
def Af (d:Drw) (k:Nme):Value:=.int .i64 (d.num k:Int)
structure DrM (w0 wr:World) (gd gm:Nat) (vS vA vM:Value) (d:Drw) (n:Nat) (ls:List (Nat×TypeId×Array Value)):Prop where
 below:Below w0.heap.size w0 wr
 bd:Blk wr gd 127 #[.int .i64 (d.L:Int),.int .i64 (d.nm.length:Int),vS,vA,vM,.map (some gm)]
 map:Bw wr gm (d.nm.map Wr)
 st:wr.ownsRow w0.heap.size 3 1 vS d.st.length (d.st.map (Af d))
 ac:wr.ownsRow w0.heap.size 3 1 vA d.ac.length (d.ac.map (Af d))
 mv:wr.ownsRow w0.heap.size 119 4 vM d.mv.length ((d.mv.map d.enc).flatMap mC)
 ok:d.Ok
 sz:d.size<=n
 sep:∀g,vS.ownBlock=some g->vA.ownBlock≠some g
 oth:∀x∈ls,Blk wr x.1 x.2.1 x.2.2/\x.1≠gd/\vS.ownBlock≠some x.1/\vA.ownBlock≠some x.1/\vM.ownBlock≠some x.1
 ge:w0.heap.size<=gd/\w0.heap.size<=gm
section
variable {w0 wr w':World} {gd gm n:Nat} {vS vA vM:Value} {d:Drw} {ls ls':List (Nat×TypeId×Array Value)}
theorem DrM.keep (h:DrM w0 wr gd gm vS vA vM d n ls) (C:Below wr.heap.size wr w'):DrM w0 w' gd gm vS vA vM d n ls:=
 ⟨h.below.trans (C.mono h.below.size),h.bd.below C,h.map.keep (C.block _ h.map.lt),Bt h.st C,Bt h.ac C,Bt h.mv C,h.ok,h.sz,h.sep,fun x E=>⟨(h.oth x E).1.below C,(h.oth x E).2⟩,h.ge⟩
theorem DrM.sub (h:DrM w0 wr gd gm vS vA vM d n ls) (C:∀x∈ls',x∈ls):DrM w0 wr gd gm vS vA vM d n ls':=
 ⟨h.below,h.bd,h.map,h.st,h.ac,h.mv,h.ok,h.sz,h.sep,fun x E=>h.oth x (C x E),h.ge⟩
theorem DrM.big (h:DrM w0 wr gd gm vS vA vM d n ls) {m:Nat} (C:n<=m):DrM w0 wr gd gm vS vA vM d m ls:=
 ⟨h.below,h.bd,h.map,h.st,h.ac,h.mv,h.ok,Nat.le_trans h.sz C,h.sep,h.oth,h.ge⟩
theorem DrM.push (h:DrM w0 wr gd gm vS vA vM d n ls) (t:TypeId) (cs:Array Value):DrM w0 (wr.alloc (.cells cs t)) gd gm vS vA vM d n ((wr.heap.size,t,cs)::ls):=by
 obtain⟨I,G,F,E,-⟩:=Ae wr cs t;rw [G];have h1:=h.keep F;refine⟨h1.below,h1.bd,h1.map,h1.st,h1.ac,h1.mv,h1.ok,h1.sz,h1.sep,fun x C=>?_,h1.ge⟩;rcases List.mem_cons.1 C with rfl|C
 ·have:=h.bd.lt;exact⟨E,by show wr.heap.size≠gd;omega,fun e=>absurd (Cj h.st e) (by show ¬wr.heap.size<_;omega),fun e=>absurd (Cj h.ac e) (by show ¬wr.heap.size<_;omega),fun e=>absurd (Cj h.mv e) (by show ¬wr.heap.size<_;omega)⟩
 ·exact h1.oth x C
theorem DrM.blk (h:DrM w0 wr gd gm vS vA vM d n ls) {g:Nat} {t:TypeId} {cs:Array Value} (C:(g,t,cs)∈ls):Blk wr g t cs:=(h.oth _ C).1
theorem Drw.size_add (d:Drw) (k:Nme):(d.add k).size<=d.size+1:=by
 unfold Drw.add Drw.size;split
 ·omega
 ·simp only [List.length_append,List.length_singleton];omega
theorem XX (d:Drw) (k:Nme) {l:List Nme} (C:∀j∈l,j∈d.nm):l.map (Af (d.add k))=l.map (Af d):=List.map_congr_left fun j h=>by unfold Af;rw [Drw.add_num d k (C j h)]
theorem DrM.old (h:DrM w0 wr gd gm vS vA vM d n ls) {k:Nme} (C:k∈d.nm):DrM w0 wr gd gm vS vA vM (d.add k) (n+1) ls:=by
 rw [Drw.add_of_mem C];exact h.big (by omega)
theorem DrM.addN {k:Nme} {C:World} (h:DrM w0 wr gd gm vS vA vM d n ls) (hk:k∉d.nm) (U:Bw C gm ((d.nm++[k]).map Wr)) (Z:wr.grownBy C (some gm)):
  DrM w0 (C.setCell ⟨gd,1,none⟩ (.int .i64 ((d.nm.length:Int)+1))) gd gm vS vA vM (d.add k) (n+1) ls:=by
 have O:Ac wr C (fun k=>k=gm):=(Ac.of_grown Z).mono fun b _ e=>(Option.some.inj e).symm;have M:=(Ac.refl C (fun k=>k=gd)).setCell (p:=⟨gd,1,none⟩) (fun _=>rfl) (.int .i64 ((d.nm.length:Int)+1));have F:Ac wr (C.setCell ⟨gd,1,none⟩ (.int .i64 ((d.nm.length:Int)+1))) (fun k=>k=gm\/k=gd):=(O.mono fun _ _ e=>.inl e).trans M fun _ _ e=>.inr e;have J:=h.bd.kept O (BT h.bd h.map);have a4:=h.ge;have I:d.add k={ d with nm:=d.nm++[k] }:=if_neg hk;have G:∀{e m:Nat} {sz:Nat} {v:Value} {xs:List Value},e≠127->wr.ownsRow w0.heap.size e sz v m xs->(C.setCell ⟨gd,1,none⟩ (.int .i64 ((d.nm.length:Int)+1))).ownsRow w0.heap.size e sz v m xs:=fun W ho=>F.ownsRow ho fun g V e=>by
  rcases e with rfl|rfl
  ·exact Di ho h.map V
  ·exact Aw ho h.bd W V
 refine⟨h.below.trans (F.below h.below.size fun b hb e=>by omega),?_,?_,?_,?_,?_,h.ok.add k,Nat.le_trans (d.size_add k) (by have:=h.sz;omega),h.sep,fun x E=>⟨(h.oth x E).1.kept F ?_,(h.oth x E).2⟩,h.ge⟩
 ·have:=J.set_ 1 (.int .i64 ((d.nm.length:Int)+1));rw [Drw.add_L];have e:((d.add k).nm.length:Int)=(d.nm.length:Int)+1:=by rw [I];simp
  rw [e];exact this
 ·rw [I];exact U.kept M (BT J U).symm
 ·rw [Drw.add_st,XX d k h.ok.st];exact G (by decide) h.st
 ·rw [Drw.add_ac,XX d k h.ok.ac];exact G (by decide) h.ac
 ·rw [h.ok.mv_add k,Drw.add_mv];exact G (by decide) h.mv
 ·rintro(e|e)
  ·exact BT (h.oth x E).1 h.map e
  ·exact(h.oth x E).2.1 e
theorem DrM.addM {a b:Nme} {i o:Int} {E:Value} {F:World} (h:DrM w0 wr gd gm vS vA vM d n ls) (ha:a∈d.nm) (J:b∈d.nm) (U:Ac wr F (fun k=>vM.ownBlock=some k))
  (ho:F.ownsRow w0.heap.size 119 4 E (d.mv.length+1) ((d.mv.map d.enc).flatMap mC++mC (d.enc (a,i,o,b)))) (a3:BJ wr vM E):
  DrM w0 (F.setCell ⟨gd,4,none⟩ E) gd gm vS vA E (d.mov a i o b) (n+1) ls:=by
 have M:=h.bd.kept U (Aw h.mv h.bd (by decide));have V:=(Ac.refl F (fun k=>k=gd)).setCell (p:=⟨gd,4,none⟩) (fun _=>rfl) E;have G:Ac wr (F.setCell ⟨gd,4,none⟩ E) (fun k=>vM.ownBlock=some k\/k=gd):=(U.mono fun _ _ e=>.inl e).trans V fun _ _ e=>.inr e;have a4:=h.ge;have W:∀{m:Nat} {sz:Nat} {v:Value} {xs:List Value},wr.ownsRow w0.heap.size 3 sz v m xs->(F.setCell ⟨gd,4,none⟩ E).ownsRow w0.heap.size 3 sz v m xs:=fun I=>G.ownsRow I fun g O e=>by
  rcases e with e|rfl
  ·exact WO I h.mv (by decide) O e
  ·exact Aw I h.bd (by decide) O
 refine⟨h.below.trans (G.below h.below.size fun b J e=>?_),M.set_ 4 E,h.map.kept G ?_,W h.st,W h.ac,?_,h.ok.mov i o ha J,?_,h.sep,fun x C=>⟨(h.oth x C).1.kept G ?_,(h.oth x C).2.1,(h.oth x C).2.2.1,(h.oth x C).2.2.2.1,a3.ne (h.oth x C).1.lt (h.oth x C).2.2.2.2⟩,h.ge⟩
 ·rcases e with e|e
  ·have:=Bb h.mv e;omega
  ·omega
 ·rintro(e|e)
  ·exact Di h.mv h.map e
  ·exact(BT h.bd h.map).symm e
 ·show World.ownsRow _ _ _ _ _ (d.mv++[(a,i,o,b)]).length (((d.mv++[(a,i,o,b)]).map d.enc).flatMap mC)
  rw [List.length_append,List.map_append,List.flatMap_append];exact AK V (by simpa using ho) (fun g cs e Z=>by subst e;exact Z.ne_ M (by decide) rfl)
 ·have:=h.sz;unfold Drw.size Drw.mov at*;simp only [List.length_append,List.length_singleton];omega
 ·rintro(e|e)
  ·exact(h.oth x C).2.2.2.2 e
  ·exact(h.oth x C).2.1 e
theorem DrM.addA {a:Nme} {vA':Value} {G:World} (h:DrM w0 wr gd gm vS vA vM d n ls) (V:a∈d.nm) (J:Ac wr G (fun k=>vA.ownBlock=some k))
  (ho:G.ownsRow w0.heap.size 3 1 vA' (d.ac.length+1) (d.ac.map (Af d)++[Af d a])) (O:BJ wr vA vA'):
  DrM w0 (G.setCell ⟨gd,3,none⟩ vA') gd gm vS vA' vM (d.acc a) (n+1) ls:=by
 have I:=h.bd.kept J (Aw h.ac h.bd (by decide));have M:=(Ac.refl G (fun k=>k=gd)).setCell (p:=⟨gd,3,none⟩) (fun _=>rfl) vA';have F:Ac wr (G.setCell ⟨gd,3,none⟩ vA') (fun k=>vA.ownBlock=some k\/k=gd):=(J.mono fun _ _ e=>.inl e).trans M fun _ _ e=>.inr e;have Z:=h.ge;refine⟨h.below.trans (F.below h.below.size fun b W e=>?_),I.set_ 3 vA',h.map.kept F ?_,F.ownsRow h.st fun g C e=>?_,?_,F.ownsRow h.mv fun g C e=>?_,h.ok.acc V,?_,fun g C e=>?_,fun x E=>⟨(h.oth x E).1.kept F ?_,(h.oth x E).2.1,(h.oth x E).2.2.1,O.ne (h.oth x E).1.lt (h.oth x E).2.2.2.1,(h.oth x E).2.2.2.2⟩,h.ge⟩
 ·rcases e with e|e
  ·have:=Bb h.ac e;omega
  ·omega
 ·rintro(e|e)
  ·exact Di h.ac h.map e
  ·exact(BT h.bd h.map).symm e
 ·rcases e with e|rfl
  ·exact h.sep g C e
  ·exact Aw h.st h.bd (by decide) C
 ·show World.ownsRow _ _ _ _ _ (d.ac++[a]).length ((d.ac++[a]).map (Af d))
  rw [List.length_append,List.map_append];exact AK M ho (fun g cs e U=>by subst e;exact U.ne_ I (by decide) rfl)
 ·rcases e with e|rfl
  ·exact WO h.mv h.ac (by decide) C e
  ·exact Aw h.mv h.bd (by decide) C
 ·have:=h.sz;unfold Drw.size Drw.acc at*;simp only [List.length_append,List.length_singleton];omega
 ·exact O.ne (Cj h.st C) (h.sep g C) e
 ·rintro(e|e)
  ·exact(h.oth x E).2.2.2.1 e
  ·exact(h.oth x E).2.1 e
theorem DrM.addS {a:Nme} {F:Value} {I:World} (h:DrM w0 wr gd gm vS vA vM d n ls) (W:a∈d.nm) (M:Ac wr I (fun k=>vS.ownBlock=some k))
  (ho:I.ownsRow w0.heap.size 3 1 F (d.st.length+1) (d.st.map (Af d)++[Af d a])) (U:BJ wr vS F):
  DrM w0 (I.setCell ⟨gd,2,none⟩ F) gd gm F vA vM (d.beg a) (n+1) ls:=by
 have J:=h.bd.kept M (Aw h.st h.bd (by decide));have O:=(Ac.refl I (fun k=>k=gd)).setCell (p:=⟨gd,2,none⟩) (fun _=>rfl) F;have G:Ac wr (I.setCell ⟨gd,2,none⟩ F) (fun k=>vS.ownBlock=some k\/k=gd):=(M.mono fun _ _ e=>.inl e).trans O fun _ _ e=>.inr e;have a3:=h.ge;refine⟨h.below.trans (G.below h.below.size fun b hb e=>?_),J.set_ 2 F,h.map.kept G ?_,?_,G.ownsRow h.ac fun g C e=>?_,G.ownsRow h.mv fun g C e=>?_,h.ok.beg W,?_,fun g C e=>?_,fun x E=>⟨(h.oth x E).1.kept G ?_,(h.oth x E).2.1,U.ne (h.oth x E).1.lt (h.oth x E).2.2.1,(h.oth x E).2.2.2⟩,h.ge⟩
 ·rcases e with e|e
  ·have:=Bb h.st e;omega
  ·omega
 ·rintro(e|e)
  ·exact Di h.st h.map e
  ·exact(BT h.bd h.map).symm e
 ·show World.ownsRow _ _ _ _ _ (d.st++[a]).length ((d.st++[a]).map (Af d))
  rw [List.length_append,List.map_append];exact AK O ho (fun g cs e V=>by subst e;exact V.ne_ J (by decide) rfl)
 ·rcases e with e|rfl
  ·exact h.sep g e C
  ·exact Aw h.ac h.bd (by decide) C
 ·rcases e with e|rfl
  ·exact WO h.mv h.st (by decide) C e
  ·exact Aw h.mv h.bd (by decide) C
 ·have:=h.sz;unfold Drw.size Drw.beg at*;simp only [List.length_append,List.length_singleton];omega
 ·exact U.ne (Cj h.ac e) (fun Z=>h.sep g Z e) C
 ·rintro(e|e)
  ·exact(h.oth x E).2.2.1 e
  ·exact(h.oth x E).2.1 e
end
end Go.Proofs.YtjejejmeddkciaaGreatDoor
namespace Go.Proofs.YtjejejmeddkciaaGreatDoor
open Go.RowKit
set_option maxHeartbeats 16000000
set_option maxRecDepth 100000
theorem aAV (w:World):(zeroValue 3).run Tryz.prog w=.ok (.int .i64 0) w:=by kernel_rfl
def nmC (k:Nme):Nat->List Value
 | 1=>[.int .i64 (k.1:Int)]
 | 2=>[.int .i64 (k.1:Int),.int .i64 (k.2.1:Int)]
 | _=>[.int .i64 (k.1:Int),.int .i64 (k.2.1:Int),.int .i64 (k.2.2:Int)]
def W1 (k:Nme) (m:Nat):Prop:=(m=1/\k.2.1=0/\k.2.2=0)\/(m=2/\k.2.2=0)\/m=3
def nmF (k:Nme):Array Value:=#[.int .i64 (k.1:Int),.int .i64 (k.2.1:Int),.int .i64 (k.2.2:Int),.int .i64 0]
def Xd:Array Value:=#[.int .i64 0,.int .i64 0,.int .i64 0,.int .i64 0]
theorem WY (b:Bool) (w:World):Calls Tryz.prog 109 #[.bool b] w fun e w'=>e=.returned (.int .i64 (Ab b:Int))/\w=w':=by
 cases b
 all_goals
  go_enter Tryz.func109,Tryz.ntmps109;go_wp2_with fail;go_ret;exact⟨rfl,rfl⟩
theorem YA {w:World} {h m c:Nat} {k:Nme} (J:Blk w h 3 (nmC k m).toArray) (G:W1 k m):
  (Builtin.copy_ #[24,24] 3 #[.slice (some ⟨w.heap.size,0,none⟩) 4 4,.slice (some ⟨h,0,none⟩) m c]).run Tryz.prog (w.alloc (.cells Xd 238))=.ok (goInt m) (w.alloc (.cells (nmF k) 238)):=by
 have F:(nmC k m).length=m:=by rcases G with⟨rfl,-⟩|⟨rfl,-⟩|rfl <;> rfl
 have I:m=1\/m=2\/m=3:=by rcases G with⟨rfl,-⟩|⟨rfl,-⟩|rfl <;> simp
 have O:=run_copy_row (P:=Tryz.prog) (w.alloc (.cells Xd 238)) 24 24 3 3 w.heap.size 0 4 4 ⟨h,0,none⟩ m c Xd 238 (nmC k m) Tryz.underlying24 (by simpa using congrArg (Option.map fun x:Option Value×Nat×Nat=>x.2.1) JF) (heap_alloc_new w _) (by rw [F];rcases I with rfl|rfl|rfl <;> rfl)
  (fun j v E=>by
   have M:(⟨h,0,none⟩:Addr).add j=⟨h,j,none⟩:=by unfold Addr.add;split <;> simp_all
   rw [M,World.cell?_alloc_lt w _ _ J.lt,J.cell];simpa using E) (by rw [F];show 0+m<=4;omega) (fun v E=>by rcases I with rfl|rfl|rfl <;> (simp [nmC] at E;rcases E with rfl|rfl|rfl <;> rfl))
 rw [O,F,World.setRow_alloc_new];congr 4;obtain⟨a,b,e⟩:=k;rcases G with⟨rfl,h1,C⟩|⟨rfl,C⟩|rfl
 ·simp only at h1 C;subst h1 C;rfl
 ·simp only at C;subst C;rfl
 ·rfl
theorem Yf {w0 wr:World} {gd gm n Z m c:Nat} {vS vA vM:Value} {d:Drw} {ls:List (Nat×TypeId×Array Value)} {k:Nme} (h:DrM w0 wr gd gm vS vA vM d n ls) (hs:Blk wr Z 3 (nmC k m).toArray) (hm:W1 k m) (hn:n<=1000000):
  Calls Tryz.prog 101 #[.pointer (some ⟨gd,0,none⟩),.slice (some ⟨Z,0,none⟩) m c] wr (Ret fun v w'=>v=Af (d.add k) k/\DrM w0 w' gd gm vS vA vM (d.add k) (n+1) ls):=by
 have a2:=YA (c:=c) hs hm;obtain⟨W,ab,O,I,a9⟩:=Ae wr (nmF k) 238;rw [ab] at a2;unfold Xd at a2;have h1:=h.keep O;have F:=h1.keep (Ap W);have ae:=h1.bd.cell;have a8:=I.cell;have V:=Ft XM Tryz.underlying125 aAV F.map k;have a6:=h.sz;have ak:d.nm.length<=1000000:=by unfold Drw.size at a6;omega
 clear hs hm a9 h a6 h1;unfold nmF at a8;by_cases C:k∈d.nm
 ·simp only [C,if_true,decide_true,Wr] at V;rw [show @List.idxOf Nme instBEqOfDecidableEq k d.nm=d.num k from rfl] at V;have M:Hid (Af (d.add k) k=.int .i64 (d.num k:Int)):=by show _=_;rw [Drw.add_of_mem C];rfl
  have J:=hide (F.old C);clear F C O I;go_enter Tryz.func101,Tryz.ntmps101;go_wp2_with fail;refine Reg.cP [0,1,3,7,0,31,63,127,127,255,1023] ?_;go_wp2_with fail;exact bodyPost_ret (v:=Af (d.add k) k) (by rw [M.out];simp [results,Tryz.results101,go_sem]) rfl ⟨rfl,J.out⟩
 ·simp only [C,if_false,decide_false,Wr] at V;have E:=F.keep (Ap W.drew);obtain⟨wm,aa,a7,U,ah⟩:=EY XM Tryz.underlying125 E.map k C;simp only [Wr] at aa;have a3:Ac W.drew.drew wm (fun k=>k=gm):=(Ac.of_grown U).mono fun b _ e=>(Option.some.inj e).symm;have G:=E.bd.kept a3 (BT E.bd E.map);have af:=G.cell;have ag:=G.frozen 1;have ai:=G.lt;have M:Hid (Af (d.add k) k=.int .i64 (d.nm.length:Int)):=by
   show _=_
   unfold Af Drw.num Drw.add;rw [if_neg C,Zw C]
  have J:=hide (E.addN C a7 U);clear F E C O I a3 G a7 U;go_enter Tryz.func101,Tryz.ntmps101;go_wp2_with fail;refine Reg.cP [0,1,3,7,0,31,63,127,127,255,1023] ?_;go_wp2_with fail;refine Reg.cP [0,1,3,7,0,0,63] ?_;go_wp2_with fail;exact bodyPost_ret (v:=Af (d.add k) k) (by rw [M.out];simp [results,Tryz.results101,go_sem]) rfl ⟨rfl,J.out⟩
theorem WR {w0 wr:World} {gd gm n m c:Nat} {vS vA vM:Value} {d:Drw} {ls:List (Nat×TypeId×Array Value)} (k:Nme) (h:DrM w0 wr gd gm vS vA vM d n ls) (F:W1 k m) (G:n<=1000000) {cs:Array Value} (E:cs=(nmC k m).toArray):
  Calls Tryz.prog 101 #[.pointer (some ⟨gd,0,none⟩),.slice (some ⟨wr.heap.size,0,none⟩) m c] (wr.alloc (.cells cs 3)) (Ret fun v w'=>v=Af (d.add k) k/\DrM w0 w' gd gm vS vA vM (d.add k) (n+1) ls):=by
 subst E;have C:=h.push 3 (nmC k m).toArray;exact Yf (C.sub fun x I=>List.mem_cons_of_mem _ I) (C.blk (List.mem_cons_self)) F G
theorem XR {w0 wr:World} {gd gm n:Nat} {vS vA vM:Value} {d:Drw} {ls:List (Nat×TypeId×Array Value)} {a b:Nme} {i o:Int} (h:DrM w0 wr gd gm vS vA vM d n ls) (G:a∈d.nm) (I:b∈d.nm) (hn:n<=1000000):
  Calls Tryz.prog 105 #[.pointer (some ⟨gd,0,none⟩),Af d a,.int .i64 i,.int .i64 o,Af d b] wr (Ret fun v w'=>v=.tuple #[]/\∃a6,DrM w0 w' gd gm vS vA a6 (d.mov a i o b) (n+1) ls):=by
 have a8:=h.bd.cell;have F:=h.mv;obtain⟨U,V,rfl⟩:=AH F;have O:=h.sz;have ad:d.mv.length<=1000000:=by unfold Drw.size at O;omega
 have a5:=h.below.size;have C:=hide h;have M:=hide F;have Z:=hide G;have a2:=hide I;clear h G I O F;unfold Af;go_enter Tryz.func105,Tryz.ntmps105;go_wp2_with (at_builtin;refine BP Yb rfl _ _ rfl w0.heap.size (.slice U d.mv.length V) d.mv.length _ rfl M.out (mC (d.enc (a,i,o,b))) 1 rfl rfl (by simp [mC,Value.oneCell']) (by omega) a5 ?_;intro g cap w2 a4 J a3 aa;have E:=C.out.bd.kept J (Aw M.out C.out.bd (by decide));have a7:=E.cell;have a9:=E.frozen 4;have ab:=E.lt;have W:=hide (C.out.addM Z.out a2.out J a4 a3));exact bodyPost_ret (v:=.tuple #[]) (by simp [results,Tryz.results105,go_sem]) rfl ⟨rfl,_,W.out⟩
theorem Zu {w:World} {g F:Nat} {x n:Int} (C:F=150\/F=104\/F=106) (h:Blk w g 3 #[.int .i64 n]):Calls Tryz.prog F #[.int .i64 x,.pointer (some ⟨g,0,none⟩)] w fun e w'=>e=.returned (.int .i64 n)/\w=w':=by
 have E:=h.cell;rcases C with rfl|rfl|rfl
 ·go_enter Tryz.func150,Tryz.ntmps150;go_wp2_with fail;go_ret;exact⟨rfl,rfl⟩
 ·go_enter Tryz.func104,Tryz.ntmps104;go_wp2_with fail;go_ret;exact⟨rfl,rfl⟩
 ·go_enter Tryz.func106,Tryz.ntmps106;go_wp2_with fail;go_ret;exact⟨rfl,rfl⟩
end Go.Proofs.YtjejejmeddkciaaGreatDoor
namespace Go.Proofs.YtjejejmeddkciaaGreatDoor
open Go.RowKit
open K (Az Fc AW)
attribute [-go_sem] loadCellsFrom storeCells
set_option maxHeartbeats 16000000
set_option maxRecDepth 100000
theorem Wj {w:World} {B c:Nat} {A:Option Addr} {l:List Int} {x:Int} (h:Sl w B 1 Ai A l):Calls Tryz.prog 107 #[.slice A l.length c,.int .i64 x] w fun e w'=>e=.returned (.bool (alw l x))/\w=w':=by
 have F:=K.containsI_any (c:=c) (x:=x) h;have I:=h.1;obtain⟨m,C⟩:∃m,m=l.length:=⟨_,rfl⟩;have E:Hid (alw l x=(decide (m=0)||decide (x∈l))):=by show _=_;rw [C];rfl
 rw [<-C] at F I ⊢;rw [E.out];clear E h C;generalize decide (x∈l)=b at*;by_cases h0:m=0
 ·subst h0;go_enter Tryz.func107,Tryz.ntmps107;go_wp2_with fail;go_ret;exact⟨rfl,rfl⟩
 ·have J:((m:Int)==0)=false:=by simp;omega
  have G:Hid ((decide (m=0)||b)=b):=by show _=_;rw [decide_eq_false h0];rfl
  rw [G.out];clear h0;go_enter Tryz.func107,Tryz.ntmps107;go_wp2_with (go_at_call 75;refine F.mono ?_;rintro e w' ⟨rfl,rfl⟩);go_ret;exact⟨rfl,rfl⟩
def Drw.addO (d:Drw):Option Nme->Drw
 | none=>d
 | some k=>d.add k
def Xj (d:Drw):Option Nme->Value
 | none=>.int .i64 (-1)
 | some k=>Af (d.add k) k
def Drw.Has (d:Drw) (S:List (Nme×Nat)):Prop:=∀p∈S,p.1∈d.nm/\d.num p.1=p.2
abbrev Lst:=List (Nat×TypeId×Array Value)
def Wq (w0:World) (gd gm:Nat) (vS vA:Value) (ls:Lst) (L F:Nat) (caps:List Value) (κ:Nat->Option Nme) (S:List (Nme×Nat)):Prop:=
 ∀(wr:World) (vM:Value) (d:Drw) (n x:Nat),x<L->n<=900000->DrM w0 wr gd gm vS vA vM d n ls->d.Has S->
  Calls Tryz.prog F (Value.int .i64 (x:Int)::caps).toArray wr (Ret fun v w'=>v=Xj d (κ x)/\DrM w0 w' gd gm vS vA vM (d.addO (κ x)) (n+1) ls)
structure K4 (w0:World) (rc:Array Value) (f t:Int) (left right:List Int):Prop where
 fr:rc[2]?=some (.int .i64 f)
 tt:rc[3]?=some (.int .i64 t)
 left:∃A c,rc[14]?=some (.slice A left.length c)/\Sl w0 w0.heap.size 1 Ai A left
 right:∃A c,rc[15]?=some (.slice A right.length c)/\Sl w0 w0.heap.size 1 Ai A right
section
variable {w0:World} {gd gm L g3 g5 g7 g9 e:Nat} {vS vA:Value} {ls:Lst} {rc:Array Value} {left right:List Int} {f t:Int}
theorem Xk {g F:Nat} {s:Nme} {e:Nat} (E:F=150\/F=104\/F=106) (G:(g,3,#[.int .i64 (e:Int)])∈ls):Wq w0 gd gm vS vA ls L F [.pointer (some ⟨g,0,none⟩)] (fun _=>some s) [(s,e)]:=by
 intro wr vM d n x _ _ h hS;refine(Zu E (h.blk G)).mono ?_;rintro I w' ⟨rfl,rfl⟩;obtain⟨h1,C⟩:=hS (s,e) (by simp);refine⟨?_,h.old h1⟩;show _=Af (d.add s) s
 rw [Drw.add_of_mem h1];unfold Af;rw [C]
theorem Yv (W:K4 w0 rc f t left right) (J:(g3,109,rc)∈ls) (M:(g7,3,#[.int .i64 (e:Int)])∈ls):Wq w0 gd gm vS vA ls L 114 [.pointer (some ⟨g3,0,none⟩),.pointer (some ⟨g7,0,none⟩)] (B4 right) [((5,0,0),e)]:=by
 intro wr vM d n x _ _ h hS;obtain⟨A,c,Z,O⟩:=W.right;clear W;obtain⟨I,k2⟩:=hS ((5,0,0),e) (by simp);have U:=(h.blk J).cell 15;rw [Z] at U;have a8:=(h.blk M).cell;have E:=Wj (c:=c) (x:=(x:Int)) (O.keep (w':=wr) (fun p hp=>h.below.cell hp) (Nat.le_refl _));have hF:=hide (h.old I);have hE:Hid (Af (d.add (5,0,0)) (5,0,0)=.int .i64 (e:Int)):=by show _=_;rw [Drw.add_of_mem I];unfold Af;rw [k2]
 have a6:=hide (h.big (m:=n+1) (by omega));obtain⟨b,G⟩:∃b,alw right (x:Int)=b:=⟨_,rfl⟩;rw [G] at E;obtain⟨m,V⟩:∃m,m=right.length:=⟨_,rfl⟩;rw [<-V] at U E;have F:=hide G;clear h I k2 O Z J M hS G V;show Calls _ _ #[_,_,_] _ _
 cases b
 ·have C:Hid (B4 right x=none):=by show _=_;unfold B4;rw [F.out];rfl
  rw [C.out];clear C F;go_enter Tryz.func114,Tryz.ntmps114;go_wp2_with (go_at_call 107;refine E.mono ?_;rintro e' w' ⟨rfl,rfl⟩);go_ret;exact⟨rfl,a6.out⟩
 ·have C:Hid (B4 right x=some (5,0,0)):=by show _=_;unfold B4;rw [F.out];rfl
  rw [C.out];clear C F;go_enter Tryz.func114,Tryz.ntmps114;go_wp2_with (go_at_call 107;refine E.mono ?_;rintro e' w' ⟨rfl,rfl⟩);go_ret;exact⟨Eq.trans rfl hE.out.symm,hF.out⟩
theorem XA (W:K4 w0 rc f t left right) (J:(g3,109,rc)∈ls) (M:(g7,3,#[.int .i64 (e:Int)])∈ls):Wq w0 gd gm vS vA ls L 113 [.pointer (some ⟨g3,0,none⟩),.pointer (some ⟨g7,0,none⟩)] (B4 right) [((5,0,0),e)]:=by
 intro wr vM d n x _ _ h hS;obtain⟨A,c,Z,O⟩:=W.right;clear W;obtain⟨I,k2⟩:=hS ((5,0,0),e) (by simp);have U:=(h.blk J).cell 15;rw [Z] at U;have a8:=(h.blk M).cell;have E:=Wj (c:=c) (x:=(x:Int)) (O.keep (w':=wr) (fun p hp=>h.below.cell hp) (Nat.le_refl _));have hF:=hide (h.old I);have hE:Hid (Af (d.add (5,0,0)) (5,0,0)=.int .i64 (e:Int)):=by show _=_;rw [Drw.add_of_mem I];unfold Af;rw [k2]
 have a6:=hide (h.big (m:=n+1) (by omega));obtain⟨b,G⟩:∃b,alw right (x:Int)=b:=⟨_,rfl⟩;rw [G] at E;obtain⟨m,V⟩:∃m,m=right.length:=⟨_,rfl⟩;rw [<-V] at U E;have F:=hide G;clear h I k2 O Z J M hS G V;show Calls _ _ #[_,_,_] _ _
 cases b
 ·have C:Hid (B4 right x=none):=by show _=_;unfold B4;rw [F.out];rfl
  rw [C.out];clear C F;go_enter Tryz.func113,Tryz.ntmps113;go_wp2_with (go_at_call 107;refine E.mono ?_;rintro e' w' ⟨rfl,rfl⟩);go_ret;exact⟨rfl,a6.out⟩
 ·have C:Hid (B4 right x=some (5,0,0)):=by show _=_;unfold B4;rw [F.out];rfl
  rw [C.out];clear C F;go_enter Tryz.func113,Tryz.ntmps113;go_wp2_with (go_at_call 107;refine E.mono ?_;rintro e' w' ⟨rfl,rfl⟩);go_ret;exact⟨Eq.trans rfl hE.out.symm,hF.out⟩
theorem XB (O:K4 w0 rc f t left right) (F:(g3,109,rc)∈ls) (V:(g5,128,#[.pointer (some ⟨gd,0,none⟩)])∈ls):Wq w0 gd gm vS vA ls L 115 [.pointer (some ⟨g5,0,none⟩),.pointer (some ⟨g3,0,none⟩)] (Wh left) []:=by
 intro wr vM d n x _ hn h hS;obtain⟨A,c,a8,Z⟩:=O.left;obtain⟨A',c',a9,a2⟩:=O.right;clear O;have E:=h.keep (Ap wr);have a4:=(E.blk F).cell 14;rw [a8] at a4;have a5:=(E.blk F).cell 15;rw [a9] at a5;have af:=(E.blk V).cell;have G:=Wj (c:=c) (x:=(x:Int)) (Z.keep (w':=wr.drew) (fun p M=>E.below.cell M) (Nat.le_refl _));have a3:=Wj (c:=c') (x:=(x:Int)) (a2.keep (w':=wr.drew) (fun p M=>E.below.cell M) (Nat.le_refl _));obtain⟨b,I⟩:∃b,alw left (x:Int)=b:=⟨_,rfl⟩;obtain⟨b',J⟩:∃b,alw right (x:Int)=b:=⟨_,rfl⟩;have W:Hid (Wh left x=some (1,Ab b,0)):=by show _=_;unfold Wh;simp only [I,J]
 rw [I] at G;rw [J] at a3;rw [W.out];have U:=hide (WR (c:=2) (1,Ab b,0) E (m:=2) (by right;left;exact⟨rfl,rfl⟩) (by omega) rfl);obtain⟨m,hm⟩:∃m,m=left.length:=⟨_,rfl⟩;rw [<-hm] at a4 G;obtain⟨m',a7⟩:∃m,m=right.length:=⟨_,rfl⟩;rw [<-a7] at a5 a3;clear h E Z a8 a2 a9 F V hS I J hm a7 W;show Calls _ _ #[_,_,_] _ _
 unfold nmC at U;dsimp only [List.toArray] at U;go_enter Tryz.func115,Tryz.ntmps115;go_wp2_with fail;refine Reg.cC [0,0,2,0,14,30,62,127,255] [0,1,2,3,4,5,6,7,8] ?_;refine Reg.rest_walk' [0,1,2,3] [4,5,6,7,8] rfl (by kernel_rfl) ?_;intro Qf C;go_wp2_with fail;first|refine C _ _ ?_|skip
 (try clear C);refine Reg.rest_act' 4 [5,6,7,8] [0] rfl (by kernel_rfl) ?_;intro Qf C;simp only [gT,gS,gZ];go_wp2_with fail;refine G.mono ?_;rintro e' w' ⟨rfl,rfl⟩;go_wp2_with fail;first|refine C _ _ ⟨Reg.same_below (Below.refl _ _) [0] rfl,?_⟩|refine⟨Reg.same_below (Below.refl _ _) [0] rfl,?_⟩
 (try clear C);refine Reg.rest_act' 5 [6,7,8] [0] rfl (by kernel_rfl) ?_;intro Qf C;simp only [gT,gS,gZ];go_wp2_with fail;refine(WY _ _).mono ?_;rintro e' w' ⟨rfl,rfl⟩;go_wp2_with fail;first|refine C _ _ ⟨Reg.same_below (Below.refl _ _) [0] rfl,?_⟩|refine⟨Reg.same_below (Below.refl _ _) [0] rfl,?_⟩
 (try clear C);refine Reg.rest_walk' [6] [7,8] rfl (by kernel_rfl) ?_;intro Qf C;go_wp2_with fail;first|refine C _ _ ?_|skip
 (try clear C);refine Reg.rest_act' 7 [8] [] rfl (by kernel_rfl) ?_;intro Qf C;simp only [gT,gS,gZ];go_wp2_with fail;refine Calls.ret U.out ?_;rintro v w2 ⟨rfl,hF⟩;go_wp2_with fail;first|refine C _ _ ⟨Reg.nm,?_⟩|refine⟨Reg.nm,?_⟩
 (try clear C);refine Reg.rest_walk' [8] [] rfl (by kernel_rfl) ?_;intro Qf C;go_wp2_with fail;first|refine C _ _ ?_|skip
 (try clear C);first|refine Reg.rest_end ?_|skip
 go_wp2_with fail;go_ret;exact⟨Eq.trans rfl rfl,hF⟩
theorem XC (O:K4 w0 rc f t left right) (F:(g3,109,rc)∈ls) (V:(g5,128,#[.pointer (some ⟨gd,0,none⟩)])∈ls):Wq w0 gd gm vS vA ls L 108 [.pointer (some ⟨g5,0,none⟩),.pointer (some ⟨g3,0,none⟩)] (Wt left) []:=by
 intro wr vM d n x _ hn h hS;obtain⟨A,c,a8,Z⟩:=O.left;obtain⟨A',c',a9,a2⟩:=O.right;clear O;have E:=h.keep (Ap wr);have a4:=(E.blk F).cell 14;rw [a8] at a4;have a5:=(E.blk F).cell 15;rw [a9] at a5;have af:=(E.blk V).cell;have G:=Wj (c:=c) (x:=(x:Int)) (Z.keep (w':=wr.drew) (fun p M=>E.below.cell M) (Nat.le_refl _));have a3:=Wj (c:=c') (x:=(x:Int)) (a2.keep (w':=wr.drew) (fun p M=>E.below.cell M) (Nat.le_refl _));obtain⟨b,I⟩:∃b,alw left (x:Int)=b:=⟨_,rfl⟩;obtain⟨b',J⟩:∃b,alw right (x:Int)=b:=⟨_,rfl⟩;have W:Hid (Wt left x=some (4,Ab b,0)):=by show _=_;unfold Wt;simp only [I,J]
 rw [I] at G;rw [J] at a3;rw [W.out];have U:=hide (WR (c:=2) (4,Ab b,0) E (m:=2) (by right;left;exact⟨rfl,rfl⟩) (by omega) rfl);obtain⟨m,hm⟩:∃m,m=left.length:=⟨_,rfl⟩;rw [<-hm] at a4 G;obtain⟨m',a7⟩:∃m,m=right.length:=⟨_,rfl⟩;rw [<-a7] at a5 a3;clear h E Z a8 a2 a9 F V hS I J hm a7 W;show Calls _ _ #[_,_,_] _ _
 unfold nmC at U;dsimp only [List.toArray] at U;go_enter Tryz.func108,Tryz.ntmps108;go_wp2_with fail;refine Reg.cC [0,0,2,0,14,30,62,127,255] [0,1,2,3,4,5,6,7,8] ?_;refine Reg.rest_walk' [0,1,2,3] [4,5,6,7,8] rfl (by kernel_rfl) ?_;intro Qf C;go_wp2_with fail;first|refine C _ _ ?_|skip
 (try clear C);refine Reg.rest_act' 4 [5,6,7,8] [0] rfl (by kernel_rfl) ?_;intro Qf C;simp only [gT,gS,gZ];go_wp2_with fail;refine G.mono ?_;rintro e' w' ⟨rfl,rfl⟩;go_wp2_with fail;first|refine C _ _ ⟨Reg.same_below (Below.refl _ _) [0] rfl,?_⟩|refine⟨Reg.same_below (Below.refl _ _) [0] rfl,?_⟩
 (try clear C);refine Reg.rest_act' 5 [6,7,8] [0] rfl (by kernel_rfl) ?_;intro Qf C;simp only [gT,gS,gZ];go_wp2_with fail;refine(WY _ _).mono ?_;rintro e' w' ⟨rfl,rfl⟩;go_wp2_with fail;first|refine C _ _ ⟨Reg.same_below (Below.refl _ _) [0] rfl,?_⟩|refine⟨Reg.same_below (Below.refl _ _) [0] rfl,?_⟩
 (try clear C);refine Reg.rest_walk' [6] [7,8] rfl (by kernel_rfl) ?_;intro Qf C;go_wp2_with fail;first|refine C _ _ ?_|skip
 (try clear C);refine Reg.rest_act' 7 [8] [] rfl (by kernel_rfl) ?_;intro Qf C;simp only [gT,gS,gZ];go_wp2_with fail;refine Calls.ret U.out ?_;rintro v w2 ⟨rfl,hF⟩;go_wp2_with fail;first|refine C _ _ ⟨Reg.nm,?_⟩|refine⟨Reg.nm,?_⟩
 (try clear C);refine Reg.rest_walk' [8] [] rfl (by kernel_rfl) ?_;intro Qf C;go_wp2_with fail;first|refine C _ _ ?_|skip
 (try clear C);first|refine Reg.rest_end ?_|skip
 go_wp2_with fail;go_ret;exact⟨Eq.trans rfl rfl,hF⟩
theorem Yw (V:K4 w0 rc f t left right) (G:(g3,109,rc)∈ls) (h5:(g5,128,#[.pointer (some ⟨gd,0,none⟩)])∈ls):Wq w0 gd gm vS vA ls L 111 [.pointer (some ⟨g5,0,none⟩),.pointer (some ⟨g3,0,none⟩)] (WH left right) []:=by
 intro wr vM d n x _ hn h hS;obtain⟨A,c,aa,a4⟩:=V.left;obtain⟨A',c',ab,a5⟩:=V.right;clear V;have E:=h.keep (Ap wr);have a6:=(E.blk G).cell 14;rw [aa] at a6;have a7:=(E.blk G).cell 15;rw [ab] at a7;have af:=(E.blk h5).cell;have I:=Wj (c:=c) (x:=(x:Int)) (a4.keep (w':=wr.drew) (fun p U=>E.below.cell U) (Nat.le_refl _));have J:=Wj (c:=c') (x:=(x:Int)) (a5.keep (w':=wr.drew) (fun p U=>E.below.cell U) (Nat.le_refl _));obtain⟨b,M⟩:∃b,alw left (x:Int)=b:=⟨_,rfl⟩;obtain⟨Z,O⟩:∃b,alw right (x:Int)=b:=⟨_,rfl⟩;have hK:Hid (WH left right x=some (1,Ab b,Ab Z)):=by show _=_;unfold WH;simp only [M,O]
 rw [M] at I;rw [O] at J;rw [hK.out];have W:=hide (WR (c:=3) (1,Ab b,Ab Z) E (m:=3) (by right;right;rfl) (by omega) rfl);obtain⟨m,hm⟩:∃m,m=left.length:=⟨_,rfl⟩;rw [<-hm] at a6 I;obtain⟨m',a9⟩:∃m,m=right.length:=⟨_,rfl⟩;rw [<-a9] at a7 J;clear h E a4 aa a5 ab G h5 hS M O hm a9 hK;show Calls _ _ #[_,_,_] _ _
 unfold nmC at W;dsimp only [List.toArray] at W;go_enter Tryz.func111,Tryz.ntmps111;go_wp2_with fail;refine Reg.cC [0,0,2,0,14,30,0,64,0,510,1022,2046,4095,8191] [0,1,2,3,6,7,8,4,5,9,10,11,12,13] ?_;refine Reg.rest_walk' [0,1,2,3,6,7,8] [4,5,9,10,11,12,13] rfl (by kernel_rfl) ?_;intro Qf C;go_wp2_with fail;first|refine C _ _ ?_|skip
 (try clear C);refine Reg.rest_act' 4 [5,9,10,11,12,13] [0,7] rfl (by kernel_rfl) ?_;intro Qf C;simp only [gT,gS,gZ];go_wp2_with fail;refine I.mono ?_;rintro F w' ⟨rfl,rfl⟩;go_wp2_with fail;first|refine C _ _ ⟨Reg.same_below (Below.refl _ _) [0,7] rfl,?_⟩|refine⟨Reg.same_below (Below.refl _ _) [0,7] rfl,?_⟩
 (try clear C);refine Reg.rest_act' 5 [9,10,11,12,13] [0,7] rfl (by kernel_rfl) ?_;intro Qf C;simp only [gT,gS,gZ];go_wp2_with fail;refine(WY _ _).mono ?_;rintro F w' ⟨rfl,rfl⟩;go_wp2_with fail;first|refine C _ _ ⟨Reg.same_below (Below.refl _ _) [0,7] rfl,?_⟩|refine⟨Reg.same_below (Below.refl _ _) [0,7] rfl,?_⟩
 (try clear C);refine Reg.rest_act' 9 [10,11,12,13] [0] rfl (by kernel_rfl) ?_;intro Qf C;simp only [gT,gS,gZ];go_wp2_with fail;refine J.mono ?_;rintro F w' ⟨rfl,rfl⟩;go_wp2_with fail;first|refine C _ _ ⟨Reg.same_below (Below.refl _ _) [0] rfl,?_⟩|refine⟨Reg.same_below (Below.refl _ _) [0] rfl,?_⟩
 (try clear C);refine Reg.rest_act' 10 [11,12,13] [0] rfl (by kernel_rfl) ?_;intro Qf C;simp only [gT,gS,gZ];go_wp2_with fail;refine(WY _ _).mono ?_;rintro F w' ⟨rfl,rfl⟩;go_wp2_with fail;first|refine C _ _ ⟨Reg.same_below (Below.refl _ _) [0] rfl,?_⟩|refine⟨Reg.same_below (Below.refl _ _) [0] rfl,?_⟩
 (try clear C);refine Reg.rest_walk' [11] [12,13] rfl (by kernel_rfl) ?_;intro Qf C;go_wp2_with fail;first|refine C _ _ ?_|skip
 (try clear C);refine Reg.rest_act' 12 [13] [] rfl (by kernel_rfl) ?_;intro Qf C;simp only [gT,gS,gZ];go_wp2_with fail;refine Calls.ret W.out ?_;rintro v w2 ⟨rfl,hF⟩;go_wp2_with fail;first|refine C _ _ ⟨Reg.nm,?_⟩|refine⟨Reg.nm,?_⟩
 (try clear C);refine Reg.rest_walk' [13] [] rfl (by kernel_rfl) ?_;intro Qf C;go_wp2_with fail;first|refine C _ _ ?_|skip
 (try clear C);first|refine Reg.rest_end ?_|skip
 go_wp2_with fail;go_ret;exact⟨Eq.trans rfl rfl,hF⟩
theorem Yy {g11 r:Nat} (O:K4 w0 rc f t left right) (F:(g3,109,rc)∈ls) (V:(g5,128,#[.pointer (some ⟨gd,0,none⟩)])∈ls) (h9:(g11,3,#[.int .i64 (r:Int)])∈ls):Wq w0 gd gm vS vA ls L 112 [.pointer (some ⟨g5,0,none⟩),.pointer (some ⟨g3,0,none⟩),.pointer (some ⟨g11,0,none⟩)] (WG left r) []:=by
 intro wr vM d n x _ hn h hS;obtain⟨A,c,a8,Z⟩:=O.left;obtain⟨A',c',a9,a2⟩:=O.right;clear O;have E:=h.keep (Ap wr);have a4:=(E.blk F).cell 14;rw [a8] at a4;have a5:=(E.blk F).cell 15;rw [a9] at a5;have ag:=(E.blk V).cell;have ah:=(E.blk h9).cell;have G:=Wj (c:=c) (x:=(x:Int)) (Z.keep (w':=wr.drew) (fun p M=>E.below.cell M) (Nat.le_refl _));have a3:=Wj (c:=c') (x:=(x:Int)) (a2.keep (w':=wr.drew) (fun p M=>E.below.cell M) (Nat.le_refl _));obtain⟨b,I⟩:∃b,alw left (x:Int)=b:=⟨_,rfl⟩;obtain⟨b',J⟩:∃b,alw right (x:Int)=b:=⟨_,rfl⟩;have W:Hid (WG left r x=some (1,Ab b,r)):=by show _=_;unfold WG;simp only [I,J]
 rw [I] at G;rw [J] at a3;rw [W.out];have U:=hide (WR (c:=3) (1,Ab b,r) E (m:=3) (by right;right;rfl) (by omega) rfl);obtain⟨m,hm⟩:∃m,m=left.length:=⟨_,rfl⟩;rw [<-hm] at a4 G;obtain⟨m',a7⟩:∃m,m=right.length:=⟨_,rfl⟩;rw [<-a7] at a5 a3;clear h E Z a8 a2 a9 F V hS I J hm a7 W;show Calls _ _ #[_,_,_,_] _ _
 unfold nmC at U;dsimp only [List.toArray] at U;go_enter Tryz.func112,Tryz.ntmps112;go_wp2_with fail;refine Reg.cC [0,0,2,0,14,30,0,126,255,511] [0,1,2,3,6,4,5,7,8,9] ?_;refine Reg.rest_walk' [0,1,2,3,6] [4,5,7,8,9] rfl (by kernel_rfl) ?_;intro Qf C;go_wp2_with fail;first|refine C _ _ ?_|skip
 (try clear C);refine Reg.rest_act' 4 [5,7,8,9] [0,6] rfl (by kernel_rfl) ?_;intro Qf C;simp only [gT,gS,gZ];go_wp2_with fail;refine G.mono ?_;rintro e' w' ⟨rfl,rfl⟩;go_wp2_with fail;first|refine C _ _ ⟨Reg.same_below (Below.refl _ _) [0,6] rfl,?_⟩|refine⟨Reg.same_below (Below.refl _ _) [0,6] rfl,?_⟩
 (try clear C);refine Reg.rest_act' 5 [7,8,9] [0,6] rfl (by kernel_rfl) ?_;intro Qf C;simp only [gT,gS,gZ];go_wp2_with fail;refine(WY _ _).mono ?_;rintro e' w' ⟨rfl,rfl⟩;go_wp2_with fail;first|refine C _ _ ⟨Reg.same_below (Below.refl _ _) [0,6] rfl,?_⟩|refine⟨Reg.same_below (Below.refl _ _) [0,6] rfl,?_⟩
 (try clear C);refine Reg.rest_walk' [7] [8,9] rfl (by kernel_rfl) ?_;intro Qf C;go_wp2_with fail;first|refine C _ _ ?_|skip
 (try clear C);refine Reg.rest_act' 8 [9] [] rfl (by kernel_rfl) ?_;intro Qf C;simp only [gT,gS,gZ];go_wp2_with fail;refine Calls.ret U.out ?_;rintro v w2 ⟨rfl,hF⟩;go_wp2_with fail;first|refine C _ _ ⟨Reg.nm,?_⟩|refine⟨Reg.nm,?_⟩
 (try clear C);refine Reg.rest_walk' [9] [] rfl (by kernel_rfl) ?_;intro Qf C;go_wp2_with fail;first|refine C _ _ ?_|skip
 (try clear C);first|refine Reg.rest_end ?_|skip
 go_wp2_with fail;go_ret;exact⟨Eq.trans rfl rfl,hF⟩
end
end Go.Proofs.YtjejejmeddkciaaGreatDoor
