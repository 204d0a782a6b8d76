/-
  Part EG of a proof.
-/
import Derived.Test.YtfcfpoemojjglaaGreatDoorPA
import Derived.Test.YtfcfpoemojjglaaGreatDoorPH
import Derived.Test.YtfcfpoemojjglaaGreatDoorPJ
import Derived.Test.YtfcfpoemojjglaaGreatDoorEA
set_option maxHeartbeats 16000000
set_option maxRecDepth 100000
set_option linter.unusedVariables false
set_option linter.unusedSimpArgs false
namespace Go.Proofs.YtfcfpoemojjglaaGreatDoor
open Go.RowKit
structure Dc (E:Nat->Nat->Prop) (i:Nat) (F nx:List Nat):Prop where
 len:nx.length=i
 at_:∀j v,nx[j]?=some v->∃f,F[v]?=some f/\E f j
 sep:∀(p q f g:Nat),p<q->F[p]?=some f->F[q]?=some g->¬E f g
 src:∀(p f:Nat),F[p]?=some f->f<i/\nx[f]?=some p
theorem Dc.start (E:Nat->Nat->Prop):Dc E 0 [] []:=⟨rfl,fun j v h=>by simp at h,fun p q f g _ h=>by simp at h,fun p f h=>by simp at h⟩
theorem Dc.le {E:Nat->Nat->Prop} {i:Nat} {F nx:List Nat} (h:Dc E i F nx):F.length<=i:=by
 have C:F.Nodup:=by
  refine List.pairwise_iff_getElem.2 fun p q d G I e=>?_;have l:=(h.src q _ (List.getElem?_eq_getElem G)).2;have j:=(h.src p _ (List.getElem?_eq_getElem d)).2;rw [e,l] at j;have:=Option.some.inj j;omega
 have:=D6 F (List.range i) C (fun a y=>by
  obtain⟨p,d⟩:=List.mem_iff_getElem?.1 y;exact List.mem_range.2 (h.src p a d).1)
 simpa using this
theorem Fz {D:Type} {l:List D} {x y:D} {j:Nat} (h:(l++[x])[j]?=some y):l[j]?=some y\/j=l.length/\y=x:=by
 by_cases C:j<l.length
 ·rw [List.getElem?_append_left C] at h;exact .inl h
 ·have d:=AP h;simp at d;obtain rfl:j=l.length:=by omega
  simp at h;exact .inr ⟨rfl,h.symm⟩
theorem Io {D:Type} {l:List D} {x y:D} {j:Nat} (h:l[j]?=some y):(l++[x])[j]?=some y:=by
 rw [List.getElem?_append_left (AP h)];exact h
theorem Ln {D:Type} (l:List D) (x:D):(l++[x])[l.length]?=some x:=by simp
theorem Dc.old {E:Nat->Nat->Prop} {i k f:Nat} {F nx:List Nat} (h:Dc E i F nx) (C:F[k]?=some f) (y:E f i):Dc E (i+1) F (nx++[k]):=by
 refine⟨by simp [h.len],fun j v d=>?_,h.sep,fun p g G=>?_⟩
 ·rcases Fz d with d | ⟨rfl,rfl⟩
  ·exact h.at_ j v d
  ·rw [h.len]; exact⟨f,C,y⟩
 ·obtain⟨I,l⟩:=h.src p g G;exact⟨by omega,Io l⟩
theorem Dc.new {E:Nat->Nat->Prop} {i:Nat} {F nx:List Nat} (h:Dc E i F nx) (U:E i i) (V:∀(p f:Nat),F[p]?=some f->¬E f i):Dc E (i+1) (F++[i]) (nx++[F.length]):=by
 refine⟨by simp [h.len],fun j v y=>?_,fun p q f g W d Z=>?_,fun p g d=>?_⟩
 ·rcases Fz y with y | ⟨rfl,rfl⟩
  ·obtain⟨f,G,l⟩:=h.at_ j v y;exact⟨f,Io G,l⟩
  ·rw [h.len]; exact⟨i,Ln _ _,U⟩
 ·rcases Fz Z with I | ⟨e1,J⟩
  ·rcases Fz d with C | ⟨M,O⟩
   ·exact h.sep p q f g W C I
   ·have:=AP I; omega
  ·rcases Fz d with C | ⟨M,O⟩
   ·rw [J]; exact V p f C
   ·omega
 ·rcases Fz d with d | ⟨rfl,rfl⟩
  ·obtain⟨G,l⟩:=h.src p g d;exact⟨by omega,Io l⟩
  ·refine⟨by omega,?_⟩;rw [<-h.len]; exact Ln _ _
section
variable {L n r:Nat} {nx:Nat->Nat->Nat} {acc:Nat->Bool} {cl os F:List Nat}
structure CZ (L n:Nat) (nx:Nat->Nat->Nat) (acc:Nat->Bool) (r:Nat) (cl:List Nat):Prop where
 len:cl.length=n
 iff:∀i j,i<n->j<n->(cl.getD i 0=cl.getD j 0↔EqW L nx acc r i j)
def Dw (L:Nat) (nx:Nat->Nat->Nat) (cl:List Nat) (a b:Nat):Prop:=cl.getD a 0=cl.getD b 0/\∀x,x<L->cl.getD (nx a x) 0=cl.getD (nx b x) 0
theorem CZ.alike (h:CZ L n nx acc r cl) (d:∀q x,q<n->x<L->nx q x<n) {a b:Nat} (j:a<n) (l:b<n):Dw L nx cl a b↔EqW L nx acc (r+1) a b:=by
 show _/\_↔EqW L nx acc r a b/\_
 rw [h.iff a b j l];exact and_congr_right fun _=>forall_congr' fun x=>forall_congr' fun y=>h.iff _ _ (d a x j y) (d b x l y)
theorem EqW.symm:∀(r:Nat) {p q:Nat},EqW L nx acc r p q->EqW L nx acc r q p
 | 0,_,_,h=>Eq.symm h
 | r+1,_,_,h=>⟨EqW.symm r h.1,fun x d=>EqW.symm r (h.2 x d)⟩
theorem EqW.trans:∀(r:Nat) {p q s:Nat},EqW L nx acc r p q->EqW L nx acc r q s->EqW L nx acc r p s
 | 0,_,_,_,h,k=>Eq.trans h k
 | r+1,_,_,_,h,k=>⟨EqW.trans r h.1 k.1,fun x d=>EqW.trans r (h.2 x d) (k.2 x d)⟩
theorem Dc.cls {E:Nat->Nat->Prop} (h:Dc E n F os) (J:∀i j,i<n->j<n->(E i j↔EqW L nx acc r i j)):CZ L n nx acc r os/\∀i,i<n->os.getD i 0<n:=by
 refine⟨⟨h.len,fun i j M W=>?_⟩,fun i M=>?_⟩
 ·obtain⟨u,C⟩:=An (l:=os) (i:=i) (by rw [h.len]; exact M);obtain⟨v,Z⟩:=An (l:=os) (i:=j) (by rw [h.len]; exact W);rw [getD_some C,getD_some Z];obtain⟨f,y,G⟩:=h.at_ i u C;obtain⟨g,d,I⟩:=h.at_ j v Z;have O:=(h.src u f y).1;have hgn:=(h.src v g d).1;have G:=(J f i O M).1 G;have I:=(J g j hgn W).1 I;constructor
  ·rintro rfl;rw [y] at d;injection d with d
   subst d;exact EqW.trans r (EqW.symm r G) I
  ·intro e;have V:EqW L nx acc r f g:=EqW.trans r G (EqW.trans r e (EqW.symm r I));rcases Nat.lt_trichotomy u v with U | rfl | U
   ·exact(h.sep u v f g U y d ((J f g O hgn).2 V)).elim
   ·rfl
   ·exact(h.sep v u g f U d y ((J g f hgn O).2 (EqW.symm r V))).elim
 ·obtain⟨u,C⟩:=An (l:=os) (i:=i) (by rw [h.len]; exact M);obtain⟨f,y,-⟩:=h.at_ i u C;rw [getD_some C];have:=AP y;have:=h.le;omega
theorem CZ.norm (h:CZ L n nx acc r cl):BU L n nx acc r (BD cl) (dd cl).length:=by
 refine⟨by rw [DN,h.len],fun i j C E=>?_,fun v=>I1⟩;obtain⟨a,d⟩:=An (l:=cl) (i:=i) (by rw [h.len]; exact C);obtain⟨b,y⟩:=An (l:=cl) (i:=j) (by rw [h.len]; exact E);rw [IZ d y,<-h.iff i j C E,getD_some d,getD_some y]
theorem CZ.grow (h:CZ L n nx acc r cl) (d:CZ L n nx acc (r+1) os):(dd cl).length<=(dd os).length:=h.norm.grow d.norm
def EqD (L:Nat) (nx:Nat->Nat->Nat) (acc:Nat->Bool) (d:Int) (i j:Nat):Prop:=if d<0 then ∀r,EqW L nx acc r i j else EqW L nx acc d.toNat i j
structure EB (L n:Nat) (nx:Nat->Nat->Nat) (acc:Nat->Bool) (d:Int) (cl:List Nat):Prop where
 len:cl.length=n
 iff:∀i j,i<n->j<n->(cl.getD i 0=cl.getD j 0↔EqD L nx acc d i j)
 le:∀i,i<n->cl.getD i 0<=n
 lt:d<0->∀i,i<n->cl.getD i 0<n
theorem EB.toW (h:EB L n nx acc (-1) cl):Ck L n nx acc cl:=⟨h.len,fun i j d l=>by
 have:=h.iff i j d l;unfold EqD at this
 rwa [if_pos (by omega)] at this,h.lt (by omega)⟩
theorem CZ.atDepth (h:CZ L n nx acc r cl) (E:∀i,i<n->cl.getD i 0<=n) {d:Int} (l:(r:Int)=d):EB L n nx acc d cl:=by
 refine⟨h.len,fun i j y C=>?_,E,fun G=>by omega⟩;unfold EqD;rw [if_neg (by omega),<-l];exact h.iff i j y C
theorem CZ.atRest (O:∀q x,q<n->x<L->nx q x<n) (h:CZ L n nx acc r cl) (C:CZ L n nx acc (r+1) os) (J:∀i,i<n->os.getD i 0<n) (he:(dd os).length=(dd cl).length) {d:Int} (V:d<0\/(r:Int)<=d):EB L n nx acc d os:=by
 have I:=h.norm;have E:=C.norm;rw [he] at E;have M:=fun d {i j}=>EqW.stable O (fun i j l y he=>I.rest E l y he) d (i:=i) (j:=j);refine⟨C.len,fun i j l y=>(C.iff i j l y).trans ?_,fun i l=>Nat.le_of_lt (J i l),fun _=>J⟩;unfold EqD;by_cases G:d<0
 ·rw [if_pos G];exact⟨fun e k=>EqW.le (r:=k) r (by rw [Nat.add_comm]; exact M k l y e.1),fun e=>e (r+1)⟩
 ·rw [if_neg G];obtain⟨k,U⟩:∃k,d.toNat=r+k:=⟨d.toNat - r,by omega⟩;rw [U];exact⟨fun e=>M k l y e.1,fun e=>I.rest E l y (EqW.le k e)⟩
def DO (ac:List Bool):List Nat:=ac.map fun b=>if b=true then 1 else 0
theorem MZ (ac:List Bool):CZ L ac.length nx (dac ac) 0 (DO ac):=by
 refine⟨by simp [DO],fun i j G I=>?_⟩;obtain⟨a,d⟩:=An G;obtain⟨b,h⟩:=An I;have l:(DO ac).getD i 0=if a=true then 1 else 0:=getD_some (AX (f:=fun b:Bool=>if b=true then 1 else 0) d)
 have y:(DO ac).getD j 0=if b=true then 1 else 0:=getD_some (AX (f:=fun b:Bool=>if b=true then 1 else 0) h)
 show _↔dac ac i=dac ac j
 have C:dac ac i=a:=getD_some d;have E:dac ac j=b:=getD_some h;rw [l,y,C,E];cases a <;> cases b <;> simp
theorem M0 (ac:List Bool) (i:Nat):(DO ac).getD i 0<=1:=by
 rw [List.getD_eq_getElem?_getD];cases h:(DO ac)[i]? with
 | none=>simp
 | some x=>
  simp only [Option.getD_some];obtain⟨b,-,rfl⟩:=List.mem_map.1 (List.mem_of_getElem? h);split <;> omega
end
end Go.Proofs.YtfcfpoemojjglaaGreatDoor
namespace Go.Proofs.YtfcfpoemojjglaaGreatDoor
open Go.RowKit
theorem L4 {ac bc:List Bool} {i:Nat} (h:ac<+:bc) (C:i<=ac.length):BL bc i=BL ac i:=by
 unfold BL;congr 1;refine List.filter_congr fun j y=>?_;have y:=List.mem_range.1 y;obtain⟨b,d⟩:=An (l:=ac) (i:=j) (by omega);unfold dac;rw [getD_some d,getD_some (Ds h d)]
theorem Nv {L q:Nat} {t C:List (List Nat)} (h:t<+:C) (E:q<=t.length):BM L C q=BM L t q:=by
 unfold BM;simp only [List.flatMap];congr 1;refine List.map_congr_left fun j d=>?_;have d:=List.mem_range.1 d;obtain⟨r,y⟩:=An (l:=t) (i:=j) (by omega);unfold CX;refine List.map_congr_left fun x _=>?_;unfold dnx;rw [getD_some y,getD_some (Ds h y)]
section
variable {S:Type} [DecidableEq S] {L:Nat} {δ:S->Nat->S} {s0:S}
def CI (δ:S->Nat->S) (all:List S) (k:S) (i x:Nat):List Edg:=(List.range x).map fun y:Nat=>⟨(i:Int),(y:Int),(Ax all (δ k y):Int)⟩
theorem Sr (all:List S) (k:S) (i:Nat):CI δ all k i 0=[]:=rfl
theorem Sq (all:List S) (k:S) (i x:Nat):(CI δ all k i x).length=x:=by simp [CI]
theorem KQ (all:List S) (k:S) (i x:Nat):CI δ (AZ δ k all (x+1)) k i (x+1)=CI δ (AZ δ k all x) k i x++[⟨(i:Int),(x:Int),(Ax (AZ δ k all (x+1)) (δ k x):Int)⟩]:=by
 unfold CI;rw [List.range_succ,List.map_append];congr 1;refine List.map_congr_left fun y d=>?_;rw [Kp (List.mem_range.1 d)]
theorem Sp {all all':List S} {i:Nat} {k:S} (h:Exp L δ s0 i all) (l:all<+:all') (j:all[i]?=some k):BM L (AM L δ all i) i++CI δ all' k i L=BM L (AM L δ all' (i+1)) (i+1):=by
 have E:=Ds l j;have I:=AP j;have G:=D5 (L:=L) (δ:=δ) (all:=all) (i:=i) (by omega);rw [Ho,GP E,GO h l,Nv (List.prefix_append _ _) (by omega)];congr 1;unfold CI CX;refine List.map_congr_left fun x d=>?_;have d:=List.mem_range.1 d;have y:(AM L δ all i++[(List.range L).map fun x=>Ax all' (δ k x)])[i]?=some ((List.range L).map fun x=>Ax all' (δ k x)):=by
  rw [List.getElem?_append_right (by omega),G];simp
 have C:((List.range L).map fun x=>Ax all' (δ k x))[x]?=some (Ax all' (δ k x)):=AX (f:=fun x=>Ax all' (δ k x)) (List.getElem?_range d);unfold dnx;rw [getD_some y,getD_some C]
end
theorem Ru (L:Nat) (t:List (List Nat)) (ac:List Bool):(⟨(L:Int),(ac.length:Int),[0],BL ac ac.length,BM L t ac.length⟩:WA)=AG L t ac:=rfl
theorem HV {S:Type} [DecidableEq S]:∀{l:List S} {a:S} {k:Nat},l[k]?=some a->(∀j,j<k->l[j]?≠some a)->Ax l a=k
 | [],_,_,h,_=>by simp at h
 | b::l,a,0,h,_=>by
  have:b=a:=by simpa using h
  simp [Ax,this]
 | b::l,a,k+1,h,hn=>by
  have y:b≠a:=fun e=>hn 0 (by omega) (by simp [e]);have d:=HV (l:=l) (a:=a) (k:=k) (by simpa using h) fun j C=>by
   have:=hn (j+1) (by omega);simpa using this
  unfold Ax at d ⊢;rw [List.idxOf_cons,show(b==a)=false by simpa using y,d];rfl
theorem Rk {S:Type} {l:List S} {a:S} (h:∀j,j<l.length->l[j]?≠some a):a∉l:=fun y=>by
 obtain⟨j,d⟩:=List.mem_iff_getElem?.1 y;exact h j (AP d) d
end Go.Proofs.YtfcfpoemojjglaaGreatDoor
namespace Go.Proofs.YtfcfpoemojjglaaGreatDoor
open Go.RowKit
set_option maxHeartbeats 16000000
set_option maxRecDepth 100000
def MR (w:World) (m:List Bool) (r:Value) (w':World):Prop:=Below w.heap.size w w'/\BX w' w'.heap.size r m/\∀g,r.ownBlock=some g->w.heap.size<=g
theorem L8 {w:World} {v u:Value} {a:WA} {m:List Bool} {x:Nat} (h:Bj w w.heap.size v a) (a6:a.In) (hS:0<=a.states/\a.states<=200000) (hM:BX w w.heap.size u m) (hm:m.length=a.n) (hx:x<a.L):
  Calls Tryz.prog 175 #[v,u,.int .i64 (x:Int)] w (Ret fun r w'=>MR w (a.nf.after m x) r w'):=by
 obtain⟨A1,c1,A2,c2,A3,c3,rfl,h1,h2,V,h4⟩:=h;obtain⟨gm,aN,rfl,ag⟩:=hM;obtain⟨n,O⟩:=Int.eq_ofNat_of_zero_le hS.1;have bj:n<=200000:=by omega
 have G:a.n=n:=by unfold WA.n; rw [O]; rfl
 have aL:=hide (fun k (hk:a.edges.length<=k)=>WA.afterE_all a6 (m:=m) hx hk);obtain⟨w1,aw,a2,y,aQ⟩:=Ae w #[.int .i64 a.letters,.int .i64 a.states,.slice A1 a.start.length c1,.slice A2 a.accept.length c2,.slice A3 a.edges.length c3] 35;obtain⟨g,w2,bi,a5,J,hg⟩:=HI w1 n (by omega);have aU:=a2.size;have bk:=J.size;have al:=y.cell;have C:=y.below J;have am:=C.cell;rw [O] at aw al am y C ⊢;rw [HE] at a5;have ai:=hide (a2.trans (J.mono aU));have af:=hide C;have bg:=C.lt;have be:=y.lt;have aJ:=hide (show Blk w2 g 4 ((a.afterE m (x:Int) 0).map Value.bool).toArray from by rw [WA.afterE_zero,G]; exact a5);have aE:=hide ag;have aC:=hide V;have aO:=hide a6;have aT:=hide O;have ah:=hide G;have aS:=hide (hm.trans G);have l3:=V.1;obtain⟨ne,a8⟩:∃ne,ne=a.edges.length:=⟨_,rfl⟩;have au:=hide a8;have ar:=hm.trans G;rw [<-a8] at aw al am af l3 ⊢;rw [ar];clear h1 h2 V h4 aQ a2 J y C a5 ag a6 hS O G hm a8 hx ar;go_enter Tryz.func175,Tryz.ntmps175;go_wp2_with fail;go_loopw [8] (fun ii wr=>∃(k:Nat),ii=.int .i64 (k:Int)/\k<=ne/\Hid (Blk wr g 4 ((a.afterE m (x:Int) k).map Value.bool).toArray)/\Hid (Ac w2 wr (fun k=>k=g))) (fun ii _=>ne - (intOf ii).toNat)
 case atStart=>exact⟨0,rfl,Nat.zero_le _,aJ,Ac.refl _ _⟩
 case round=>
  obtain⟨k,rfl,hk,d,E⟩:=hrel;have a3:=hide (ai.out.trans (E.out.below (B:=w.heap.size) (by have:=ai.out.size; omega) (fun b hb e=>by omega)));have Z:Blk wr w.heap.size 35 _:=af.out.kept E.out (by omega);have b8:=Z.cell;by_cases aR:k<ne
  ·obtain⟨b,bl,e,rfl,aH,aa,hc⟩:=aC.out.at (k:=k) (by rw [<-au.out]; exact aR);have M:=fun j hj=>(a3.out.cell (by exact aH)).trans (hc j hj);have q0:=M 0 (by omega);have q1:=M 1 (by omega);have q2:=M 2 (by omega);simp only [Nat.add_zero,DP] at q0 q1 q2;obtain⟨i1,i2,i3⟩:=aO.out.edge e (List.mem_of_getElem? aa);rw [aT.out] at i1 i3;obtain⟨f,hf,ao⟩:=CT i1;obtain⟨t,ht,av⟩:=CT i3;simp only [Int.toNat_natCast] at ao av;have a9:=hide (WA.afterE_step (a:=a) (m:=m) (x:=(x:Int)) aa (by omega));obtain⟨U,a4⟩:=An (l:=m) (i:=f) (by rw [aS.out]; exact ao);have b7:wr.cell? ⟨gm,f,none⟩=some (.bool U):=(a3.out.cell (by exact aN)).trans (BX.cell aE.out a4);have ap:Hid (m.getD e.frm.toNat false=U):=by show _=_; rw [hf,Int.toNat_natCast,getD_some a4]
   have aW:Hid (e.to.toNat=t):=by show _=_; rw [ht,Int.toNat_natCast]
   obtain⟨bt,aj⟩:=An (l:=a.afterE m (x:Int) k) (i:=t) (by rw [WA.afterE_len,ah.out]; exact av);have b9:wr.cell? ⟨g,t,none⟩=some (.bool bt):=BX.cell d.out aj;have ba:=d.out.frozen t;have bh:=d.out.lt;obtain⟨x0,x1,x2⟩:=e;dsimp only at*;subst hf ht;have aV:Hid (Blk (wr.setCell ⟨g,t,none⟩ (.bool true)) g 4 (((a.afterE m (x:Int) k).set t true).map Value.bool).toArray):=by
    have:=d.out.set_ t (.bool true);rw [HF] at this;exact this
   have aF:=hide (E.out.setCell (p:=⟨g,t,none⟩) (fun _=>rfl) (.bool true));clear aa hc M i1 i2 i3 a4 aj Z;by_cases ay:x1=(x:Int)
   ·cases U
    ·have I:Hid (a.afterE m (x:Int) (k+1)=a.afterE m (x:Int) k):=by show _=_; rw [a9.out,ap.out]; simp
     go_wp2_with fail;exact⟨⟨k+1,by go_num,by omega,by rw [I.out]; exact d,E⟩,by simp [intOf]; omega⟩
    ·have I:Hid (a.afterE m (x:Int) (k+1)=(a.afterE m (x:Int) k).set t true):=by show _=_; rw [a9.out,ap.out,aW.out]; simp [ay]
     go_wp2_with fail;exact⟨⟨k+1,by go_num,by omega,by rw [I.out]; exact aV,aF⟩,by simp [intOf]; omega⟩
   ·have I:Hid (a.afterE m (x:Int) (k+1)=a.afterE m (x:Int) k):=by show _=_; rw [a9.out]; simp [ay]
    go_wp2_with fail;exact⟨⟨k+1,by go_num,by omega,by rw [I.out]; exact d,E⟩,by simp [intOf]; omega⟩
  ·have aK:=hide (aL.out k (by have:=au.out; omega));clear Z;go_wp2_with fail;go_ret;have W:=d.out;rw [aK.out] at W;refine⟨a3.out,⟨g,W.lt,by rw [NF.after_len,a.nf_n,ah.out]; rfl,W⟩,fun g' aM=>?_⟩;simp [Value.ownBlock] at aM;omega
theorem Q4 {w:World} {B c:Nat} {u:Value} {A:Option Addr} {m:List Bool} {l:List Int} (hM:BX w w.heap.size u m) (h:Sl w B 1 Ai A l) (Z:∀x∈l,inN m.length x=true):
  Calls Tryz.prog 177 #[u,.slice A l.length c] w fun e w'=>e=.returned (.bool (l.any fun s=>m.getD s.toNat false))/\w=w':=by
 obtain⟨gm,ah,rfl,U⟩:=hM;have hn:=h.1;have a5:=hide U;have hI:=hide Z;obtain⟨n,I⟩:∃n,n=l.length:=⟨_,rfl⟩;have a2:=hide I;obtain⟨O,G⟩:∃O,O=m.length:=⟨_,rfl⟩;have aa:=hide G;obtain⟨p,J⟩:∃p:Int->Bool,p=fun s=>m.getD s.toNat false:=⟨_,rfl⟩;have ad:=hide (show ∀s,p s=m.getD s.toNat false from fun s=>by rw [J]);rw [<-I] at hn ⊢;rw [<-G,<-J];clear U Z I G J;go_enter Tryz.func177,Tryz.ntmps177;go_wp2_with fail
 go_loop [5] (fun M=>∃(k:Nat),M=.int .i64 (k:Int)/\k<=n/\Hid (∀s∈l.take k,p s=false)) (fun M=>n - (intOf M).toNat)
 case atStart=>exact⟨0,rfl,Nat.zero_le _,hide (by simp)⟩
 case round=>
  obtain⟨k,rfl,hk,V⟩:=hrel;by_cases a9:k<n
  ·obtain⟨z,y⟩:=An (l:=l) (i:=k) (by rw [<-a2.out]; exact a9);obtain⟨q,rfl,j⟩:=CT (hI.out z (List.mem_of_getElem? y));simp only [Int.toNat_natCast] at j;obtain⟨b0,o0,rfl,-,hc⟩:=EZ h y;obtain⟨b,E⟩:=An j;have ag:=BX.cell a5.out E;have W:Hid (p (q:Int)=b):=by show _=_; rw [ad.out,Int.toNat_natCast,getD_some E]
   have aj:q<O:=by rw [aa.out]; exact j
   have a4:=hide y;clear E y j;cases b
   ·have a6:Hid (∀s∈l.take (k+1),p s=false):=fun s d=>by
     rw [B5 a4.out] at d;rcases List.mem_append.1 d with d | d
     ·exact V.out s d
     ·rw [List.mem_singleton.1 d]; exact W.out
    go_wp2_with fail;exact⟨⟨k+1,by go_num,by omega,a6⟩,by simp [intOf]; omega⟩
   ·have C:Hid (l.any p=true):=List.any_eq_true.2 ⟨_,List.mem_of_getElem? a4.out,W.out⟩;go_wp2_with fail;go_ret;exact⟨by rw [C.out]; rfl,rfl⟩
  ·have C:Hid (l.any p=false):=by
    have a3:=V.out;rw [List.take_of_length_le (by have:=a2.out; omega)] at a3;exact List.any_eq_false.2 fun s d=>by rw [a3 s d]; decide
   go_wp2_with fail;go_ret;exact⟨by rw [C.out]; rfl,rfl⟩
end Go.Proofs.YtfcfpoemojjglaaGreatDoor
namespace Go.Proofs.YtfcfpoemojjglaaGreatDoor
open Go.RowKit
set_option maxHeartbeats 16000000
set_option maxRecDepth 100000
theorem SP {w:World} {B1 B2 S:Nat} {u1 u2:Value} {h y:List Bool} (C:BX w B1 u1 h) (h2:BX w B2 u2 y) (J:h.length=S) (M:y.length=S) (hS:S<=300000):
    Calls Tryz.prog 176 #[u1,u2] w (Ret fun v w'=>v=.bool (decide (h=y))/\Below w.heap.size w w'):=by
  obtain⟨g1,ah,rfl,Z⟩:=C;obtain⟨g2,ai,rfl,a2⟩:=h2;rw [J,M];have V:=hide J;have W:=hide M;have ab:=hide Z;have ad:=hide a2;clear J M Z a2;go_enter Tryz.func176,Tryz.ntmps176;go_wp2_with fail;go_loopw [5] (fun O wr=>∃(i:Nat),O=.int .i64 (i:Int)/\i<=S/\Below w.heap.size w wr/\Hid (∀j,j<i->h[j]?=y[j]?)) (fun O _=>S - (intOf O).toNat)
  case atStart=>exact⟨0,rfl,Nat.zero_le _,Below.refl _ _,fun j I=>absurd I (by omega)⟩
  case round=>
    obtain⟨i,rfl,hi,d,U⟩:=hrel;by_cases a5:i<S
    · obtain⟨b1,E⟩:=An (l:=h) (i:=i) (by rw [V.out]; exact a5)
      obtain⟨b2,G⟩:=An (l:=y) (i:=i) (by rw [W.out]; exact a5);have af:=BX.cell (ab.out.below d) E;have ag:=BX.cell (ad.out.below d) G;have a6:=hide (d.trans ((Ap wr).mono d.size));have a3:=hide E;have a4:=hide G;clear E G;go_wp2_with fail;refine Reg.cP [0,0,3,7,0,0,48,112,255] ?_;cases b1 <;> cases b2
      all_goals
        go_wp2_with fail;first
        | (refine⟨⟨i+1,by simp,by omega,a6.out,fun j I=>?_⟩,by simp [intOf]; omega⟩
           by_cases ae:j=i
           · subst ae
             rw [a3.out,a4.out]
           · exact U.out j (by omega))
        | (go_ret
           refine⟨congrArg Value.bool (decide_eq_false fun e=>?_).symm,a6.out⟩;have C:=a3.out;rw [e,a4.out] at C;cases C)
    · go_wp2_with fail
      go_ret;refine⟨congrArg Value.bool (decide_eq_true (List.ext_getElem? fun j=>?_)).symm,d⟩;by_cases I:j<S
      · exact U.out j (by omega)
      · rw [List.getElem?_eq_none (by rw [V.out]; omega),List.getElem?_eq_none (by rw [W.out]; omega)]
def CQ (w:World) (g n:Nat) (xs:List Nat):Prop:=xs.length=n/\g<w.heap.size/\∀j y:Nat,xs[j]?=some y->w.cell? ⟨g,j,none⟩=some (.int .i64 (y:Int))
theorem CQ.below {w w':World} {g n:Nat} {xs:List Nat} (h:CQ w g n xs) (d:Below w.heap.size w w'):CQ w' g n xs:=⟨h.1,by have:=d.size; have:=h.2.1; omega,fun j y l=>(d.cell (by exact h.2.1)).trans (h.2.2 j y l)⟩
theorem CQ.sl {w:World} {g n:Nat} {xs:List Nat} (h:CQ w g n xs) (V:n<=4000000):Sl w w.heap.size 1 Ai (some ⟨g,0,none⟩) (Ak xs):=by
 obtain⟨O,G,I⟩:=h;refine⟨by simp [Ak]; omega,fun _=>⟨g,0,rfl,G,fun k d C j U=>?_⟩⟩;obtain⟨y,E⟩:=An (l:=xs) (i:=k) (by have:=AP C; simpa [Ak] using this);have J:d=(y:Int):=by
  rw [Ak,List.getElem?_map,E] at C;exact(Option.some.inj C).symm
 have M:j=0:=by omega
 subst M J;have:=I k y E;simpa [Ai] using this
theorem CQ.take {w:World} {g n k:Nat} {xs:List Nat} (h:CQ w g n xs) (l:k<=n):CQ w g k (xs.take k):=by
 refine⟨by rw [List.length_take,h.1]; omega,h.2.1,fun j y d=>?_⟩;rw [List.getElem?_take] at d;split at d
 ·exact h.2.2 j y d
 ·cases d
theorem CQ.of_blk {w:World} {g n:Nat} {xs:List Nat} (h:Blk w g 3 (Bm n xs)) (C:xs.length=n):CQ w g n xs:=by
 refine⟨C,h.lt,fun j y d=>?_⟩;rw [h.cell];unfold Bm;have l:=AP d;rw [List.getElem?_toArray,List.getElem?_append_left (by simpa using l),List.getElem?_map,d];rfl
theorem Ni {xs:List Nat} {k y:Nat} (h:xs[k]?=some y):(dd (xs.take (k+1))).length=(dd (xs.take k)).length+if y∈xs.take k then 0 else 1:=by
 rw [B5 h,Eo];unfold Bs;by_cases d:y∈xs.take k
 ·rw [if_pos (EJ.2 d),if_pos d];rfl
 ·rw [if_neg (fun h=>d (EJ.1 h)),if_neg d,List.length_append];rfl
theorem QN {w:World} {g n c:Nat} {xs:List Nat} (h:CQ w g n xs) (hc:n<=c) (hn:n<=300000):
  Calls Tryz.prog 179 #[.slice (some ⟨g,0,none⟩) n c] w (Ret fun v w'=>v=.int .i64 ((dd xs).length:Int)/\Below w.heap.size w w'):=by
 have hH:=hide h;have J:=hide h.1;clear h;go_enter Tryz.func179,Tryz.ntmps179;go_wp2_with fail;go_loopw [3,4] (fun d W wr=>∃(k m:Nat),W=.int .i64 (k:Int)/\k<=n/\d=.int .i64 (m:Int)/\m<=k/\Hid (m=(dd (xs.take k)).length)/\Below w.heap.size w wr) (fun _ W _=>n - (intOf W).toNat)
 case atStart=>exact⟨0,0,rfl,Nat.zero_le _,rfl,Nat.le_refl _,hide rfl,Below.refl _ _⟩
 case round=>
  obtain⟨k,m,rfl,hk,rfl,af,M,C⟩:=hrel;by_cases a8:k<n
  ·obtain⟨y,U⟩:=An (l:=xs) (i:=k) (by rw [J.out]; exact a8);have G:=hH.out.below C;have ab:=G.2.2 k y U;have a2:=hide (Ni U);have a5:=(G.take (k:=k) (by omega)).sl (by omega);have Z:(Ak (xs.take k)).length=k:=by simp [Ak]; have:=J.out; omega
   have E:=hide C;have ae:k<=c:=by omega
   have a4:∀(b:Bool) (d:Nat),decide (y∈xs.take k)=b->Calls Tryz.prog 129 #[.slice (some ⟨g,0,none⟩) k c,.int .i64 (y:Int)] (wr.drewN d) fun e w'=>e=.returned (.bool b)/\w'=wr.drewN d:=fun b d hb=>by
    have:=aA0 (c:=c) (y:Int) (a5.keep (w':=wr.drewN d) (fun p hp=>((Ac.refl wr (fun _=>False)).drewN d).cell hp id) (Nat.le_refl _));rw [Z] at this;refine this.mono fun e w' h=>⟨?_,h.2.symm⟩;rw [h.1,<-hb];congr 2;rw [decide_eq_decide];unfold Ak;rw [List.mem_map];constructor
    ·rintro⟨z,V,e⟩;have:z=y:=by omega
     rw [<-this]; exact V
    ·intro V;exact⟨y,V,rfl⟩
   have a3:=hide a4;clear U G C a5 Z a4;by_cases j:y∈xs.take k
   ·have I:Hid (decide (y∈xs.take k)=true):=decide_eq_true j;have O:Hid (m=(dd (xs.take (k+1))).length):=by
     show _=_
     rw [a2.out,if_pos j,<-M.out];rfl
    clear j;go_wp2_with fail;go_quiet ((go_at_call 129; exact Calls.quiet_of_same (a3.out true _ I.out)));go_wp2_with fail;exact⟨⟨k+1,m,by go_num,by omega,rfl,by omega,O,E.out.trans (((Ac.refl wr (fun _=>False)).drewN _).below E.out.size (fun _ _ h=>h.elim))⟩,by simp [intOf]; omega⟩
   ·have I:Hid (decide (y∈xs.take k)=false):=decide_eq_false j;have O:Hid (m+1=(dd (xs.take (k+1))).length):=by
     show _=_
     rw [a2.out,if_neg j,<-M.out]
    clear j;go_wp2_with fail;go_quiet ((go_at_call 129; exact Calls.quiet_of_same (a3.out false _ I.out)));go_wp2_with fail;exact⟨⟨k+1,m+1,by go_num,by omega,by go_num,by omega,O,E.out.trans (((Ac.refl wr (fun _=>False)).drewN _).below E.out.size (fun _ _ h=>h.elim))⟩,by simp [intOf]; omega⟩
  ·obtain rfl:k=n:=by omega
   go_wp2_with fail;go_ret;refine⟨?_,C⟩;have:=M.out;rw [List.take_of_length_le (by rw [J.out]; exact Nat.le_refl _)] at this;show Value.int .i64 (m:Int)=_
   rw [this]
structure Dp (w:World) (L n:Nat) (vN vA:Value) (t:List (List Nat)) (ac:List Bool):Prop where
 rd:Br w w.heap.size (.agg #[vN,vA]) t ac
 ok:DOK L t ac
 n:ac.length=n
theorem Dp.below {w w':World} {L n:Nat} {vN vA:Value} {t:List (List Nat)} {ac:List Bool} (h:Dp w L n vN vA t ac) (d:Below w.heap.size w w'):Dp w' L n vN vA t ac:=⟨h.rd.keep (fun _ j=>d.cell j) d.size,h.ok,h.n⟩
theorem Dp.at {w:World} {L n:Nat} {vN vA:Value} {t:List (List Nat)} {ac:List Bool} (h:Dp w L n vN vA t ac):∃b d c,vN=.slice (some ⟨b,d,none⟩) n c/\b<w.heap.size/\∀q,q<n->∃A j,w.cell? ⟨b,d+q,none⟩=some (.slice A L j)/\∀x,x<L->∃b2 o2,A=some ⟨b2,o2,none⟩/\b2<w.heap.size/\w.cell? ⟨b2,o2+x,none⟩=some (.int .i64 (dnx t q x:Int))/\dnx t q x<n:=by
 obtain⟨A1,c1,A2,c2,e,C,h2⟩:=h.rd;injection e with e
 simp only [Array.mk.injEq,List.cons.injEq,and_true] at e;obtain⟨rfl,rfl⟩:=e;have hp:=h.ok.pos;have W:=h.ok.len;have Z:=h.n;obtain⟨r0,a2⟩:=An (l:=t) (i:=0) (by omega);obtain⟨b,d,v0,rfl,M,-,-⟩:=C.at a2;refine⟨b,d,c1,by rw [W,Z],M,fun q hq=>?_⟩;obtain⟨b',af,A,j,row,e,a8,U,ad,ab,a3,a4⟩:=Gt C h.ok (q:=q) (by omega);injection e with e
 injection e with G I
 subst G I;refine⟨A,j,U,fun x hx=>?_⟩;obtain⟨y,E⟩:=An (l:=row) (i:=x) (by omega);obtain⟨b2,o2,rfl,O,V⟩:=Ex a3 E;obtain⟨h3,J⟩:=a4 x y E;exact⟨b2,o2,rfl,O,by rw [J]; exact V,by omega⟩
theorem Dp.mark {w:World} {L n:Nat} {vN vA:Value} {t:List (List Nat)} {ac:List Bool} (h:Dp w L n vN vA t ac):∃b d c,vA=.slice (some ⟨b,d,none⟩) n c/\b<w.heap.size/\∀q,q<n->w.cell? ⟨b,d+q,none⟩=some (.bool (dac ac q)):=by
 obtain⟨A1,c1,A2,c2,e,W,j⟩:=h.rd;injection e with e
 simp only [Array.mk.injEq,List.cons.injEq,and_true] at e;obtain⟨rfl,rfl⟩:=e;have O:=h.ok.pos;have M:=h.n;obtain⟨V,I⟩:=An (l:=ac) (i:=0) O;obtain⟨b,d,rfl,G,-⟩:=Fy j I;refine⟨b,d,c2,by rw [M],G,fun q Z=>?_⟩;obtain⟨x,y⟩:=An (l:=ac) (i:=q) (by omega);obtain⟨U,a2,e,-,J⟩:=Fy j y;injection e with e
 injection e with C E
 subst C E;rw [J];unfold dac;rw [getD_some y]
theorem L9 {w:World} {L n g c a b:Nat} {vN vA:Value} {t:List (List Nat)} {ac:List Bool} {cl:List Nat} (Z:Dp w L n vN vA t ac) (C:CQ w g n cl) (ha:a<n) (hb:b<n) (hn:n<=300000) (hL:L<=8):
  Calls Tryz.prog 178 #[.agg #[vN,vA],.slice (some ⟨g,0,none⟩) n c,.int .i64 (L:Int),.int .i64 (a:Int),.int .i64 (b:Int)] w (Ret fun v w'=>(∃r:Bool,v=.bool r/\(r=true↔Dw L (dnx t) cl a b))/\Below w.heap.size w w'):=by
 obtain⟨bA,oA,cA,rfl,-⟩:=Z.mark;obtain⟨W,oN,cN,rfl,aj,au⟩:=Z.at
 obtain⟨w1,aZ,U,ad,aO⟩:=Ae w #[.slice (some ⟨W,oN,none⟩) n cN,.slice (some ⟨bA,oA,none⟩) n cA] 139;have av:=U.size;have aK:=hide ad;have ap:=hide au;have M:=hide (C.below U);have am:=hide C.1;have ai:=hide U;obtain⟨E,a3⟩:=An (l:=cl) (i:=a) (by rw [C.1]; exact ha);obtain⟨G,a4⟩:=An (l:=cl) (i:=b) (by rw [C.1]; exact hb);have aW:=M.out.2.2 a E a3;have aX:=M.out.2.2 b G a4;have ak:Hid (cl.getD a 0=E):=getD_some a3;have al:Hid (cl.getD b 0=G):=getD_some a4;clear a3 a4 au C U ad aO Z;by_cases O:E=G
 ·have aL:(E:Int)=(G:Int):=by omega
  have a2:=hide O;clear O;go_enter Tryz.func178,Tryz.ntmps178;go_wp2_with fail;go_quiet (fail);go_wp2_with fail;go_loopw [11] (fun ii wr=>∃(x:Nat),ii=.int .i64 (x:Int)/\x<=L/\Below w1.heap.size w1 wr/\Hid (∀y,y<x->cl.getD (dnx t a y) 0=cl.getD (dnx t b y) 0)) (fun ii _=>L - (intOf ii).toNat)
  case atStart=>exact⟨0,rfl,Nat.zero_le _,((Ac.refl w1 (fun _=>False)).drewN _).below (Nat.le_refl _) (fun _ _ h=>h.elim),fun y hy=>absurd hy (by omega)⟩
  case round=>
   obtain⟨x,rfl,hx,j,hE⟩:=hrel;have d:=hide (ai.out.trans (j.mono av));have ae:=hide j;by_cases a5:x<L
   ·obtain⟨Aa,aT,an,aq⟩:=ap.out a ha;obtain⟨Ab,aU,ao,ar⟩:=ap.out b hb;obtain⟨b1,o1,rfl,aM,aw,ay⟩:=aq x a5;obtain⟨b2,o2,rfl,aN,ax,aA⟩:=ar x a5;obtain⟨I,a7⟩:=An (l:=cl) (i:=dnx t a x) (by rw [am.out]; exact ay);obtain⟨J,a8⟩:=An (l:=cl) (i:=dnx t b x) (by rw [am.out]; exact aA);have c1:=(aK.out.below j).cell;have c2:=(d.out.cell (p:=⟨W,oN+a,none⟩) aj).trans an;have c3:=(d.out.cell (p:=⟨W,oN+b,none⟩) aj).trans ao;have c4:=(d.out.cell (p:=⟨b1,o1+x,none⟩) aM).trans aw;have c5:=(d.out.cell (p:=⟨b2,o2+x,none⟩) aN).trans ax;have c6:=(M.out.below j).2.2 _ I a7;have c7:=(M.out.below j).2.2 _ J a8;have g1:Hid (cl.getD (dnx t a x) 0=I):=getD_some a7;have g2:Hid (cl.getD (dnx t b x) 0=J):=getD_some a8;obtain⟨y1,az⟩:∃y1,y1=dnx t a x:=⟨_,rfl⟩;obtain⟨y2,aB⟩:∃y2,y2=dnx t b x:=⟨_,rfl⟩;rw [<-az] at c4 c6 ay;rw [<-aB] at c5 c7 aA;clear an ao aq ar aw ax a7 a8 az aB j;by_cases V:I=J
    ·have aP:(I:Int)=(J:Int):=by omega
     have a9:=hide V;clear V;go_wp2_with fail;go_quiet (fail);go_wp2_with fail;refine⟨⟨x+1,by go_num,by omega,ae.out.trans (((Ac.refl wr (fun _=>False)).drewN _).below ae.out.size (fun _ _ h=>h.elim)),fun y hy=>?_⟩,by simp [intOf]; omega⟩;by_cases e:y=x
     ·subst e;rw [g1.out,g2.out,a9.out]
     ·exact hE.out y (by omega)
    ·have aP:¬(I:Int)=(J:Int):=by omega
     have a9:=hide V;clear V;go_wp2_with fail;go_quiet (fail);go_wp2_with fail;go_ret;refine⟨⟨false,rfl,?_⟩,d.out.trans (((Ac.refl wr (fun _=>False)).drewN _).below d.out.size (fun _ _ h=>h.elim))⟩;constructor
     ·intro h; cases h
     ·intro h;have:=h.2 x a5;rw [g1.out,g2.out] at this;exact(a9.out this).elim
   ·go_wp2_with fail;go_ret;refine⟨⟨true,rfl,?_⟩,d.out⟩;constructor
    ·intro _;exact⟨by rw [ak.out,al.out,a2.out],fun y hy=>hE.out y (by omega)⟩
    ·intro _; rfl
 ·have aL:¬(E:Int)=(G:Int):=by omega
  have a2:=hide O;clear O;go_enter Tryz.func178,Tryz.ntmps178;go_wp2_with fail;go_quiet (fail);go_wp2_with fail;go_ret;refine⟨⟨false,rfl,?_⟩,ai.out.trans (((Ac.refl w1 (fun _=>False)).drewN _).below av (fun _ _ h=>h.elim))⟩;constructor
  ·intro h; cases h
  ·intro h;have:=h.1;rw [ak.out,al.out] at this;exact(a2.out this).elim
end Go.Proofs.YtfcfpoemojjglaaGreatDoor
namespace Go.Proofs.YtfcfpoemojjglaaGreatDoor
open Go.RowKit
set_option maxHeartbeats 16000000
set_option maxRecDepth 100000
theorem TH {α:Type} {xs ys:List α} {i:Nat} {x:α} (d:xs[i]?=some x) (j:ys[i]?=some x) (h:xs.take i=ys.take i):xs.take (i+1)=ys.take (i+1):=by
 rw [List.take_add_one,List.take_add_one,h,d,j]
theorem TG {α:Type} {xs ys:List α} {i:Nat} (h:xs.take i=ys.take i) (d:xs.length<=i) (j:ys.length<=i):xs=ys:=by
 rw [List.take_of_length_le d,List.take_of_length_le j] at h;exact h
theorem Re {α:Type} {xs ys:List α} {i:Nat} {x y:α} (j:xs[i]?=some x) (d:ys[i]?=some y) (h:x≠y):xs≠ys:=by
 rintro rfl;rw [j] at d;exact h (Option.some.inj d)
def Cg:List Int->List Int->Int
 | [],[]=>0
 | [],_::_=>-1
 | _::_,[]=>1
 | x::xs,y::ys=>if x<y then -1 else if y<x then 1 else Cg xs ys
theorem Jb:∀{xs ys:List Int},Cg xs ys=0↔xs=ys
 | [],[]=>by simp [Cg]
 | [],_::_=>by simp [Cg]
 | _::_,[]=>by simp [Cg]
 | x::xs,y::ys=>by
  have d:=Jb (xs:=xs) (ys:=ys);unfold Cg;rcases Int.lt_trichotomy x y with h | h | h
  ·rw [if_pos h];constructor
   ·intro e; omega
   ·intro e; injection e with e _; omega
  ·subst h;rw [if_neg (by omega),if_neg (by omega),d];constructor
   ·intro e; rw [e]
   ·intro e; injection e
  ·rw [if_neg (by omega),if_pos h];constructor
   ·intro e; omega
   ·intro e; injection e with e _; omega
theorem M1 {xs ys:List Int} {i:Nat} {x y:Int} (j:xs[i]?=some x) (l:ys[i]?=some y):Cg (xs.drop i) (ys.drop i)=if x<y then -1 else if y<x then 1 else Cg (xs.drop (i+1)) (ys.drop (i+1)):=by
 obtain⟨d,rfl⟩:=List.getElem?_eq_some_iff.1 j;obtain⟨h,rfl⟩:=List.getElem?_eq_some_iff.1 l;rw [List.drop_eq_getElem_cons d,List.drop_eq_getElem_cons h,Cg]
theorem M3 {w:World} {I J c1 c2:Nat} {A1 A2:Option Addr} {xs ys:List Int} (M:Sl w I 1 Ai A1 xs) (O:Sl w J 1 Ai A2 ys) (a9:I<=w.heap.size) (aa:J<=w.heap.size):
  Calls Tryz.prog 67 #[.slice A1 xs.length c1,.slice A2 ys.length c2] w (Ret fun r w'=>r=.int .i64 (Cg xs ys)/\Below w.heap.size w w'):=by
 have hn:=M.1;have hm:=O.1;go_enter Tryz.func67,Tryz.ntmps67;go_wp2_with fail;go_loopw [5] (fun G wr=>∃(i:Nat),G=.int .i64 (i:Int)/\i<=xs.length/\i<=ys.length/\Below w.heap.size w wr/\Hid (Cg xs ys=Cg (xs.drop i) (ys.drop i))) (fun G _=>xs.length - (intOf G).toNat)
 case atStart=>exact⟨0,rfl,Nat.zero_le _,Nat.zero_le _,Below.refl _ _,by show _=_; simp⟩
 case round=>
  obtain⟨i,rfl,hi,af,h,j⟩:=hrel;by_cases W:i<xs.length
  ·by_cases E:i<ys.length
   ·obtain⟨b1,o1,x,rfl,ab,hx,U⟩:=M.at W;obtain⟨b2,o2,y,rfl,ad,hy,V⟩:=O.at E;have e1:=(h.cell (by show b1<_; omega)).trans (U 0 (by omega));have e2:=(h.cell (by show b2<_; omega)).trans (V 0 (by omega));simp only [Nat.mul_one,Nat.add_zero,Ai] at e1 e2;have a8:=hide (h.trans ((Ap wr).mono h.size));have a2:=hide ((h.trans ((Ap wr).mono h.size)).trans ((Ap wr.drew).mono h.size));have C:=hide (j.out.trans (M1 hx hy));clear hx hy U V j;rcases Int.lt_trichotomy x y with l | l | l
    ·have d:Hid (Cg xs ys= -1):=by show _=_; rw [C.out,if_pos l]
     go_wp2_with fail;refine Reg.cP [0,0,3,7,0,0,48,112,255] ?_;go_wp2_with fail;go_ret;exact⟨by rw [d.out]; first | done | rfl,a8.out⟩
    ·subst l;have d:Hid (Cg xs ys=Cg (xs.drop (i+1)) (ys.drop (i+1))):=by show _=_; rw [C.out,if_neg (by omega),if_neg (by omega)]
     go_wp2_with fail;refine Reg.cP [0,0,3,7,0,0,48,112,255] ?_;go_wp2_with fail;refine Reg.cP [0,0,3,7,0,0,48,112,255] ?_;go_wp2_with fail;exact⟨⟨i+1,by simp,by omega,by omega,a2.out,d⟩,by simp [intOf]; omega⟩
    ·have d:Hid (Cg xs ys=1):=by show _=_; rw [C.out,if_neg (by omega),if_pos l]
     have ai:¬x<y:=by omega
     go_wp2_with fail;refine Reg.cP [0,0,3,7,0,0,48,112,255] ?_;go_wp2_with fail;refine Reg.cP [0,0,3,7,0,0,48,112,255] ?_;go_wp2_with fail;go_ret;exact⟨by rw [d.out]; first | done | rfl,a2.out⟩
   ·have d:Hid (Cg xs ys=1):=by
     show _=_
     rw [j.out,(List.drop_eq_nil_of_le (by omega):ys.drop i=[]),List.drop_eq_getElem_cons W,Cg]
    have a7:ys.length<xs.length:=by omega
    have Z:¬xs.length<ys.length:=by omega
    go_wp2_with fail;go_ret;exact⟨by rw [d.out]; first | done | rfl,h⟩
  ·by_cases E:i<ys.length
   ·have d:Hid (Cg xs ys= -1):=by
     show _=_
     rw [j.out,(List.drop_eq_nil_of_le (by omega):xs.drop i=[]),List.drop_eq_getElem_cons E,Cg]
    have Z:xs.length<ys.length:=by omega
    go_wp2_with fail;go_ret;exact⟨by rw [d.out]; first | done | rfl,h⟩
   ·have d:Hid (Cg xs ys=0):=by
     show _=_
     rw [j.out,(List.drop_eq_nil_of_le (by omega):xs.drop i=[]),(List.drop_eq_nil_of_le (by omega):ys.drop i=[]),Cg]
    have Z:¬xs.length<ys.length:=by omega
    have a7:¬ys.length<xs.length:=by omega
    go_wp2_with fail;go_ret;exact⟨by rw [d.out]; first | done | rfl,h⟩
theorem KX {w:World} {d h c1 c2:Nat} {A1 A2:Option Addr} {xs ys:List Int} (y:Sl w d 1 Ai A1 xs) (C:Sl w h 1 Ai A2 ys) (E:d<=w.heap.size) (G:h<=w.heap.size):
  Calls Tryz.prog 26 #[.slice A1 xs.length c1,.slice A2 ys.length c2] w (Ret fun r w'=>r=.bool (decide (xs=ys))/\Below w.heap.size w w'):=by
 have l:=M3 (c1:=c1) (c2:=c2) y C E G;have J:=hide (Jb (xs:=xs) (ys:=ys));generalize Cg xs ys=z at*;go_enter Tryz.func26,Tryz.ntmps26;go_wp2_with fail;refine Calls.ret l ?_;rintro v w2 ⟨rfl,j⟩;have I:=hide j;clear j l;go_wp2_with fail;go_ret;exact⟨congrArg Value.bool (decide_eq_decide.2 J.out),I.out⟩
theorem SO {v1 v2:Value} {a b:WA} {w:World} (h:Bj w w.heap.size v1 a) (h':Bj w w.heap.size v2 b):
  Calls Tryz.prog 13 #[v1,v2] w (Ret fun r w'=>r=.bool (decide (a=b))/\Below w.heap.size w w'):=by
 obtain⟨A1,c1,A2,c2,A3,c3,rfl,h1,h2,h3,-⟩:=h;obtain⟨A4,c4,A5,c5,A6,c6,rfl,h4,h5,h6,-⟩:=h';obtain⟨l,E,st,ac,M⟩:=a;obtain⟨Lb,Sb,st',I,O⟩:=b;simp only at h1 h2 h3 h4 h5 h6 ⊢;obtain⟨W,ab⟩:∃n,M.length=n:=⟨_,rfl⟩;obtain⟨m2,aa⟩:∃n,O.length=n:=⟨_,rfl⟩;have b2:W<=9223372036854775807:=ab ▸ h3.1;have b3:m2<=9223372036854775807:=aa ▸ h6.1;rw [ab,aa];have ae:=hide ab;have ad:=hide aa;clear ab aa;obtain⟨w1,bu,az,aX,bo⟩:=Ae w #[.int .i64 l,.int .i64 E,.slice A1 st.length c1,.slice A2 ac.length c2,.slice A3 W c3] 35;obtain⟨w2,bv,aA,ak,b8⟩:=Ae w1 #[.int .i64 Lb,.int .i64 Sb,.slice A4 st'.length c4,.slice A5 I.length c5,.slice A6 m2 c6] 35;have bd:=az.size;have bt:=aA.size;have U:=az.trans (aA.mono bd);have aj:=aX.kept b8 id;have bj:=aj.cell;have bk:=ak.cell;by_cases g1:l=Lb
 case neg=>
  have V:Hid ((⟨l,E,st,ac,M⟩:WA)≠⟨Lb,Sb,st',I,O⟩):=fun e=>g1 (congrArg WA.letters e);go_enter Tryz.func13,Tryz.ntmps13;go_wp2_with fail;go_ret;exact⟨congrArg Value.bool (decide_eq_false V.out).symm,U⟩
 subst g1;by_cases g2:E=Sb
 case neg=>
  have V:Hid ((⟨l,E,st,ac,M⟩:WA)≠⟨l,Sb,st',I,O⟩):=fun e=>g2 (congrArg WA.states e);go_enter Tryz.func13,Tryz.ntmps13;go_wp2_with fail;go_ret;exact⟨congrArg Value.bool (decide_eq_false V.out).symm,U⟩
 subst g2;by_cases g3:W=m2
 case neg=>
  have V:Hid ((⟨l,E,st,ac,M⟩:WA)≠⟨l,E,st',I,O⟩):=fun e=>g3 (by rw [<-ae.out,<-ad.out]; exact congrArg (fun a=>a.edges.length) e);go_enter Tryz.func13,Tryz.ntmps13;go_wp2_with fail;go_ret;exact⟨congrArg Value.bool (decide_eq_false V.out).symm,U⟩
 subst g3;go_enter Tryz.func13,Tryz.ntmps13;go_wp2_with fail;go_loopw [5] (fun ii wr=>∃(i:Nat),ii=.int .i64 (i:Int)/\i<=W/\Below w2.heap.size w2 wr/\Hid (M.take i=O.take i)) (fun ii _=>W - (intOf ii).toNat)
 case atStart=>exact⟨0,rfl,Nat.zero_le _,Below.refl _ _,by show _=_; simp⟩
 case round=>
  obtain⟨i,rfl,hi,C,hT⟩:=hrel;have aE:=(aj.kept (Ac.of_below C (fun _=>False)) id).cell;have aG:=(ak.kept (Ac.of_below C (fun _=>False)) id).cell;by_cases bp:i<W
  ·obtain⟨b1,o1,x,rfl,b4,hx,aB⟩:=h3.at (k:=i) (by have:=ae.out; omega);obtain⟨b2,o2,y,rfl,b5,hy,aC⟩:=h6.at (k:=i) (by have:=ad.out; omega);have ar:=hide hx;have au:=hide hy;have e1:=fun j hj=>(C.cell (by show b1<_; omega)).trans ((U.cell (by exact b4)).trans (aB j hj));have J:=fun j hj=>(C.cell (by show b2<_; omega)).trans ((U.cell (by exact b5)).trans (aC j hj));have aQ:=e1 0 (by omega);have aR:=e1 1 (by omega);have aS:=e1 2 (by omega);have aT:=J 0 (by omega);have aU:=J 1 (by omega);have aV:=J 2 (by omega);simp only [Nat.add_zero,DP] at aQ aR aS aT aU aV;have aJ:=hide (C.trans ((Ap wr).mono C.size));clear hx hy aB aC e1 J;by_cases Z:x=y
   ·subst Z;go_wp2_with fail;refine Reg.cP [0,1,0,7,15,0,32,0,224,480,1023] ?_;go_wp2_with fail;exact⟨⟨i+1,by simp,by omega,aJ.out,TH ar.out au.out hT.out⟩,by simp [intOf]; omega⟩
   ·have V:Hid ((⟨l,E,st,ac,M⟩:WA)≠⟨l,E,st',I,O⟩):=fun e=>Re ar.out au.out Z (congrArg WA.edges e);have ba:x.frm≠y.frm\/x.frm=y.frm/\(x.letter≠y.letter\/x.letter=y.letter/\x.to≠y.to):=by
     rcases x with⟨x1,x2,x3⟩; rcases y with⟨y1,y2,y3⟩;simp only [Edg.mk.injEq] at Z;simp only;by_cases e:x1=y1
     ·refine Or.inr ⟨e,?_⟩;by_cases J:x2=y2
      ·exact Or.inr ⟨J,fun e'=>Z ⟨e,J,e'⟩⟩
      ·exact Or.inl J
     ·exact Or.inl e
    clear Z;rcases ba with e | ⟨e,e' | ⟨e',bi⟩⟩
    all_goals
     go_wp2_with fail;refine Reg.cP [0,1,0,7,15,0,32,0,224,480,1023] ?_;go_wp2_with fail;go_ret;exact⟨congrArg Value.bool (decide_eq_false V.out).symm,U.trans (aJ.out.mono (by omega))⟩
  ·have b0:Hid (M=O):=TG hT.out (by have:=ae.out; omega) (by have:=ad.out; omega);have bs:=C.size;have G:=U.trans (C.mono (by omega));have av:=(h1.below G).mono G.size;have aw:=(h2.below G).mono G.size;have ax:=(h4.below G).mono G.size;have ay:=(h5.below G).mono G.size;have a9:=KX (c1:=c1) (c2:=c4) av ax (Nat.le_refl _) (Nat.le_refl _);have b9:=hide (fun(wx:World) (d:Below wr.heap.size wr wx)=>KX (w:=wx) (c1:=c2) (c2:=c5) ((aw.below d).mono d.size) ((ay.below d).mono d.size) (Nat.le_refl _) (Nat.le_refl _));have a8:=hide G;have aH:Hid (decide ((⟨l,E,st,ac,M⟩:WA)=⟨l,E,st',I,O⟩)=(decide (st=st')&&decide (ac=I))):=by
    show _=_
    rw [b0.out,Bool.eq_iff_iff];simp only [decide_eq_true_eq,Bool.and_eq_true,WA.mk.injEq,true_and,and_true]
   have bq:=h1.1;have br:=h4.1;have aY:=hide (aj.kept (Ac.of_below C (fun _=>False)) id);have aZ:=hide (ak.kept (Ac.of_below C (fun _=>False)) id);clear av aw ax ay G h1 h2 h3 h4 h5 h6 C hT;generalize decide (st=st')=d1 at*;generalize decide (ac=I)=d2 at*;cases d1
   ·go_wp2_with fail;refine Calls.ret a9 ?_;rintro v w9 ⟨rfl,d⟩;have b6:=hide d;clear d a9 aE aG;go_wp2_with fail;go_ret;exact⟨by rw [aH.out]; rfl,a8.out.trans (b6.out.mono a8.out.size)⟩
   ·go_wp2_with fail;refine Calls.ret a9 ?_;rintro v w9 ⟨rfl,d⟩;have aF:Hid (Below wr.heap.size wr w9):=d;have aD:=b9.out w9 d;have bl:=(aY.out.kept (Ac.of_below d (fun _=>False)) id).cell;have bm:=(aZ.out.kept (Ac.of_below d (fun _=>False)) id).cell;clear d a9 aE aG;go_wp2_with fail;refine Calls.ret aD ?_;rintro v bw ⟨rfl,d⟩;have b7:=hide (a8.out.trans ((aF.out.trans (d.mono aF.out.size)).mono a8.out.size));clear d aD;go_wp2_with fail;go_ret;exact⟨by rw [aH.out]; rfl,b7.out⟩
end Go.Proofs.YtfcfpoemojjglaaGreatDoor
