/-
  Part EA of a proof.
-/
import Derived.Test.YtfcfpoemojjglaaGreatDoorPA
import Derived.Test.YtfcfpoemojjglaaGreatDoorPI
import Derived.Test.YtfcfpoemojjglaaGreatDoorPH
import Derived.Test.YtfcfpoemojjglaaGreatDoorPJ
import Derived.Test.YtfcfpoemojjglaaGreatDoorPM
set_option maxHeartbeats 16000000
set_option maxRecDepth 100000
set_option linter.unusedVariables false
set_option linter.unusedSimpArgs false
namespace Go.Proofs.YtfcfpoemojjglaaGreatDoor
open Go.RowKit
section
variable {S:Type} [DecidableEq S] {L:Nat} {δ:S→Nat→S} {s0:S}
theorem Kt {all:List S} (h:Bd L δ s0 all) (f:S→Bool) {w:List Nat} (E:okW L w):EG (AJ L δ all all.length) (all.map f) w=f (AD δ s0 w):=by
 have C:=Fm (δ:=δ) h (ac:=all.map f) (by simp)
 have G:=h.num E
 have I:AD (dnx (AJ L δ all all.length)) 0 w=AD (Cy δ all) 0 w:=by
  have:=GH (L:=L) (n:=all.length) (nx:=dnx (AJ L δ all all.length)) (nx':=Cy δ all) (fun q x y z=>by have:=C.lt (by simpa using y) z; simpa using this) (fun q x y z=>(HV y z).symm) w 0 E (by have:=C.pos; simpa using this)
  exact this.symm
 unfold EG
 rw [I]
 unfold dac
 rw [getD_some (AX G)]
end
def dPr (t u:List (List Nat)) (p:Nat×Nat) (x:Nat):Nat×Nat:=(dnx t p.1 x,dnx u p.2 x)
def Tx (op:Bool→Bool→Bool) (ac bc:List Bool) (p:Nat×Nat):Bool:=op (dac ac p.1) (dac bc p.2)
section
variable {L:Nat} {t u:List (List Nat)} {ac bc:List Bool} {all:List (Nat×Nat)} {op:Bool→Bool→Bool}
end
section
variable {L:Nat} {t:List (List Nat)} {ac:List Bool} {Λ:List Nat→Bool}
end
end Go.Proofs.YtfcfpoemojjglaaGreatDoor
namespace Go.Proofs.YtfcfpoemojjglaaGreatDoor
open Go.RowKit
structure Dc (E:Nat→Nat→Prop) (i:Nat) (F nx:List Nat):Prop where
 len:nx.length=i
 at_:∀j v,nx[j]?=some v→∃f,F[v]?=some f∧E f j
 sep:∀(p q f g:Nat),p<q→F[p]?=some f→F[q]?=some g→¬E f g
 src:∀(p f:Nat),F[p]?=some f→f<i∧nx[f]?=some p
theorem Dc.start (E:Nat→Nat→Prop):Dc E 0 [] []:=⟨rfl,fun j v h=>by simp at h,fun p q f g _ h=>by simp at h,fun p f h=>by simp at h⟩
theorem Dc.le {E:Nat→Nat→Prop} {i:Nat} {F nx:List Nat} (h:Dc E i F nx):F.length≤i:=by
 have I:F.Nodup:=by
  refine List.pairwise_iff_getElem.2 fun p q y J M e=>?_
  have C:=(h.src q _ (List.getElem?_eq_getElem J)).2
  have z:=(h.src p _ (List.getElem?_eq_getElem y)).2
  rw [e,C] at z
  have:=Option.some.inj z
  omega
 have:=D3 F (List.range i) I (fun a G=>by
  obtain⟨p,y⟩:=List.mem_iff_getElem?.1 G
  exact List.mem_range.2 (h.src p a y).1)
 simpa using this
theorem Fv {D:Type} {l:List D} {x y:D} {j:Nat} (h:(l++[x])[j]?=some y):l[j]?=some y∨j=l.length∧y=x:=by
 by_cases C:j<l.length
 ·rw [List.getElem?_append_left C] at h
  exact .inl h
 ·have z:=AM h
  simp at z
  obtain rfl:j=l.length:=by omega
  simp at h
  exact .inr ⟨rfl,h.symm⟩
theorem H9 {D:Type} {l:List D} {x y:D} {j:Nat} (h:l[j]?=some y):(l++[x])[j]?=some y:=by
 rw [List.getElem?_append_left (AM h)]
 exact h
theorem KJ {D:Type} (l:List D) (x:D):(l++[x])[l.length]?=some x:=by simp
theorem Dc.old {E:Nat→Nat→Prop} {i k f:Nat} {F nx:List Nat} (h:Dc E i F nx) (hk:F[k]?=some f) (C:E f i):Dc E (i+1) F (nx++[k]):=by
 refine⟨by simp [h.len],fun j v y=>?_,h.sep,fun p g G=>?_⟩
 ·rcases Fv y with y | ⟨rfl,rfl⟩
  ·exact h.at_ j v y
  ·rw [h.len]; exact⟨f,hk,C⟩
 ·obtain⟨I,z⟩:=h.src p g G
  exact⟨by omega,H9 z⟩
theorem Dc.new {E:Nat→Nat→Prop} {i:Nat} {F nx:List Nat} (h:Dc E i F nx) (V:E i i) (W:∀(p f:Nat),F[p]?=some f→¬E f i):Dc E (i+1) (F++[i]) (nx++[F.length]):=by
 refine⟨by simp [h.len],fun j v C=>?_,fun p q f g Z y hq=>?_,fun p g y=>?_⟩
 ·rcases Fv C with C | ⟨rfl,rfl⟩
  ·obtain⟨f,I,z⟩:=h.at_ j v C
   exact⟨f,H9 I,z⟩
  ·rw [h.len]; exact⟨i,KJ _ _,V⟩
 ·rcases Fv hq with J | ⟨e1,M⟩
  ·rcases Fv y with G | ⟨O,U⟩
   ·exact h.sep p q f g Z G J
   ·have:=AM J; omega
  ·rcases Fv y with G | ⟨O,U⟩
   ·rw [M]; exact W p f G
   ·omega
 ·rcases Fv y with y | ⟨rfl,rfl⟩
  ·obtain⟨I,z⟩:=h.src p g y
   exact⟨by omega,H9 z⟩
  ·refine⟨by omega,?_⟩
   rw [←h.len]; exact KJ _ _
section
variable {L n r:Nat} {nx:Nat→Nat→Nat} {acc:Nat→Bool} {cl os F:List Nat}
structure CZ (L n:Nat) (nx:Nat→Nat→Nat) (acc:Nat→Bool) (r:Nat) (cl:List Nat):Prop where
 len:cl.length=n
 iff:∀i j,i<n→j<n→(cl.getD i 0=cl.getD j 0↔EqW L nx acc r i j)
def Dt (L:Nat) (nx:Nat→Nat→Nat) (cl:List Nat) (a b:Nat):Prop:=cl.getD a 0=cl.getD b 0∧∀x,x<L→cl.getD (nx a x) 0=cl.getD (nx b x) 0
theorem CZ.alike (h:CZ L n nx acc r cl) (y:∀q x,q<n→x<L→nx q x<n) {a b:Nat} (z:a<n) (C:b<n):Dt L nx cl a b↔EqW L nx acc (r+1) a b:=by
 show _∧_↔EqW L nx acc r a b∧_
 rw [h.iff a b z C]
 exact and_congr_right fun _=>forall_congr' fun x=>forall_congr' fun E=>h.iff _ _ (y a x z E) (y b x C E)
theorem EqW.refl:∀r p,EqW L nx acc r p p
 | 0,_=>rfl
 | r+1,p=>⟨EqW.refl r p,fun _ _=>EqW.refl r _⟩
theorem EqW.symm:∀(r:Nat) {p q:Nat},EqW L nx acc r p q→EqW L nx acc r q p
 | 0,_,_,h=>Eq.symm h
 | r+1,_,_,h=>⟨EqW.symm r h.1,fun x y=>EqW.symm r (h.2 x y)⟩
theorem EqW.trans:∀(r:Nat) {p q s:Nat},EqW L nx acc r p q→EqW L nx acc r q s→EqW L nx acc r p s
 | 0,_,_,_,h,k=>Eq.trans h k
 | r+1,_,_,_,h,k=>⟨EqW.trans r h.1 k.1,fun x y=>EqW.trans r (h.2 x y) (k.2 x y)⟩
theorem Dc.cls {E:Nat→Nat→Prop} (h:Dc E n F os) (J:∀i j,i<n→j<n→(E i j↔EqW L nx acc r i j)):CZ L n nx acc r os∧∀i,i<n→os.getD i 0<n:=by
 refine⟨⟨h.len,fun i j M W=>?_⟩,fun i M=>?_⟩
 ·obtain⟨u,C⟩:=Ap (l:=os) (i:=i) (by rw [h.len]; exact M)
  obtain⟨v,Z⟩:=Ap (l:=os) (i:=j) (by rw [h.len]; exact W)
  rw [getD_some C,getD_some Z]
  obtain⟨f,z,G⟩:=h.at_ i u C
  obtain⟨g,y,I⟩:=h.at_ j v Z
  have O:=(h.src u f z).1
  have hgn:=(h.src v g y).1
  have G:=(J f i O M).1 G
  have I:=(J g j hgn W).1 I
  constructor
  ·rintro rfl
   rw [z] at y
   injection y with y
   subst y
   exact EqW.trans r (EqW.symm r G) I
  ·intro e
   have V:EqW L nx acc r f g:=EqW.trans r G (EqW.trans r e (EqW.symm r I))
   rcases Nat.lt_trichotomy u v with U | rfl | U
   ·exact(h.sep u v f g U z y ((J f g O hgn).2 V)).elim
   ·rfl
   ·exact(h.sep v u g f U y z ((J g f hgn O).2 (EqW.symm r V))).elim
 ·obtain⟨u,C⟩:=Ap (l:=os) (i:=i) (by rw [h.len]; exact M)
  obtain⟨f,z,-⟩:=h.at_ i u C
  rw [getD_some C]
  have:=AM z
  have:=h.le
  omega
theorem CZ.norm (h:CZ L n nx acc r cl):BS L n nx acc r (BE cl) (dd cl).length:=by
 refine⟨by rw [DM,h.len],fun i j C E=>?_,fun v=>II⟩
 obtain⟨a,y⟩:=Ap (l:=cl) (i:=i) (by rw [h.len]; exact C)
 obtain⟨b,z⟩:=Ap (l:=cl) (i:=j) (by rw [h.len]; exact E)
 rw [IG y z,←h.iff i j C E,getD_some y,getD_some z]
theorem CZ.grow (h:CZ L n nx acc r cl) (y:CZ L n nx acc (r+1) os):(dd cl).length≤(dd os).length:=h.norm.grow y.norm
def EqD (L:Nat) (nx:Nat→Nat→Nat) (acc:Nat→Bool) (d:Int) (i j:Nat):Prop:=if d<0 then ∀r,EqW L nx acc r i j else EqW L nx acc d.toNat i j
structure Ey (L n:Nat) (nx:Nat→Nat→Nat) (acc:Nat→Bool) (d:Int) (cl:List Nat):Prop where
 len:cl.length=n
 iff:∀i j,i<n→j<n→(cl.getD i 0=cl.getD j 0↔EqD L nx acc d i j)
 le:∀i,i<n→cl.getD i 0≤n
 lt:d<0→∀i,i<n→cl.getD i 0<n
theorem Ey.toW (h:Ey L n nx acc (-1) cl):Cj L n nx acc cl:=⟨h.len,fun i j y z=>by
 have:=h.iff i j y z
 unfold EqD at this
 rwa [if_pos (by omega)] at this,h.lt (by omega)⟩
theorem CZ.atDepth (h:CZ L n nx acc r cl) (C:∀i,i<n→cl.getD i 0≤n) {d:Int} (hd:(r:Int)=d):Ey L n nx acc d cl:=by
 refine⟨h.len,fun i j y z=>?_,C,fun E=>by omega⟩
 unfold EqD
 rw [if_neg (by omega),←hd]
 exact h.iff i j y z
theorem CZ.atRest (U:∀q x,q<n→x<L→nx q x<n) (h:CZ L n nx acc r cl) (C:CZ L n nx acc (r+1) os) (M:∀i,i<n→os.getD i 0<n) (G:(dd os).length=(dd cl).length) {d:Int} (hd:d<0∨(r:Int)≤d):Ey L n nx acc d os:=by
 have J:=h.norm
 have E:=C.norm
 rw [G] at E
 have O:=fun d {i j}=>EqW.stable U (fun i j y z G=>J.rest E y z G) d (i:=i) (j:=j)
 refine⟨C.len,fun i j y z=>(C.iff i j y z).trans ?_,fun i y=>Nat.le_of_lt (M i y),fun _=>M⟩
 unfold EqD
 by_cases I:d<0
 ·rw [if_pos I]
  exact⟨fun e k=>EqW.le (r:=k) r (by rw [Nat.add_comm]; exact O k y z e.1),fun e=>e (r+1)⟩
 ·rw [if_neg I]
  obtain⟨k,hk⟩:∃k,d.toNat=r+k:=⟨d.toNat - r,by omega⟩
  rw [hk]
  exact⟨fun e=>O k y z e.1,fun e=>J.rest E y z (EqW.le k e)⟩
def DN (ac:List Bool):List Nat:=ac.map fun b=>if b=true then 1 else 0
theorem Mm (ac:List Bool):CZ L ac.length nx (dac ac) 0 (DN ac):=by
 refine⟨by simp [DN],fun i j I J=>?_⟩
 obtain⟨a,h⟩:=Ap I
 obtain⟨b,y⟩:=Ap J
 have z:(DN ac).getD i 0=if a=true then 1 else 0:=getD_some (AX (f:=fun b:Bool=>if b=true then 1 else 0) h)
 have C:(DN ac).getD j 0=if b=true then 1 else 0:=getD_some (AX (f:=fun b:Bool=>if b=true then 1 else 0) y)
 show _↔dac ac i=dac ac j
 have E:dac ac i=a:=getD_some h
 have G:dac ac j=b:=getD_some y
 rw [z,C,E,G]
 cases a <;> cases b <;> simp
theorem Mn (ac:List Bool) (i:Nat):(DN ac).getD i 0≤1:=by
 rw [List.getD_eq_getElem?_getD]
 cases h:(DN ac)[i]? with
 | none=>simp
 | some x=>
  simp only [Option.getD_some]
  obtain⟨b,-,rfl⟩:=List.mem_map.1 (List.mem_of_getElem? h)
  split <;> omega
end
end Go.Proofs.YtfcfpoemojjglaaGreatDoor
namespace Go.Proofs.YtfcfpoemojjglaaGreatDoor
open Go.RowKit
theorem Lu {ac bc:List Bool} {i:Nat} (h:ac<+:bc) (C:i≤ac.length):BL bc i=BL ac i:=by
 unfold BL
 congr 1
 refine List.filter_congr fun j z=>?_
 have z:=List.mem_range.1 z
 obtain⟨b,y⟩:=Ap (l:=ac) (i:=j) (by omega)
 unfold dac
 rw [getD_some y,getD_some (Dp h y)]
theorem MT {L q:Nat} {t C:List (List Nat)} (h:t<+:C) (E:q≤t.length):BM L C q=BM L t q:=by
 unfold BM
 simp only [List.flatMap]
 congr 1
 refine List.map_congr_left fun j y=>?_
 have y:=List.mem_range.1 y
 obtain⟨r,z⟩:=Ap (l:=t) (i:=j) (by omega)
 unfold CW
 refine List.map_congr_left fun x _=>?_
 unfold dnx
 rw [getD_some z,getD_some (Dp h z)]
section
variable {S:Type} [DecidableEq S] {L:Nat} {δ:S→Nat→S} {s0:S}
def CI (δ:S→Nat→S) (all:List S) (k:S) (i x:Nat):List Edg:=(List.range x).map fun y:Nat=>⟨(i:Int),(y:Int),(Ax all (δ k y):Int)⟩
theorem Rw (all:List S) (k:S) (i:Nat):CI δ all k i 0=[]:=rfl
theorem Rv (all:List S) (k:S) (i x:Nat):(CI δ all k i x).length=x:=by simp [CI]
theorem Kr (all:List S) (k:S) (i x:Nat):CI δ (AW δ k all (x+1)) k i (x+1)=CI δ (AW δ k all x) k i x++[⟨(i:Int),(x:Int),(Ax (AW δ k all (x+1)) (δ k x):Int)⟩]:=by
 unfold CI
 rw [List.range_succ,List.map_append]
 congr 1
 refine List.map_congr_left fun y h=>?_
 rw [J4 (List.mem_range.1 h)]
theorem Ru {all all':List S} {i:Nat} {k:S} (h:Exp L δ s0 i all) (z:all<+:all') (hk:all[i]?=some k):BM L (AJ L δ all i) i++CI δ all' k i L=BM L (AJ L δ all' (i+1)) (i+1):=by
 have G:=Dp z hk
 have J:=AM hk
 have I:=D2 (L:=L) (δ:=δ) (all:=all) (i:=i) (by omega)
 rw [G9,GF G,GE h z,MT (List.prefix_append _ _) (by omega)]
 congr 1
 unfold CI CW
 refine List.map_congr_left fun x y=>?_
 have y:=List.mem_range.1 y
 have C:(AJ L δ all i++[(List.range L).map fun x=>Ax all' (δ k x)])[i]?=some ((List.range L).map fun x=>Ax all' (δ k x)):=by
  rw [List.getElem?_append_right (by omega),I]
  simp
 have E:((List.range L).map fun x=>Ax all' (δ k x))[x]?=some (Ax all' (δ k x)):=AX (f:=fun x=>Ax all' (δ k x)) (List.getElem?_range y)
 unfold dnx
 rw [getD_some C,getD_some E]
end
theorem Qw (L:Nat) (t:List (List Nat)) (ac:List Bool):(⟨(L:Int),(ac.length:Int),[0],BL ac ac.length,BM L t ac.length⟩:WA)=Be L t ac:=rfl
theorem HG {S:Type} [DecidableEq S]:∀{l:List S} {a:S} {k:Nat},l[k]?=some a→(∀j,j<k→l[j]?≠some a)→Ax l a=k
 | [],_,_,h,_=>by simp at h
 | b::l,a,0,h,_=>by
  have:b=a:=by simpa using h
  simp [Ax,this]
 | b::l,a,k+1,h,hn=>by
  have z:b≠a:=fun e=>hn 0 (by omega) (by simp [e])
  have y:=HG (l:=l) (a:=a) (k:=k) (by simpa using h) fun j C=>by
   have:=hn (j+1) (by omega)
   simpa using this
  unfold Ax at y ⊢
  rw [List.idxOf_cons,show(b==a)=false by simpa using z,y]
  rfl
theorem Qm {S:Type} {l:List S} {a:S} (h:∀j,j<l.length→l[j]?≠some a):a∉l:=fun z=>by
 obtain⟨j,y⟩:=List.mem_iff_getElem?.1 z
 exact h j (AM y) y
end Go.Proofs.YtfcfpoemojjglaaGreatDoor
namespace Go.Proofs.YtfcfpoemojjglaaGreatDoor
open Go.RowKit
set_option maxHeartbeats 16000000
set_option maxRecDepth 100000
end Go.Proofs.YtfcfpoemojjglaaGreatDoor
namespace Go.Proofs.YtfcfpoemojjglaaGreatDoor
open Go.RowKit
set_option maxHeartbeats 16000000
set_option maxRecDepth 100000
def MR (w:World) (m:List Bool) (r:Value) (w':World):Prop:=Below w.heap.size w w'∧BV w' w'.heap.size r m∧∀g,r.ownBlock=some g→w.heap.size≤g
theorem Ly {w:World} {v u:Value} {a:WA} {m:List Bool} {x:Nat} (h:Bk w w.heap.size v a) (a6:a.In) (hS:0≤a.states∧a.states≤200000) (hM:BV w w.heap.size u m) (hm:m.length=a.n) (hx:x<a.L):
  Calls Tryz.prog 175 #[v,u,.int .i64 (x:Int)] w (Ret fun r w'=>MR w (a.nf.after m x) r w'):=by
 obtain⟨A1,c1,A2,c2,A3,c3,rfl,h1,h2,V,h4⟩:=h
 obtain⟨gm,aQ,rfl,ag⟩:=hM
 obtain⟨n,O⟩:=Int.eq_ofNat_of_zero_le hS.1
 have bj:n≤200000:=by omega
 have G:a.n=n:=by unfold WA.n; rw [O]; rfl
 have aO:=hide (fun k (hk:a.edges.length≤k)=>WA.afterE_all a6 (m:=m) hx hk)
 obtain⟨w1,av,a2,z,aT⟩:=Ag w #[.int .i64 a.letters,.int .i64 a.states,.slice A1 a.start.length c1,.slice A2 a.accept.length c2,.slice A3 a.edges.length c3] 35
 obtain⟨g,w2,bi,a5,J,hg⟩:=Hv w1 n (by omega)
 have aX:=a2.size
 have bk:=J.size
 have al:=z.cell
 have C:=z.below J
 have am:=C.cell
 rw [O] at av al am z C ⊢
 rw [Hs] at a5
 have ai:=hide (a2.trans (J.mono aX))
 have af:=hide C
 have bg:=C.lt
 have be:=z.lt
 have aM:=hide (show Blk w2 g 4 ((a.afterE m (x:Int) 0).map Value.bool).toArray from by rw [WA.afterE_zero,G]; exact a5)
 have aH:=hide ag
 have aF:=hide V
 have aR:=hide a6
 have aW:=hide O
 have ah:=hide G
 have aV:=hide (hm.trans G)
 have l3:=V.1
 obtain⟨ne,a8⟩:∃ne,ne=a.edges.length:=⟨_,rfl⟩
 have ar:=hide a8
 have aq:=hm.trans G
 rw [←a8] at av al am af l3 ⊢
 rw [aq]
 clear h1 h2 V h4 aT a2 J z C a5 ag a6 hS O G hm a8 hx aq
 go_enter Tryz.func175,Tryz.ntmps175
 go_wp2_with fail
 go_loopw [8] (fun ii wr=>∃(k:Nat),ii=.int .i64 (k:Int)∧k≤ne∧Hid (Blk wr g 4 ((a.afterE m (x:Int) k).map Value.bool).toArray)∧Hid (Ac w2 wr (fun k=>k=g))) (fun ii _=>ne - (intOf ii).toNat)
 case atStart=>exact⟨0,rfl,Nat.zero_le _,aM,Ac.refl _ _⟩
 case round=>
  obtain⟨k,rfl,hk,y,E⟩:=hrel
  have a3:=hide (ai.out.trans (E.out.below (B:=w.heap.size) (by have:=ai.out.size; omega) (fun b hb e=>by omega)))
  have Z:Blk wr w.heap.size 35 _:=af.out.kept E.out (by omega)
  have b9:=Z.cell
  by_cases aU:k<ne
  ·obtain⟨b,bl,e,rfl,aL,aa,hc⟩:=aF.out.at (k:=k) (by rw [←ar.out]; exact aU)
   have M:=fun j hj=>(a3.out.cell (by exact aL)).trans (hc j hj)
   have q0:=M 0 (by omega)
   have q1:=M 1 (by omega)
   have q2:=M 2 (by omega)
   simp only [Nat.add_zero,DO] at q0 q1 q2
   obtain⟨i1,i2,i3⟩:=aR.out.edge e (List.mem_of_getElem? aa)
   rw [aW.out] at i1 i3
   obtain⟨f,hf,ao⟩:=C6 i1
   obtain⟨t,ht,au⟩:=C6 i3
   simp only [Int.toNat_natCast] at ao au
   have a9:=hide (WA.afterE_step (a:=a) (m:=m) (x:=(x:Int)) aa (by omega))
   obtain⟨U,a4⟩:=Ap (l:=m) (i:=f) (by rw [aV.out]; exact ao)
   have b8:wr.cell? ⟨gm,f,none⟩=some (.bool U):=(a3.out.cell (by exact aQ)).trans (BV.cell aH.out a4)
   have ap:Hid (m.getD e.frm.toNat false=U):=by show _=_; rw [hf,Int.toNat_natCast,getD_some a4]
   have aZ:Hid (e.to.toNat=t):=by show _=_; rw [ht,Int.toNat_natCast]
   obtain⟨bt,aj⟩:=Ap (l:=a.afterE m (x:Int) k) (i:=t) (by rw [WA.afterE_len,ah.out]; exact au)
   have ba:wr.cell? ⟨g,t,none⟩=some (.bool bt):=BV.cell y.out aj
   have bb:=y.out.frozen t
   have bh:=y.out.lt
   obtain⟨x0,x1,x2⟩:=e
   dsimp only at*
   subst hf ht
   have aY:Hid (Blk (wr.setCell ⟨g,t,none⟩ (.bool true)) g 4 (((a.afterE m (x:Int) k).set t true).map Value.bool).toArray):=by
    have:=y.out.set_ t (.bool true)
    rw [Ht] at this
    exact this
   have aJ:=hide (E.out.setCell (p:=⟨g,t,none⟩) (fun _=>rfl) (.bool true))
   clear aa hc M i1 i2 i3 a4 aj Z
   by_cases ax:x1=(x:Int)
   ·cases U
    ·have I:Hid (a.afterE m (x:Int) (k+1)=a.afterE m (x:Int) k):=by show _=_; rw [a9.out,ap.out]; simp
     go_wp2_with fail
     exact⟨⟨k+1,by go_num,by omega,by rw [I.out]; exact y,E⟩,by simp [intOf]; omega⟩
    ·have I:Hid (a.afterE m (x:Int) (k+1)=(a.afterE m (x:Int) k).set t true):=by show _=_; rw [a9.out,ap.out,aZ.out]; simp [ax]
     go_wp2_with fail
     exact⟨⟨k+1,by go_num,by omega,by rw [I.out]; exact aY,aJ⟩,by simp [intOf]; omega⟩
   ·have I:Hid (a.afterE m (x:Int) (k+1)=a.afterE m (x:Int) k):=by show _=_; rw [a9.out]; simp [ax]
    go_wp2_with fail
    exact⟨⟨k+1,by go_num,by omega,by rw [I.out]; exact y,E⟩,by simp [intOf]; omega⟩
  ·have aN:=hide (aO.out k (by have:=ar.out; omega))
   clear Z
   go_wp2_with fail
   go_ret
   have W:=y.out
   rw [aN.out] at W
   refine⟨a3.out,⟨g,W.lt,by rw [NF.after_len,a.nf_n,ah.out]; rfl,W⟩,fun g' aP=>?_⟩
   simp [Value.ownBlock] at aP
   omega
theorem P4 {w:World} {B c:Nat} {u:Value} {A:Option Addr} {m:List Bool} {l:List Int} (hM:BV w w.heap.size u m) (h:Sl w B 1 Ai A l) (a3:∀x∈l,inN m.length x=true):
  Calls Tryz.prog 177 #[u,.slice A l.length c] w fun e w'=>e=.returned (.bool (l.any fun s=>m.getD s.toNat false))∧w=w':=by
 obtain⟨gm,ai,rfl,W⟩:=hM
 have hn:=h.1
 have a7:=hide W
 have hI:=hide a3
 obtain⟨n,M⟩:∃n,n=l.length:=⟨_,rfl⟩
 have a4:=hide M
 obtain⟨V,J⟩:∃V,V=m.length:=⟨_,rfl⟩
 have ab:=hide J
 obtain⟨p,O⟩:∃p:Int→Bool,p=fun s=>m.getD s.toNat false:=⟨_,rfl⟩
 have ae:=hide (show ∀s,p s=m.getD s.toNat false from fun s=>by rw [O])
 rw [←M] at hn ⊢
 rw [←J,←O]
 clear W a3 M J O
 go_enter Tryz.func177,Tryz.ntmps177
 go_wp2_with fail
 go_loop [5] (fun U=>∃(k:Nat),U=.int .i64 (k:Int)∧k≤n∧Hid (∀s∈l.take k,p s=false)) (fun U=>n - (intOf U).toNat)
 case atStart=>exact⟨0,rfl,Nat.zero_le _,hide (by simp)⟩
 case round=>
  obtain⟨k,rfl,hk,Z⟩:=hrel
  by_cases aa:k<n
  ·obtain⟨z,E⟩:=Ap (l:=l) (i:=k) (by rw [←a4.out]; exact aa)
   obtain⟨q,rfl,C⟩:=C6 (hI.out z (List.mem_of_getElem? E))
   simp only [Int.toNat_natCast] at C
   obtain⟨b0,o0,rfl,-,hc⟩:=Fu h E
   obtain⟨b,I⟩:=Ap C
   have ah:=BV.cell a7.out I
   have a2:Hid (p (q:Int)=b):=by show _=_; rw [ae.out,Int.toNat_natCast,getD_some I]
   have aj:q<V:=by rw [ab.out]; exact C
   have a6:=hide E
   clear I E C
   cases b
   ·have a8:Hid (∀s∈l.take (k+1),p s=false):=fun s y=>by
     rw [B6 a6.out] at y
     rcases List.mem_append.1 y with y | y
     ·exact Z.out s y
     ·rw [List.mem_singleton.1 y]; exact a2.out
    go_wp2_with fail
    exact⟨⟨k+1,by go_num,by omega,a8⟩,by simp [intOf]; omega⟩
   ·have G:Hid (l.any p=true):=List.any_eq_true.2 ⟨_,List.mem_of_getElem? a6.out,a2.out⟩
    go_wp2_with fail
    go_ret
    exact⟨by rw [G.out]; rfl,rfl⟩
  ·have G:Hid (l.any p=false):=by
    have a5:=Z.out
    rw [List.take_of_length_le (by have:=a4.out; omega)] at a5
    exact List.any_eq_false.2 fun s y=>by rw [a5 s y]; decide
   go_wp2_with fail
   go_ret
   exact⟨by rw [G.out]; rfl,rfl⟩
end Go.Proofs.YtfcfpoemojjglaaGreatDoor
namespace Go.Proofs.YtfcfpoemojjglaaGreatDoor
open Go.RowKit
set_option maxHeartbeats 16000000
set_option maxRecDepth 100000
theorem RT {w:World} {B1 B2 S:Nat} {u1 u2:Value} {y z:List Bool} (C:BV w B1 u1 y) (h2:BV w B2 u2 z) (J:y.length=S) (M:z.length=S) (hS:S≤300000):
    Calls Tryz.prog 176 #[u1,u2] w (Ret fun v w'=>v=.bool (decide (y=z))∧Below w.heap.size w w'):=by
  obtain⟨g1,aj,rfl,Z⟩:=C
  obtain⟨g2,ak,rfl,a2⟩:=h2
  rw [J,M]
  have V:=hide J
  have W:=hide M
  have ad:=hide Z
  have ae:=hide a2
  clear J M Z a2
  go_enter Tryz.func176,Tryz.ntmps176
  go_wp2_with fail
  go_loopw [5] (fun O wr=>∃(i:Nat),O=.int .i64 (i:Int)∧i≤S∧Below w.heap.size w wr∧Hid (∀j,j<i→y[j]?=z[j]?)) (fun O _=>S - (intOf O).toNat)
  case atStart=>exact⟨0,rfl,Nat.zero_le _,Below.refl _ _,fun j I=>absurd I (by omega)⟩
  case round=>
    obtain⟨i,rfl,hi,h,U⟩:=hrel
    by_cases a5:i<S
    · obtain⟨b1,E⟩:=Ap (l:=y) (i:=i) (by rw [V.out]; exact a5)
      obtain⟨b2,G⟩:=Ap (l:=z) (i:=i) (by rw [W.out]; exact a5)
      have ah:=BV.cell (ad.out.below h) E
      have ai:=BV.cell (ae.out.below h) G
      have a6:=hide (h.trans ((As wr).mono h.size))
      have a3:=hide E
      have a4:=hide G
      clear E G
      go_wp2_with fail
      refine Reg.cP [0,0,3,7,0,0,48,112,255] ?_
      cases b1 <;> cases b2
      all_goals
        go_wp2_with fail
        first
        | (refine⟨⟨i+1,by simp,by omega,a6.out,fun j I=>?_⟩,by simp [intOf]; omega⟩
           by_cases af:j=i
           · subst af
             rw [a3.out,a4.out]
           · exact U.out j (by omega))
        | (go_ret
           refine⟨congrArg Value.bool (decide_eq_false fun e=>?_).symm,a6.out⟩
           have C:=a3.out
           rw [e,a4.out] at C
           cases C)
    · go_wp2_with fail
      go_ret
      refine⟨congrArg Value.bool (decide_eq_true (List.ext_getElem? fun j=>?_)).symm,h⟩
      by_cases I:j<S
      · exact U.out j (by omega)
      · rw [List.getElem?_eq_none (by rw [V.out]; omega),List.getElem?_eq_none (by rw [W.out]; omega)]
def CP (w:World) (g n:Nat) (xs:List Nat):Prop:=xs.length=n∧g<w.heap.size∧∀j y:Nat,xs[j]?=some y→w.cell? ⟨g,j,none⟩=some (.int .i64 (y:Int))
theorem CP.below {w w':World} {g n:Nat} {xs:List Nat} (h:CP w g n xs) (z:Below w.heap.size w w'):CP w' g n xs:=⟨h.1,by have:=z.size; have:=h.2.1; omega,fun j y C=>(z.cell (by exact h.2.1)).trans (h.2.2 j y C)⟩
theorem CP.sl {w:World} {g n:Nat} {xs:List Nat} (h:CP w g n xs) (O:n≤4000000):Sl w w.heap.size 1 Ai (some ⟨g,0,none⟩) (Ak xs):=by
 obtain⟨J,C,E⟩:=h
 refine⟨by simp [Ak]; omega,fun _=>⟨g,0,rfl,C,fun k d hd j M=>?_⟩⟩
 obtain⟨y,z⟩:=Ap (l:=xs) (i:=k) (by have:=AM hd; simpa [Ak] using this)
 have G:d=(y:Int):=by
  rw [Ak,List.getElem?_map,z] at hd
  exact(Option.some.inj hd).symm
 have I:j=0:=by omega
 subst I G
 have:=E k y z
 simpa [Ai] using this
theorem CP.take {w:World} {g n k:Nat} {xs:List Nat} (h:CP w g n xs) (hk:k≤n):CP w g k (xs.take k):=by
 refine⟨by rw [List.length_take,h.1]; omega,h.2.1,fun j y z=>?_⟩
 rw [List.getElem?_take] at z
 split at z
 ·exact h.2.2 j y z
 ·cases z
theorem CP.of_blk {w:World} {g n:Nat} {xs:List Nat} (h:Blk w g 3 (Bn n xs)) (E:xs.length=n):CP w g n xs:=by
 refine⟨E,h.lt,fun j y z=>?_⟩
 rw [h.cell]
 unfold Bn
 have C:=AM z
 rw [List.getElem?_toArray,List.getElem?_append_left (by simpa using C),List.getElem?_map,z]
 rfl
theorem MF {xs:List Nat} {k y:Nat} (h:xs[k]?=some y):(dd (xs.take (k+1))).length=(dd (xs.take k)).length+if y∈xs.take k then 0 else 1:=by
 rw [B6 h,Ej]
 unfold Bt
 by_cases z:y∈xs.take k
 ·rw [if_pos (EH.2 z),if_pos z]
  rfl
 ·rw [if_neg (fun h=>z (EH.1 h)),if_neg z,List.length_append]
  rfl
theorem PP {w:World} {g n c:Nat} {xs:List Nat} (h:CP w g n xs) (hc:n≤c) (hn:n≤300000):
  Calls Tryz.prog 179 #[.slice (some ⟨g,0,none⟩) n c] w (Ret fun v w'=>v=.int .i64 ((dd xs).length:Int)∧Below w.heap.size w w'):=by
 have hH:=hide h
 have M:=hide h.1
 clear h
 go_enter Tryz.func179,Tryz.ntmps179
 go_wp2_with fail
 go_loopw [3,4] (fun C Z wr=>∃(k m:Nat),Z=.int .i64 (k:Int)∧k≤n∧C=.int .i64 (m:Int)∧m≤k∧Hid (m=(dd (xs.take k)).length)∧Below w.heap.size w wr) (fun _ Z _=>n - (intOf Z).toNat)
 case atStart=>exact⟨0,0,rfl,Nat.zero_le _,rfl,Nat.le_refl _,hide rfl,Below.refl _ _⟩
 case round=>
  obtain⟨k,m,rfl,hk,rfl,af,O,G⟩:=hrel
  by_cases a9:k<n
  ·obtain⟨y,V⟩:=Ap (l:=xs) (i:=k) (by rw [M.out]; exact a9)
   have J:=hH.out.below G
   have ad:=J.2.2 k y V
   have a3:=hide (MF V)
   have a6:=(J.take (k:=k) (by omega)).sl (by omega)
   have hT:(Ak (xs.take k)).length=k:=by simp [Ak]; have:=M.out; omega
   have I:=hide G
   have ae:k≤c:=by omega
   have a5:∀(b:Bool) (C:Nat),decide (y∈xs.take k)=b→Calls Tryz.prog 129 #[.slice (some ⟨g,0,none⟩) k c,.int .i64 (y:Int)] (wr.drewN C) fun e w'=>e=.returned (.bool b)∧w'=wr.drewN C:=fun b C hb=>by
    have:=Hf (c:=c) (y:Int) (a6.keep (w':=wr.drewN C) (fun p hp=>((Ac.refl wr (fun _=>False)).drewN C).cell hp id) (Nat.le_refl _))
    rw [hT] at this
    refine this.mono fun e w' h=>⟨?_,h.2.symm⟩
    rw [h.1,←hb]
    congr 2
    rw [decide_eq_decide]
    unfold Ak
    rw [List.mem_map]
    constructor
    ·rintro⟨z,W,e⟩
     have:z=y:=by omega
     rw [←this]; exact W
    ·intro W
     exact⟨y,W,rfl⟩
   have a4:=hide a5
   clear V J G a6 hT a5
   by_cases E:y∈xs.take k
   ·have hd:Hid (decide (y∈xs.take k)=true):=decide_eq_true E
    have U:Hid (m=(dd (xs.take (k+1))).length):=by
     show _=_
     rw [a3.out,if_pos E,←O.out]
     rfl
    clear E
    go_wp2_with fail
    go_quiet ((go_at_call 129; exact Calls.quiet_of_same (a4.out true _ hd.out)))
    go_wp2_with fail
    exact⟨⟨k+1,m,by go_num,by omega,rfl,by omega,U,I.out.trans (((Ac.refl wr (fun _=>False)).drewN _).below I.out.size (fun _ _ h=>h.elim))⟩,by simp [intOf]; omega⟩
   ·have hd:Hid (decide (y∈xs.take k)=false):=decide_eq_false E
    have U:Hid (m+1=(dd (xs.take (k+1))).length):=by
     show _=_
     rw [a3.out,if_neg E,←O.out]
    clear E
    go_wp2_with fail
    go_quiet ((go_at_call 129; exact Calls.quiet_of_same (a4.out false _ hd.out)))
    go_wp2_with fail
    exact⟨⟨k+1,m+1,by go_num,by omega,by go_num,by omega,U,I.out.trans (((Ac.refl wr (fun _=>False)).drewN _).below I.out.size (fun _ _ h=>h.elim))⟩,by simp [intOf]; omega⟩
  ·obtain rfl:k=n:=by omega
   go_wp2_with fail
   go_ret
   refine⟨?_,G⟩
   have:=O.out
   rw [List.take_of_length_le (by rw [M.out]; exact Nat.le_refl _)] at this
   show Value.int .i64 (m:Int)=_
   rw [this]
structure Dm (w:World) (L n:Nat) (vN vA:Value) (t:List (List Nat)) (ac:List Bool):Prop where
 rd:Bs w w.heap.size (.agg #[vN,vA]) t ac
 ok:DOK L t ac
 n:ac.length=n
theorem Dm.below {w w':World} {L n:Nat} {vN vA:Value} {t:List (List Nat)} {ac:List Bool} (h:Dm w L n vN vA t ac) (y:Below w.heap.size w w'):Dm w' L n vN vA t ac:=⟨h.rd.keep (fun _ z=>y.cell z) y.size,h.ok,h.n⟩
theorem Dm.at {w:World} {L n:Nat} {vN vA:Value} {t:List (List Nat)} {ac:List Bool} (h:Dm w L n vN vA t ac):∃b C c,vN=.slice (some ⟨b,C,none⟩) n c∧b<w.heap.size∧∀q,q<n→∃A E,w.cell? ⟨b,C+q,none⟩=some (.slice A L E)∧∀x,x<L→∃b2 z,A=some ⟨b2,z,none⟩∧b2<w.heap.size∧w.cell? ⟨b2,z+x,none⟩=some (.int .i64 (dnx t q x:Int))∧dnx t q x<n:=by
 obtain⟨A1,c1,A2,c2,e,G,h2⟩:=h.rd
 injection e with e
 simp only [Array.mk.injEq,List.cons.injEq,and_true] at e
 obtain⟨rfl,rfl⟩:=e
 have hp:=h.ok.pos
 have a2:=h.ok.len
 have hn:=h.n
 obtain⟨r0,a4⟩:=Ap (l:=t) (i:=0) (by omega)
 obtain⟨b,C,v0,rfl,U,-,-⟩:=G.at a4
 refine⟨b,C,c1,by rw [a2,hn],U,fun q hq=>?_⟩
 obtain⟨b',aj,A,E,row,e,ad,W,ah,ag,a5,a6⟩:=Gl G h.ok (q:=q) (by omega)
 injection e with e
 injection e with J M
 subst J M
 refine⟨A,E,W,fun x hx=>?_⟩
 obtain⟨y,I⟩:=Ap (l:=row) (i:=x) (by omega)
 obtain⟨b2,z,rfl,V,Z⟩:=Et a5 I
 obtain⟨h3,O⟩:=a6 x y I
 exact⟨b2,z,rfl,V,by rw [O]; exact Z,by omega⟩
theorem Dm.mark {w:World} {L n:Nat} {vN vA:Value} {t:List (List Nat)} {ac:List Bool} (h:Dm w L n vN vA t ac):∃b y c,vA=.slice (some ⟨b,y,none⟩) n c∧b<w.heap.size∧∀q,q<n→w.cell? ⟨b,y+q,none⟩=some (.bool (dac ac q)):=by
 obtain⟨V,c1,W,c2,e,h1,z⟩:=h.rd
 injection e with e
 simp only [Array.mk.injEq,List.cons.injEq,and_true] at e
 obtain⟨rfl,rfl⟩:=e
 have U:=h.ok.pos
 have O:=h.n
 obtain⟨b0,J⟩:=Ap (l:=ac) (i:=0) U
 obtain⟨b,y,rfl,I,-⟩:=Ft z J
 refine⟨b,y,c2,by rw [O],I,fun q hq=>?_⟩
 obtain⟨x,C⟩:=Ap (l:=ac) (i:=q) (by omega)
 obtain⟨Z,a5,e,-,M⟩:=Ft z C
 injection e with e
 injection e with E G
 subst E G
 rw [M]
 unfold dac
 rw [getD_some C]
theorem Lz {w:World} {L n g c a b:Nat} {vN vA:Value} {t:List (List Nat)} {ac:List Bool} {cl:List Nat} (hT:Dm w L n vN vA t ac) (E:CP w g n cl) (ha:a<n) (hb:b<n) (hn:n≤300000) (hL:L≤8):
  Calls Tryz.prog 178 #[.agg #[vN,vA],.slice (some ⟨g,0,none⟩) n c,.int .i64 (L:Int),.int .i64 (a:Int),.int .i64 (b:Int)] w (Ret fun v w'=>(∃r:Bool,v=.bool r∧(r=true↔Dt L (dnx t) cl a b))∧Below w.heap.size w w'):=by
 obtain⟨bA,oA,cA,rfl,-⟩:=hT.mark
 obtain⟨Z,oN,cN,rfl,al,aw⟩:=hT.at
 obtain⟨w1,b7,V,af,aR⟩:=Ag w #[.slice (some ⟨Z,oN,none⟩) n cN,.slice (some ⟨bA,oA,none⟩) n cA] 139
 have ax:=V.size
 have aN:=hide af
 have ar:=hide aw
 have O:=hide (E.below V)
 have ao:=hide E.1
 have ak:=hide V
 obtain⟨G,a4⟩:=Ap (l:=cl) (i:=a) (by rw [E.1]; exact ha)
 obtain⟨I,a5⟩:=Ap (l:=cl) (i:=b) (by rw [E.1]; exact hb)
 have b4:=O.out.2.2 a G a4
 have b5:=O.out.2.2 b I a5
 have am:Hid (cl.getD a 0=G):=getD_some a4
 have an:Hid (cl.getD b 0=I):=getD_some a5
 clear a4 a5 aw E V af aR hT
 by_cases U:G=I
 ·have aO:(G:Int)=(I:Int):=by omega
  have a3:=hide U
  clear U
  go_enter Tryz.func178,Tryz.ntmps178
  go_wp2_with fail
  go_quiet (fail)
  go_wp2_with fail
  go_loopw [11] (fun ii wr=>∃(x:Nat),ii=.int .i64 (x:Int)∧x≤L∧Below w1.heap.size w1 wr∧Hid (∀y,y<x→cl.getD (dnx t a y) 0=cl.getD (dnx t b y) 0)) (fun ii _=>L - (intOf ii).toNat)
  case atStart=>exact⟨0,rfl,Nat.zero_le _,((Ac.refl w1 (fun _=>False)).drewN _).below (Nat.le_refl _) (fun _ _ h=>h.elim),fun y hy=>absurd hy (by omega)⟩
  case round=>
   obtain⟨x,rfl,hx,C,hE⟩:=hrel
   have z:=hide (ak.out.trans (C.mono ax))
   have ag:=hide C
   by_cases a6:x<L
   ·obtain⟨Aa,aZ,ap,au⟩:=ar.out a ha
    obtain⟨Ab,b0,aq,av⟩:=ar.out b hb
    obtain⟨b1,o1,rfl,aP,ay,aA⟩:=au x a6
    obtain⟨b2,o2,rfl,aQ,az,aC⟩:=av x a6
    obtain⟨J,a8⟩:=Ap (l:=cl) (i:=dnx t a x) (by rw [ao.out]; exact aA)
    obtain⟨M,a9⟩:=Ap (l:=cl) (i:=dnx t b x) (by rw [ao.out]; exact aC)
    have c1:=(aN.out.below C).cell
    have c2:=(z.out.cell (p:=⟨Z,oN+a,none⟩) al).trans ap
    have c3:=(z.out.cell (p:=⟨Z,oN+b,none⟩) al).trans aq
    have c4:=(z.out.cell (p:=⟨b1,o1+x,none⟩) aP).trans ay
    have c5:=(z.out.cell (p:=⟨b2,o2+x,none⟩) aQ).trans az
    have c6:=(O.out.below C).2.2 _ J a8
    have c7:=(O.out.below C).2.2 _ M a9
    have g1:Hid (cl.getD (dnx t a x) 0=J):=getD_some a8
    have g2:Hid (cl.getD (dnx t b x) 0=M):=getD_some a9
    obtain⟨y1,aB⟩:∃y1,y1=dnx t a x:=⟨_,rfl⟩
    obtain⟨y2,aD⟩:∃y2,y2=dnx t b x:=⟨_,rfl⟩
    rw [←aB] at c4 c6 aA
    rw [←aD] at c5 c7 aC
    clear ap aq au av ay az a8 a9 aB aD C
    by_cases W:J=M
    ·have aS:(J:Int)=(M:Int):=by omega
     have aa:=hide W
     clear W
     go_wp2_with fail
     go_quiet (fail)
     go_wp2_with fail
     refine⟨⟨x+1,by go_num,by omega,ag.out.trans (((Ac.refl wr (fun _=>False)).drewN _).below ag.out.size (fun _ _ h=>h.elim)),fun y hy=>?_⟩,by simp [intOf]; omega⟩
     by_cases e:y=x
     ·subst e
      rw [g1.out,g2.out,aa.out]
     ·exact hE.out y (by omega)
    ·have aS:¬(J:Int)=(M:Int):=by omega
     have aa:=hide W
     clear W
     go_wp2_with fail
     go_quiet (fail)
     go_wp2_with fail
     go_ret
     refine⟨⟨false,rfl,?_⟩,z.out.trans (((Ac.refl wr (fun _=>False)).drewN _).below z.out.size (fun _ _ h=>h.elim))⟩
     constructor
     ·intro h; cases h
     ·intro h
      have:=h.2 x a6
      rw [g1.out,g2.out] at this
      exact(aa.out this).elim
   ·go_wp2_with fail
    go_ret
    refine⟨⟨true,rfl,?_⟩,z.out⟩
    constructor
    ·intro _
     exact⟨by rw [am.out,an.out,a3.out],fun y hy=>hE.out y (by omega)⟩
    ·intro _; rfl
 ·have aO:¬(G:Int)=(I:Int):=by omega
  have a3:=hide U
  clear U
  go_enter Tryz.func178,Tryz.ntmps178
  go_wp2_with fail
  go_quiet (fail)
  go_wp2_with fail
  go_ret
  refine⟨⟨false,rfl,?_⟩,ak.out.trans (((Ac.refl w1 (fun _=>False)).drewN _).below ax (fun _ _ h=>h.elim))⟩
  constructor
  ·intro h; cases h
  ·intro h
   have:=h.1
   rw [am.out,an.out] at this
   exact(a3.out this).elim
end Go.Proofs.YtfcfpoemojjglaaGreatDoor
