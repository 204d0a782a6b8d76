/-
  Part PB of a proof.
-/
import Derived.Test.YtfcfpoemojjglaaGreatDoorRows
import Derived.Laws.MakeOwn
import Derived.Test.YtfcfpoemojjglaaGreatDoorPA
set_option maxHeartbeats 16000000
set_option maxRecDepth 100000
set_option linter.unusedVariables false
set_option linter.unusedSimpArgs false
namespace Go.Proofs.YtfcfpoemojjglaaGreatDoor
def Ay {S:Type} (δ:S->Nat->S) (s:S) (w:List Nat):S:=w.foldl δ s
def okW (L:Nat) (w:List Nat):Prop:=∀x∈w,x<L
theorem okW.nil (L:Nat):okW L []:=fun _ h=>absurd h (List.not_mem_nil)
theorem okW.app {L:Nat} {u v:List Nat} (h:okW L u) (k:okW L v):okW L (u++v):=fun x d=>(List.mem_append.1 d).elim (h x) (k x)
theorem okW.snoc {L:Nat} {u:List Nat} {x:Nat} (h:okW L u) (d:x<L):okW L (u++[x]):=h.app (by intro y j; rw [List.mem_singleton.1 j]; exact d)
theorem okW.cons {L:Nat} {u:List Nat} {x:Nat} (j:x<L) (h:okW L u):okW L (x::u):=by
 intro y d;rcases List.mem_cons.1 d with rfl | d
 ·exact j
 ·exact h y d
theorem Ge {S:Type} (δ:S->Nat->S) (s:S) (u v:List Nat):Ay δ s (u++v)=Ay δ (Ay δ s u) v:=List.foldl_append
theorem Fs {S:Type} (δ:S->Nat->S) (s:S) (u:List Nat) (x:Nat):Ay δ s (u++[x])=δ (Ay δ s u) x:=by rw [Ge]; rfl
theorem Ew {S:Type} {δ:S->Nat->S} {L:Nat} {I:S->Prop} (d:∀s x,x<L->I s->I (δ s x)):∀(w:List Nat) (s:S),okW L w->I s->I (Ay δ s w)
 | [],_,_,h=>h
 | x::w,s,hw,h=>Ew d w _ (fun y j=>hw y (List.mem_cons_of_mem _ j)) (d s x (hw x List.mem_cons_self) h)
inductive F2 {S T:Type} (R:S->T->Prop):List S->List T->Prop
 | nil:F2 R [] []
 | cons {a b l m}:R a b->F2 R l m->F2 R (a::l) (b::m)
section
variable {S T:Type} {R:S->T->Prop}
theorem F2.length {l:List S} {m:List T} (h:F2 R l m):l.length=m.length:=by
 induction h with
 | nil=>rfl
 | cons _ _ ih=>simp [ih]
theorem F2.get {l:List S} {m:List T} (h:F2 R l m):∀{i:Nat} {a:S} {b:T},l[i]?=some a->m[i]?=some b->R a b:=by
 induction h with
 | nil=>intro i a b h; simp at h
 | cons h1 _ ih=>
  intro i a b d j;cases i with
  | zero=>simp at d j; subst d j; exact h1
  | succ i=>simp at d j; exact ih d j
theorem F2.snoc {l:List S} {m:List T} (h:F2 R l m) {a:S} {b:T} (d:R a b):F2 R (l++[a]) (m++[b]):=by
 induction h with
 | nil=>exact .cons d .nil
 | cons h1 _ ih=>exact .cons h1 ih
theorem F2.left {l:List S} {m:List T} (h:F2 R l m) {a:S} (d:a∈l):∃b,b∈m/\R a b:=by
 induction h with
 | nil=>cases d
 | cons h1 _ ih=>
  rcases List.mem_cons.1 d with rfl | d
  ·exact⟨_,List.mem_cons_self,h1⟩
  ·obtain⟨b,y,j⟩:=ih d;exact⟨b,List.mem_cons_of_mem _ y,j⟩
theorem F2.right {l:List S} {m:List T} (h:F2 R l m) {b:T} (d:b∈m):∃a,a∈l/\R a b:=by
 induction h with
 | nil=>cases d
 | cons h1 _ ih=>
  rcases List.mem_cons.1 d with rfl | d
  ·exact⟨_,List.mem_cons_self,h1⟩
  ·obtain⟨a,y,j⟩:=ih d;exact⟨a,List.mem_cons_of_mem _ y,j⟩
end
theorem JA {A B C:Type} {Q:A->B->Prop} {f:A->C->A} {g:B->C->B}:∀(l:List C),(∀x y c,c∈l->Q x y->Q (f x c) (g y c))->∀{x:A} {y:B},Q x y->Q (l.foldl f x) (l.foldl g y)
 | [],_,_,_,hq=>hq
 | c::l,hs,x,y,hq=>JA l (fun x y d h=>hs x y d (List.mem_cons_of_mem _ h)) (hs x y c List.mem_cons_self hq)
section
variable {S:Type} [DecidableEq S]
def Bs (l:List S) (a:S):List S:=if a∈l then l else l++[a]
theorem J1 {l:List S} {a b:S}:b∈Bs l a↔b∈l\/b=a:=by
 unfold Bs; split
 ·next h=>exact⟨.inl,fun d=>d.elim id fun e=>e ▸ h⟩
 ·simp
theorem Rj {l:List S} (h:l.Nodup) (a:S):(Bs l a).Nodup:=by
 unfold Bs; split
 ·exact h
 ·next ha=>exact List.nodup_append.2 ⟨h,by simp,fun x d y j e=>ha (by rw [<-List.mem_singleton.1 j,<-e]; exact d)⟩
theorem F6 (l:List S) (a:S):l<+:Bs l a:=by
 unfold Bs; split
 ·exact List.prefix_refl _
 ·exact List.prefix_append _ _
theorem P7 {l m:List S} (h:l<+:m) {a:S} (d:a∈l):m.idxOf a=l.idxOf a:=by
 obtain⟨t,rfl⟩:=h;rw [List.idxOf_append,if_pos d]
theorem Ds {A:Type} {l m:List A} (h:l<+:m) {i:Nat} {a:A} (d:l[i]?=some a):m[i]?=some a:=by
 obtain⟨t,rfl⟩:=h;rw [List.getElem?_append_left (List.getElem?_eq_some_iff.1 d).1];exact d
theorem FS {l:List S} {a:S} (h:a∈l):l[l.idxOf a]?=some a:=by
 rw [List.getElem?_eq_getElem (List.idxOf_lt_length_of_mem h)];exact congrArg some (List.getElem_idxOf (List.idxOf_lt_length_of_mem h))
theorem HO {l:List S} (h:l.Nodup) {i:Nat} {a:S} (d:l[i]?=some a):l.idxOf a=i:=by
 obtain⟨j,rfl⟩:=List.getElem?_eq_some_iff.1 d;exact h.idxOf_getElem i j
variable (L:Nat) (δ:S->Nat->S) (s0:S)
def AZ (s:S) (l:List S) (k:Nat):List S:=(List.range k).foldl (fun l x=>Bs l (δ s x)) l
omit L s0 in
theorem Cr (s:S) (l:List S) (k:Nat):AZ δ s l (k+1)=Bs (AZ δ s l k) (δ s k):=by simp [AZ,List.range_succ]
inductive Exp:Nat->List S->Prop
 | start:Exp 0 [s0]
 | row {i l s}:Exp i l->l[i]?=some s->Exp (i+1) (AZ δ s l L)
def Bf (l:List S):Prop:=Exp L δ s0 l.length l
end
section
variable {S:Type} [DecidableEq S] {L:Nat} {δ:S->Nat->S} {s0:S}
theorem DK (s:S) (l:List S):∀k,l<+:AZ δ s l k
 | 0=>List.prefix_refl _
 | k+1=>by rw [Cr]; exact(DK s l k).trans (F6 _ _)
theorem So (s:S) (l:List S) {j k:Nat} (h:j<=k):AZ δ s l j<+:AZ δ s l k:=by
 obtain⟨d,rfl⟩:=Nat.exists_eq_add_of_le h
 induction d with
 | zero=>exact List.prefix_refl _
 | succ d ih=>rw [<-Nat.add_assoc,Cr]; exact(ih (by omega)).trans (F6 _ _)
theorem Gb (s:S) (l:List S) {k x:Nat} (d:x<k):δ s x∈AZ δ s l k:=
 (So s l d).subset (by rw [Cr]; exact J1.2 (.inr rfl))
theorem KP {s:S} {l:List S}:∀{k:Nat} {a:S},a∈AZ δ s l k->a∈l\/∃x,x<k/\a=δ s x
 | 0,_,h=>.inl h
 | k+1,a,h=>by
  rw [Cr] at h;rcases J1.1 h with h | rfl
  ·rcases KP h with h | ⟨x,d,e⟩
   ·exact .inl h
   ·exact .inr ⟨x,by omega,e⟩
  ·exact .inr ⟨k,by omega,rfl⟩
theorem GN (s:S) {l:List S} (h:l.Nodup):∀k,(AZ δ s l k).Nodup
 | 0=>h
 | k+1=>by rw [Cr]; exact Rj (GN s h k) _
structure LR (L:Nat) (δ:S->Nat->S) (s0:S) (i:Nat) (l:List S):Prop where
 le:i<=l.length
 head:l[0]?=some s0
 nodup:l.Nodup
 reach:∀s∈l,∃w,okW L w/\Ay δ s0 w=s
 closed:∀j s,j<i->l[j]?=some s->∀x,x<L->δ s x∈l
theorem Exp.inv {i:Nat} {l:List S} (h:Exp L δ s0 i l):LR L δ s0 i l:=by
 induction h with
 | start=>exact⟨by simp,rfl,by simp,fun s y=>⟨[],okW.nil L,(List.mem_singleton.1 y).symm⟩,fun j s J=>absurd J (Nat.not_lt_zero _)⟩
 | @row i l s _ y ih=>
  have d:=DK (δ:=δ) s l L;have V:=d.length_le;have U:=(List.getElem?_eq_some_iff.1 y).1;refine⟨by omega,Ds d ih.head,GN s ih.nodup L,fun a G=>?_,fun j t J ht x E=>?_⟩
  ·rcases KP G with G | ⟨x,E,rfl⟩
   ·exact ih.reach a G
   ·obtain⟨w,O,rfl⟩:=ih.reach s (List.mem_of_getElem? y);exact⟨w++[x],O.snoc E,Fs _ _ _ _⟩
  ·rcases Nat.lt_or_ge j i with C | C
   ·obtain⟨I,M⟩:∃I,l[j]?=some I:=⟨_,List.getElem?_eq_getElem (by omega)⟩;have:=(Ds d M).symm.trans ht;injection this with this
    subst this;exact d.subset (ih.closed j I C M x E)
   ·have C:j=i:=by omega
    subst C;have:=(Ds d y).symm.trans ht;injection this with this
    subst this;exact Gb s l E
theorem Exp.det {i:Nat} {l:List S} (h:Exp L δ s0 i l):∀{m:List S},Exp L δ s0 i m->l=m:=by
 induction h with
 | start=>intro m d; cases d; rfl
 | @row i l s _ hs ih=>
  intro m d;cases d with
  | @row _ l' s' h1 hs'=>
   have e:=ih h1;subst e;rw [hs] at hs';injection hs' with e
   subst e;rfl
theorem Exp.pre {j:Nat} {m:List S} (h:Exp L δ s0 j m):∀{i:Nat} {l:List S},i<=j->Exp L δ s0 i l->l<+:m:=by
  induction h with
  | start=>intro i l y d; have:i=0:=by omega
           subst this; cases d; exact List.prefix_refl _
  | @row j m s h1 hs ih=>
    intro i l y d;rcases Nat.lt_or_ge j i with h | h
    · have:i=j+1:=by omega
      subst this;rw [d.det (Exp.row h1 hs)];exact List.prefix_refl _
    · exact(ih h d).trans (DK _ _ _)
theorem Bf.top {m:List S} (h:Bf L δ s0 m) {i:Nat} {l:List S} (d:Exp L δ s0 i l):i<=m.length/\l<+:m:=by
 have key:∀{i:Nat} {l:List S},Exp L δ s0 i l->i<=m.length:=by
  intro i l d
  induction d with
  | start=>omega
  | @row i l s h1 hs ih=>
   have:=(List.getElem?_eq_some_iff.1 (Ds (h.pre ih h1) hs)).1;omega
 exact⟨key d,h.pre (key d) d⟩
theorem Bf.unique {l m:List S} (h:Bf L δ s0 l) (d:Bf L δ s0 m):l=m:=
 List.IsPrefix.eq_of_length_le (d.top h).2 (h.top d).2.length_le
theorem Bf.closed {l:List S} (h:Bf L δ s0 l) {s:S} (y:s∈l) {x:Nat} (C:x<L):δ s x∈l:=by
 obtain⟨j,d,rfl⟩:=List.getElem_of_mem y;exact h.inv.closed j _ d (List.getElem?_eq_getElem d) x C
theorem Bf.run {l:List S} (h:Bf L δ s0 l) {w:List Nat} (j:okW L w):Ay δ s0 w∈l:=
 Ew (I:=fun s=>s∈l) (fun _ _ y d=>h.closed d y) w s0 j (List.mem_of_getElem? h.inv.head)
end
def FH {S T:Type} (R:S->T->Prop):Prop:=∀a b a' b',R a b->R a' b'->(a=a'↔b=b')
section
variable {S T:Type} [DecidableEq S] [DecidableEq T] {R:S->T->Prop} {L:Nat} {δ:S->Nat->S} {s0:S} {δ':T->Nat->T} {t0:T}
theorem F2.meet (E:FH R) {l:List S} {m:List T} (h:F2 R l m) {a:S} {b:T} (y:R a b):F2 R (Bs l a) (Bs m b):=by
 have G:a∈l↔b∈m:=by
  constructor
  ·intro d;obtain⟨I,M,j⟩:=h.left d
   rwa [(E a b a I y j).1 rfl]
  ·intro C;obtain⟨a',J,j⟩:=h.right C
   rwa [(E a b a' b y j).2 rfl]
 unfold Bs;by_cases d:a∈l
 ·rw [if_pos d,if_pos (G.1 d)]; exact h
 ·rw [if_neg d,if_neg (fun C=>d (G.2 C))]; exact h.snoc y
theorem Exp.rel (y:FH R) (j:R s0 t0) (G:∀s t x,x<L->R s t->R (δ s x) (δ' t x)) {i:Nat} {l:List S} (h:Exp L δ s0 i l):∃m,Exp L δ' t0 i m/\F2 R l m:=by
 induction h with
 | start=>exact⟨[t0],.start,.cons j .nil⟩
 | @row i l s _ hs' ih=>
  obtain⟨m,E,d⟩:=ih;have C:=(List.getElem?_eq_some_iff.1 hs').1;obtain⟨t,ht⟩:∃t,m[i]?=some t:=⟨_,List.getElem?_eq_getElem (by rw [<-d.length]; exact C)⟩;have I:=d.get hs' ht;exact⟨_,.row E ht,JA (Q:=fun a b=>F2 R a b) _ (fun _ _ x J h=>h.meet y (G s t x (List.mem_range.1 J) I)) d⟩
theorem Bf.rel (C:FH R) (y:R s0 t0) (I:∀s t x,x<L->R s t->R (δ s x) (δ' t x)) {l:List S} {m:List T} (h:Bf L δ s0 l) (j:Bf L δ' t0 m):F2 R l m:=by
 obtain⟨J,G,d⟩:=Exp.rel C y I h;have E:Bf L δ' t0 J:=by unfold Bf; rw [<-d.length]; exact G
 rw [j.unique E];exact d
theorem Bf.image (y:FH R) (j:R s0 t0) (E:∀s t x,x<L->R s t->R (δ s x) (δ' t x)) {l:List S} (h:Bf L δ s0 l):∃m,Bf L δ' t0 m/\F2 R l m:=by
 obtain⟨G,C,d⟩:=Exp.rel y j E h;exact⟨G,by unfold Bf; rw [<-d.length]; exact C,d⟩
end
section
variable {S:Type} [DecidableEq S] {L:Nat} {δ:S->Nat->S} {s0:S}
def Cy (δ:S->Nat->S) (l:List S) (i x:Nat):Nat:=match l[i]? with
 | some s=>l.idxOf (δ s x)
 | none=>0
theorem Bf.num {l:List S} (h:Bf L δ s0 l) {w:List Nat} (d:okW L w):l[Ay (Cy δ l) 0 w]?=some (Ay δ s0 w):=by
 have key:∀(w:List Nat) (i:Nat) (s:S),okW L w->l[i]?=some s->l[Ay (Cy δ l) i w]?=some (Ay δ s w):=by
  intro w
  induction w with
  | nil=>exact fun i s _ h=>h
  | cons x w ih=>
   intro i s d j;refine ih _ _ (fun y E=>d y (List.mem_cons_of_mem _ E)) ?_;have C:=d x List.mem_cons_self;have:Cy δ l i x=l.idxOf (δ s x):=by simp [Cy,j]
   rw [this];exact FS (h.closed (List.mem_of_getElem? j) C)
 exact key w 0 s0 d h.inv.head
omit [DecidableEq S] in
theorem F2.range {l:List S} (m:List Nat) (h:F2 (fun s i=>l[i]?=some s) l m) (C:l.Nodup):m=List.range l.length:=by
 apply List.ext_getElem?;intro i;rcases Nat.lt_or_ge i l.length with d | d
 ·have j:i<m.length:=by rw [<-h.length]; exact d
  have y:=h.get (List.getElem?_eq_getElem d) (List.getElem?_eq_getElem j);obtain⟨E,he⟩:=List.getElem?_eq_some_iff.1 y;have:=(List.getElem_inj C).1 he;rw [List.getElem?_eq_getElem j,this,List.getElem?_range d]
 ·rw [List.getElem?_eq_none (by rw [<-h.length]; exact d),List.getElem?_eq_none (by simpa using d)]
theorem Bf.machine {l:List S} (h:Bf L δ s0 l):Bf L (Cy δ l) 0 (List.range l.length):=by
 obtain⟨m,y,E⟩:=h.image (δ':=Cy δ l) (t0:=0) (R:=fun s i=>l[i]?=some s) (fun a b a' I d j=>⟨fun e=>by
  subst e;rw [<-HO h.inv.nodup d,HO h.inv.nodup j],fun e=>by subst e; exact Option.some.inj (d.symm.trans j)⟩) h.inv.head (fun s i x G C=>by
   have:Cy δ l i x=l.idxOf (δ s x):=by simp [Cy,C]
   rw [this];exact FS (h.closed (List.mem_of_getElem? C) G))
 rw [E.range m h.inv.nodup] at y;exact y
end
structure Cz (L n:Nat) (nx:Nat->Nat->Nat) (acc:Nat->Bool) (Λ:List Nat->Bool):Prop where
 lang:∀w,okW L w->acc (Ay nx 0 w)=Λ w
 sep:∀u v,okW L u->okW L v->(∀z,okW L z->Λ (u++z)=Λ (v++z))->Ay nx 0 u=Ay nx 0 v
 ord:Bf L nx 0 (List.range n)
section
variable {L n:Nat} {nx:Nat->Nat->Nat} {acc:Nat->Bool} {Λ:List Nat->Bool}
theorem Cz.run_lt (h:Cz L n nx acc Λ) {w:List Nat} (d:okW L w):Ay nx 0 w<n:=List.mem_range.1 (h.ord.run d)
theorem Cz.pos (h:Cz L n nx acc Λ):0<n:=h.run_lt (okW.nil L)
theorem Cz.lt (h:Cz L n nx acc Λ) {q x:Nat} (d:q<n) (j:x<L):nx q x<n:=List.mem_range.1 (h.ord.closed (List.mem_range.2 d) j)
theorem Cz.same (h:Cz L n nx acc Λ) {u v:List Nat} (j:okW L u) (l:okW L v) (he:Ay nx 0 u=Ay nx 0 v) {z:List Nat} (d:okW L z):Λ (u++z)=Λ (v++z):=by
 rw [<-h.lang _ (j.app d),<-h.lang _ (l.app d),Ge,Ge,he]
theorem Cz.unique {U:Nat} {nx':Nat->Nat->Nat} {V:Nat->Bool} {Λ':List Nat->Bool} (h:Cz L n nx acc Λ) (I:Cz L U nx' V Λ') (G:∀w,okW L w->Λ w=Λ' w):
  n=U/\(∀q x,q<n->x<L->nx q x=nx' q x)/\∀q,q<n->acc q=V q:=by
 have Z:FH (fun p q:Nat=>∃w,okW L w/\Ay nx 0 w=p/\Ay nx' 0 w=q):=by
  rintro _ _ _ _ ⟨u,j,rfl,rfl⟩ ⟨v,y,rfl,rfl⟩
  exact⟨fun e=>I.sep u v j y fun z l=>by rw [<-G _ (j.app l),<-G _ (y.app l)]; exact h.same j y e l,
   fun e=>h.sep u v j y fun z l=>by rw [G _ (j.app l),G _ (y.app l)]; exact I.same j y e l⟩
 have W:=Bf.rel Z ⟨[],okW.nil L,rfl,rfl⟩ (by
  rintro _ _ x O ⟨w,d,rfl,rfl⟩;exact⟨w++[x],d.snoc O,Fs _ _ _ _,Fs _ _ _ _⟩) h.ord I.ord
 have hn:n=U:=by simpa using W.length
 subst hn;have J:∀p,p<n->∃w,okW L w/\Ay nx 0 w=p/\Ay nx' 0 w=p:=fun p hp=>W.get (i:=p) (by simp [hp]) (by simp [hp]);have hs:∀w,okW L w->Ay nx 0 w=Ay nx' 0 w:=fun w d=>by
  obtain⟨u,j,C,E⟩:=J _ (h.run_lt d);have:=(Z _ _ _ _ ⟨w,d,rfl,rfl⟩ ⟨u,j,rfl,rfl⟩).1 C.symm;rw [this,E]
 refine⟨rfl,fun q x M O=>?_,fun q M=>?_⟩
 ·obtain⟨w,d,C,E⟩:=J q M;have:=hs (w++[x]) (d.snoc O);rw [Fs,Fs,C,E] at this;exact this
 ·obtain⟨w,d,C,E⟩:=J q M;have:=(h.lang w d).trans ((G w d).trans (I.lang w d).symm)
  rwa [C,E] at this
end
end Go.Proofs.YtfcfpoemojjglaaGreatDoor
namespace Go.Proofs.YtfcfpoemojjglaaGreatDoor
theorem An {α:Type} {l:List α} {i:Nat} (h:i<l.length):∃x,l[i]?=some x:=⟨_,List.getElem?_eq_getElem h⟩
theorem AP {α:Type} {l:List α} {i:Nat} {x:α} (h:l[i]?=some x):i<l.length:=(List.getElem?_eq_some_iff.1 h).1
theorem getD_some {α:Type} {l:List α} {i:Nat} {x d:α} (h:l[i]?=some x):l.getD i d=x:=by rw [List.getD_eq_getElem?_getD,h]; rfl
theorem D6:∀(l m:List Nat),l.Nodup->(∀a∈l,a∈m)->l.length<=m.length
 | [],_,_,_=>Nat.zero_le _
 | a::l,m,hn,hs=>by
  obtain⟨E,G,rfl⟩:=List.append_of_mem (hs a List.mem_cons_self);have j:=List.nodup_cons.1 hn;have y:=D6 l (E++G) j.2 (fun b h=>by
   have d:=hs b (List.mem_cons_of_mem _ h);have C:b≠a:=fun e=>j.1 (e ▸ h);simp only [List.mem_append,List.mem_cons] at d ⊢;rcases d with d | d | d
   ·exact .inl d
   ·exact(C d).elim
   ·exact .inr d)
  simp only [List.length_append,List.length_cons] at y ⊢;omega
theorem J7:∀(l m:List Nat),l.Nodup->(∀a∈l,a∈m)->m.length<=l.length->m.Nodup
 | [],m,_,_,hl=>by
  have:m=[]:=List.length_eq_zero_iff.1 (by simpa using hl);subst this;exact List.nodup_nil
 | a::l,m,hn,hs,hl=>by
  obtain⟨j,y,rfl⟩:=List.append_of_mem (hs a List.mem_cons_self);have C:=List.nodup_cons.1 hn;have E:∀b∈l,b∈j++y:=fun b h=>by
   have d:=hs b (List.mem_cons_of_mem _ h);have J:b≠a:=fun e=>C.1 (e ▸ h);simp only [List.mem_append,List.mem_cons] at d ⊢;rcases d with d | d | d
   ·exact .inl d
   ·exact(J d).elim
   ·exact .inr d
  simp only [List.length_append,List.length_cons] at hl;have G:=J7 l (j++y) C.2 E (by simp; omega);refine List.perm_middle.nodup_iff.2 (List.nodup_cons.2 ⟨fun I=>?_,G⟩);have d:=D6 (a::l) (j++y) hn (fun b h=>by
   rcases List.mem_cons.1 h with rfl | h
   ·exact I
   ·exact E b h)
  simp at d;omega
def dnx (t:List (List Nat)) (q x:Nat):Nat:=(t.getD q []).getD x 0
def dac (ac:List Bool) (q:Nat):Bool:=ac.getD q false
structure DOK (L:Nat) (t:List (List Nat)) (ac:List Bool):Prop where
 len:t.length=ac.length
 pos:0<ac.length
 row:∀r∈t,r.length=L/\∀y∈r,y<ac.length
theorem DOK.at {L:Nat} {t:List (List Nat)} {ac:List Bool} (h:DOK L t ac) {q x:Nat} (G:q<ac.length) (I:x<L):∃r,t[q]?=some r/\r.length=L/\r[x]?=some (dnx t q x)/\dnx t q x<ac.length:=by
 obtain⟨r,d⟩:=An (l:=t) (i:=q) (by rw [h.len]; exact G);obtain⟨C,E⟩:=h.row r (List.mem_of_getElem? d);obtain⟨y,j⟩:=An (l:=r) (i:=x) (by omega);have:dnx t q x=y:=by unfold dnx; rw [getD_some d,getD_some j]
 rw [this];exact⟨r,d,C,j,E y (List.mem_of_getElem? j)⟩
theorem DOK.lt {L:Nat} {t:List (List Nat)} {ac:List Bool} (h:DOK L t ac) {q x:Nat} (d:q<ac.length) (j:x<L):dnx t q x<ac.length:=by
 obtain⟨_,_,_,_,h⟩:=h.at d j; exact h
theorem DOK.run {L:Nat} {t:List (List Nat)} {ac:List Bool} (h:DOK L t ac) {w:List Nat} (j:okW L w):Ay (dnx t) 0 w<ac.length:=
 Ew (I:=fun q=>q<ac.length) (fun _ _ l d=>h.lt d l) w 0 j h.pos
def EqW (L:Nat) (nx:Nat->Nat->Nat) (acc:Nat->Bool):Nat->Nat->Nat->Prop
 | 0,p,q=>acc p=acc q
 | r+1,p,q=>EqW L nx acc r p q/\∀x,x<L->EqW L nx acc r (nx p x) (nx q x)
section
variable {L n:Nat} {nx:Nat->Nat->Nat} {acc:Nat->Bool}
theorem EqW.of_words:∀(r:Nat) {p q:Nat},(∀z,okW L z->acc (Ay nx p z)=acc (Ay nx q z))->EqW L nx acc r p q
 | 0,_,_,h=>h [] (okW.nil L)
 | r+1,_,_,h=>⟨EqW.of_words r h,fun x d=>EqW.of_words r fun z j=>h (x::z) (j.cons d)⟩
theorem EqW.le {r:Nat}:∀(d:Nat) {i j:Nat},EqW L nx acc (r+d) i j->EqW L nx acc r i j
 | 0,_,_,h=>h
 | d+1,_,_,h=>EqW.le d h.1
theorem EqW.stable (l:∀q x,q<n->x<L->nx q x<n) {r:Nat} (y:∀i j,i<n->j<n->EqW L nx acc r i j->EqW L nx acc (r+1) i j):∀(d:Nat) {i j:Nat},i<n->j<n->EqW L nx acc r i j->EqW L nx acc (r+d) i j
 | 0,_,_,_,_,h=>h
 | d+1,i,j,hi,hj,h=>⟨EqW.stable l y d hi hj h,fun x C=>EqW.stable l y d (l i x hi C) (l j x hj C) ((y i j hi hj h).2 x C)⟩
structure BU (L n:Nat) (nx:Nat->Nat->Nat) (acc:Nat->Bool) (r:Nat) (cl:List Nat) (cnt:Nat):Prop where
 len:cl.length=n
 iff:∀i j,i<n->j<n->(cl.getD i 0=cl.getD j 0↔EqW L nx acc r i j)
 mem:∀v,v∈cl↔v<cnt
variable {r cnt cnt':Nat} {cl os:List Nat}
theorem BU.le (h:BU L n nx acc r cl cnt):cnt<=n:=by
 have:=D6 (List.range cnt) cl List.nodup_range (fun a d=>(h.mem a).2 (List.mem_range.1 d));simpa [h.len] using this
theorem BU.val (h:BU L n nx acc r cl cnt) {i:Nat} (j:i<n):cl.getD i 0<cnt:=by
 obtain⟨x,d⟩:=An (l:=cl) (i:=i) (by rw [h.len]; exact j);rw [getD_some d];exact(h.mem x).1 (List.mem_of_getElem? d)
theorem BU.back (h:BU L n nx acc r cl cnt) (d:BU L n nx acc (r+1) os cnt') {i:Nat} (j:i<n):cl.getD (os.idxOf (os.getD i 0)) 0=cl.getD i 0:=by
 have y:=(d.mem _).2 (d.val j);have l:=List.idxOf_lt_length_of_mem y;rw [d.len] at l;have he:os.getD (os.idxOf (os.getD i 0)) 0=os.getD i 0:=getD_some (FS y);exact(h.iff _ _ l j).2 ((d.iff _ _ l j).1 he).1
theorem BU.grow (h:BU L n nx acc r cl cnt) (d:BU L n nx acc (r+1) os cnt'):cnt<=cnt':=by
 have:=D6 (List.range cnt) ((List.range cnt').map fun v=>cl.getD (os.idxOf v) 0) List.nodup_range (fun u y=>by
  obtain⟨i,j⟩:=List.mem_iff_getElem?.1 ((h.mem u).2 (List.mem_range.1 y));have l:i<n:=by have:=AP j; rwa [h.len] at this
  exact List.mem_map.2 ⟨os.getD i 0,List.mem_range.2 (d.val l),by rw [h.back d l,getD_some j]⟩)
 simpa using this
theorem BU.rest (h:BU L n nx acc r cl cnt) (l:BU L n nx acc (r+1) os cnt) {i j:Nat} (d:i<n) (E:j<n) (he:EqW L nx acc r i j):EqW L nx acc (r+1) i j:=by
 have J:=J7 (List.range cnt) ((List.range cnt).map fun v=>cl.getD (os.idxOf v) 0) List.nodup_range (fun u M=>by
  obtain⟨i,d⟩:=List.mem_iff_getElem?.1 ((h.mem u).2 (List.mem_range.1 M));have y:i<n:=by have:=AP d; rwa [h.len] at this
  exact List.mem_map.2 ⟨os.getD i 0,List.mem_range.2 (l.val y),by rw [h.back l y,getD_some d]⟩) (by simp)
 refine(l.iff i j d E).1 ?_;have G:∀i,i<n->((List.range cnt).map fun v=>cl.getD (os.idxOf v) 0)[os.getD i 0]?=some (cl.getD i 0):=fun i y=>by
  rw [List.getElem?_map,List.getElem?_range (l.val y)];simp only [Option.map_some,h.back l y]
 have C:=G i d;have I:=G j E;rw [(h.iff i j d E).2 he] at C;exact(List.getElem?_inj (AP C) J).1 (C.trans I.symm)
structure Ck (L n:Nat) (nx:Nat->Nat->Nat) (acc:Nat->Bool) (cl:List Nat):Prop where
 len:cl.length=n
 iff:∀i j,i<n->j<n->(cl.getD i 0=cl.getD j 0↔∀r,EqW L nx acc r i j)
 lt:∀i,i<n->cl.getD i 0<n
theorem BU.atRest (E:∀q x,q<n->x<L->nx q x<n) (h:BU L n nx acc r cl cnt) (C:BU L n nx acc (r+1) os cnt):Ck L n nx acc cl:=by
 have G:=fun d {i j}=>EqW.stable E (fun i j l y he=>h.rest C l y he) d (i:=i) (j:=j);refine⟨h.len,fun i j l y=>?_,fun i l=>Nat.lt_of_lt_of_le (h.val l) h.le⟩;rw [h.iff i j l y];exact⟨fun he k=>EqW.le (r:=k) r (by rw [Nat.add_comm]; exact G k l y he),fun he=>he r⟩
theorem Ck.step (l:∀q x,q<n->x<L->nx q x<n) (h:Ck L n nx acc cl) {i j x:Nat} (y:i<n) (C:j<n) (d:x<L) (he:cl.getD i 0=cl.getD j 0):cl.getD (nx i x) 0=cl.getD (nx j x) 0:=
 (h.iff _ _ (l i x y d) (l j x C d)).2 fun r=>((h.iff i j y C).1 he (r+1)).2 x d
theorem Ck.accE (h:Ck L n nx acc cl) {i j:Nat} (d:i<n) (l:j<n) (he:cl.getD i 0=cl.getD j 0):acc i=acc j:=(h.iff i j d l).1 he 0
def AF (nx:Nat->Nat->Nat) (cl:List Nat) (k x:Nat):Nat:=cl.getD (nx (cl.idxOf k) x) 0
theorem Ck.nxE (E:∀q x,q<n->x<L->nx q x<n) (h:Ck L n nx acc cl) {i x:Nat} (j:i<n) (G:x<L):AF nx cl (cl.getD i 0) x=cl.getD (nx i x) 0:=by
 obtain⟨v,d⟩:=An (l:=cl) (i:=i) (by rw [h.len]; exact j);have C:=List.mem_of_getElem? d;have y:=List.idxOf_lt_length_of_mem C;rw [h.len] at y;unfold AF;refine h.step E (by rw [getD_some d]; exact y) j G ?_;rw [getD_some d,getD_some (FS C)]
theorem Ck.run (j:∀q x,q<n->x<L->nx q x<n) (E:0<n) (h:Ck L n nx acc cl) {w:List Nat} (d:okW L w):Ay (AF nx cl) (cl.getD 0 0) w=cl.getD (Ay nx 0 w) 0:=by
 have key:∀(w:List Nat) (q:Nat),okW L w->q<n->Ay (AF nx cl) (cl.getD q 0) w=cl.getD (Ay nx q w) 0:=by
  intro w
  induction w with
  | nil=>exact fun _ _ _=>rfl
  | cons x w ih=>
   intro q d l;have C:=d x List.mem_cons_self;show Ay (AF nx cl) (AF nx cl (cl.getD q 0) x) w=_
   rw [h.nxE j l C];exact ih _ (fun y G=>d y (List.mem_cons_of_mem _ G)) (j q x l C)
 exact key w 0 d E
theorem Ck.canon (y:∀q x,q<n->x<L->nx q x<n) (C:0<n) (h:Ck L n nx acc cl) {st:List Nat} (a2:∀s∈st,s<n) (l:Bf L (AF nx cl) (cl.getD 0 0) (st.map fun s=>cl.getD s 0)):
  Cz L st.length (Cy (AF nx cl) (st.map fun s=>cl.getD s 0)) (fun i=>acc (st.getD i 0)) (fun w=>acc (Ay nx 0 w)):=by
 have Z:∀w,okW L w->∃s,st[Ay (Cy (AF nx cl) (st.map fun s=>cl.getD s 0)) 0 w]?=some s/\cl.getD s 0=cl.getD (Ay nx 0 w) 0:=fun w j=>by
  have d:=l.num j;rw [h.run y C j,List.getElem?_map] at d;rcases he:st[Ay (Cy (AF nx cl) (st.map fun s=>cl.getD s 0)) 0 w]? with _ | s
  ·rw [he] at d; simp at d
  ·rw [he] at d; exact⟨s,rfl,by simpa using d⟩
 have G:∀w,okW L w->Ay nx 0 w<n:=fun w j=>Ew (I:=fun q=>q<n) (fun q x hx W=>y q x W hx) w 0 j C;refine⟨fun w j=>?_,fun u v J M he=>?_,?_⟩
 ·obtain⟨s,U,V⟩:=Z w j;show acc (st.getD _ 0)=_
  rw [getD_some U];exact h.accE (a2 s (List.mem_of_getElem? U)) (G w j) V
 ·have d:=(h.iff _ _ (G u J) (G v M)).2 fun r=>EqW.of_words r fun z hz=>by
   have:=he z hz
   rwa [Ge,Ge] at this
  have E:=l.num J;have O:=l.num M;rw [h.run y C J,d] at E;rw [h.run y C M] at O;exact(List.getElem?_inj (AP E) l.inv.nodup).1 (E.trans O.symm)
 ·have:=l.machine
  rwa [List.length_map] at this
end
end Go.Proofs.YtfcfpoemojjglaaGreatDoor
namespace Go.Proofs.YtfcfpoemojjglaaGreatDoor
structure Edg where
 frm:Int
 letter:Int
 to:Int
structure WA where
 letters:Int
 states:Int
 start:List Int
 accept:List Int
 edges:List Edg
deriving instance DecidableEq for Edg
deriving instance DecidableEq for WA
def inN (n x:Int):Bool:=decide (0<=x)&&decide (x<n)
theorem D3 {n x:Int}:inN n x=true↔0<=x/\x<n:=by simp [inN]
theorem CT {n x:Int} (h:inN n x=true):∃k:Nat,x=(k:Int)/\k<n.toNat:=⟨x.toNat,by have:=D3.1 h; omega,by have:=D3.1 h; omega⟩
structure WA.In (a:WA):Prop where
 start:∀x∈a.start,inN a.states x=true
 accept:∀x∈a.accept,inN a.states x=true
 edge:∀e∈a.edges,inN a.states e.frm=true/\inN a.letters e.letter=true/\inN a.states e.to=true
def WA.edgeB (a:WA) (e:Edg):Bool:=inN a.states e.frm&&inN a.states e.to&&inN a.letters e.letter
def WA.ok (a:WA):Bool:=decide (1<=a.letters)&&decide (a.letters<=8)&&decide (0<=a.states)&&decide (a.states<=400)&&a.start.all (inN a.states)&&a.accept.all (inN a.states)&&a.edges.all a.edgeB
def WA.L (a:WA):Nat:=a.letters.toNat
def WA.n (a:WA):Nat:=a.states.toNat
def BN (n:Nat) (l:List Int):List Bool:=(List.range n).map fun q:Nat=>decide ((q:Int)∈l)
theorem Dh (n:Nat) (l:List Int):(BN n l).length=n:=by simp [BN]
theorem Dg {n:Nat} {l:List Int} {q:Nat} (h:q<n):(BN n l)[q]?=some (decide ((q:Int)∈l)):=by simp [BN,h]
def AJ (m:List Bool):List Int:=((List.range m.length).filter fun q=>m.getD q false).map fun q:Nat=>(q:Int)
theorem Ee {m:List Bool} {x:Int}:x∈AJ m↔∃q:Nat,x=(q:Int)/\m[q]?=some true:=by
 simp only [AJ,List.mem_map,List.mem_filter,List.mem_range];constructor
 ·rintro⟨q,⟨d,j⟩,rfl⟩;exact⟨q,rfl,by rw [List.getD_eq_getElem?_getD,List.getElem?_eq_getElem d] at j; rw [List.getElem?_eq_getElem d]; exact congrArg some j⟩
 ·rintro⟨q,rfl,h⟩;exact⟨q,⟨AP h,getD_some h⟩,rfl⟩
def Asc (l:List Int):Prop:=l.Pairwise (· < ·)
theorem Md (n:Nat) (p:Nat->Bool):Asc (((List.range n).filter p).map fun q:Nat=>(q:Int)):=by
 refine List.pairwise_map.2 (List.Pairwise.filter _ ?_);exact(List.pairwise_lt_range).imp fun h=>by omega
theorem Me (m:List Bool):Asc (AJ m):=Md _ _
theorem IU:∀{l k:List Int},Asc l->Asc k->(∀x,x∈l↔x∈k)->l=k
 | [],[],_,_,_=>rfl
 | [],y::k,_,_,h=>absurd ((h y).2 List.mem_cons_self) List.not_mem_nil
 | x::l,[],_,_,h=>absurd ((h x).1 List.mem_cons_self) List.not_mem_nil
 | x::l,y::k,hl,hk,h=>by
  obtain⟨E,G⟩:=List.pairwise_cons.1 hl;obtain⟨k1,k2⟩:=List.pairwise_cons.1 hk;have I:x=y:=by
   rcases List.mem_cons.1 ((h x).1 List.mem_cons_self) with e | e
   ·exact e
   ·rcases List.mem_cons.1 ((h y).2 List.mem_cons_self) with j | j
    ·exact j.symm
    ·have:=E y j; have:=k1 x e; omega
  subst I;rw [IU G k2 fun z=>?_];have C:=h z;simp only [List.mem_cons] at C;constructor
  ·intro d;rcases C.1 (.inr d) with rfl | e
   ·have:=E z d; omega
   ·exact e
  ·intro d;rcases C.2 (.inr d) with rfl | e
   ·have:=k1 z d; omega
   ·exact e
structure NF where
 L:Nat
 nx:List (List (List Int))
 start:List Int
 acc:List Bool
def NF.n (a:NF):Nat:=a.nx.length
def NF.to (a:NF) (s x:Nat):List Int:=(a.nx.getD s []).getD x []
structure NF.OK (a:NF):Prop where
 acc:a.acc.length=a.n
 row:∀r∈a.nx,r.length=a.L
 to:∀r∈a.nx,∀l∈r,∀x∈l,inN a.n x=true
 start:∀x∈a.start,inN a.n x=true
def NF.after (a:NF) (m:List Bool) (x:Nat):List Bool:=(List.range a.n).map fun q:Nat=>(List.range a.n).any fun s=>m.getD s false&&decide ((q:Int)∈a.to s x)
def NF.st (a:NF):List Bool:=BN a.n a.start
def NF.has (a:NF) (m:List Bool):Bool:=(List.range a.n).any fun s=>m.getD s false&&a.acc.getD s false
def NF.lang (a:NF) (w:List Nat):Bool:=a.has (Ay a.after a.st w)
theorem NF.after_len (a:NF) (m:List Bool) (x:Nat):(a.after m x).length=a.n:=by simp [NF.after]
theorem NF.st_len (a:NF):a.st.length=a.n:=Dh _ _
def NF.Large (a:NF) (k:Nat):Prop:=∃i l,Exp a.L a.after a.st i l/\k<l.length
def WA.to (a:WA) (s x:Nat):List Int:=(a.edges.filter fun e=>decide (e.frm=(s:Int))&&decide (e.letter=(x:Int))).map (·.to)
def WA.nf (a:WA):NF:=⟨a.L,(List.range a.n).map fun s=>(List.range a.L).map fun x=>a.to s x,a.start,BN a.n a.accept⟩
theorem WA.nf_n (a:WA):a.nf.n=a.n:=by simp [NF.n,WA.nf]
theorem WA.nf_to (a:WA) {s x:Nat} (d:s<a.n) (h:x<a.L):a.nf.to s x=a.to s x:=by
 simp [NF.to,WA.nf,List.getD_eq_getElem?_getD,d,h]
theorem WA.mem_to {a:WA} {s x:Nat} {y:Int}:y∈a.to s x↔∃e∈a.edges,e.frm=(s:Int)/\e.letter=(x:Int)/\e.to=y:=by
 simp [WA.to,and_assoc]
def WA.lang (a:WA) (w:List Nat):Bool:=a.nf.lang w
def AG (L:Nat) (t:List (List Nat)) (ac:List Bool):WA:=
 ⟨(L:Int),(ac.length:Int),[0],AJ ac,(List.range ac.length).flatMap fun q:Nat=>(List.range L).map fun x:Nat=>⟨(q:Int),(x:Int),(dnx t q x:Int)⟩⟩
end Go.Proofs.YtfcfpoemojjglaaGreatDoor
namespace Go.Proofs.YtfcfpoemojjglaaGreatDoor
def NF.B (a:NF):Nat->Nat->Bool
 | 0,q=>a.acc.getD q false
 | d+1,q=>(List.range a.n).any fun y=>(List.range a.L).any (fun x=>decide ((y:Int)∈a.to q x))&&a.B d y
theorem NF.after_get {a:NF} {m:List Bool} {x y:Nat} (d:y<a.n):(a.after m x).getD y false=true↔∃s,s<a.n/\m.getD s false=true/\(y:Int)∈a.to s x:=by
 unfold NF.after;rw [List.getD_eq_getElem?_getD];simp [d]
theorem NF.has_iff {a:NF} {m:List Bool}:a.has m=true↔∃s,s<a.n/\m.getD s false=true/\a.acc.getD s false=true:=by
 simp [NF.has]
end Go.Proofs.YtfcfpoemojjglaaGreatDoor
namespace Go.Proofs.YtfcfpoemojjglaaGreatDoor
end Go.Proofs.YtfcfpoemojjglaaGreatDoor
namespace Go.Proofs.YtfcfpoemojjglaaGreatDoor
end Go.Proofs.YtfcfpoemojjglaaGreatDoor
namespace Go.Proofs.YtfcfpoemojjglaaGreatDoor
def WA.afterE (a:WA) (m:List Bool) (x:Int) (k:Nat):List Bool:=(List.range a.n).map fun q:Nat=>(a.edges.take k).any fun e=>decide (e.letter=x)&&m.getD e.frm.toNat false&&decide (e.to=(q:Int))
theorem WA.afterE_len (a:WA) (m:List Bool) (x:Int) (k:Nat):(a.afterE m x k).length=a.n:=by simp [WA.afterE]
theorem WA.afterE_get {a:WA} {m:List Bool} {x:Int} {k q:Nat} (d:q<a.n):(a.afterE m x k)[q]?=some ((a.edges.take k).any fun e=>decide (e.letter=x)&&m.getD e.frm.toNat false&&decide (e.to=(q:Int))):=by
 unfold WA.afterE;rw [List.getElem?_map,List.getElem?_range d];rfl
theorem WA.afterE_zero (a:WA) (m:List Bool) (x:Int):a.afterE m x 0=List.replicate a.n false:=by
 apply List.ext_getElem?;intro q;rcases Nat.lt_or_ge q a.n with d | d
 ·rw [afterE_get d,List.getElem?_replicate,if_pos d]; simp
 ·rw [List.getElem?_eq_none (by rw [afterE_len]; exact d),List.getElem?_eq_none (by simpa using d)]
theorem WA.afterE_step {a:WA} {m:List Bool} {x:Int} {k:Nat} {e:Edg} (he:a.edges[k]?=some e) (ht:0<=e.to):a.afterE m x (k+1)=if decide (e.letter=x)&&m.getD e.frm.toNat false then (a.afterE m x k).set e.to.toNat true else a.afterE m x k:=by
 apply List.ext_getElem?;intro q;rcases Nat.lt_or_ge q a.n with d | d
 ·rw [afterE_get d,List.take_add_one,he,List.any_append];simp only [Option.toList_some,List.any_cons,List.any_nil,Bool.or_false];rcases j:(decide (e.letter=x)&&m.getD e.frm.toNat false) with _ | _
  ·rw [if_neg (by decide),afterE_get d]; simp
  ·rw [if_pos rfl,List.getElem?_set,afterE_len];by_cases h:e.to.toNat=q
   ·rw [if_pos h,if_pos (by omega)];have:e.to=(q:Int):=by omega
    simp [this]
   ·rw [if_neg h,afterE_get d];have:decide (e.to=(q:Int))=false:=by simp; omega
    simp [this]
 ·rw [List.getElem?_eq_none (by rw [afterE_len]; exact d),List.getElem?_eq_none];split <;> simp [afterE_len,d]
theorem WA.afterE_all {a:WA} (h:a.In) {m:List Bool} {x k:Nat} (G:x<a.L) (J:a.edges.length<=k):a.afterE m (x:Int) k=a.nf.after m x:=by
 apply List.ext_getElem?;intro q;rcases Nat.lt_or_ge q a.n with j | j
 ·rw [afterE_get j,List.take_of_length_le J];unfold NF.after;rw [a.nf_n,List.getElem?_map,List.getElem?_range j];simp only [Option.map_some];congr 1;rw [Bool.eq_iff_iff,List.any_eq_true,List.any_eq_true];constructor
  ·rintro⟨e,he,d⟩;simp only [Bool.and_eq_true,decide_eq_true_eq] at d;obtain⟨⟨d,l⟩,y⟩:=d;obtain⟨O,U,V⟩:=h.edge e he;obtain⟨f,C,E⟩:=CT O;refine⟨f,List.mem_range.2 E,?_⟩;rw [C] at l;rw [a.nf_to E G];simp only [Bool.and_eq_true,decide_eq_true_eq];exact⟨by simpa using l,WA.mem_to.2 ⟨e,he,C,d,y⟩⟩
  ·rintro⟨s,M,d⟩;rw [a.nf_to (List.mem_range.1 M) G] at d;simp only [Bool.and_eq_true,decide_eq_true_eq] at d;obtain⟨e,he,l,y,I⟩:=WA.mem_to.1 d.2;refine⟨e,he,?_⟩;simp only [Bool.and_eq_true,decide_eq_true_eq];refine⟨⟨y,?_⟩,I⟩;rw [l];simpa using d.1
 ·rw [List.getElem?_eq_none (by rw [afterE_len]; exact j),List.getElem?_eq_none (by rw [NF.after_len,a.nf_n]; exact j)]
theorem WA.nf_acc {a:WA} {s:Nat} (d:s<a.n):a.nf.acc.getD s false=decide ((s:Int)∈a.accept):=getD_some (Dg d)
theorem WA.meets_has {a:WA} (h:a.In) (m:List Bool):(a.accept.any fun s=>m.getD s.toNat false)=a.nf.has m:=by
 rw [Bool.eq_iff_iff,List.any_eq_true,NF.has_iff];constructor
 ·rintro⟨s,y,j⟩;obtain⟨q,rfl,d⟩:=CT (h.accept s y);refine⟨q,by rw [a.nf_n]; exact d,by simpa using j,?_⟩;rw [WA.nf_acc d];simpa using y
 ·rintro⟨q,d,j,l⟩;rw [a.nf_n] at d;rw [WA.nf_acc d] at l;exact⟨(q:Int),by simpa using l,by simpa using j⟩
theorem WA.st_marks (a:WA):a.nf.st=BN a.n a.start:=by unfold NF.st; rw [a.nf_n]; rfl
end Go.Proofs.YtfcfpoemojjglaaGreatDoor
namespace Go.Proofs.YtfcfpoemojjglaaGreatDoor
section
variable {L:Nat} {t:List (List Nat)} {ac:List Bool}
theorem GG:(AG L t ac).n=ac.length:=by simp [WA.n,AG]
theorem GF:(AG L t ac).L=L:=by simp [WA.L,AG]
theorem Km {e:Edg}:e∈(AG L t ac).edges↔∃q x,q<ac.length/\x<L/\e=⟨(q:Int),(x:Int),(dnx t q x:Int)⟩:=by
 simp only [AG,List.mem_flatMap,List.mem_range,List.mem_map];constructor
 ·rintro⟨q,d,x,h,rfl⟩;exact⟨q,x,d,h,rfl⟩
 ·rintro⟨q,x,d,h,rfl⟩;exact⟨q,d,x,h,rfl⟩
theorem Rv:(AG L t ac).edges.length=ac.length*L:=by
 have:∀ls:List Nat,(ls.flatMap fun q:Nat=>(List.range L).map fun x:Nat=>(⟨(q:Int),(x:Int),(dnx t q x:Int)⟩:Edg)).length=ls.length*L:=by
  intro ls
  induction ls with
  | nil=>simp
  | cons q ls ih=>rw [List.flatMap_cons,List.length_append,ih,List.length_map,List.length_range,List.length_cons,Nat.add_mul]; omega
 have h:=this (List.range ac.length);rw [List.length_range] at h;exact h
theorem aCj {m:List Bool} {x:Int} (h:x∈AJ m):inN (m.length:Int) x=true:=by
 obtain⟨q,rfl,d⟩:=Ee.1 h;rw [D3];have:=AP d;omega
theorem aB9 (h:DOK L t ac):(AG L t ac).In:=by
 refine⟨fun x d=>?_,fun x d=>aCj d,fun e he=>?_⟩
 ·have:x=0:=by simpa [AG] using d
  subst this;rw [D3];have:=h.pos;exact⟨Int.le_refl _,by show(0:Int)<(ac.length:Int); omega⟩
 ·obtain⟨q,x,j,d,rfl⟩:=Km.1 he;have:=h.lt j d;exact⟨D3.2 ⟨Int.natCast_nonneg q,by show(q:Int)<(ac.length:Int); omega⟩,D3.2 ⟨Int.natCast_nonneg x,by show(x:Int)<(L:Int); omega⟩,D3.2 ⟨Int.natCast_nonneg (dnx t q x),by show(dnx t q x:Int)<(ac.length:Int); omega⟩⟩
theorem Ko {s x:Nat} (d:s<ac.length) (h:x<L) {y:Int}:y∈(AG L t ac).nf.to s x↔y=(dnx t s x:Int):=by
  rw [WA.nf_to _ (by rw [GG]; exact d) (by rw [GF]; exact h),WA.mem_to];constructor
  · rintro⟨e,he,C,E,rfl⟩
    obtain⟨q,z,G,I,rfl⟩:=Km.1 he
    have j:q=s:=by have:(q:Int)=(s:Int):=C
                   omega
    have l:z=x:=by have:(z:Int)=(x:Int):=E
                   omega
    rw [j,l]
  · rintro rfl
    exact⟨_,Km.2 ⟨s,x,d,h,rfl⟩,rfl,rfl,rfl⟩
theorem GC {n q s:Nat} (d:s<n):(BN n [(q:Int)]).getD s false=decide (s=q):=by
 rw [getD_some (Dg d)];by_cases h:s=q
 ·simp [h]
 ·have:(s:Int)≠(q:Int):=by omega
  simp [h,this]
theorem Rt {q x:Nat} (l:q<ac.length) (E:x<L):(AG L t ac).nf.after (BN ac.length [(q:Int)]) x=BN ac.length [(dnx t q x:Int)]:=by
 have C:(AG L t ac).nf.n=ac.length:=by rw [WA.nf_n,GG]
 apply List.ext_getElem?;intro y;rcases Nat.lt_or_ge y ac.length with h | h
 ·rw [Dg h];unfold NF.after;rw [C,List.getElem?_map,List.getElem?_range h];simp only [Option.map_some];congr 1;rw [Bool.eq_iff_iff,List.any_eq_true];constructor
  ·rintro⟨s,j,d⟩;have j:=List.mem_range.1 j;rw [GC j] at d;simp only [Bool.and_eq_true,decide_eq_true_eq] at d;obtain⟨rfl,d⟩:=d;rw [Ko j E] at d;simpa using d
  ·intro d;refine⟨q,List.mem_range.2 l,?_⟩;rw [GC l];simp only [decide_true,Bool.true_and,decide_eq_true_eq];rw [Ko l E];simpa using d
 ·rw [List.getElem?_eq_none (by rw [NF.after_len,C]; exact h),List.getElem?_eq_none (by rw [Dh]; exact h)]
theorem Rx:(AG L t ac).nf.st=BN ac.length [((0:Nat):Int)]:=by
 rw [WA.st_marks,GG]; rfl
theorem Kn (h:DOK L t ac):∀(w:List Nat) (q:Nat),okW L w->q<ac.length->Ay (AG L t ac).nf.after (BN ac.length [(q:Int)]) w=BN ac.length [((Ay (dnx t) q w:Nat):Int)]
 | [],_,_,_=>rfl
 | x::w,q,hw,hq=>by
  have d:=hw x List.mem_cons_self;show Ay _ ((AG L t ac).nf.after _ x) w=BN _ [((Ay (dnx t) (dnx t q x) w:Nat):Int)]
  rw [Rt hq d];exact Kn h w _ (fun y j=>hw y (List.mem_cons_of_mem _ j)) (h.lt hq d)
theorem Rw {q:Nat} (l:q<ac.length):(AG L t ac).nf.has (BN ac.length [(q:Int)])=dac ac q:=by
 have E:(AG L t ac).n=ac.length:=GG;have C:∀s,s<ac.length->(AG L t ac).nf.acc.getD s false=dac ac s:=fun s d=>by
  rw [WA.nf_acc (by rw [E]; exact d)];obtain⟨b,j⟩:=An d;unfold dac;rw [getD_some j];have:((s:Int)∈(AG L t ac).accept)↔b=true:=by
   show(s:Int)∈AJ ac↔_
   rw [Ee];constructor
   ·rintro⟨r,M,h⟩;have:s=r:=by omega
    subst this;exact Option.some.inj (j.symm.trans h)
   ·rintro rfl;exact⟨s,rfl,j⟩
  by_cases h:b=true
  ·rw [h]; simpa using this.2 h
  ·have I:b=false:=by simpa using h
   rw [I];simp only [decide_eq_false_iff_not];exact fun J=>h (this.1 J)
 rw [Bool.eq_iff_iff,NF.has_iff,WA.nf_n,E];constructor
 ·rintro⟨s,d,y,G⟩;rw [GC d] at y;have:s=q:=by simpa using y
  subst this
  rwa [C s d] at G
 ·intro h;exact⟨q,l,by rw [GC l]; simp,by rw [C q l]; exact h⟩
theorem Kl (h:DOK L t ac) {w:List Nat} (d:okW L w):(AG L t ac).lang w=dac ac (Ay (dnx t) 0 w):=by
 unfold WA.lang NF.lang;rw [Rx,Kn h w 0 d h.pos,Rw (h.run d)]
theorem aCa (h:DOK L t ac) {k:Nat} (Z:ac.length<=k):¬(AG L t ac).nf.Large k:=by
 rintro⟨i,l,G,hl⟩;have M:(AG L t ac).nf.L=L:=GF (t:=t) (ac:=ac);rw [M,Rx] at G;have O:∀q j,q<ac.length->j<ac.length->BN ac.length [(q:Int)]=BN ac.length [(j:Int)]->q=j:=fun q j d a3 e=>by
  have:=GC (q:=j) d;rw [<-e,GC d] at this;simpa using this
 obtain⟨m,V,I⟩:=Exp.rel (R:=fun(s:List Bool) (q:Nat)=>q<ac.length/\s=BN ac.length [(q:Int)]) (δ':=dnx t) (t0:=0) (fun a b a' W y C=>by
  obtain⟨y,rfl⟩:=y;obtain⟨C,rfl⟩:=C;exact⟨fun e=>O _ _ y C e,fun e=>by rw [e]⟩) ⟨h.pos,rfl⟩ (fun s q x J E=>by
  obtain⟨d,rfl⟩:=E;exact⟨h.lt d J,Rt d J⟩) G
 have U:=D6 m (List.range ac.length) V.inv.nodup fun q d=>by
  obtain⟨s,_,E,_⟩:=I.right d;exact List.mem_range.2 E
 rw [List.length_range] at U;have:=I.length;omega
end
end Go.Proofs.YtfcfpoemojjglaaGreatDoor
namespace Go.Proofs.YtfcfpoemojjglaaGreatDoor
structure Mv where
 frm:Int
 inn:Int
 out:Int
 to:Int
structure TR where
 letters:Int
 states:Int
 start:List Int
 accept:List Int
 moves:List Mv
def TR.moveB (t:TR) (e:Mv):Bool:=inN t.states e.frm&&inN t.states e.to&&(inN t.letters e.inn&&inN t.letters e.out)
def TR.head (t:TR):Bool:=decide (1<=t.letters)&&decide (t.letters<=8)&&decide (0<=t.states)&&decide (t.states<=400)
def TR.ok (t:TR):Bool:=t.head&&t.start.all (inN t.states)&&t.accept.all (inN t.states)&&t.moves.all t.moveB
def TR.n (t:TR):Nat:=t.states.toNat
def TR.L (t:TR):Nat:=t.letters.toNat
end Go.Proofs.YtfcfpoemojjglaaGreatDoor
namespace Go.Proofs.YtfcfpoemojjglaaGreatDoor
open Go.RowKit
def DP (e:Edg):Nat->Value
 | 0=>.int .i64 e.frm
 | 1=>.int .i64 e.letter
 | _=>.int .i64 e.to
def Bj (w:World) (B:Nat) (v:Value) (a:WA):Prop:=
 ∃A1 c1 A2 c2 A3 c3,v=.agg #[.int .i64 a.letters,.int .i64 a.states,.slice A1 a.start.length c1,.slice A2 a.accept.length c2,.slice A3 a.edges.length c3]/\
  Sl w B 1 Ai A1 a.start/\Sl w B 1 Ai A2 a.accept/\Sl w B 3 DP A3 a.edges/\a.start.length<=c1
theorem Bj.keep {w w':World} {B B':Nat} {v:Value} {a:WA} (h:Bj w B v a) (j:∀p:Addr,p.block<B->w'.cell? p=w.cell? p) (d:B<=B'):Bj w' B' v a:=by
 obtain⟨A1,c1,A2,c2,A3,c3,e,l,y,C,E⟩:=h;exact⟨A1,c1,A2,c2,A3,c3,e,l.keep j d,y.keep j d,C.keep j d,E⟩
theorem Bj.below {w w':World} {B:Nat} {v:Value} {a:WA} (h:Bj w B v a) (d:Below B w w'):Bj w' B v a:=h.keep (fun _ j=>d.cell j) (Nat.le_refl _)
def VSl {D:Type} (R:World->Nat->Value->D->Prop) (w:World) (B:Nat) (A:Option Addr) (ds:List D):Prop:=
 ds.length<=9223372036854775807/\(ds≠[]->∃b off,A=some ⟨b,off,none⟩/\b<B/\∀k d,ds[k]?=some d->∃v,w.cell? ⟨b,off+k,none⟩=some v/\R w B v d)
def Gj {D:Type} (R:World->Nat->Value->D->Prop):Prop:=∀{w w':World} {B B':Nat} {v:Value} {d:D},R w B v d->(∀p:Addr,p.block<B->w'.cell? p=w.cell? p)->B<=B'->R w' B' v d
theorem VSl.keep {D:Type} {R:World->Nat->Value->D->Prop} (E:Gj R) {w w':World} {B B':Nat} {A:Option Addr} {ds:List D} (h:VSl R w B A ds) (j:∀p:Addr,p.block<B->w'.cell? p=w.cell? p) (C:B<=B'):VSl R w' B' A ds:=
 ⟨h.1,fun M=>by
  obtain⟨b,O,e,G,I⟩:=h.2 M;refine⟨b,O,e,by omega,fun k d J=>?_⟩;obtain⟨v,l,y⟩:=I k d J;exact⟨v,(j _ G).trans l,E y j C⟩⟩
theorem VSl.at {D:Type} {R:World->Nat->Value->D->Prop} {w:World} {B:Nat} {A:Option Addr} {ds:List D} (h:VSl R w B A ds) {k:Nat} {d:D} (l:ds[k]?=some d):
  ∃b j v,A=some ⟨b,j,none⟩/\b<B/\w.cell? ⟨b,j+k,none⟩=some v/\R w B v d:=by
 obtain⟨b,j,e,E,G⟩:=h.2 (by rintro rfl; simp at l);obtain⟨v,y,C⟩:=G k d l;exact⟨b,j,v,e,E,y,C⟩
def R1 (w:World) (B:Nat) (v:Value) (l:List Int):Prop:=∃A c,v=.slice A l.length c/\Sl w B 1 Ai A l
theorem R1.keep:Gj R1:=by
 rintro w w' B B' v d ⟨A,c,e,h⟩ l j;exact⟨A,c,e,h.keep l j⟩
def Ak (l:List Nat):List Int:=l.map fun x:Nat=>(x:Int)
def R1n (w:World) (B:Nat) (v:Value) (l:List Nat):Prop:=R1 w B v (Ak l)
theorem R1n.keep:Gj R1n:=fun h j d=>R1.keep h j d
def R2 (w:World) (B:Nat) (v:Value) (t:List (List Int)):Prop:=∃A c,v=.slice A t.length c/\VSl R1 w B A t
theorem R2.keep:Gj R2:=by
 rintro w w' B B' v d ⟨A,c,e,h⟩ l j;exact⟨A,c,e,VSl.keep (@R1.keep) h l j⟩
def Cn (w:World) (B:Nat) (v:Value) (a:NF):Prop:=
 ∃A1 c1 A2 c2 A3 c3,v=.agg #[.int .i64 (a.L:Int),.slice A1 a.nx.length c1,.slice A2 a.start.length c2,.slice A3 a.acc.length c3]/\
  VSl R2 w B A1 a.nx/\Sl w B 1 Ai A2 a.start/\Sl w B 1 DH A3 a.acc/\a.start.length<=c2
def Br (w:World) (B:Nat) (v:Value) (t:List (List Nat)) (ac:List Bool):Prop:=
 ∃A1 c1 A2 c2,v=.agg #[.slice A1 t.length c1,.slice A2 ac.length c2]/\VSl R1n w B A1 t/\Sl w B 1 DH A2 ac
theorem Br.keep {w w':World} {B B':Nat} {v:Value} {t:List (List Nat)} {ac:List Bool} (h:Br w B v t ac) (j:∀p:Addr,p.block<B->w'.cell? p=w.cell? p) (d:B<=B'):Br w' B' v t ac:=by
 obtain⟨A1,c1,A2,c2,e,l,y⟩:=h;exact⟨A1,c1,A2,c2,e,VSl.keep (@R1n.keep) l j d,y.keep j d⟩
theorem B8 {w:World} {base n B:Nat} {e:TypeId} {v:Value} {l:List Int} (h:w.ownsRow base e 1 v n (l.map (Value.int .i64))) (M:l.length=n) (O:w.heap.size<=B) (hm:n<=9223372036854775807):R1 w B v l:=by
 subst M;rcases h.2 with⟨rfl,I⟩ | ⟨g,E,G,rfl,U,C,V,hs,hz,ht⟩
 ·have:l=[]:=by simpa using I
  subst this;exact⟨none,0,rfl,Sl.nil rfl⟩
 ·refine⟨_,E,rfl,by omega,fun _=>⟨g,0,rfl,?_,fun k d y j W=>?_⟩⟩
  ·have:=(Array.getElem?_eq_some_iff.1 C).1; omega
  ·have J:j=0:=by omega
   subst J;rw [cell_of_row w g _ G e (0,0) C];have Z:=AP y;have:(l.map (Value.int .i64))[k]?=some (.int .i64 d):=by rw [List.getElem?_map,y]; rfl
   rw [<-ht,List.getElem?_take] at this;split at this
   ·simpa [Ai] using this
   ·cases this
theorem Kg {w:World} {base n B:Nat} {e:TypeId} {v:Value} {l:List Bool} (h:w.ownsRow base e 1 v n (l.map Value.bool)) (M:l.length=n) (O:w.heap.size<=B) (hm:n<=9223372036854775807):∃A c,v=.slice A l.length c/\Sl w B 1 DH A l:=by
 subst M;rcases h.2 with⟨rfl,I⟩ | ⟨g,E,G,rfl,U,C,V,hs,hz,ht⟩
 ·have:l=[]:=by simpa using I
  subst this;exact⟨none,0,rfl,Sl.nil rfl⟩
 ·refine⟨_,E,rfl,by omega,fun _=>⟨g,0,rfl,?_,fun k d y j W=>?_⟩⟩
  ·have:=(Array.getElem?_eq_some_iff.1 C).1; omega
  ·have J:j=0:=by omega
   subst J;rw [cell_of_row w g _ G e (0,0) C];have Z:=AP y;have:(l.map Value.bool)[k]?=some (.bool d):=by rw [List.getElem?_map,y]; rfl
   rw [<-ht,List.getElem?_take] at this;split at this
   ·simpa [DH] using this
   ·cases this
end Go.Proofs.YtfcfpoemojjglaaGreatDoor
namespace Go.Proofs.YtfcfpoemojjglaaGreatDoor
open Go.RowKit
theorem Mb {D:Type} {p:D->Bool} {l:List D} {k:Nat} {x:D} (j:l[k]?=some x) (h:(l.take k).all p=true) (d:p x=true):(l.take (k+1)).all p=true:=by
 rw [List.take_add_one,j]; simp [d]; simpa using h
theorem IQ {D:Type} {p:D->Bool} {l:List D} {k:Nat} {x:D} (h:l[k]?=some x) (d:p x=false):l.all p=false:=by
 rw [List.all_eq_false]; exact⟨x,List.mem_of_getElem? h,by simp [d]⟩
theorem Ma {D:Type} {p:D->Bool} {l:List D} {k:Nat} (d:l.length<=k) (h:(l.take k).all p=true):l.all p=true:=by
 rwa [List.take_of_length_le d] at h
theorem B5 {D:Type} {l:List D} {k:Nat} {x:D} (h:l[k]?=some x):l.take (k+1)=l.take k++[x]:=by rw [List.take_add_one,h]; rfl
theorem AX {D E:Type} {f:D->E} {l:List D} {k:Nat} {x:D} (h:l[k]?=some x):(l.map f)[k]?=some (f x):=by rw [List.getElem?_map,h]; rfl
theorem F2.of_get {S T:Type} {R:S->T->Prop}:∀{l:List S} {m:List T},l.length=m.length->(∀(i:Nat) (a:S) (b:T),l[i]?=some a->m[i]?=some b->R a b)->F2 R l m
 | [],[],_,_=>.nil
 | [],_::_,h,_=>absurd h (by simp)
 | _::_,[],h,_=>absurd h (by simp)
 | a::l,b::m,h,hr=>.cons (hr 0 a b rfl rfl) (F2.of_get (by simpa using h) fun i x y d j=>hr (i+1) x y (by simpa using d) (by simpa using j))
theorem F2.imp {S T:Type} {R R':S->T->Prop} {l:List S} {m:List T} (h:F2 R l m) (d:∀a b,R a b->R' a b):F2 R' l m:=by
 induction h with
 | nil=>exact .nil
 | cons h1 _ ih=>exact .cons (d _ _ h1) ih
theorem F2.at {S T:Type} {R:S->T->Prop} {l:List S} {m:List T} (h:F2 R l m) {i:Nat} {b:T} (j:m[i]?=some b):∃a,l[i]?=some a/\R a b:=by
 obtain⟨a,d⟩:=An (l:=l) (i:=i) (by rw [h.length]; exact AP j);exact⟨a,d,h.get d j⟩
theorem Ap (w:World):Below w.heap.size w w.drew:=⟨rfl,rfl,rfl,Nat.le_refl _,fun _ _=>rfl⟩
theorem Ae (w:World) (cs:Array Value) (t:TypeId):∃w1,w.alloc (.cells cs t)=w1/\Below w.heap.size w w1/\Blk w1 w.heap.size t cs/\Ac w w1 (fun _=>False):=
 ⟨_,rfl,(Below.refl _ _).alloc (Nat.le_refl _) _,Blk.new _ _ _,(Ac.refl _ _).alloc _⟩
theorem Blk.below {w w':World} {g:Nat} {t:TypeId} {cs:Array Value} (h:Blk w g t cs) (d:Below w.heap.size w w'):Blk w' g t cs:=h.kept (Ac.of_below d fun _=>False) id
theorem Blk.at {w w':World} {g B:Nat} {t:TypeId} {cs:Array Value} (h:Blk w g t cs) (j:g<B) (d:Below B w w'):Blk w' g t cs:=by
 unfold Blk at h ⊢;rw [d.block g j];exact h
theorem HA (z:Value) (n:Nat):madeCells #[z] (n*1)=Array.replicate n z:=by
 apply Array.ext
 ·simp [madeCells]
 ·intro i d h;simp [madeCells,Nat.mod_one]
theorem HJ {P:Program} {t e bytes:Nat} {z:Value} (ht:P.underlying t=some (.slice e)) (G:(P.info? e).map (fun i=>(i.zero,i.size,i.bytes))=some (some z,1,bytes)) (J:z.cells=#[z]) (C:bytes<=200)
  (w:World) (n:Nat) (I:n<=250000):
  ∃g w1,(Instr.makeSlice t (.int .i64 n) (.int .i64 n)).run P w=.ok (.slice (some ⟨g,0,none⟩) n n) w1/\Blk w1 g e (Array.replicate n z)/\Below w.heap.size w w1/\w.heap.size<=g:=by
 obtain⟨i,j,l,h,y⟩:=info_parts G;have M:bytes*n<=200*250000:=Nat.mul_le_mul C I;have E:(i.bytes:Int)*(n:Int)<=281474976710656:=by
  rw [y,<-Int.natCast_mul]; omega
 have d:=run_makeSlice (P:=P) w t e i z ht j l .i64 .i64 n n (by omega) (Int.le_refl _) (by rw [h]; simp; omega) E (by omega);simp only [Int.toNat_natCast] at d;rw [h,J,HA] at d;exact⟨_,_,d,Blk.new _ _ _,(Below.refl _ _).alloc (Nat.le_refl _) _,Nat.le_refl _⟩
theorem JF:(Tryz.prog.info? 3).map (fun i=>(i.zero,i.size,i.bytes))=some (some (.int .i64 0),1,8):=by kernel_rfl
theorem JG:(Tryz.prog.info? 4).map (fun i=>(i.zero,i.size,i.bytes))=some (some (.bool false),1,1):=by kernel_rfl
theorem Hu:(Tryz.prog.info? 24).map (fun i=>(i.zero,i.size,i.bytes))=some (some (.slice none 0 0),1,24):=by kernel_rfl
theorem Qk:(Tryz.prog.info? 75).map (fun i=>(i.zero,i.size,i.bytes))=some (some (.slice none 0 0),1,24):=by kernel_rfl
theorem Et (w:World) (n:Nat) (d:n<=250000):
  ∃g w1,(Instr.makeSlice 24 (.int .i64 n) (.int .i64 n)).run Tryz.prog w=.ok (.slice (some ⟨g,0,none⟩) n n) w1/\Blk w1 g 3 (Array.replicate n (.int .i64 0))/\Below w.heap.size w w1/\w.heap.size<=g:=
 HJ Tryz.underlying24 JF rfl (by omega) w n d
theorem HI (w:World) (n:Nat) (d:n<=250000):
  ∃g w1,(Instr.makeSlice 76 (.int .i64 n) (.int .i64 n)).run Tryz.prog w=.ok (.slice (some ⟨g,0,none⟩) n n) w1/\Blk w1 g 4 (Array.replicate n (.bool false))/\Below w.heap.size w w1/\w.heap.size<=g:=
 HJ Tryz.underlying76 JG rfl (by omega) w n d
theorem Ra (w:World) (n:Nat) (d:n<=250000):
  ∃g w1,(Instr.makeSlice 75 (.int .i64 n) (.int .i64 n)).run Tryz.prog w=.ok (.slice (some ⟨g,0,none⟩) n n) w1/\Blk w1 g 24 (Array.replicate n (.slice none 0 0))/\Below w.heap.size w w1/\w.heap.size<=g:=
 HJ Tryz.underlying75 Hu rfl (by omega) w n d
theorem C9:Dd Tryz.prog 24 3 1:=EX Tryz.underlying24 JF rfl (by omega) (by omega)
theorem GM:Dd Tryz.prog 76 4 1:=EX Tryz.underlying76 JG rfl (by omega) (by omega)
theorem F9:Dd Tryz.prog 75 24 1:=EX Tryz.underlying75 Hu rfl (by omega) (by omega)
theorem KH (n:Nat) (z:Value):Array.replicate n z=(List.replicate n z).toArray:=by
 apply Array.ext';simp
theorem LG {P:Program} {ops:Array Oper} {rest:List Oper} {o:Oper} {a:Act} {Q:Exit->Act->World->Prop} {w:World} {t e bytes sz:Nat} {z:Value} (ht:P.underlying t=some (.slice e)) (U:(P.info? e).map (fun i=>(i.zero,i.size,i.bytes))=some (some z,sz,bytes)) (J:bytes<=200) (W:sz<=80)
  (n:Nat) (l:n<=200000) (O:o.guard=none) (x y:Operand) (V:o.op=.makeSlice t x y) (Z:a.eval x=.int .i64 n) (hy:a.eval y=.int .i64 n)
  (h:∀g w1,Blk w1 g e (madeCells z.cells (n*sz))->Below w.heap.size w w1->w.heap.size<=g->wpList P ops Q rest (a.put o.dst (.slice (some ⟨g,0,none⟩) n n)) w1):wpList P ops Q (o::rest) a w:=by
 refine wpList_plain O fun K I=>?_;obtain⟨i,C,E,j,G⟩:=info_parts U;have a3:bytes*n<=200*200000:=Nat.mul_le_mul J l;have M:(i.bytes:Int)*(n:Int)<=281474976710656:=by
  rw [G,<-Int.natCast_mul]; omega
 have a4:n*sz<=200000*80:=Nat.mul_le_mul l W;have a5:((n:Int).toNat)*i.size<=16000000:=by rw [j,Int.toNat_natCast]; omega
 have d:=run_makeSlice (P:=P) w t e i z ht C E .i64 .i64 n n (by omega) (Int.le_refl _) (by omega) M (by omega);simp only [Int.toNat_natCast] at d;rw [j] at d;unfold Oper.wp execOp;simp only [V,Z,hy,Sem.run_bind,Sem.run_pure,Result.andThen_ok,d];exact I _ _ (h _ _ (Blk.new _ _ _) ((Below.refl _ _).alloc (Nat.le_refl _) _) (Nat.le_refl _))
section
variable {w w':World} {base n size:Nat} {e:TypeId} {v:Value} {xs:List Value}
theorem C7 (h:w.ownsRow base e 1 v n xs) {k:Nat} {u:Value} (j:xs[k]?=some u):∃g d,v=.slice (some ⟨g,0,none⟩) n d/\w.cell? ⟨g,k,none⟩=some u:=by
 obtain⟨J,C⟩:=h;have I:=AP j;rcases C with⟨_,rfl⟩ | ⟨g,d,l,rfl,E,y,G,M,O,ht⟩
 ·omega
 ·refine⟨g,d,rfl,?_⟩;rw [cell_of_row w g k l e (0,0) y,<-j,<-ht,List.getElem?_take];simp; omega
theorem Bb (h:w.ownsRow base e size v n xs) {k:Nat} (d:v.ownBlock=some k):base<=k:=by
 rcases h.2 with⟨rfl,_⟩ | ⟨g,j,l,rfl,y,_⟩
 ·simp [Value.ownBlock] at d
 ·have:g=k:=by simpa [Value.ownBlock] using d
  omega
theorem Cj (h:w.ownsRow base e size v n xs) {k:Nat} (d:v.ownBlock=some k):k<w.heap.size:=by
 rcases h.2 with⟨rfl,_⟩ | ⟨g,l,y,rfl,C,j,_⟩
 ·simp [Value.ownBlock] at d
 ·have:g=k:=by simpa [Value.ownBlock] using d
  subst this;exact(Array.getElem?_eq_some_iff.1 j).1
theorem Cb:w.ownsRow base e size (.slice none 0 0) 0 []:=⟨by simp,.inl ⟨rfl,rfl⟩⟩
theorem DC (h:w.ownsRow base e size v n xs) {base':Nat} (E:base'<=base):w.ownsRow base' e size v n xs:=by
 refine⟨h.1,?_⟩;rcases h.2 with y | ⟨g,d,j,l,C,rest⟩
 ·exact .inl y
 ·exact .inr ⟨g,d,j,l,by omega,rest⟩
theorem DD {g:Nat} {cs:Array Value} (h:Blk w g e cs) (j:base<=g) (d:cs.size=n) (l:n<=4000000):w.ownsRow base e 1 (.slice (some ⟨g,0,none⟩) n n) n cs.toList:=by
 refine⟨by simp [d],.inr ⟨g,n,cs,rfl,j,h,Nat.le_refl _,by unfold maxLen; omega,by omega,?_⟩⟩;rw [List.take_of_length_le (by simp [d])]
theorem AK {X:Nat->Prop} (C:Ac w w' X) (h:w.ownsRow base e size v n xs) (l:∀g cs,X g->¬Blk w g e cs):w'.ownsRow base e size v n xs:=
 C.ownsRow h fun g d E=>by
  rcases h.2 with⟨rfl,_⟩ | ⟨j,G,I,rfl,_,y,_⟩
  ·simp [Value.ownBlock] at d
  ·have:j=g:=by simpa [Value.ownBlock] using d
   subst this;exact l _ _ E y
theorem Bt (h:w.ownsRow base e size v n xs) (d:Below w.heap.size w w'):w'.ownsRow base e size v n xs:=
 (Ac.of_below d (fun _=>False)).ownsRow h fun _ _=>id
end
def Cl (w:World) (base:Nat) (N:Nat->Prop) (vs:List Value) (ds:List (List Int)):Prop:=
 F2 (fun v d=>w.ownsRow base 3 1 v d.length (d.map (Value.int .i64))/\∀g,v.ownBlock=some g->N g) vs ds
theorem Cl.nil {w:World} {base:Nat} {N:Nat->Prop}:Cl w base N [] []:=F2.nil
theorem Cl.keep {w w':World} {base base':Nat} {N N' X:Nat->Prop} {C:List Value} {ds:List (List Int)} (h:Cl w base N C ds) (O:Ac w w' X) (I:∀g cs,N g->X g->¬Blk w g 3 cs) (G:∀g,g<w.heap.size->N g->N' g) (J:base'<=base):Cl w' base' N' C ds:=
 h.imp fun v d ⟨l,y⟩=>⟨DC (O.ownsRow l fun g j U=>by
  rcases l.2 with⟨rfl,_⟩ | ⟨E,V,W,rfl,_,M,_⟩
  ·simp [Value.ownBlock] at j
  ·have:E=g:=by simpa [Value.ownBlock] using j
   subst this;exact I _ _ (y _ j) U M) J,fun g j=>G g (Cj l j) (y g j)⟩
theorem Cl.snoc {w:World} {base:Nat} {N:Nat->Prop} {j:List Value} {ds:List (List Int)} (h:Cl w base N j ds) {v:Value} {d:List Int} (l:w.ownsRow base 3 1 v d.length (d.map (Value.int .i64))) (y:∀g,v.ownBlock=some g->N g):Cl w base N (j++[v]) (ds++[d]):=F2.snoc h ⟨l,y⟩
theorem Cl.read {w:World} {base base' B n:Nat} {N:Nat->Prop} {C:List Value} {ds:List (List Int)} {v:Value} (h:Cl w base N C ds) (l:w.ownsRow base' 24 1 v n C) (hn:n<=4000000) (J:w.heap.size<=B) (U:∀d∈ds,d.length<=4000000):∃A c,v=.slice A ds.length c/\VSl R1 w B A ds:=by
 have V:n=ds.length:=by have:=l.1; rw [h.length] at this; omega
 subst V;rcases l.2 with⟨rfl,G⟩ | ⟨g,E,a2,rfl,hb,O,hc,hs,hz,ht⟩
 ·have:ds=[]:=List.length_eq_zero_iff.1 G;subst this;exact⟨none,0,rfl,by simp,fun h=>absurd rfl h⟩
 ·refine⟨_,E,rfl,by omega,fun _=>⟨g,0,rfl,?_,fun k d y=>?_⟩⟩
  ·have:=(Array.getElem?_eq_some_iff.1 O).1; omega
  ·obtain⟨u,W,I,_⟩:=F2.at h y;obtain⟨g',Z,j,M⟩:=C7 l W;injection j with j _ _
   injection j with j
   injection j with j
   subst j;exact⟨u,by rw [Nat.zero_add]; exact M,B8 I rfl J (by have:=U d (List.mem_of_getElem? y); omega)⟩
end Go.Proofs.YtfcfpoemojjglaaGreatDoor
