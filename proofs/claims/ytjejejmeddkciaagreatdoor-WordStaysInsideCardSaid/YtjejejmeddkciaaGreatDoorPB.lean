/-
  Part PB of a proof.
-/
import Derived.Test.YtjejejmeddkciaaGreatDoorRows
import Derived.Laws.MakeOwn
import Derived.Test.YtjejejmeddkciaaGreatDoorPA
set_option maxHeartbeats 16000000
set_option maxRecDepth 100000
set_option linter.unusedVariables false
set_option linter.unusedSimpArgs false
namespace Go.Proofs.YtjejejmeddkciaaGreatDoor
def Ay {S:Type} (δ:S->Nat->S) (s:S) (w:List Nat):S:=w.foldl δ s
def okW (L:Nat) (w:List Nat):Prop:=∀x∈w,x<L
theorem okW.nil (L:Nat):okW L []:=fun _ h=>absurd h (List.not_mem_nil)
theorem okW.app {L:Nat} {u v:List Nat} (h:okW L u) (k:okW L v):okW L (u++v):=fun x C=>(List.mem_append.1 C).elim (h x) (k x)
theorem okW.snoc {L:Nat} {u:List Nat} {x:Nat} (h:okW L u) (C:x<L):okW L (u++[x]):=h.app (by intro y E;rw [List.mem_singleton.1 E];exact C)
theorem okW.cons {L:Nat} {u:List Nat} {x:Nat} (E:x<L) (h:okW L u):okW L (x::u):=by
 intro y C;rcases List.mem_cons.1 C with rfl|C
 ·exact E
 ·exact h y C
theorem Ge {S:Type} (δ:S->Nat->S) (s:S) (u v:List Nat):Ay δ s (u++v)=Ay δ (Ay δ s u) v:=List.foldl_append
theorem Fs {S:Type} (δ:S->Nat->S) (s:S) (u:List Nat) (x:Nat):Ay δ s (u++[x])=δ (Ay δ s u) x:=by rw [Ge];rfl
theorem Ew {S:Type} {δ:S->Nat->S} {L:Nat} {I:S->Prop} (C:∀s x,x<L->I s->I (δ s x)):∀(w:List Nat) (s:S),okW L w->I s->I (Ay δ s w)
 | [],_,_,h=>h
 | x::w,s,hw,h=>Ew C w _ (fun y E=>hw y (List.mem_cons_of_mem _ E)) (C s x (hw x List.mem_cons_self) h)
inductive F2 {S T:Type} (R:S->T->Prop):List S->List T->Prop
 | nil:F2 R [] []
 | cons {a b l m}:R a b->F2 R l m->F2 R (a::l) (b::m)
section
variable {S T:Type} {R:S->T->Prop}
theorem F2.length {l:List S} {m:List T} (h:F2 R l m):l.length=m.length:=by
 induction h with
 | nil=>rfl
 | cons _ _ ih=>simp [ih]
theorem F2.get {l:List S} {m:List T} (h:F2 R l m):∀{i:Nat} {a:S} {b:T},l[i]?=some a->m[i]?=some b->R a b:=by
 induction h with
 | nil=>intro i a b h;simp at h
 | cons h1 _ ih=>
  intro i a b C E;cases i with
  | zero=>simp at C E;subst C E;exact h1
  | succ i=>simp at C E;exact ih C E
theorem F2.snoc {l:List S} {m:List T} (h:F2 R l m) {a:S} {b:T} (C:R a b):F2 R (l++[a]) (m++[b]):=by
 induction h with
 | nil=>exact .cons C .nil
 | cons h1 _ ih=>exact .cons h1 ih
theorem F2.left {l:List S} {m:List T} (h:F2 R l m) {a:S} (C:a∈l):∃b,b∈m/\R a b:=by
 induction h with
 | nil=>cases C
 | cons h1 _ ih=>
  rcases List.mem_cons.1 C with rfl|C
  ·exact⟨_,List.mem_cons_self,h1⟩
  ·obtain⟨b,F,E⟩:=ih C;exact⟨b,List.mem_cons_of_mem _ F,E⟩
theorem F2.right {l:List S} {m:List T} (h:F2 R l m) {b:T} (C:b∈m):∃a,a∈l/\R a b:=by
 induction h with
 | nil=>cases C
 | cons h1 _ ih=>
  rcases List.mem_cons.1 C with rfl|C
  ·exact⟨_,List.mem_cons_self,h1⟩
  ·obtain⟨a,F,E⟩:=ih C;exact⟨a,List.mem_cons_of_mem _ F,E⟩
end
theorem JA {A B C:Type} {Q:A->B->Prop} {f:A->C->A} {g:B->C->B}:∀(l:List C),(∀x y c,c∈l->Q x y->Q (f x c) (g y c))->∀{x:A} {y:B},Q x y->Q (l.foldl f x) (l.foldl g y)
 | [],_,_,_,hq=>hq
 | c::l,hs,x,y,hq=>JA l (fun x y d h=>hs x y d (List.mem_cons_of_mem _ h)) (hs x y c List.mem_cons_self hq)
section
variable {S:Type} [DecidableEq S]
def Bs (l:List S) (a:S):List S:=if a∈l then l else l++[a]
theorem J1 {l:List S} {a b:S}:b∈Bs l a↔b∈l\/b=a:=by
 unfold Bs;split
 ·next h=>exact⟨.inl,fun C=>C.elim id fun e=>e ▸ h⟩
 ·simp
theorem Rj {l:List S} (h:l.Nodup) (a:S):(Bs l a).Nodup:=by
 unfold Bs;split
 ·exact h
 ·next ha=>exact List.nodup_append.2 ⟨h,by simp,fun x C y E e=>ha (by rw [<-List.mem_singleton.1 E,<-e];exact C)⟩
theorem F6 (l:List S) (a:S):l<+:Bs l a:=by
 unfold Bs;split
 ·exact List.prefix_refl _
 ·exact List.prefix_append _ _
theorem P7 {l m:List S} (h:l<+:m) {a:S} (C:a∈l):m.idxOf a=l.idxOf a:=by
 obtain⟨t,rfl⟩:=h;rw [List.idxOf_append,if_pos C]
theorem Ds {A:Type} {l m:List A} (h:l<+:m) {i:Nat} {a:A} (C:l[i]?=some a):m[i]?=some a:=by
 obtain⟨t,rfl⟩:=h;rw [List.getElem?_append_left (List.getElem?_eq_some_iff.1 C).1];exact C
theorem FS {l:List S} {a:S} (h:a∈l):l[l.idxOf a]?=some a:=by
 rw [List.getElem?_eq_getElem (List.idxOf_lt_length_of_mem h)];exact congrArg some (List.getElem_idxOf (List.idxOf_lt_length_of_mem h))
theorem HO {l:List S} (h:l.Nodup) {i:Nat} {a:S} (C:l[i]?=some a):l.idxOf a=i:=by
 obtain⟨E,rfl⟩:=List.getElem?_eq_some_iff.1 C;exact h.idxOf_getElem i E
variable (L:Nat) (δ:S->Nat->S) (s0:S)
def AZ (s:S) (l:List S) (k:Nat):List S:=(List.range k).foldl (fun l x=>Bs l (δ s x)) l
omit L s0 in
theorem Cr (s:S) (l:List S) (k:Nat):AZ δ s l (k+1)=Bs (AZ δ s l k) (δ s k):=by simp [AZ,List.range_succ]
inductive Exp:Nat->List S->Prop
 | start:Exp 0 [s0]
 | row {i l s}:Exp i l->l[i]?=some s->Exp (i+1) (AZ δ s l L)
def Bf (l:List S):Prop:=Exp L δ s0 l.length l
end
section
variable {S:Type} [DecidableEq S] {L:Nat} {δ:S->Nat->S} {s0:S}
theorem DK (s:S) (l:List S):∀k,l<+:AZ δ s l k
 | 0=>List.prefix_refl _
 | k+1=>by rw [Cr];exact(DK s l k).trans (F6 _ _)
theorem So (s:S) (l:List S) {j k:Nat} (h:j<=k):AZ δ s l j<+:AZ δ s l k:=by
 obtain⟨d,rfl⟩:=Nat.exists_eq_add_of_le h
 induction d with
 | zero=>exact List.prefix_refl _
 | succ d ih=>rw [<-Nat.add_assoc,Cr];exact(ih (by omega)).trans (F6 _ _)
theorem Gb (s:S) (l:List S) {k x:Nat} (h:x<k):δ s x∈AZ δ s l k:=
 (So s l h).subset (by rw [Cr];exact J1.2 (.inr rfl))
theorem KP {s:S} {l:List S}:∀{k:Nat} {a:S},a∈AZ δ s l k->a∈l\/∃x,x<k/\a=δ s x
 | 0,_,h=>.inl h
 | k+1,a,h=>by
  rw [Cr] at h;rcases J1.1 h with h|rfl
  ·rcases KP h with h|⟨x,C,e⟩
   ·exact .inl h
   ·exact .inr ⟨x,by omega,e⟩
  ·exact .inr ⟨k,by omega,rfl⟩
theorem GN (s:S) {l:List S} (h:l.Nodup):∀k,(AZ δ s l k).Nodup
 | 0=>h
 | k+1=>by rw [Cr];exact Rj (GN s h k) _
structure LR (L:Nat) (δ:S->Nat->S) (s0:S) (i:Nat) (l:List S):Prop where
 le:i<=l.length
 head:l[0]?=some s0
 nodup:l.Nodup
 reach:∀s∈l,∃w,okW L w/\Ay δ s0 w=s
 closed:∀j s,j<i->l[j]?=some s->∀x,x<L->δ s x∈l
theorem Exp.inv {i:Nat} {l:List S} (h:Exp L δ s0 i l):LR L δ s0 i l:=by
 induction h with
 | start=>exact⟨by simp,rfl,by simp,fun s E=>⟨[],okW.nil L,(List.mem_singleton.1 E).symm⟩,fun j s M=>absurd M (Nat.not_lt_zero _)⟩
 | @row i l s _ E ih=>
  have C:=DK (δ:=δ) s l L;have W:=C.length_le;have V:=(List.getElem?_eq_some_iff.1 E).1;refine⟨by omega,Ds C ih.head,GN s ih.nodup L,fun a I=>?_,fun j t M ht x G=>?_⟩
  ·rcases KP I with I|⟨x,G,rfl⟩
   ·exact ih.reach a I
   ·obtain⟨w,U,rfl⟩:=ih.reach s (List.mem_of_getElem? E);exact⟨w++[x],U.snoc G,Fs _ _ _ _⟩
  ·rcases Nat.lt_or_ge j i with F|F
   ·obtain⟨J,O⟩:∃J,l[j]?=some J:=⟨_,List.getElem?_eq_getElem (by omega)⟩;have:=(Ds C O).symm.trans ht;injection this with this
    subst this;exact C.subset (ih.closed j J F O x G)
   ·have F:j=i:=by omega
    subst F;have:=(Ds C E).symm.trans ht;injection this with this
    subst this;exact Gb s l G
theorem Exp.det {i:Nat} {l:List S} (h:Exp L δ s0 i l):∀{m:List S},Exp L δ s0 i m->l=m:=by
 induction h with
 | start=>intro m C;cases C;rfl
 | @row i l s _ hs ih=>
  intro m C;cases C with
  | @row _ l' s' h1 hs'=>
   have e:=ih h1;subst e;rw [hs] at hs';injection hs' with e
   subst e;rfl
theorem Exp.pre {j:Nat} {m:List S} (h:Exp L δ s0 j m):∀{i:Nat} {l:List S},i<=j->Exp L δ s0 i l->l<+:m:=by
  induction h with
  | start=>intro i l E C;have:i=0:=by omega
           subst this;cases C;exact List.prefix_refl _
  | @row j m s h1 hs ih=>
    intro i l E C;rcases Nat.lt_or_ge j i with h|h
    · have:i=j+1:=by omega
      subst this;rw [C.det (Exp.row h1 hs)];exact List.prefix_refl _
    · exact(ih h C).trans (DK _ _ _)
theorem Bf.top {m:List S} (h:Bf L δ s0 m) {i:Nat} {l:List S} (C:Exp L δ s0 i l):i<=m.length/\l<+:m:=by
 have key:∀{i:Nat} {l:List S},Exp L δ s0 i l->i<=m.length:=by
  intro i l C
  induction C with
  | start=>omega
  | @row i l s h1 hs ih=>
   have:=(List.getElem?_eq_some_iff.1 (Ds (h.pre ih h1) hs)).1;omega
 exact⟨key C,h.pre (key C) C⟩
theorem Bf.unique {l m:List S} (h:Bf L δ s0 l) (C:Bf L δ s0 m):l=m:=
 List.IsPrefix.eq_of_length_le (C.top h).2 (h.top C).2.length_le
theorem Bf.closed {l:List S} (h:Bf L δ s0 l) {s:S} (E:s∈l) {x:Nat} (F:x<L):δ s x∈l:=by
 obtain⟨j,C,rfl⟩:=List.getElem_of_mem E;exact h.inv.closed j _ C (List.getElem?_eq_getElem C) x F
theorem Bf.run {l:List S} (h:Bf L δ s0 l) {w:List Nat} (E:okW L w):Ay δ s0 w∈l:=
 Ew (I:=fun s=>s∈l) (fun _ _ F C=>h.closed C F) w s0 E (List.mem_of_getElem? h.inv.head)
end
def FH {S T:Type} (R:S->T->Prop):Prop:=∀a b a' b',R a b->R a' b'->(a=a'↔b=b')
section
variable {S T:Type} [DecidableEq S] [DecidableEq T] {R:S->T->Prop} {L:Nat} {δ:S->Nat->S} {s0:S} {δ':T->Nat->T} {t0:T}
theorem F2.meet (G:FH R) {l:List S} {m:List T} (h:F2 R l m) {a:S} {b:T} (E:R a b):F2 R (Bs l a) (Bs m b):=by
 have I:a∈l↔b∈m:=by
  constructor
  ·intro C;obtain⟨J,O,h1⟩:=h.left C
   rwa [(G a b a J E h1).1 rfl]
  ·intro F;obtain⟨a',M,h1⟩:=h.right F
   rwa [(G a b a' b E h1).2 rfl]
 unfold Bs;by_cases C:a∈l
 ·rw [if_pos C,if_pos (I.1 C)];exact h
 ·rw [if_neg C,if_neg (fun F=>C (I.2 F))];exact h.snoc E
theorem Exp.rel (E:FH R) (h0:R s0 t0) (I:∀s t x,x<L->R s t->R (δ s x) (δ' t x)) {i:Nat} {l:List S} (h:Exp L δ s0 i l):∃m,Exp L δ' t0 i m/\F2 R l m:=by
 induction h with
 | start=>exact⟨[t0],.start,.cons h0 .nil⟩
 | @row i l s _ hs' ih=>
  obtain⟨m,G,C⟩:=ih;have F:=(List.getElem?_eq_some_iff.1 hs').1;obtain⟨t,ht⟩:∃t,m[i]?=some t:=⟨_,List.getElem?_eq_getElem (by rw [<-C.length];exact F)⟩;have J:=C.get hs' ht;exact⟨_,.row G ht,JA (Q:=fun a b=>F2 R a b) _ (fun _ _ x M h=>h.meet E (I s t x (List.mem_range.1 M) J)) C⟩
theorem Bf.rel (F:FH R) (h0:R s0 t0) (J:∀s t x,x<L->R s t->R (δ s x) (δ' t x)) {l:List S} {m:List T} (h:Bf L δ s0 l) (E:Bf L δ' t0 m):F2 R l m:=by
 obtain⟨M,I,C⟩:=Exp.rel F h0 J h;have G:Bf L δ' t0 M:=by unfold Bf;rw [<-C.length];exact I
 rw [E.unique G];exact C
theorem Bf.image (E:FH R) (h0:R s0 t0) (G:∀s t x,x<L->R s t->R (δ s x) (δ' t x)) {l:List S} (h:Bf L δ s0 l):∃m,Bf L δ' t0 m/\F2 R l m:=by
 obtain⟨I,F,C⟩:=Exp.rel E h0 G h;exact⟨I,by unfold Bf;rw [<-C.length];exact F,C⟩
end
section
variable {S:Type} [DecidableEq S] {L:Nat} {δ:S->Nat->S} {s0:S}
def Cy (δ:S->Nat->S) (l:List S) (i x:Nat):Nat:=match l[i]? with
 | some s=>l.idxOf (δ s x)
 | none=>0
theorem Bf.num {l:List S} (h:Bf L δ s0 l) {w:List Nat} (C:okW L w):l[Ay (Cy δ l) 0 w]?=some (Ay δ s0 w):=by
 have key:∀(w:List Nat) (i:Nat) (s:S),okW L w->l[i]?=some s->l[Ay (Cy δ l) i w]?=some (Ay δ s w):=by
  intro w
  induction w with
  | nil=>exact fun i s _ h=>h
  | cons x w ih=>
   intro i s C E;refine ih _ _ (fun y G=>C y (List.mem_cons_of_mem _ G)) ?_;have F:=C x List.mem_cons_self;have:Cy δ l i x=l.idxOf (δ s x):=by simp [Cy,E]
   rw [this];exact FS (h.closed (List.mem_of_getElem? E) F)
 exact key w 0 s0 C h.inv.head
omit [DecidableEq S] in
theorem F2.range {l:List S} (m:List Nat) (h:F2 (fun s i=>l[i]?=some s) l m) (G:l.Nodup):m=List.range l.length:=by
 apply List.ext_getElem?;intro i;rcases Nat.lt_or_ge i l.length with C|C
 ·have E:i<m.length:=by rw [<-h.length];exact C
  have h1:=h.get (List.getElem?_eq_getElem C) (List.getElem?_eq_getElem E);obtain⟨I,F⟩:=List.getElem?_eq_some_iff.1 h1;have:=(List.getElem_inj G).1 F;rw [List.getElem?_eq_getElem E,this,List.getElem?_range C]
 ·rw [List.getElem?_eq_none (by rw [<-h.length];exact C),List.getElem?_eq_none (by simpa using C)]
theorem Bf.machine {l:List S} (h:Bf L δ s0 l):Bf L (Cy δ l) 0 (List.range l.length):=by
 obtain⟨m,E,G⟩:=h.image (δ':=Cy δ l) (t0:=0) (R:=fun s i=>l[i]?=some s) (fun a b a' J h1 C=>⟨fun e=>by
  subst e;rw [<-HO h.inv.nodup h1,HO h.inv.nodup C],fun e=>by subst e;exact Option.some.inj (h1.symm.trans C)⟩) h.inv.head (fun s i x I F=>by
   have:Cy δ l i x=l.idxOf (δ s x):=by simp [Cy,F]
   rw [this];exact FS (h.closed (List.mem_of_getElem? F) I))
 rw [G.range m h.inv.nodup] at E;exact E
end
structure Cz (L n:Nat) (nx:Nat->Nat->Nat) (acc:Nat->Bool) (Λ:List Nat->Bool):Prop where
 lang:∀w,okW L w->acc (Ay nx 0 w)=Λ w
 sep:∀u v,okW L u->okW L v->(∀z,okW L z->Λ (u++z)=Λ (v++z))->Ay nx 0 u=Ay nx 0 v
 ord:Bf L nx 0 (List.range n)
section
variable {L n:Nat} {nx:Nat->Nat->Nat} {acc:Nat->Bool} {Λ:List Nat->Bool}
theorem Cz.run_lt (h:Cz L n nx acc Λ) {w:List Nat} (C:okW L w):Ay nx 0 w<n:=List.mem_range.1 (h.ord.run C)
theorem Cz.pos (h:Cz L n nx acc Λ):0<n:=h.run_lt (okW.nil L)
theorem Cz.lt (h:Cz L n nx acc Λ) {q x:Nat} (C:q<n) (E:x<L):nx q x<n:=List.mem_range.1 (h.ord.closed (List.mem_range.2 C) E)
theorem Cz.same (h:Cz L n nx acc Λ) {u v:List Nat} (F:okW L u) (G:okW L v) (E:Ay nx 0 u=Ay nx 0 v) {z:List Nat} (C:okW L z):Λ (u++z)=Λ (v++z):=by
 rw [<-h.lang _ (F.app C),<-h.lang _ (G.app C),Ge,Ge,E]
theorem Cz.unique {W:Nat} {nx':Nat->Nat->Nat} {Z:Nat->Bool} {Λ':List Nat->Bool} (h:Cz L n nx acc Λ) (M:Cz L W nx' Z Λ') (J:∀w,okW L w->Λ w=Λ' w):
  n=W/\(∀q x,q<n->x<L->nx q x=nx' q x)/\∀q,q<n->acc q=Z q:=by
 have hR:FH (fun p q:Nat=>∃w,okW L w/\Ay nx 0 w=p/\Ay nx' 0 w=q):=by
  rintro _ _ _ _ ⟨u,E,rfl,rfl⟩ ⟨v,G,rfl,rfl⟩
  exact⟨fun e=>M.sep u v E G fun z F=>by rw [<-J _ (E.app F),<-J _ (G.app F)];exact h.same E G e F,
   fun e=>h.sep u v E G fun z F=>by rw [J _ (E.app F),J _ (G.app F)];exact M.same E G e F⟩
 have hF:=Bf.rel hR ⟨[],okW.nil L,rfl,rfl⟩ (by
  rintro _ _ x V ⟨w,C,rfl,rfl⟩;exact⟨w++[x],C.snoc V,Fs _ _ _ _,Fs _ _ _ _⟩) h.ord M.ord
 have hn:n=W:=by simpa using hF.length
 subst hn;have O:∀p,p<n->∃w,okW L w/\Ay nx 0 w=p/\Ay nx' 0 w=p:=fun p hp=>hF.get (i:=p) (by simp [hp]) (by simp [hp]);have hs:∀w,okW L w->Ay nx 0 w=Ay nx' 0 w:=fun w C=>by
  obtain⟨u,E,h1,I⟩:=O _ (h.run_lt C);have:=(hR _ _ _ _ ⟨w,C,rfl,rfl⟩ ⟨u,E,rfl,rfl⟩).1 h1.symm;rw [this,I]
 refine⟨rfl,fun q x U V=>?_,fun q U=>?_⟩
 ·obtain⟨w,C,h1,I⟩:=O q U;have:=hs (w++[x]) (C.snoc V);rw [Fs,Fs,h1,I] at this;exact this
 ·obtain⟨w,C,h1,I⟩:=O q U;have:=(h.lang w C).trans ((J w C).trans (M.lang w C).symm)
  rwa [h1,I] at this
end
end Go.Proofs.YtjejejmeddkciaaGreatDoor
namespace Go.Proofs.YtjejejmeddkciaaGreatDoor
theorem An {α:Type} {l:List α} {i:Nat} (h:i<l.length):∃x,l[i]?=some x:=⟨_,List.getElem?_eq_getElem h⟩
theorem AP {α:Type} {l:List α} {i:Nat} {x:α} (h:l[i]?=some x):i<l.length:=(List.getElem?_eq_some_iff.1 h).1
theorem getD_some {α:Type} {l:List α} {i:Nat} {x d:α} (h:l[i]?=some x):l.getD i d=x:=by rw [List.getD_eq_getElem?_getD,h];rfl
theorem D6:∀(l m:List Nat),l.Nodup->(∀a∈l,a∈m)->l.length<=m.length
 | [],_,_,_=>Nat.zero_le _
 | a::l,m,hn,hs=>by
  obtain⟨G,I,rfl⟩:=List.append_of_mem (hs a List.mem_cons_self);have E:=List.nodup_cons.1 hn;have h1:=D6 l (G++I) E.2 (fun b C=>by
   have h:=hs b (List.mem_cons_of_mem _ C);have F:b≠a:=fun e=>E.1 (e ▸ C);simp only [List.mem_append,List.mem_cons] at h ⊢;rcases h with h|h|h
   ·exact .inl h
   ·exact(F h).elim
   ·exact .inr h)
  simp only [List.length_append,List.length_cons] at h1 ⊢;omega
theorem J7:∀(l m:List Nat),l.Nodup->(∀a∈l,a∈m)->m.length<=l.length->m.Nodup
 | [],m,_,_,hl=>by
  have:m=[]:=List.length_eq_zero_iff.1 (by simpa using hl);subst this;exact List.nodup_nil
 | a::l,m,hn,hs,hl=>by
  obtain⟨E,F,rfl⟩:=List.append_of_mem (hs a List.mem_cons_self);have G:=List.nodup_cons.1 hn;have I:∀b∈l,b∈E++F:=fun b C=>by
   have h:=hs b (List.mem_cons_of_mem _ C);have M:b≠a:=fun e=>G.1 (e ▸ C);simp only [List.mem_append,List.mem_cons] at h ⊢;rcases h with h|h|h
   ·exact .inl h
   ·exact(M h).elim
   ·exact .inr h
  simp only [List.length_append,List.length_cons] at hl;have h1:=J7 l (E++F) G.2 I (by simp;omega);refine List.perm_middle.nodup_iff.2 (List.nodup_cons.2 ⟨fun J=>?_,h1⟩);have h:=D6 (a::l) (E++F) hn (fun b C=>by
   rcases List.mem_cons.1 C with rfl|C
   ·exact J
   ·exact I b C)
  simp at h;omega
def dnx (t:List (List Nat)) (q x:Nat):Nat:=(t.getD q []).getD x 0
def dac (ac:List Bool) (q:Nat):Bool:=ac.getD q false
structure DOK (L:Nat) (t:List (List Nat)) (ac:List Bool):Prop where
 len:t.length=ac.length
 pos:0<ac.length
 row:∀r∈t,r.length=L/\∀y∈r,y<ac.length
theorem DOK.at {L:Nat} {t:List (List Nat)} {ac:List Bool} (h:DOK L t ac) {q x:Nat} (G:q<ac.length) (I:x<L):∃r,t[q]?=some r/\r.length=L/\r[x]?=some (dnx t q x)/\dnx t q x<ac.length:=by
 obtain⟨r,C⟩:=An (l:=t) (i:=q) (by rw [h.len];exact G);obtain⟨h1,F⟩:=h.row r (List.mem_of_getElem? C);obtain⟨y,E⟩:=An (l:=r) (i:=x) (by omega);have:dnx t q x=y:=by unfold dnx;rw [getD_some C,getD_some E]
 rw [this];exact⟨r,C,h1,E,F y (List.mem_of_getElem? E)⟩
theorem DOK.lt {L:Nat} {t:List (List Nat)} {ac:List Bool} (h:DOK L t ac) {q x:Nat} (C:q<ac.length) (E:x<L):dnx t q x<ac.length:=by
 obtain⟨_,_,_,_,h⟩:=h.at C E;exact h
def EqW (L:Nat) (nx:Nat->Nat->Nat) (acc:Nat->Bool):Nat->Nat->Nat->Prop
 | 0,p,q=>acc p=acc q
 | r+1,p,q=>EqW L nx acc r p q/\∀x,x<L->EqW L nx acc r (nx p x) (nx q x)
section
variable {L n:Nat} {nx:Nat->Nat->Nat} {acc:Nat->Bool}
theorem EqW.of_words:∀(r:Nat) {p q:Nat},(∀z,okW L z->acc (Ay nx p z)=acc (Ay nx q z))->EqW L nx acc r p q
 | 0,_,_,h=>h [] (okW.nil L)
 | r+1,_,_,h=>⟨EqW.of_words r h,fun x C=>EqW.of_words r fun z E=>h (x::z) (E.cons C)⟩
theorem EqW.le {r:Nat}:∀(d:Nat) {i j:Nat},EqW L nx acc (r+d) i j->EqW L nx acc r i j
 | 0,_,_,h=>h
 | d+1,_,_,h=>EqW.le d h.1
theorem EqW.stable (C:∀q x,q<n->x<L->nx q x<n) {r:Nat} (E:∀i j,i<n->j<n->EqW L nx acc r i j->EqW L nx acc (r+1) i j):∀(d:Nat) {i j:Nat},i<n->j<n->EqW L nx acc r i j->EqW L nx acc (r+d) i j
 | 0,_,_,_,_,h=>h
 | d+1,i,j,hi,hj,h=>⟨EqW.stable C E d hi hj h,fun x F=>EqW.stable C E d (C i x hi F) (C j x hj F) ((E i j hi hj h).2 x F)⟩
structure BU (L n:Nat) (nx:Nat->Nat->Nat) (acc:Nat->Bool) (r:Nat) (cl:List Nat) (cnt:Nat):Prop where
 len:cl.length=n
 iff:∀i j,i<n->j<n->(cl.getD i 0=cl.getD j 0↔EqW L nx acc r i j)
 mem:∀v,v∈cl↔v<cnt
variable {r cnt cnt':Nat} {cl os:List Nat}
theorem BU.le (h:BU L n nx acc r cl cnt):cnt<=n:=by
 have:=D6 (List.range cnt) cl List.nodup_range (fun a C=>(h.mem a).2 (List.mem_range.1 C));simpa [h.len] using this
theorem BU.val (h:BU L n nx acc r cl cnt) {i:Nat} (E:i<n):cl.getD i 0<cnt:=by
 obtain⟨x,C⟩:=An (l:=cl) (i:=i) (by rw [h.len];exact E);rw [getD_some C];exact(h.mem x).1 (List.mem_of_getElem? C)
theorem BU.back (h:BU L n nx acc r cl cnt) (C:BU L n nx acc (r+1) os cnt') {i:Nat} (E:i<n):cl.getD (os.idxOf (os.getD i 0)) 0=cl.getD i 0:=by
 have G:=(C.mem _).2 (C.val E);have F:=List.idxOf_lt_length_of_mem G;rw [C.len] at F;have I:os.getD (os.idxOf (os.getD i 0)) 0=os.getD i 0:=getD_some (FS G);exact(h.iff _ _ F E).2 ((C.iff _ _ F E).1 I).1
theorem BU.grow (h:BU L n nx acc r cl cnt) (C:BU L n nx acc (r+1) os cnt'):cnt<=cnt':=by
 have:=D6 (List.range cnt) ((List.range cnt').map fun v=>cl.getD (os.idxOf v) 0) List.nodup_range (fun u G=>by
  obtain⟨i,E⟩:=List.mem_iff_getElem?.1 ((h.mem u).2 (List.mem_range.1 G));have F:i<n:=by have:=AP E;rwa [h.len] at this
  exact List.mem_map.2 ⟨os.getD i 0,List.mem_range.2 (C.val F),by rw [h.back C F,getD_some E]⟩)
 simpa using this
theorem BU.rest (h:BU L n nx acc r cl cnt) (E:BU L n nx acc (r+1) os cnt) {i j:Nat} (C:i<n) (G:j<n) (M:EqW L nx acc r i j):EqW L nx acc (r+1) i j:=by
 have O:=J7 (List.range cnt) ((List.range cnt).map fun v=>cl.getD (os.idxOf v) 0) List.nodup_range (fun u U=>by
  obtain⟨i,C⟩:=List.mem_iff_getElem?.1 ((h.mem u).2 (List.mem_range.1 U));have F:i<n:=by have:=AP C;rwa [h.len] at this
  exact List.mem_map.2 ⟨os.getD i 0,List.mem_range.2 (E.val F),by rw [h.back E F,getD_some C]⟩) (by simp)
 refine(E.iff i j C G).1 ?_;have I:∀i,i<n->((List.range cnt).map fun v=>cl.getD (os.idxOf v) 0)[os.getD i 0]?=some (cl.getD i 0):=fun i F=>by
  rw [List.getElem?_map,List.getElem?_range (E.val F)];simp only [Option.map_some,h.back E F]
 have h1:=I i C;have J:=I j G;rw [(h.iff i j C G).2 M] at h1;exact(List.getElem?_inj (AP h1) O).1 (h1.trans J.symm)
structure Ck (L n:Nat) (nx:Nat->Nat->Nat) (acc:Nat->Bool) (cl:List Nat):Prop where
 len:cl.length=n
 iff:∀i j,i<n->j<n->(cl.getD i 0=cl.getD j 0↔∀r,EqW L nx acc r i j)
 lt:∀i,i<n->cl.getD i 0<n
theorem BU.atRest (I:∀q x,q<n->x<L->nx q x<n) (h:BU L n nx acc r cl cnt) (G:BU L n nx acc (r+1) os cnt):Ck L n nx acc cl:=by
 have J:=fun d {i j}=>EqW.stable I (fun i j C F E=>h.rest G C F E) d (i:=i) (j:=j);refine⟨h.len,fun i j C F=>?_,fun i C=>Nat.lt_of_lt_of_le (h.val C) h.le⟩;rw [h.iff i j C F];exact⟨fun E k=>EqW.le (r:=k) r (by rw [Nat.add_comm];exact J k C F E),fun E=>E r⟩
theorem Ck.step (E:∀q x,q<n->x<L->nx q x<n) (h:Ck L n nx acc cl) {i j x:Nat} (F:i<n) (G:j<n) (C:x<L) (I:cl.getD i 0=cl.getD j 0):cl.getD (nx i x) 0=cl.getD (nx j x) 0:=
 (h.iff _ _ (E i x F C) (E j x G C)).2 fun r=>((h.iff i j F G).1 I (r+1)).2 x C
theorem Ck.accE (h:Ck L n nx acc cl) {i j:Nat} (E:i<n) (F:j<n) (C:cl.getD i 0=cl.getD j 0):acc i=acc j:=(h.iff i j E F).1 C 0
def AF (nx:Nat->Nat->Nat) (cl:List Nat) (k x:Nat):Nat:=cl.getD (nx (cl.idxOf k) x) 0
theorem Ck.nxE (I:∀q x,q<n->x<L->nx q x<n) (h:Ck L n nx acc cl) {i x:Nat} (E:i<n) (J:x<L):AF nx cl (cl.getD i 0) x=cl.getD (nx i x) 0:=by
 obtain⟨v,C⟩:=An (l:=cl) (i:=i) (by rw [h.len];exact E);have G:=List.mem_of_getElem? C;have F:=List.idxOf_lt_length_of_mem G;rw [h.len] at F;unfold AF;refine h.step I (by rw [getD_some C];exact F) E J ?_;rw [getD_some C,getD_some (FS G)]
theorem Ck.run (E:∀q x,q<n->x<L->nx q x<n) (I:0<n) (h:Ck L n nx acc cl) {w:List Nat} (C:okW L w):Ay (AF nx cl) (cl.getD 0 0) w=cl.getD (Ay nx 0 w) 0:=by
 have key:∀(w:List Nat) (q:Nat),okW L w->q<n->Ay (AF nx cl) (cl.getD q 0) w=cl.getD (Ay nx q w) 0:=by
  intro w
  induction w with
  | nil=>exact fun _ _ _=>rfl
  | cons x w ih=>
   intro q C F;have G:=C x List.mem_cons_self;show Ay (AF nx cl) (AF nx cl (cl.getD q 0) x) w=_
   rw [h.nxE E F G];exact ih _ (fun y J=>C y (List.mem_cons_of_mem _ J)) (E q x F G)
 exact key w 0 C I
theorem Ck.canon (F:∀q x,q<n->x<L->nx q x<n) (J:0<n) (h:Ck L n nx acc cl) {st:List Nat} (a5:∀s∈st,s<n) (E:Bf L (AF nx cl) (cl.getD 0 0) (st.map fun s=>cl.getD s 0)):
  Cz L st.length (Cy (AF nx cl) (st.map fun s=>cl.getD s 0)) (fun i=>acc (st.getD i 0)) (fun w=>acc (Ay nx 0 w)):=by
 have a4:∀w,okW L w->∃s,st[Ay (Cy (AF nx cl) (st.map fun s=>cl.getD s 0)) 0 w]?=some s/\cl.getD s 0=cl.getD (Ay nx 0 w) 0:=fun w C=>by
  have h1:=E.num C;rw [h.run F J C,List.getElem?_map] at h1;rcases G:st[Ay (Cy (AF nx cl) (st.map fun s=>cl.getD s 0)) 0 w]? with _|s
  ·rw [G] at h1;simp at h1
  ·rw [G] at h1;exact⟨s,rfl,by simpa using h1⟩
 have O:∀w,okW L w->Ay nx 0 w<n:=fun w C=>Ew (I:=fun q=>q<n) (fun q x hx hq=>F q x hq hx) w 0 C J;refine⟨fun w C=>?_,fun u v U V G=>?_,?_⟩
 ·obtain⟨s,Z,hc⟩:=a4 w C;show acc (st.getD _ 0)=_
  rw [getD_some Z];exact h.accE (a5 s (List.mem_of_getElem? Z)) (O w C) hc
 ·have h1:=(h.iff _ _ (O u U) (O v V)).2 fun r=>EqW.of_words r fun z hz=>by
   have:=G z hz
   rwa [Ge,Ge] at this
  have M:=E.num U;have W:=E.num V;rw [h.run F J U,h1] at M;rw [h.run F J V] at W;exact(List.getElem?_inj (AP M) E.inv.nodup).1 (M.trans W.symm)
 ·have:=E.machine
  rwa [List.length_map] at this
end
end Go.Proofs.YtjejejmeddkciaaGreatDoor
namespace Go.Proofs.YtjejejmeddkciaaGreatDoor
structure Edg where
 frm:Int
 letter:Int
 to:Int
structure WA where
 letters:Int
 states:Int
 start:List Int
 accept:List Int
 edges:List Edg
deriving instance DecidableEq for Edg
deriving instance DecidableEq for WA
def inN (n x:Int):Bool:=decide (0<=x)&&decide (x<n)
theorem D3 {n x:Int}:inN n x=true↔0<=x/\x<n:=by simp [inN]
theorem CT {n x:Int} (h:inN n x=true):∃k:Nat,x=(k:Int)/\k<n.toNat:=⟨x.toNat,by have:=D3.1 h;omega,by have:=D3.1 h;omega⟩
structure WA.In (a:WA):Prop where
 start:∀x∈a.start,inN a.states x=true
 accept:∀x∈a.accept,inN a.states x=true
 edge:∀e∈a.edges,inN a.states e.frm=true/\inN a.letters e.letter=true/\inN a.states e.to=true
def WA.edgeB (a:WA) (e:Edg):Bool:=inN a.states e.frm&&inN a.states e.to&&inN a.letters e.letter
def WA.ok (a:WA):Bool:=decide (1<=a.letters)&&decide (a.letters<=8)&&decide (0<=a.states)&&decide (a.states<=400)&&a.start.all (inN a.states)&&a.accept.all (inN a.states)&&a.edges.all a.edgeB
theorem WA.ok_iff {a:WA}:a.ok=true↔(1<=a.letters/\a.letters<=8/\0<=a.states/\a.states<=400)/\a.In:=by
 simp only [WA.ok,Bool.and_eq_true,decide_eq_true_eq,List.all_eq_true,WA.edgeB];constructor
 ·rintro⟨⟨⟨⟨⟨⟨h1,E⟩,F⟩,G⟩,I⟩,J⟩,h⟩;exact⟨⟨h1,E,F,G⟩,I,J,fun e C=>⟨(h e C).1.1,(h e C).2,(h e C).1.2⟩⟩
 ·rintro⟨⟨h1,E,F,G⟩,I,J,h⟩;exact⟨⟨⟨⟨⟨⟨h1,E⟩,F⟩,G⟩,I⟩,J⟩,fun e C=>⟨⟨(h e C).1,(h e C).2.2⟩,(h e C).2.1⟩⟩
def WA.L (a:WA):Nat:=a.letters.toNat
def WA.n (a:WA):Nat:=a.states.toNat
def BN (n:Nat) (l:List Int):List Bool:=(List.range n).map fun q:Nat=>decide ((q:Int)∈l)
theorem Dh (n:Nat) (l:List Int):(BN n l).length=n:=by simp [BN]
theorem Dg {n:Nat} {l:List Int} {q:Nat} (h:q<n):(BN n l)[q]?=some (decide ((q:Int)∈l)):=by simp [BN,h]
def AJ (m:List Bool):List Int:=((List.range m.length).filter fun q=>m.getD q false).map fun q:Nat=>(q:Int)
theorem Ee {m:List Bool} {x:Int}:x∈AJ m↔∃q:Nat,x=(q:Int)/\m[q]?=some true:=by
 simp only [AJ,List.mem_map,List.mem_filter,List.mem_range];constructor
 ·rintro⟨q,⟨h1,C⟩,rfl⟩;exact⟨q,rfl,by rw [List.getD_eq_getElem?_getD,List.getElem?_eq_getElem h1] at C;rw [List.getElem?_eq_getElem h1];exact congrArg some C⟩
 ·rintro⟨q,rfl,h⟩;exact⟨q,⟨AP h,getD_some h⟩,rfl⟩
def Asc (l:List Int):Prop:=l.Pairwise (· < ·)
theorem Md (n:Nat) (p:Nat->Bool):Asc (((List.range n).filter p).map fun q:Nat=>(q:Int)):=by
 refine List.pairwise_map.2 (List.Pairwise.filter _ ?_);exact(List.pairwise_lt_range).imp fun h=>by omega
theorem Me (m:List Bool):Asc (AJ m):=Md _ _
theorem IU:∀{l k:List Int},Asc l->Asc k->(∀x,x∈l↔x∈k)->l=k
 | [],[],_,_,_=>rfl
 | [],y::k,_,_,h=>absurd ((h y).2 List.mem_cons_self) List.not_mem_nil
 | x::l,[],_,_,h=>absurd ((h x).1 List.mem_cons_self) List.not_mem_nil
 | x::l,y::k,hl,hk,h=>by
  obtain⟨h1,I⟩:=List.pairwise_cons.1 hl;obtain⟨G,M⟩:=List.pairwise_cons.1 hk;have J:x=y:=by
   rcases List.mem_cons.1 ((h x).1 List.mem_cons_self) with e|e
   ·exact e
   ·rcases List.mem_cons.1 ((h y).2 List.mem_cons_self) with E|E
    ·exact E.symm
    ·have:=h1 y E;have:=G x e;omega
  subst J;rw [IU I M fun z=>?_];have F:=h z;simp only [List.mem_cons] at F;constructor
  ·intro C;rcases F.1 (.inr C) with rfl|e
   ·have:=h1 z C;omega
   ·exact e
  ·intro C;rcases F.2 (.inr C) with rfl|e
   ·have:=G z C;omega
   ·exact e
theorem SX {m k:List Bool} (G:m.length=k.length) (h:AJ m=AJ k):m=k:=by
 apply List.ext_getElem?;intro i;rcases Nat.lt_or_ge i m.length with E|E
 ·obtain⟨b,C⟩:=An E;obtain⟨c,F⟩:=An (l:=k) (i:=i) (by omega);have:=(Ee (m:=m) (x:=i)).symm.trans ((by rw [h]:(i:Int)∈AJ m↔(i:Int)∈AJ k).trans Ee);have e:∀(l:List Bool) (b:Bool),l[i]?=some b->((∃q:Nat,(i:Int)=(q:Int)/\l[q]?=some true)↔b=true):=fun l b C=>by
   constructor
   ·rintro⟨q,I,h⟩;have:q=i:=by omega
    subst this;exact(Option.some.inj (h.symm.trans C)).symm
   ·rintro rfl;exact⟨i,rfl,C⟩
  rw [e m b C,e k c F] at this;rw [C,F];cases b <;> cases c <;> simp_all
 ·rw [List.getElem?_eq_none E,List.getElem?_eq_none (by omega)]
structure NF where
 L:Nat
 nx:List (List (List Int))
 start:List Int
 acc:List Bool
def NF.n (a:NF):Nat:=a.nx.length
def NF.to (a:NF) (s x:Nat):List Int:=(a.nx.getD s []).getD x []
structure NF.OK (a:NF):Prop where
 acc:a.acc.length=a.n
 row:∀r∈a.nx,r.length=a.L
 to:∀r∈a.nx,∀l∈r,∀x∈l,inN a.n x=true
 start:∀x∈a.start,inN a.n x=true
def NF.after (a:NF) (m:List Bool) (x:Nat):List Bool:=(List.range a.n).map fun q:Nat=>(List.range a.n).any fun s=>m.getD s false&&decide ((q:Int)∈a.to s x)
def NF.st (a:NF):List Bool:=BN a.n a.start
def NF.has (a:NF) (m:List Bool):Bool:=(List.range a.n).any fun s=>m.getD s false&&a.acc.getD s false
def NF.lang (a:NF) (w:List Nat):Bool:=a.has (Ay a.after a.st w)
theorem NF.after_len (a:NF) (m:List Bool) (x:Nat):(a.after m x).length=a.n:=by simp [NF.after]
theorem NF.st_len (a:NF):a.st.length=a.n:=Dh _ _
theorem NF.run_len (a:NF) {L:Nat} {w:List Nat} (h:okW L w):(Ay a.after a.st w).length=a.n:=
 Ew (I:=fun m=>m.length=a.n) (fun m x _ _=>a.after_len m x) w _ h a.st_len
def NF.Large (a:NF) (k:Nat):Prop:=∃i l,Exp a.L a.after a.st i l/\k<l.length
theorem NF.not_large {a:NF} {k:Nat} {l:List (List Bool)} (h:Bf a.L a.after a.st l) (F:l.length<=k):¬a.Large k:=by
 rintro⟨i,m,C,E⟩;have:=(h.top C).2.length_le;omega
def WA.to (a:WA) (s x:Nat):List Int:=(a.edges.filter fun e=>decide (e.frm=(s:Int))&&decide (e.letter=(x:Int))).map (·.to)
def WA.nf (a:WA):NF:=⟨a.L,(List.range a.n).map fun s=>(List.range a.L).map fun x=>a.to s x,a.start,BN a.n a.accept⟩
theorem WA.nf_n (a:WA):a.nf.n=a.n:=by simp [NF.n,WA.nf]
theorem WA.nf_to (a:WA) {s x:Nat} (h:s<a.n) (C:x<a.L):a.nf.to s x=a.to s x:=by
 simp [NF.to,WA.nf,List.getD_eq_getElem?_getD,h,C]
theorem WA.mem_to {a:WA} {s x:Nat} {y:Int}:y∈a.to s x↔∃e∈a.edges,e.frm=(s:Int)/\e.letter=(x:Int)/\e.to=y:=by
 simp [WA.to,and_assoc]
theorem WA.nf_ok {a:WA} (h:a.In):a.nf.OK:=by
 have F:∀x:Int,inN a.states x=true->inN a.nf.n x=true:=fun x C=>by
  rw [a.nf_n,D3];rw [D3] at C;unfold WA.n;omega
 refine⟨by rw [a.nf_n];exact Dh _ _,fun r E=>?_,fun r E l I x C=>?_,fun x C=>F x (h.start x C)⟩
 ·obtain⟨s,_,rfl⟩:=List.mem_map.1 E;simp [WA.nf]
 ·obtain⟨s,_,rfl⟩:=List.mem_map.1 E;obtain⟨y,_,rfl⟩:=List.mem_map.1 I;obtain⟨e,G,_,_,rfl⟩:=WA.mem_to.1 C;exact F _ (h.edge e G).2.2
def WA.lang (a:WA) (w:List Nat):Bool:=a.nf.lang w
end Go.Proofs.YtjejejmeddkciaaGreatDoor
namespace Go.Proofs.YtjejejmeddkciaaGreatDoor
def NF.B (a:NF):Nat->Nat->Bool
 | 0,q=>a.acc.getD q false
 | d+1,q=>(List.range a.n).any fun y=>(List.range a.L).any (fun x=>decide ((y:Int)∈a.to q x))&&a.B d y
def NF.Dist (a:NF) (q k:Nat):Prop:=a.B k q=true/\∀e,e<k->a.B e q=false
structure NF.Far (a:NF) (far:List Int):Prop where
 len:far.length=a.n
 at_:∀q,q<a.n->(far.getD q (-1)= -1/\∀d,a.B d q=false)\/∃k:Nat,far.getD q (-1)=(k:Int)/\a.Dist q k
theorem NF.after_get {a:NF} {m:List Bool} {x y:Nat} (h:y<a.n):(a.after m x).getD y false=true↔∃s,s<a.n/\m.getD s false=true/\(y:Int)∈a.to s x:=by
 unfold NF.after;rw [List.getD_eq_getElem?_getD];simp [h]
theorem NF.has_iff {a:NF} {m:List Bool}:a.has m=true↔∃s,s<a.n/\m.getD s false=true/\a.acc.getD s false=true:=by
 simp [NF.has]
end Go.Proofs.YtjejejmeddkciaaGreatDoor
namespace Go.Proofs.YtjejejmeddkciaaGreatDoor
end Go.Proofs.YtjejejmeddkciaaGreatDoor
namespace Go.Proofs.YtjejejmeddkciaaGreatDoor
theorem NF.Far.ge {a:NF} {E:List Int} (h:a.Far E) (q:Nat):-1<=E.getD q (-1):=by
 rcases Nat.lt_or_ge q a.n with C|C
 ·rcases h.at_ q C with⟨h1,_⟩|⟨k,h1,_⟩ <;> omega
 ·rw [List.getD_eq_getElem?_getD,List.getElem?_eq_none (by rw [h.len];exact C)];exact Int.le_refl _
end Go.Proofs.YtjejejmeddkciaaGreatDoor
namespace Go.Proofs.YtjejejmeddkciaaGreatDoor
theorem LE {n:Int}:∀{w:List Int},(∀x∈w,inN n x=true)->∃u:List Nat,w=u.map (fun x:Nat=>(x:Int))/\okW n.toNat u
 | [],_=>⟨[],rfl,okW.nil _⟩
 | x::w,h=>by
  obtain⟨u,rfl,E⟩:=LE (w:=w) fun y F=>h y (List.mem_cons_of_mem _ F);obtain⟨k,rfl,C⟩:=CT (h x List.mem_cons_self);exact⟨k::u,rfl,E.cons C⟩
end Go.Proofs.YtjejejmeddkciaaGreatDoor
namespace Go.Proofs.YtjejejmeddkciaaGreatDoor
end Go.Proofs.YtjejejmeddkciaaGreatDoor
namespace Go.Proofs.YtjejejmeddkciaaGreatDoor
structure Mv where
 frm:Int
 inn:Int
 out:Int
 to:Int
structure TR where
 letters:Int
 states:Int
 start:List Int
 accept:List Int
 moves:List Mv
def TR.moveB (t:TR) (e:Mv):Bool:=inN t.states e.frm&&inN t.states e.to&&(inN t.letters e.inn&&inN t.letters e.out)
def TR.head (t:TR):Bool:=decide (1<=t.letters)&&decide (t.letters<=8)&&decide (0<=t.states)&&decide (t.states<=400)
def TR.ok (t:TR):Bool:=t.head&&t.start.all (inN t.states)&&t.accept.all (inN t.states)&&t.moves.all t.moveB
structure TR.In (t:TR):Prop where
 start:∀x∈t.start,inN t.states x=true
 accept:∀x∈t.accept,inN t.states x=true
 move:∀e∈t.moves,inN t.states e.frm=true/\inN t.letters e.inn=true/\inN t.letters e.out=true/\inN t.states e.to=true
def TR.n (t:TR):Nat:=t.states.toNat
def TR.L (t:TR):Nat:=t.letters.toNat
def TR.nextM (t:TR) (m:List Bool) (x y:Int) (k:Nat):List Bool:=(List.range t.n).map fun q:Nat=>(t.moves.take k).any fun e=>m.getD e.frm.toNat false&&decide (e.inn=x)&&decide (e.out=y)&&decide (e.to=(q:Int))
theorem TR.nextM_len (t:TR) (m:List Bool) (x y:Int) (k:Nat):(t.nextM m x y k).length=t.n:=by simp [TR.nextM]
theorem TR.nextM_get {t:TR} {m:List Bool} {x y:Int} {k q:Nat} (h:q<t.n):(t.nextM m x y k)[q]?=some ((t.moves.take k).any fun e=>m.getD e.frm.toNat false&&decide (e.inn=x)&&decide (e.out=y)&&decide (e.to=(q:Int))):=by
 unfold TR.nextM;rw [List.getElem?_map,List.getElem?_range h];rfl
def TR.setK (t:TR) (u v:List Int) (k:Nat):List Bool:=((u.zip v).take k).foldl (fun m p=>t.nextM m p.1 p.2 t.moves.length) (BN t.n t.start)
theorem TR.setK_step {t:TR} {u v:List Int} {k:Nat} {x y:Int} (h:u[k]?=some x) (C:v[k]?=some y):t.setK u v (k+1)=t.nextM (t.setK u v k) x y t.moves.length:=by
 have:(u.zip v)[k]?=some (x,y):=by rw [List.getElem?_zip_eq_some];exact⟨h,C⟩
 unfold TR.setK;rw [List.take_add_one,this];simp
def TR.rel (t:TR) (u v:List Int):Bool:=t.accept.any fun s=>(t.setK u v u.length).getD s.toNat false
end Go.Proofs.YtjejejmeddkciaaGreatDoor
namespace Go.Proofs.YtjejejmeddkciaaGreatDoor
open Go.RowKit
def DP (e:Edg):Nat->Value
 | 0=>.int .i64 e.frm
 | 1=>.int .i64 e.letter
 | _=>.int .i64 e.to
def Bj (w:World) (B:Nat) (v:Value) (a:WA):Prop:=
 ∃A1 c1 A2 c2 A3 c3,v=.agg #[.int .i64 a.letters,.int .i64 a.states,.slice A1 a.start.length c1,.slice A2 a.accept.length c2,.slice A3 a.edges.length c3]/\
  Sl w B 1 Ai A1 a.start/\Sl w B 1 Ai A2 a.accept/\Sl w B 3 DP A3 a.edges/\a.start.length<=c1
theorem Bj.keep {w w':World} {B B':Nat} {v:Value} {a:WA} (h:Bj w B v a) (E:∀p:Addr,p.block<B->w'.cell? p=w.cell? p) (C:B<=B'):Bj w' B' v a:=by
 obtain⟨F,c1,G,c2,I,c3,e,h1,J,M,O⟩:=h;exact⟨F,c1,G,c2,I,c3,e,h1.keep E C,J.keep E C,M.keep E C,O⟩
theorem Bj.below {w w':World} {B:Nat} {v:Value} {a:WA} (h:Bj w B v a) (C:Below B w w'):Bj w' B v a:=h.keep (fun _ E=>C.cell E) (Nat.le_refl _)
def VSl {D:Type} (R:World->Nat->Value->D->Prop) (w:World) (B:Nat) (A:Option Addr) (ds:List D):Prop:=
 ds.length<=9223372036854775807/\(ds≠[]->∃b off,A=some ⟨b,off,none⟩/\b<B/\∀k d,ds[k]?=some d->∃v,w.cell? ⟨b,off+k,none⟩=some v/\R w B v d)
def Gj {D:Type} (R:World->Nat->Value->D->Prop):Prop:=∀{w w':World} {B B':Nat} {v:Value} {d:D},R w B v d->(∀p:Addr,p.block<B->w'.cell? p=w.cell? p)->B<=B'->R w' B' v d
theorem VSl.keep {D:Type} {R:World->Nat->Value->D->Prop} (G:Gj R) {w w':World} {B B':Nat} {A:Option Addr} {ds:List D} (h:VSl R w B A ds) (C:∀p:Addr,p.block<B->w'.cell? p=w.cell? p) (F:B<=B'):VSl R w' B' A ds:=
 ⟨h.1,fun O=>by
  obtain⟨b,off,e,I,J⟩:=h.2 O;refine⟨b,off,e,by omega,fun k d M=>?_⟩;obtain⟨v,h1,E⟩:=J k d M;exact⟨v,(C _ I).trans h1,G E C F⟩⟩
theorem VSl.at {D:Type} {R:World->Nat->Value->D->Prop} {w:World} {B:Nat} {A:Option Addr} {ds:List D} (h:VSl R w B A ds) {k:Nat} {d:D} (C:ds[k]?=some d):
  ∃b off v,A=some ⟨b,off,none⟩/\b<B/\w.cell? ⟨b,off+k,none⟩=some v/\R w B v d:=by
 obtain⟨b,off,e,F,G⟩:=h.2 (by rintro rfl;simp at C);obtain⟨v,h1,E⟩:=G k d C;exact⟨b,off,v,e,F,h1,E⟩
def R1 (w:World) (B:Nat) (v:Value) (l:List Int):Prop:=∃A c,v=.slice A l.length c/\Sl w B 1 Ai A l
theorem R1.keep:Gj R1:=by
 rintro w w' B B' v d ⟨A,c,e,h⟩ E C;exact⟨A,c,e,h.keep E C⟩
def Ak (l:List Nat):List Int:=l.map fun x:Nat=>(x:Int)
def R1n (w:World) (B:Nat) (v:Value) (l:List Nat):Prop:=R1 w B v (Ak l)
theorem R1n.keep:Gj R1n:=fun h E C=>R1.keep h E C
def R2 (w:World) (B:Nat) (v:Value) (t:List (List Int)):Prop:=∃A c,v=.slice A t.length c/\VSl R1 w B A t
theorem R2.keep:Gj R2:=by
 rintro w w' B B' v d ⟨A,c,e,h⟩ E C;exact⟨A,c,e,VSl.keep (@R1.keep) h E C⟩
def Cn (w:World) (B:Nat) (v:Value) (a:NF):Prop:=
 ∃A1 c1 A2 c2 A3 c3,v=.agg #[.int .i64 (a.L:Int),.slice A1 a.nx.length c1,.slice A2 a.start.length c2,.slice A3 a.acc.length c3]/\
  VSl R2 w B A1 a.nx/\Sl w B 1 Ai A2 a.start/\Sl w B 1 DH A3 a.acc/\a.start.length<=c2
theorem Cn.keep {w w':World} {B B':Nat} {v:Value} {a:NF} (h:Cn w B v a) (E:∀p:Addr,p.block<B->w'.cell? p=w.cell? p) (C:B<=B'):Cn w' B' v a:=by
 obtain⟨F,c1,G,c2,I,c3,e,h1,J,M,O⟩:=h;exact⟨F,c1,G,c2,I,c3,e,VSl.keep (@R2.keep) h1 E C,J.keep E C,M.keep E C,O⟩
def Br (w:World) (B:Nat) (v:Value) (t:List (List Nat)) (ac:List Bool):Prop:=
 ∃A1 c1 A2 c2,v=.agg #[.slice A1 t.length c1,.slice A2 ac.length c2]/\VSl R1n w B A1 t/\Sl w B 1 DH A2 ac
theorem Br.keep {w w':World} {B B':Nat} {v:Value} {t:List (List Nat)} {ac:List Bool} (h:Br w B v t ac) (E:∀p:Addr,p.block<B->w'.cell? p=w.cell? p) (C:B<=B'):Br w' B' v t ac:=by
 obtain⟨F,c1,G,c2,e,h1,I⟩:=h;exact⟨F,c1,G,c2,e,VSl.keep (@R1n.keep) h1 E C,I.keep E C⟩
theorem B8 {w:World} {base n B:Nat} {e:TypeId} {v:Value} {l:List Int} (h:w.ownsRow base e 1 v n (l.map (Value.int .i64))) (I:l.length=n) (J:w.heap.size<=B) (W:n<=9223372036854775807):R1 w B v l:=by
 subst I;rcases h.2 with⟨rfl,h0⟩|⟨g,cap,F,rfl,M,E,O,Z,hz,ht⟩
 ·have:l=[]:=by simpa using h0
  subst this;exact⟨none,0,rfl,Sl.nil rfl⟩
 ·refine⟨_,cap,rfl,by omega,fun _=>⟨g,0,rfl,?_,fun k d C j U=>?_⟩⟩
  ·have:=(Array.getElem?_eq_some_iff.1 E).1;omega
  ·have G:j=0:=by omega
   subst G;rw [cell_of_row w g _ F e (0,0) E];have V:=AP C;have:(l.map (Value.int .i64))[k]?=some (.int .i64 d):=by rw [List.getElem?_map,C];rfl
   rw [<-ht,List.getElem?_take] at this;split at this
   ·simpa [Ai] using this
   ·cases this
theorem Kg {w:World} {base n B:Nat} {e:TypeId} {v:Value} {l:List Bool} (h:w.ownsRow base e 1 v n (l.map Value.bool)) (I:l.length=n) (J:w.heap.size<=B) (W:n<=9223372036854775807):∃A c,v=.slice A l.length c/\Sl w B 1 DH A l:=by
 subst I;rcases h.2 with⟨rfl,h0⟩|⟨g,cap,F,rfl,M,E,O,Z,hz,ht⟩
 ·have:l=[]:=by simpa using h0
  subst this;exact⟨none,0,rfl,Sl.nil rfl⟩
 ·refine⟨_,cap,rfl,by omega,fun _=>⟨g,0,rfl,?_,fun k d C j U=>?_⟩⟩
  ·have:=(Array.getElem?_eq_some_iff.1 E).1;omega
  ·have G:j=0:=by omega
   subst G;rw [cell_of_row w g _ F e (0,0) E];have V:=AP C;have:(l.map Value.bool)[k]?=some (.bool d):=by rw [List.getElem?_map,C];rfl
   rw [<-ht,List.getElem?_take] at this;split at this
   ·simpa [DH] using this
   ·cases this
end Go.Proofs.YtjejejmeddkciaaGreatDoor
namespace Go.Proofs.YtjejejmeddkciaaGreatDoor
open Go.RowKit
theorem Mb {D:Type} {p:D->Bool} {l:List D} {k:Nat} {x:D} (E:l[k]?=some x) (h:(l.take k).all p=true) (C:p x=true):(l.take (k+1)).all p=true:=by
 rw [List.take_add_one,E];simp [C];simpa using h
theorem IQ {D:Type} {p:D->Bool} {l:List D} {k:Nat} {x:D} (C:l[k]?=some x) (h:p x=false):l.all p=false:=by
 rw [List.all_eq_false];exact⟨x,List.mem_of_getElem? C,by simp [h]⟩
theorem Ma {D:Type} {p:D->Bool} {l:List D} {k:Nat} (C:l.length<=k) (h:(l.take k).all p=true):l.all p=true:=by
 rwa [List.take_of_length_le C] at h
theorem B5 {D:Type} {l:List D} {k:Nat} {x:D} (h:l[k]?=some x):l.take (k+1)=l.take k++[x]:=by rw [List.take_add_one,h];rfl
theorem AX {D E:Type} {f:D->E} {l:List D} {k:Nat} {x:D} (h:l[k]?=some x):(l.map f)[k]?=some (f x):=by rw [List.getElem?_map,h];rfl
theorem F2.imp {S T:Type} {R R':S->T->Prop} {l:List S} {m:List T} (h:F2 R l m) (C:∀a b,R a b->R' a b):F2 R' l m:=by
 induction h with
 | nil=>exact .nil
 | cons h1 _ ih=>exact .cons (C _ _ h1) ih
theorem F2.at {S T:Type} {R:S->T->Prop} {l:List S} {m:List T} (h:F2 R l m) {i:Nat} {b:T} (E:m[i]?=some b):∃a,l[i]?=some a/\R a b:=by
 obtain⟨a,C⟩:=An (l:=l) (i:=i) (by rw [h.length];exact AP E);exact⟨a,C,h.get C E⟩
theorem Ap (w:World):Below w.heap.size w w.drew:=⟨rfl,rfl,rfl,Nat.le_refl _,fun _ _=>rfl⟩
theorem Ae (w:World) (cs:Array Value) (t:TypeId):∃h,w.alloc (.cells cs t)=h/\Below w.heap.size w h/\Blk h w.heap.size t cs/\Ac w h (fun _=>False):=
 ⟨_,rfl,(Below.refl _ _).alloc (Nat.le_refl _) _,Blk.new _ _ _,(Ac.refl _ _).alloc _⟩
theorem Blk.below {w w':World} {g:Nat} {t:TypeId} {cs:Array Value} (h:Blk w g t cs) (C:Below w.heap.size w w'):Blk w' g t cs:=h.kept (Ac.of_below C fun _=>False) id
theorem Blk.at {w w':World} {g B:Nat} {t:TypeId} {cs:Array Value} (h:Blk w g t cs) (E:g<B) (C:Below B w w'):Blk w' g t cs:=by
 unfold Blk at h ⊢;rw [C.block g E];exact h
theorem HA (z:Value) (n:Nat):madeCells #[z] (n*1)=Array.replicate n z:=by
 apply Array.ext
 ·simp [madeCells]
 ·intro i h1 h;simp [madeCells,Nat.mod_one]
theorem HJ {P:Program} {t e bytes:Nat} {z:Value} (ht:P.underlying t=some (.slice e)) (M:(P.info? e).map (fun i=>(i.zero,i.size,i.bytes))=some (some z,1,bytes)) (U:z.cells=#[z]) (I:bytes<=200)
  (w:World) (n:Nat) (O:n<=250000):
  ∃g C,(Instr.makeSlice t (.int .i64 n) (.int .i64 n)).run P w=.ok (.slice (some ⟨g,0,none⟩) n n) C/\Blk C g e (Array.replicate n z)/\Below w.heap.size w C/\w.heap.size<=g:=by
 obtain⟨i,h1,F,E,G⟩:=info_parts M;have V:bytes*n<=200*250000:=Nat.mul_le_mul I O;have J:(i.bytes:Int)*(n:Int)<=281474976710656:=by
  rw [G,<-Int.natCast_mul];omega
 have h:=run_makeSlice (P:=P) w t e i z ht h1 F .i64 .i64 n n (by omega) (Int.le_refl _) (by rw [E];simp;omega) J (by omega);simp only [Int.toNat_natCast] at h;rw [E,U,HA] at h;exact⟨_,_,h,Blk.new _ _ _,(Below.refl _ _).alloc (Nat.le_refl _) _,Nat.le_refl _⟩
theorem JF:(Tryz.prog.info? 3).map (fun i=>(i.zero,i.size,i.bytes))=some (some (.int .i64 0),1,8):=by kernel_rfl
theorem JG:(Tryz.prog.info? 4).map (fun i=>(i.zero,i.size,i.bytes))=some (some (.bool false),1,1):=by kernel_rfl
theorem Hu:(Tryz.prog.info? 24).map (fun i=>(i.zero,i.size,i.bytes))=some (some (.slice none 0 0),1,24):=by kernel_rfl
theorem Qk:(Tryz.prog.info? 67).map (fun i=>(i.zero,i.size,i.bytes))=some (some (.slice none 0 0),1,24):=by kernel_rfl
theorem Et (w:World) (n:Nat) (C:n<=250000):
  ∃g h,(Instr.makeSlice 24 (.int .i64 n) (.int .i64 n)).run Tryz.prog w=.ok (.slice (some ⟨g,0,none⟩) n n) h/\Blk h g 3 (Array.replicate n (.int .i64 0))/\Below w.heap.size w h/\w.heap.size<=g:=
 HJ Tryz.underlying24 JF rfl (by omega) w n C
theorem HI (w:World) (n:Nat) (C:n<=250000):
  ∃g h,(Instr.makeSlice 68 (.int .i64 n) (.int .i64 n)).run Tryz.prog w=.ok (.slice (some ⟨g,0,none⟩) n n) h/\Blk h g 4 (Array.replicate n (.bool false))/\Below w.heap.size w h/\w.heap.size<=g:=
 HJ Tryz.underlying68 JG rfl (by omega) w n C
theorem Ra (w:World) (n:Nat) (C:n<=250000):
  ∃g h,(Instr.makeSlice 67 (.int .i64 n) (.int .i64 n)).run Tryz.prog w=.ok (.slice (some ⟨g,0,none⟩) n n) h/\Blk h g 24 (Array.replicate n (.slice none 0 0))/\Below w.heap.size w h/\w.heap.size<=g:=
 HJ Tryz.underlying67 Hu rfl (by omega) w n C
theorem C9:Dd Tryz.prog 24 3 1:=EX Tryz.underlying24 JF rfl (by omega) (by omega)
theorem GM:Dd Tryz.prog 68 4 1:=EX Tryz.underlying68 JG rfl (by omega) (by omega)
theorem F9:Dd Tryz.prog 67 24 1:=EX Tryz.underlying67 Hu rfl (by omega) (by omega)
theorem KH (n:Nat) (z:Value):Array.replicate n z=(List.replicate n z).toArray:=by
 apply Array.ext';simp
theorem LG {P:Program} {ops:Array Oper} {rest:List Oper} {o:Oper} {a:Act} {Q:Exit->Act->World->Prop} {w:World} {t e bytes sz:Nat} {z:Value} (ht:P.underlying t=some (.slice e)) (W:(P.info? e).map (fun i=>(i.zero,i.size,i.bytes))=some (some z,sz,bytes)) (O:bytes<=200) (Z:sz<=80)
  (n:Nat) (G:n<=200000) (V:o.guard=none) (x y:Operand) (ho:o.op=.makeSlice t x y) (hx:a.eval x=.int .i64 n) (hy:a.eval y=.int .i64 n)
  (h:∀g E,Blk E g e (madeCells z.cells (n*sz))->Below w.heap.size w E->w.heap.size<=g->wpList P ops Q rest (a.put o.dst (.slice (some ⟨g,0,none⟩) n n)) E):wpList P ops Q (o::rest) a w:=by
 refine wpList_plain V fun K M=>?_;obtain⟨i,h1,I,F,J⟩:=info_parts W;have a4:bytes*n<=200*200000:=Nat.mul_le_mul O G;have U:(i.bytes:Int)*(n:Int)<=281474976710656:=by
  rw [J,<-Int.natCast_mul];omega
 have a5:n*sz<=200000*80:=Nat.mul_le_mul G Z;have a6:((n:Int).toNat)*i.size<=16000000:=by rw [F,Int.toNat_natCast];omega
 have C:=run_makeSlice (P:=P) w t e i z ht h1 I .i64 .i64 n n (by omega) (Int.le_refl _) (by omega) U (by omega);simp only [Int.toNat_natCast] at C;rw [F] at C;unfold Oper.wp execOp;simp only [ho,hx,hy,Sem.run_bind,Sem.run_pure,Result.andThen_ok,C];exact M _ _ (h _ _ (Blk.new _ _ _) ((Below.refl _ _).alloc (Nat.le_refl _) _) (Nat.le_refl _))
section
variable {w w':World} {base n size:Nat} {e:TypeId} {v:Value} {xs:List Value}
theorem C7 (h:w.ownsRow base e 1 v n xs) {k:Nat} {u:Value} (C:xs[k]?=some u):∃g cap,v=.slice (some ⟨g,0,none⟩) n cap/\w.cell? ⟨g,k,none⟩=some u:=by
 obtain⟨O,G⟩:=h;have M:=AP C;rcases G with⟨_,rfl⟩|⟨g,cap,E,rfl,I,F,J,U,V,ht⟩
 ·omega
 ·refine⟨g,cap,rfl,?_⟩;rw [cell_of_row w g k E e (0,0) F,<-C,<-ht,List.getElem?_take];simp;omega
theorem Bb (h:w.ownsRow base e size v n xs) {k:Nat} (C:v.ownBlock=some k):base<=k:=by
 rcases h.2 with⟨rfl,_⟩|⟨g,cap,E,rfl,F,_⟩
 ·simp [Value.ownBlock] at C
 ·have:g=k:=by simpa [Value.ownBlock] using C
  omega
theorem Cj (h:w.ownsRow base e size v n xs) {k:Nat} (C:v.ownBlock=some k):k<w.heap.size:=by
 rcases h.2 with⟨rfl,_⟩|⟨g,cap,F,rfl,G,E,_⟩
 ·simp [Value.ownBlock] at C
 ·have:g=k:=by simpa [Value.ownBlock] using C
  subst this;exact(Array.getElem?_eq_some_iff.1 E).1
theorem Cb:w.ownsRow base e size (.slice none 0 0) 0 []:=⟨by simp,.inl ⟨rfl,rfl⟩⟩
theorem DC (h:w.ownsRow base e size v n xs) {base':Nat} (G:base'<=base):w.ownsRow base' e size v n xs:=by
 refine⟨h.1,?_⟩;rcases h.2 with E|⟨g,cap,C,h1,F,rest⟩
 ·exact .inl E
 ·exact .inr ⟨g,cap,C,h1,by omega,rest⟩
theorem DD {g:Nat} {cs:Array Value} (h:Blk w g e cs) (E:base<=g) (C:cs.size=n) (F:n<=4000000):w.ownsRow base e 1 (.slice (some ⟨g,0,none⟩) n n) n cs.toList:=by
 refine⟨by simp [C],.inr ⟨g,n,cs,rfl,E,h,Nat.le_refl _,by unfold maxLen;omega,by omega,?_⟩⟩;rw [List.take_of_length_le (by simp [C])]
theorem AK {X:Nat->Prop} (I:Ac w w' X) (h:w.ownsRow base e size v n xs) (F:∀g cs,X g->¬Blk w g e cs):w'.ownsRow base e size v n xs:=
 I.ownsRow h fun g C J=>by
  rcases h.2 with⟨rfl,_⟩|⟨E,cap,M,rfl,_,G,_⟩
  ·simp [Value.ownBlock] at C
  ·have:E=g:=by simpa [Value.ownBlock] using C
   subst this;exact F _ _ J G
theorem Bt (h:w.ownsRow base e size v n xs) (C:Below w.heap.size w w'):w'.ownsRow base e size v n xs:=
 (Ac.of_below C (fun _=>False)).ownsRow h fun _ _=>id
theorem F4 {C:TypeId} (h:w.ownsRow base e size v n xs) (G:e≠C):∀g cs,v.ownBlock=some g->¬Blk w g C cs:=fun _ _ F E=>Aw h E G F
end
def Cl (w:World) (base:Nat) (N:Nat->Prop) (vs:List Value) (ds:List (List Int)):Prop:=
 F2 (fun v d=>w.ownsRow base 3 1 v d.length (d.map (Value.int .i64))/\∀g,v.ownBlock=some g->N g) vs ds
theorem Cl.nil {w:World} {base:Nat} {N:Nat->Prop}:Cl w base N [] []:=F2.nil
theorem Cl.keep {w w':World} {base base':Nat} {N N' X:Nat->Prop} {vs:List Value} {ds:List (List Int)} (h:Cl w base N vs ds) (O:Ac w w' X) (I:∀g cs,N g->X g->¬Blk w g 3 cs) (G:∀g,g<w.heap.size->N g->N' g) (J:base'<=base):Cl w' base' N' vs ds:=
 h.imp fun v d ⟨h1,E⟩=>⟨DC (O.ownsRow h1 fun g C U=>by
  rcases h1.2 with⟨rfl,_⟩|⟨F,cap,V,rfl,_,M,_⟩
  ·simp [Value.ownBlock] at C
  ·have:F=g:=by simpa [Value.ownBlock] using C
   subst this;exact I _ _ (E _ C) U M) J,fun g C=>G g (Cj h1 C) (E g C)⟩
theorem Cl.snoc {w:World} {base:Nat} {N:Nat->Prop} {vs:List Value} {ds:List (List Int)} (h:Cl w base N vs ds) {v:Value} {d:List Int} (h1:w.ownsRow base 3 1 v d.length (d.map (Value.int .i64))) (C:∀g,v.ownBlock=some g->N g):Cl w base N (vs++[v]) (ds++[d]):=F2.snoc h ⟨h1,C⟩
theorem Cl.read {w:World} {base base' B n:Nat} {N:Nat->Prop} {vs:List Value} {ds:List (List Int)} {v:Value} (h:Cl w base N vs ds) (E:w.ownsRow base' 24 1 v n vs) (hn:n<=4000000) (G:w.heap.size<=B) (M:∀d∈ds,d.length<=4000000):∃A c,v=.slice A ds.length c/\VSl R1 w B A ds:=by
 have O:n=ds.length:=by have:=E.1;rw [h.length] at this;omega
 subst O;rcases E.2 with⟨rfl,h0⟩|⟨g,cap,W,rfl,hb,J,hc,hs,hz,ht⟩
 ·have:ds=[]:=List.length_eq_zero_iff.1 h0;subst this;exact⟨none,0,rfl,by simp,fun h=>absurd rfl h⟩
 ·refine⟨_,cap,rfl,by omega,fun _=>⟨g,0,rfl,?_,fun k d F=>?_⟩⟩
  ·have:=(Array.getElem?_eq_some_iff.1 J).1;omega
  ·obtain⟨u,U,h1,_⟩:=F2.at h F;obtain⟨Z,V,C,I⟩:=C7 E U;injection C with C _ _
   injection C with C
   injection C with C
   subst C;exact⟨u,by rw [Nat.zero_add];exact I,B8 h1 rfl G (by have:=M d (List.mem_of_getElem? F);omega)⟩
end Go.Proofs.YtjejejmeddkciaaGreatDoor
