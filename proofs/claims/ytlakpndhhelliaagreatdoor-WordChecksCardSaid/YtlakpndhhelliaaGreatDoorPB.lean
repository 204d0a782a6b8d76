/-
  Part PB of a proof.
-/
import Derived.Test.YtlakpndhhelliaaGreatDoorRows
import Derived.Laws.MakeOwn
import Derived.Test.YtlakpndhhelliaaGreatDoorPA
set_option maxHeartbeats 16000000
set_option maxRecDepth 100000
set_option linter.unusedVariables false
set_option linter.unusedSimpArgs false
namespace Go.Proofs.YtlakpndhhelliaaGreatDoor
def AG {S:Type} (δ:S→Nat→S) (s:S) (w:List Nat):S:=w.foldl δ s
def okW (L:Nat) (w:List Nat):Prop:=∀x∈w,x<L
theorem okW.nil (L:Nat):okW L []:=fun _ h=>absurd h (List.not_mem_nil)
theorem okW.app {L:Nat} {u v:List Nat} (h:okW L u) (k:okW L v):okW L (u++v):=fun x f=>(List.mem_append.1 f).elim (h x) (k x)
theorem okW.snoc {L:Nat} {u:List Nat} {x:Nat} (h:okW L u) (f:x<L):okW L (u++[x]):=h.app (by intro y z; rw [List.mem_singleton.1 z]; exact f)
theorem okW.cons {L:Nat} {u:List Nat} {x:Nat} (z:x<L) (h:okW L u):okW L (x::u):=by
 intro y f
 rcases List.mem_cons.1 f with rfl | f
 ·exact z
 ·exact h y f
theorem Fz {S:Type} (δ:S→Nat→S) (s:S) (u v:List Nat):AG δ s (u++v)=AG δ (AG δ s u) v:=List.foldl_append
theorem E0 {S:Type} (δ:S→Nat→S) (s:S) (u:List Nat) (x:Nat):AG δ s (u++[x])=δ (AG δ s u) x:=by rw [Fz]; rfl
theorem Ex {S:Type} {δ:S→Nat→S} {L:Nat} {I:S→Prop} (f:∀s x,x<L→I s→I (δ s x)):∀(w:List Nat) (s:S),okW L w→I s→I (AG δ s w)
 | [],_,_,h=>h
 | x::w,s,hw,h=>Ex f w _ (fun y z=>hw y (List.mem_cons_of_mem _ z)) (f s x (hw x List.mem_cons_self) h)
inductive F2 {S T:Type} (R:S→T→Prop):List S→List T→Prop
 | nil:F2 R [] []
 | cons {a b l m}:R a b→F2 R l m→F2 R (a::l) (b::m)
section
variable {S T:Type} {R:S→T→Prop}
theorem F2.length {l:List S} {m:List T} (h:F2 R l m):l.length=m.length:=by
 induction h with
 | nil=>rfl
 | cons _ _ ih=>simp [ih]
theorem F2.get {l:List S} {m:List T} (h:F2 R l m):∀{i:Nat} {a:S} {b:T},l[i]?=some a→m[i]?=some b→R a b:=by
 induction h with
 | nil=>intro i a b h; simp at h
 | cons h1 _ ih=>
  intro i a b f y
  cases i with
  | zero=>simp at f y; subst f y; exact h1
  | succ i=>simp at f y; exact ih f y
theorem F2.snoc {l:List S} {m:List T} (h:F2 R l m) {a:S} {b:T} (f:R a b):F2 R (l++[a]) (m++[b]):=by
 induction h with
 | nil=>exact .cons f .nil
 | cons h1 _ ih=>exact .cons h1 ih
theorem F2.left {l:List S} {m:List T} (h:F2 R l m) {a:S} (f:a∈l):∃b,b∈m∧R a b:=by
 induction h with
 | nil=>cases f
 | cons h1 _ ih=>
  rcases List.mem_cons.1 f with rfl | f
  ·exact⟨_,List.mem_cons_self,h1⟩
  ·obtain⟨b,y,z⟩:=ih f
   exact⟨b,List.mem_cons_of_mem _ y,z⟩
theorem F2.right {l:List S} {m:List T} (h:F2 R l m) {b:T} (f:b∈m):∃a,a∈l∧R a b:=by
 induction h with
 | nil=>cases f
 | cons h1 _ ih=>
  rcases List.mem_cons.1 f with rfl | f
  ·exact⟨_,List.mem_cons_self,h1⟩
  ·obtain⟨a,y,z⟩:=ih f
   exact⟨a,List.mem_cons_of_mem _ y,z⟩
end
theorem IP {A B C:Type} {Q:A→B→Prop} {f:A→C→A} {g:B→C→B}:∀(l:List C),(∀x y c,c∈l→Q x y→Q (f x c) (g y c))→∀{x:A} {y:B},Q x y→Q (l.foldl f x) (l.foldl g y)
 | [],_,_,_,hq=>hq
 | c::l,hs,x,y,hq=>IP l (fun x y d hd=>hs x y d (List.mem_cons_of_mem _ hd)) (hs x y c List.mem_cons_self hq)
theorem QV {A C:Type} {I:A→Prop} {f:A→C→A}:∀(l:List C),(∀x c,c∈l→I x→I (f x c))→∀{x:A},I x→I (l.foldl f x)
 | [],_,_,hq=>hq
 | c::l,hs,x,hq=>QV l (fun x d hd=>hs x d (List.mem_cons_of_mem _ hd)) (hs x c List.mem_cons_self hq)
section
variable {S:Type} [DecidableEq S]
def Br (l:List S) (a:S):List S:=if a∈l then l else l++[a]
theorem JG {l:List S} {a b:S}:b∈Br l a↔b∈l∨b=a:=by
 unfold Br; split
 ·next h=>exact⟨.inl,fun f=>f.elim id fun e=>e ▸ h⟩
 ·simp
theorem PV {l:List S} (h:l.Nodup) (a:S):(Br l a).Nodup:=by
 unfold Br; split
 ·exact h
 ·next ha=>exact List.nodup_append.2 ⟨h,by simp,fun x f y z e=>ha (by rw [←List.mem_singleton.1 z,←e]; exact f)⟩
theorem Fg (l:List S) (a:S):l<+:Br l a:=by
 unfold Br; split
 ·exact List.prefix_refl _
 ·exact List.prefix_append _ _
theorem Pn {l m:List S} (h:l<+:m) {a:S} (f:a∈l):m.idxOf a=l.idxOf a:=by
 obtain⟨t,rfl⟩:=h
 rw [List.idxOf_append,if_pos f]
theorem Em {A:Type} {l m:List A} (h:l<+:m) {i:Nat} {a:A} (f:l[i]?=some a):m[i]?=some a:=by
 obtain⟨t,rfl⟩:=h
 rw [List.getElem?_append_left (List.getElem?_eq_some_iff.1 f).1]
 exact f
theorem Fv {l:List S} {a:S} (h:a∈l):l[l.idxOf a]?=some a:=by
 rw [List.getElem?_eq_getElem (List.idxOf_lt_length_of_mem h)]
 exact congrArg some (List.getElem_idxOf (List.idxOf_lt_length_of_mem h))
theorem Ho {l:List S} (h:l.Nodup) {i:Nat} {a:S} (f:l[i]?=some a):l.idxOf a=i:=by
 obtain⟨y,rfl⟩:=List.getElem?_eq_some_iff.1 f
 exact h.idxOf_getElem i y
variable (L:Nat) (δ:S→Nat→S) (s0:S)
def Bh (s:S) (l:List S) (k:Nat):List S:=(List.range k).foldl (fun l x=>Br l (δ s x)) l
omit L s0 in
theorem C8 (s:S) (l:List S) (k:Nat):Bh δ s l (k+1)=Br (Bh δ s l k) (δ s k):=by simp [Bh,List.range_succ]
inductive Exp:Nat→List S→Prop
 | start:Exp 0 [s0]
 | row {i l s}:Exp i l→l[i]?=some s→Exp (i+1) (Bh δ s l L)
def Bc (l:List S):Prop:=Exp L δ s0 l.length l
end
section
variable {S:Type} [DecidableEq S] {L:Nat} {δ:S→Nat→S} {s0:S}
theorem Ei (s:S) (l:List S):∀k,l<+:Bh δ s l k
 | 0=>List.prefix_refl _
 | k+1=>by rw [C8]; exact(Ei s l k).trans (Fg _ _)
theorem LS (s:S) (l:List S) {j k:Nat} (h:j≤k):Bh δ s l j<+:Bh δ s l k:=by
 obtain⟨d,rfl⟩:=Nat.exists_eq_add_of_le h
 induction d with
 | zero=>exact List.prefix_refl _
 | succ d ih=>rw [←Nat.add_assoc,C8]; exact(ih (by omega)).trans (Fg _ _)
theorem Gg (s:S) (l:List S) {k x:Nat} (f:x<k):δ s x∈Bh δ s l k:=
 (LS s l f).subset (by rw [C8]; exact JG.2 (.inr rfl))
theorem Iu {s:S} {l:List S}:∀{k:Nat} {a:S},a∈Bh δ s l k→a∈l∨∃x,x<k∧a=δ s x
 | 0,_,h=>.inl h
 | k+1,a,h=>by
  rw [C8] at h
  rcases JG.1 h with h | rfl
  ·rcases Iu h with h | ⟨x,f,e⟩
   ·exact .inl h
   ·exact .inr ⟨x,by omega,e⟩
  ·exact .inr ⟨k,by omega,rfl⟩
theorem GB (s:S) {l:List S} (h:l.Nodup):∀k,(Bh δ s l k).Nodup
 | 0=>h
 | k+1=>by rw [C8]; exact PV (GB s h k) _
structure Nt (L:Nat) (δ:S→Nat→S) (s0:S) (i:Nat) (l:List S):Prop where
 le:i≤l.length
 head:l[0]?=some s0
 nodup:l.Nodup
 reach:∀s∈l,∃w,okW L w∧AG δ s0 w=s
 closed:∀j s,j<i→l[j]?=some s→∀x,x<L→δ s x∈l
theorem Exp.inv {i:Nat} {l:List S} (h:Exp L δ s0 i l):Nt L δ s0 i l:=by
 induction h with
 | start=>exact⟨by simp,rfl,by simp,fun s f=>⟨[],okW.nil L,(List.mem_singleton.1 f).symm⟩,fun j s G=>absurd G (Nat.not_lt_zero _)⟩
 | @row i l s _ f ih=>
  have y:=Ei (δ:=δ) s l L
  have M:=y.length_le
  have O:=(List.getElem?_eq_some_iff.1 f).1
  refine⟨by omega,Em y ih.head,GB s ih.nodup L,fun a E=>?_,fun j t G ht x z=>?_⟩
  ·rcases Iu E with E | ⟨x,z,rfl⟩
   ·exact ih.reach a E
   ·obtain⟨w,J,rfl⟩:=ih.reach s (List.mem_of_getElem? f)
    exact⟨w++[x],J.snoc z,E0 _ _ _ _⟩
  ·rcases Nat.lt_or_ge j i with C | C
   ·obtain⟨F,I⟩:∃F,l[j]?=some F:=⟨_,List.getElem?_eq_getElem (by omega)⟩
    have:=(Em y I).symm.trans ht
    injection this with this
    subst this
    exact y.subset (ih.closed j F C I x z)
   ·have C:j=i:=by omega
    subst C
    have:=(Em y f).symm.trans ht
    injection this with this
    subst this
    exact Gg s l z
theorem Exp.det {i:Nat} {l:List S} (h:Exp L δ s0 i l):∀{m:List S},Exp L δ s0 i m→l=m:=by
 induction h with
 | start=>intro m f; cases f; rfl
 | @row i l s _ hs ih=>
  intro m f
  cases f with
  | @row _ l' s' h1 hs'=>
   have e:=ih h1
   subst e
   rw [hs] at hs'
   injection hs' with e
   subst e
   rfl
theorem Exp.pre {j:Nat} {m:List S} (h:Exp L δ s0 j m):∀{i:Nat} {l:List S},i≤j→Exp L δ s0 i l→l<+:m:=by
  induction h with
  | start=>intro i l y f; have:i=0:=by omega
           subst this; cases f; exact List.prefix_refl _
  | @row j m s h1 hs ih=>
    intro i l y f
    rcases Nat.lt_or_ge j i with h | h
    · have:i=j+1:=by omega
      subst this
      rw [f.det (Exp.row h1 hs)]
      exact List.prefix_refl _
    · exact(ih h f).trans (Ei _ _ _)
theorem Bc.top {m:List S} (h:Bc L δ s0 m) {i:Nat} {l:List S} (f:Exp L δ s0 i l):i≤m.length∧l<+:m:=by
 have key:∀{i:Nat} {l:List S},Exp L δ s0 i l→i≤m.length:=by
  intro i l f
  induction f with
  | start=>omega
  | @row i l s h1 hs ih=>
   have:=(List.getElem?_eq_some_iff.1 (Em (h.pre ih h1) hs)).1
   omega
 exact⟨key f,h.pre (key f) f⟩
theorem Bc.unique {l m:List S} (h:Bc L δ s0 l) (f:Bc L δ s0 m):l=m:=
 List.IsPrefix.eq_of_length_le (f.top h).2 (h.top f).2.length_le
theorem Bc.closed {l:List S} (h:Bc L δ s0 l) {s:S} (y:s∈l) {x:Nat} (z:x<L):δ s x∈l:=by
 obtain⟨j,f,rfl⟩:=List.getElem_of_mem y
 exact h.inv.closed j _ f (List.getElem?_eq_getElem f) x z
theorem Bc.run {l:List S} (h:Bc L δ s0 l) {w:List Nat} (f:okW L w):AG δ s0 w∈l:=
 Ex (I:=fun s=>s∈l) (fun _ _ y z=>h.closed z y) w s0 f (List.mem_of_getElem? h.inv.head)
end
def Fa {S T:Type} (R:S→T→Prop):Prop:=∀a b a' b',R a b→R a' b'→(a=a'↔b=b')
section
variable {S T:Type} [DecidableEq S] [DecidableEq T] {R:S→T→Prop} {L:Nat} {δ:S→Nat→S} {s0:S} {δ':T→Nat→T} {t0:T}
theorem F2.meet (E:Fa R) {l:List S} {m:List T} (h:F2 R l m) {a:S} {b:T} (y:R a b):F2 R (Br l a) (Br m b):=by
 have F:a∈l↔b∈m:=by
  constructor
  ·intro f
   obtain⟨G,I,z⟩:=h.left f
   rwa [(E a b a G y z).1 rfl]
  ·intro C
   obtain⟨a',J,z⟩:=h.right C
   rwa [(E a b a' b y z).2 rfl]
 unfold Br
 by_cases f:a∈l
 ·rw [if_pos f,if_pos (F.1 f)]; exact h
 ·rw [if_neg f,if_neg (fun C=>f (F.2 C))]; exact h.snoc y
theorem Exp.rel (y:Fa R) (z:R s0 t0) (C:∀s t x,x<L→R s t→R (δ s x) (δ' t x)) {i:Nat} {l:List S} (h:Exp L δ s0 i l):∃m,Exp L δ' t0 i m∧F2 R l m:=by
 induction h with
 | start=>exact⟨[t0],.start,.cons z .nil⟩
 | @row i l s _ hs' ih=>
  obtain⟨m,E,f⟩:=ih
  have F:=(List.getElem?_eq_some_iff.1 hs').1
  obtain⟨t,ht⟩:∃t,m[i]?=some t:=⟨_,List.getElem?_eq_getElem (by rw [←f.length]; exact F)⟩
  have G:=f.get hs' ht
  exact⟨_,.row E ht,IP (Q:=fun a b=>F2 R a b) _ (fun _ _ x I h=>h.meet y (C s t x (List.mem_range.1 I) G)) f⟩
theorem Bc.rel (y:Fa R) (z:R s0 t0) (C:∀s t x,x<L→R s t→R (δ s x) (δ' t x)) {l:List S} {m:List T} (h:Bc L δ s0 l) (E:Bc L δ' t0 m):F2 R l m:=by
 obtain⟨m',F,f⟩:=Exp.rel y z C h
 have hd:Bc L δ' t0 m':=by unfold Bc; rw [←f.length]; exact F
 rw [E.unique hd]
 exact f
theorem Bc.image (y:Fa R) (z:R s0 t0) (C:∀s t x,x<L→R s t→R (δ s x) (δ' t x)) {l:List S} (h:Bc L δ s0 l):∃m,Bc L δ' t0 m∧F2 R l m:=by
 obtain⟨m',E,f⟩:=Exp.rel y z C h
 exact⟨m',by unfold Bc; rw [←f.length]; exact E,f⟩
end
section
variable {S:Type} [DecidableEq S] {L:Nat} {δ:S→Nat→S} {s0:S}
def CA (δ:S→Nat→S) (l:List S) (i x:Nat):Nat:=match l[i]? with
 | some s=>l.idxOf (δ s x)
 | none=>0
theorem Bc.num {l:List S} (h:Bc L δ s0 l) {w:List Nat} (f:okW L w):l[AG (CA δ l) 0 w]?=some (AG δ s0 w):=by
 have key:∀(w:List Nat) (i:Nat) (s:S),okW L w→l[i]?=some s→l[AG (CA δ l) i w]?=some (AG δ s w):=by
  intro w
  induction w with
  | nil=>exact fun i s _ h=>h
  | cons x w ih=>
   intro i s f z
   refine ih _ _ (fun y C=>f y (List.mem_cons_of_mem _ C)) ?_
   have E:=f x List.mem_cons_self
   have:CA δ l i x=l.idxOf (δ s x):=by simp [CA,z]
   rw [this]
   exact Fv (h.closed (List.mem_of_getElem? z) E)
 exact key w 0 s0 f h.inv.head
theorem Bc.lt {l:List S} (h:Bc L δ s0 l) {i x:Nat} (f:i<l.length) (y:x<L):CA δ l i x<l.length:=by
 have z:=List.getElem?_eq_getElem f
 simp only [CA,z]
 exact List.idxOf_lt_length_of_mem (h.closed (List.getElem_mem f) y)
omit [DecidableEq S] in
theorem F2.range {l:List S} (m:List Nat) (h:F2 (fun s i=>l[i]?=some s) l m) (z:l.Nodup):m=List.range l.length:=by
 apply List.ext_getElem?
 intro i
 rcases Nat.lt_or_ge i l.length with f | f
 ·have y:i<m.length:=by rw [←h.length]; exact f
  have C:=h.get (List.getElem?_eq_getElem f) (List.getElem?_eq_getElem y)
  obtain⟨hk,E⟩:=List.getElem?_eq_some_iff.1 C
  have:=(List.getElem_inj z).1 E
  rw [List.getElem?_eq_getElem y,this,List.getElem?_range f]
 ·rw [List.getElem?_eq_none (by rw [←h.length]; exact f),List.getElem?_eq_none (by simpa using f)]
theorem Bc.machine {l:List S} (h:Bc L δ s0 l):Bc L (CA δ l) 0 (List.range l.length):=by
 obtain⟨m,f,E⟩:=h.image (δ':=CA δ l) (t0:=0) (R:=fun s i=>l[i]?=some s) (fun a b a' G y z=>⟨fun e=>by
  subst e
  rw [←Ho h.inv.nodup y,Ho h.inv.nodup z],fun e=>by subst e; exact Option.some.inj (y.symm.trans z)⟩) h.inv.head (fun s i x F C=>by
   have:CA δ l i x=l.idxOf (δ s x):=by simp [CA,C]
   rw [this]
   exact Fv (h.closed (List.mem_of_getElem? C) F))
 rw [E.range m h.inv.nodup] at f
 exact f
end
structure Ce (L n:Nat) (nx:Nat→Nat→Nat) (acc:Nat→Bool) (Λ:List Nat→Bool):Prop where
 lang:∀w,okW L w→acc (AG nx 0 w)=Λ w
 sep:∀u v,okW L u→okW L v→(∀z,okW L z→Λ (u++z)=Λ (v++z))→AG nx 0 u=AG nx 0 v
 ord:Bc L nx 0 (List.range n)
section
variable {L n:Nat} {nx:Nat→Nat→Nat} {acc:Nat→Bool} {Λ:List Nat→Bool}
theorem Ce.run_lt (h:Ce L n nx acc Λ) {w:List Nat} (f:okW L w):AG nx 0 w<n:=List.mem_range.1 (h.ord.run f)
theorem Ce.pos (h:Ce L n nx acc Λ):0<n:=h.run_lt (okW.nil L)
theorem Ce.lt (h:Ce L n nx acc Λ) {q x:Nat} (f:q<n) (y:x<L):nx q x<n:=List.mem_range.1 (h.ord.closed (List.mem_range.2 f) y)
theorem Ce.reach (h:Ce L n nx acc Λ) {q:Nat} (f:q<n):∃w,okW L w∧AG nx 0 w=q:=h.ord.inv.reach q (List.mem_range.2 f)
theorem Ce.same (h:Ce L n nx acc Λ) {u v:List Nat} (y:okW L u) (C:okW L v) (E:AG nx 0 u=AG nx 0 v) {z:List Nat} (f:okW L z):Λ (u++z)=Λ (v++z):=by
 rw [←h.lang _ (y.app f),←h.lang _ (C.app f),Fz,Fz,E]
theorem Ce.unique {M:Nat} {nx':Nat→Nat→Nat} {V:Nat→Bool} {Λ':List Nat→Bool} (h:Ce L n nx acc Λ) (J:Ce L M nx' V Λ') (F:∀w,okW L w→Λ w=Λ' w):
  n=M∧(∀q x,q<n→x<L→nx q x=nx' q x)∧∀q,q<n→acc q=V q:=by
 have W:Fa (fun p q:Nat=>∃w,okW L w∧AG nx 0 w=p∧AG nx' 0 w=q):=by
  rintro _ _ _ _ ⟨u,y,rfl,rfl⟩ ⟨v,E,rfl,rfl⟩
  exact⟨fun e=>J.sep u v y E fun z C=>by rw [←F _ (y.app C),←F _ (E.app C)]; exact h.same y E e C,
   fun e=>h.sep u v y E fun z C=>by rw [F _ (y.app C),F _ (E.app C)]; exact J.same y E e C⟩
 have Z:=Bc.rel W ⟨[],okW.nil L,rfl,rfl⟩ (by
  rintro _ _ x O ⟨w,f,rfl,rfl⟩
  exact⟨w++[x],f.snoc O,E0 _ _ _ _,E0 _ _ _ _⟩) h.ord J.ord
 have hn:n=M:=by simpa using Z.length
 subst hn
 have hd:∀p,p<n→∃w,okW L w∧AG nx 0 w=p∧AG nx' 0 w=p:=fun p hp=>Z.get (i:=p) (by simp [hp]) (by simp [hp])
 have hs:∀w,okW L w→AG nx 0 w=AG nx' 0 w:=fun w f=>by
  obtain⟨u,y,G,I⟩:=hd _ (h.run_lt f)
  have:=(W _ _ _ _ ⟨w,f,rfl,rfl⟩ ⟨u,y,rfl,rfl⟩).1 G.symm
  rw [this,I]
 refine⟨rfl,fun q x U O=>?_,fun q U=>?_⟩
 ·obtain⟨w,f,G,I⟩:=hd q U
  have:=hs (w++[x]) (f.snoc O)
  rw [E0,E0,G,I] at this
  exact this
 ·obtain⟨w,f,G,I⟩:=hd q U
  have:=(h.lang w f).trans ((F w f).trans (J.lang w f).symm)
  rwa [G,I] at this
end
end Go.Proofs.YtlakpndhhelliaaGreatDoor
namespace Go.Proofs.YtlakpndhhelliaaGreatDoor
theorem Ay {α:Type} {l:List α} {i:Nat} (h:i<l.length):∃x,l[i]?=some x:=⟨_,List.getElem?_eq_getElem h⟩
theorem AO {α:Type} {l:List α} {i:Nat} {x:α} (h:l[i]?=some x):i<l.length:=(List.getElem?_eq_some_iff.1 h).1
theorem getD_some {α:Type} {l:List α} {i:Nat} {x d:α} (h:l[i]?=some x):l.getD i d=x:=by rw [List.getD_eq_getElem?_getD,h]; rfl
theorem DY:∀(l m:List Nat),l.Nodup→(∀a∈l,a∈m)→l.length≤m.length
 | [],_,_,_=>Nat.zero_le _
 | a::l,m,hn,hs=>by
  obtain⟨z,C,rfl⟩:=List.append_of_mem (hs a List.mem_cons_self)
  have h:=List.nodup_cons.1 hn
  have E:=DY l (z++C) h.2 (fun b y=>by
   have f:=hs b (List.mem_cons_of_mem _ y)
   have F:b≠a:=fun e=>h.1 (e ▸ y)
   simp only [List.mem_append,List.mem_cons] at f ⊢
   rcases f with f | f | f
   ·exact .inl f
   ·exact(F f).elim
   ·exact .inr f)
  simp only [List.length_append,List.length_cons] at E ⊢
  omega
theorem J3:∀(l m:List Nat),l.Nodup→(∀a∈l,a∈m)→m.length≤l.length→m.Nodup
 | [],m,_,_,hl=>by
  have:m=[]:=List.length_eq_zero_iff.1 (by simpa using hl)
  subst this
  exact List.nodup_nil
 | a::l,m,hn,hs,hl=>by
  obtain⟨y,z,rfl⟩:=List.append_of_mem (hs a List.mem_cons_self)
  have C:=List.nodup_cons.1 hn
  have E:∀b∈l,b∈y++z:=fun b h=>by
   have f:=hs b (List.mem_cons_of_mem _ h)
   have F:b≠a:=fun e=>C.1 (e ▸ h)
   simp only [List.mem_append,List.mem_cons] at f ⊢
   rcases f with f | f | f
   ·exact .inl f
   ·exact(F f).elim
   ·exact .inr f
  simp only [List.length_append,List.length_cons] at hl
  have G:=J3 l (y++z) C.2 E (by simp; omega)
  refine List.perm_middle.nodup_iff.2 (List.nodup_cons.2 ⟨fun I=>?_,G⟩)
  have f:=DY (a::l) (y++z) hn (fun b h=>by
   rcases List.mem_cons.1 h with rfl | h
   ·exact I
   ·exact E b h)
  simp at f
  omega
def dnx (t:List (List Nat)) (q x:Nat):Nat:=(t.getD q []).getD x 0
def dac (ac:List Bool) (q:Nat):Bool:=ac.getD q false
structure DOK (L:Nat) (t:List (List Nat)) (ac:List Bool):Prop where
 len:t.length=ac.length
 pos:0<ac.length
 row:∀r∈t,r.length=L∧∀y∈r,y<ac.length
theorem DOK.at {L:Nat} {t:List (List Nat)} {ac:List Bool} (h:DOK L t ac) {q x:Nat} (C:q<ac.length) (G:x<L):∃r,t[q]?=some r∧r.length=L∧r[x]?=some (dnx t q x)∧dnx t q x<ac.length:=by
 obtain⟨r,f⟩:=Ay (l:=t) (i:=q) (by rw [h.len]; exact C)
 obtain⟨E,F⟩:=h.row r (List.mem_of_getElem? f)
 obtain⟨y,z⟩:=Ay (l:=r) (i:=x) (by omega)
 have:dnx t q x=y:=by unfold dnx; rw [getD_some f,getD_some z]
 rw [this]
 exact⟨r,f,E,z,F y (List.mem_of_getElem? z)⟩
theorem DOK.lt {L:Nat} {t:List (List Nat)} {ac:List Bool} (h:DOK L t ac) {q x:Nat} (f:q<ac.length) (y:x<L):dnx t q x<ac.length:=by
 obtain⟨_,_,_,_,h⟩:=h.at f y; exact h
theorem DOK.run {L:Nat} {t:List (List Nat)} {ac:List Bool} (h:DOK L t ac) {w:List Nat} (f:okW L w):AG (dnx t) 0 w<ac.length:=
 Ex (I:=fun q=>q<ac.length) (fun _ _ y z=>h.lt z y) w 0 f h.pos
def EqW (L:Nat) (nx:Nat→Nat→Nat) (acc:Nat→Bool):Nat→Nat→Nat→Prop
 | 0,p,q=>acc p=acc q
 | r+1,p,q=>EqW L nx acc r p q∧∀x,x<L→EqW L nx acc r (nx p x) (nx q x)
section
variable {L n:Nat} {nx:Nat→Nat→Nat} {acc:Nat→Bool}
theorem EqW.of_words:∀(r:Nat) {p q:Nat},(∀z,okW L z→acc (AG nx p z)=acc (AG nx q z))→EqW L nx acc r p q
 | 0,_,_,h=>h [] (okW.nil L)
 | r+1,_,_,h=>⟨EqW.of_words r h,fun x f=>EqW.of_words r fun z y=>h (x::z) (y.cons f)⟩
theorem EqW.le {r:Nat}:∀(d:Nat) {i j:Nat},EqW L nx acc (r+d) i j→EqW L nx acc r i j
 | 0,_,_,h=>h
 | d+1,_,_,h=>EqW.le d h.1
theorem EqW.stable (f:∀q x,q<n→x<L→nx q x<n) {r:Nat} (y:∀i j,i<n→j<n→EqW L nx acc r i j→EqW L nx acc (r+1) i j):∀(d:Nat) {i j:Nat},i<n→j<n→EqW L nx acc r i j→EqW L nx acc (r+d) i j
 | 0,_,_,_,_,h=>h
 | d+1,i,j,hi,hj,h=>⟨EqW.stable f y d hi hj h,fun x z=>EqW.stable f y d (f i x hi z) (f j x hj z) ((y i j hi hj h).2 x z)⟩
structure BN (L n:Nat) (nx:Nat→Nat→Nat) (acc:Nat→Bool) (r:Nat) (cl:List Nat) (cnt:Nat):Prop where
 len:cl.length=n
 iff:∀i j,i<n→j<n→(cl.getD i 0=cl.getD j 0↔EqW L nx acc r i j)
 mem:∀v,v∈cl↔v<cnt
variable {r cnt cnt':Nat} {cl os:List Nat}
theorem BN.le (h:BN L n nx acc r cl cnt):cnt≤n:=by
 have:=DY (List.range cnt) cl List.nodup_range (fun a f=>(h.mem a).2 (List.mem_range.1 f))
 simpa [h.len] using this
theorem BN.val (h:BN L n nx acc r cl cnt) {i:Nat} (y:i<n):cl.getD i 0<cnt:=by
 obtain⟨x,f⟩:=Ay (l:=cl) (i:=i) (by rw [h.len]; exact y)
 rw [getD_some f]
 exact(h.mem x).1 (List.mem_of_getElem? f)
theorem BN.back (h:BN L n nx acc r cl cnt) (f:BN L n nx acc (r+1) os cnt') {i:Nat} (y:i<n):cl.getD (os.idxOf (os.getD i 0)) 0=cl.getD i 0:=by
 have C:=(f.mem _).2 (f.val y)
 have z:=List.idxOf_lt_length_of_mem C
 rw [f.len] at z
 have E:os.getD (os.idxOf (os.getD i 0)) 0=os.getD i 0:=getD_some (Fv C)
 exact(h.iff _ _ z y).2 ((f.iff _ _ z y).1 E).1
theorem BN.grow (h:BN L n nx acc r cl cnt) (f:BN L n nx acc (r+1) os cnt'):cnt≤cnt':=by
 have:=DY (List.range cnt) ((List.range cnt').map fun v=>cl.getD (os.idxOf v) 0) List.nodup_range (fun u C=>by
  obtain⟨i,y⟩:=List.mem_iff_getElem?.1 ((h.mem u).2 (List.mem_range.1 C))
  have z:i<n:=by have:=AO y; rwa [h.len] at this
  exact List.mem_map.2 ⟨os.getD i 0,List.mem_range.2 (f.val z),by rw [h.back f z,getD_some y]⟩)
 simpa using this
theorem BN.rest (h:BN L n nx acc r cl cnt) (y:BN L n nx acc (r+1) os cnt) {i j:Nat} (f:i<n) (C:j<n) (G:EqW L nx acc r i j):EqW L nx acc (r+1) i j:=by
 have I:=J3 (List.range cnt) ((List.range cnt).map fun v=>cl.getD (os.idxOf v) 0) List.nodup_range (fun u J=>by
  obtain⟨i,f⟩:=List.mem_iff_getElem?.1 ((h.mem u).2 (List.mem_range.1 J))
  have z:i<n:=by have:=AO f; rwa [h.len] at this
  exact List.mem_map.2 ⟨os.getD i 0,List.mem_range.2 (y.val z),by rw [h.back y z,getD_some f]⟩) (by simp)
 refine(y.iff i j f C).1 ?_
 have F:∀i,i<n→((List.range cnt).map fun v=>cl.getD (os.idxOf v) 0)[os.getD i 0]?=some (cl.getD i 0):=fun i z=>by
  rw [List.getElem?_map,List.getElem?_range (y.val z)]
  simp only [Option.map_some,h.back y z]
 have E:=F i f
 have M:=F j C
 rw [(h.iff i j f C).2 G] at E
 exact(List.getElem?_inj (AO E) I).1 (E.trans M.symm)
structure B6 (L n:Nat) (nx:Nat→Nat→Nat) (acc:Nat→Bool) (cl:List Nat):Prop where
 len:cl.length=n
 iff:∀i j,i<n→j<n→(cl.getD i 0=cl.getD j 0↔∀r,EqW L nx acc r i j)
 lt:∀i,i<n→cl.getD i 0<n
theorem BN.atRest (C:∀q x,q<n→x<L→nx q x<n) (h:BN L n nx acc r cl cnt) (E:BN L n nx acc (r+1) os cnt):B6 L n nx acc cl:=by
 have F:=fun d {i j}=>EqW.stable C (fun i j f z y=>h.rest E f z y) d (i:=i) (j:=j)
 refine⟨h.len,fun i j f z=>?_,fun i f=>Nat.lt_of_lt_of_le (h.val f) h.le⟩
 rw [h.iff i j f z]
 exact⟨fun y k=>EqW.le (r:=k) r (by rw [Nat.add_comm]; exact F k f z y),fun y=>y r⟩
theorem B6.of_eq (h:B6 L n nx acc cl) (z:os.length=n) (C:∀i,i<n→os.getD i 0<n) (E:∀i j,i<n→j<n→(os.getD i 0=os.getD j 0↔cl.getD i 0=cl.getD j 0)):B6 L n nx acc os:=
 ⟨z,fun i j f y=>(E i j f y).trans (h.iff i j f y),C⟩
theorem B6.step (y:∀q x,q<n→x<L→nx q x<n) (h:B6 L n nx acc cl) {i j x:Nat} (z:i<n) (C:j<n) (f:x<L) (E:cl.getD i 0=cl.getD j 0):cl.getD (nx i x) 0=cl.getD (nx j x) 0:=
 (h.iff _ _ (y i x z f) (y j x C f)).2 fun r=>((h.iff i j z C).1 E (r+1)).2 x f
theorem B6.accE (h:B6 L n nx acc cl) {i j:Nat} (f:i<n) (y:j<n) (z:cl.getD i 0=cl.getD j 0):acc i=acc j:=(h.iff i j f y).1 z 0
def Ba (nx:Nat→Nat→Nat) (cl:List Nat) (k x:Nat):Nat:=cl.getD (nx (cl.idxOf k) x) 0
theorem B6.nxE (E:∀q x,q<n→x<L→nx q x<n) (h:B6 L n nx acc cl) {i x:Nat} (y:i<n) (F:x<L):Ba nx cl (cl.getD i 0) x=cl.getD (nx i x) 0:=by
 obtain⟨v,f⟩:=Ay (l:=cl) (i:=i) (by rw [h.len]; exact y)
 have z:=List.mem_of_getElem? f
 have C:=List.idxOf_lt_length_of_mem z
 rw [h.len] at C
 unfold Ba
 refine h.step E (by rw [getD_some f]; exact C) y F ?_
 rw [getD_some f,getD_some (Fv z)]
theorem B6.run (z:∀q x,q<n→x<L→nx q x<n) (F:0<n) (h:B6 L n nx acc cl) {w:List Nat} (f:okW L w):AG (Ba nx cl) (cl.getD 0 0) w=cl.getD (AG nx 0 w) 0:=by
 have key:∀(w:List Nat) (q:Nat),okW L w→q<n→AG (Ba nx cl) (cl.getD q 0) w=cl.getD (AG nx q w) 0:=by
  intro w
  induction w with
  | nil=>exact fun _ _ _=>rfl
  | cons x w ih=>
   intro q f C
   have E:=f x List.mem_cons_self
   show AG (Ba nx cl) (Ba nx cl (cl.getD q 0) x) w=_
   rw [h.nxE z C E]
   exact ih _ (fun y G=>f y (List.mem_cons_of_mem _ G)) (z q x C E)
 exact key w 0 f F
theorem B6.canon (E:∀q x,q<n→x<L→nx q x<n) (F:0<n) (h:B6 L n nx acc cl) {st:List Nat} (Z:∀s∈st,s<n) (C:Bc L (Ba nx cl) (cl.getD 0 0) (st.map fun s=>cl.getD s 0)):
  Ce L st.length (CA (Ba nx cl) (st.map fun s=>cl.getD s 0)) (fun i=>acc (st.getD i 0)) (fun w=>acc (AG nx 0 w)):=by
 have a2:∀w,okW L w→∃s,st[AG (CA (Ba nx cl) (st.map fun s=>cl.getD s 0)) 0 w]?=some s∧cl.getD s 0=cl.getD (AG nx 0 w) 0:=fun w f=>by
  have y:=C.num f
  rw [h.run E F f,List.getElem?_map] at y
  rcases G:st[AG (CA (Ba nx cl) (st.map fun s=>cl.getD s 0)) 0 w]? with _ | s
  ·rw [G] at y; simp at y
  ·rw [G] at y; exact⟨s,rfl,by simpa using y⟩
 have J:∀w,okW L w→AG nx 0 w<n:=fun w f=>Ex (I:=fun q=>q<n) (fun q x hx hq=>E q x hq hx) w 0 f F
 refine⟨fun w f=>?_,fun u v M O G=>?_,?_⟩
 ·obtain⟨s,V,hc⟩:=a2 w f
  show acc (st.getD _ 0)=_
  rw [getD_some V]
  exact h.accE (Z s (List.mem_of_getElem? V)) (J w f) hc
 ·have y:=(h.iff _ _ (J u M) (J v O)).2 fun r=>EqW.of_words r fun z hz=>by
   have:=G z hz
   rwa [Fz,Fz] at this
  have U:=C.num M
  have W:=C.num O
  rw [h.run E F M,y] at U
  rw [h.run E F O] at W
  exact(List.getElem?_inj (AO U) C.inv.nodup).1 (U.trans W.symm)
 ·have:=C.machine
  rwa [List.length_map] at this
end
end Go.Proofs.YtlakpndhhelliaaGreatDoor
namespace Go.Proofs.YtlakpndhhelliaaGreatDoor
structure Edg where
 frm:Int
 letter:Int
 to:Int
structure WA where
 letters:Int
 states:Int
 start:List Int
 accept:List Int
 edges:List Edg
deriving instance DecidableEq for Edg
deriving instance DecidableEq for WA
def inN (n x:Int):Bool:=decide (0≤x)&&decide (x<n)
theorem Ds {n x:Int}:inN n x=true↔0≤x∧x<n:=by simp [inN]
theorem Dc {n x:Int} (h:inN n x=true):∃k:Nat,x=(k:Int)∧k<n.toNat:=⟨x.toNat,by have:=Ds.1 h; omega,by have:=Ds.1 h; omega⟩
structure WA.In (a:WA):Prop where
 start:∀x∈a.start,inN a.states x=true
 accept:∀x∈a.accept,inN a.states x=true
 edge:∀e∈a.edges,inN a.states e.frm=true∧inN a.letters e.letter=true∧inN a.states e.to=true
def WA.edgeB (a:WA) (e:Edg):Bool:=inN a.states e.frm&&inN a.states e.to&&inN a.letters e.letter
def WA.ok (a:WA):Bool:=decide (1≤a.letters)&&decide (a.letters≤8)&&decide (0≤a.states)&&decide (a.states≤400)&&a.start.all (inN a.states)&&a.accept.all (inN a.states)&&a.edges.all a.edgeB
theorem WA.ok_iff {a:WA}:a.ok=true↔(1≤a.letters∧a.letters≤8∧0≤a.states∧a.states≤400)∧a.In:=by
 simp only [WA.ok,Bool.and_eq_true,decide_eq_true_eq,List.all_eq_true,WA.edgeB]
 constructor
 ·rintro⟨⟨⟨⟨⟨⟨y,z⟩,C⟩,E⟩,F⟩,G⟩,f⟩
  exact⟨⟨y,z,C,E⟩,F,G,fun e h=>⟨(f e h).1.1,(f e h).2,(f e h).1.2⟩⟩
 ·rintro⟨⟨y,z,C,E⟩,F,G,f⟩
  exact⟨⟨⟨⟨⟨⟨y,z⟩,C⟩,E⟩,F⟩,G⟩,fun e h=>⟨⟨(f e h).1,(f e h).2.2⟩,(f e h).2.1⟩⟩
def WA.L (a:WA):Nat:=a.letters.toNat
def WA.n (a:WA):Nat:=a.states.toNat
def BF (n:Nat) (l:List Int):List Bool:=(List.range n).map fun q:Nat=>decide ((q:Int)∈l)
theorem C0 (n:Nat) (l:List Int):(BF n l).length=n:=by simp [BF]
theorem CS {n:Nat} {l:List Int} {q:Nat} (h:q<n):(BF n l)[q]?=some (decide ((q:Int)∈l)):=by simp [BF,h]
def AC (m:List Bool):List Int:=((List.range m.length).filter fun q=>m.getD q false).map fun q:Nat=>(q:Int)
theorem DE {m:List Bool} {x:Int}:x∈AC m↔∃q:Nat,x=(q:Int)∧m[q]?=some true:=by
 simp only [AC,List.mem_map,List.mem_filter,List.mem_range]
 constructor
 ·rintro⟨q,⟨f,y⟩,rfl⟩
  exact⟨q,rfl,by rw [List.getD_eq_getElem?_getD,List.getElem?_eq_getElem f] at y; rw [List.getElem?_eq_getElem f]; exact congrArg some y⟩
 ·rintro⟨q,rfl,h⟩
  exact⟨q,⟨AO h,getD_some h⟩,rfl⟩
def Asc (l:List Int):Prop:=l.Pairwise (· < ·)
theorem QN (n:Nat) (p:Nat→Bool):Asc (((List.range n).filter p).map fun q:Nat=>(q:Int)):=by
 refine List.pairwise_map.2 (List.Pairwise.filter _ ?_)
 exact(List.pairwise_lt_range).imp fun h=>by omega
theorem KM (m:List Bool):Asc (AC m):=QN _ _
theorem J7:∀{l k:List Int},Asc l→Asc k→(∀x,x∈l↔x∈k)→l=k
 | [],[],_,_,_=>rfl
 | [],y::k,_,_,h=>absurd ((h y).2 List.mem_cons_self) List.not_mem_nil
 | x::l,[],_,_,h=>absurd ((h x).1 List.mem_cons_self) List.not_mem_nil
 | x::l,y::k,hl,hk,h=>by
  obtain⟨F,I⟩:=List.pairwise_cons.1 hl
  obtain⟨G,J⟩:=List.pairwise_cons.1 hk
  have M:x=y:=by
   rcases List.mem_cons.1 ((h x).1 List.mem_cons_self) with e | e
   ·exact e
   ·rcases List.mem_cons.1 ((h y).2 List.mem_cons_self) with C | C
    ·exact C.symm
    ·have:=F y C; have:=G x e; omega
  subst M
  rw [J7 I J fun z=>?_]
  have E:=h z
  simp only [List.mem_cons] at E
  constructor
  ·intro f
   rcases E.1 (.inr f) with rfl | e
   ·have:=F z f; omega
   ·exact e
  ·intro f
   rcases E.2 (.inr f) with rfl | e
   ·have:=G z f; omega
   ·exact e
theorem Lg {m k:List Bool} (C:m.length=k.length) (h:AC m=AC k):m=k:=by
 apply List.ext_getElem?
 intro i
 rcases Nat.lt_or_ge i m.length with y | y
 ·obtain⟨b,f⟩:=Ay y
  obtain⟨c,z⟩:=Ay (l:=k) (i:=i) (by omega)
  have:=(DE (m:=m) (x:=i)).symm.trans ((by rw [h]:(i:Int)∈AC m↔(i:Int)∈AC k).trans DE)
  have e:∀(l:List Bool) (b:Bool),l[i]?=some b→((∃q:Nat,(i:Int)=(q:Int)∧l[q]?=some true)↔b=true):=fun l b f=>by
   constructor
   ·rintro⟨q,E,h⟩
    have:q=i:=by omega
    subst this
    exact(Option.some.inj (h.symm.trans f)).symm
   ·rintro rfl
    exact⟨i,rfl,f⟩
  rw [e m b f,e k c z] at this
  rw [f,z]
  cases b <;> cases c <;> simp_all
 ·rw [List.getElem?_eq_none y,List.getElem?_eq_none (by omega)]
structure NF where
 L:Nat
 nx:List (List (List Int))
 start:List Int
 acc:List Bool
def NF.n (a:NF):Nat:=a.nx.length
def NF.to (a:NF) (s x:Nat):List Int:=(a.nx.getD s []).getD x []
structure NF.OK (a:NF):Prop where
 acc:a.acc.length=a.n
 row:∀r∈a.nx,r.length=a.L
 to:∀r∈a.nx,∀l∈r,∀x∈l,inN a.n x=true
 start:∀x∈a.start,inN a.n x=true
def NF.after (a:NF) (m:List Bool) (x:Nat):List Bool:=(List.range a.n).map fun q:Nat=>(List.range a.n).any fun s=>m.getD s false&&decide ((q:Int)∈a.to s x)
def NF.st (a:NF):List Bool:=BF a.n a.start
def NF.has (a:NF) (m:List Bool):Bool:=(List.range a.n).any fun s=>m.getD s false&&a.acc.getD s false
def NF.lang (a:NF) (w:List Nat):Bool:=a.has (AG a.after a.st w)
theorem NF.after_len (a:NF) (m:List Bool) (x:Nat):(a.after m x).length=a.n:=by simp [NF.after]
theorem NF.st_len (a:NF):a.st.length=a.n:=C0 _ _
theorem NF.run_len (a:NF) {L:Nat} {w:List Nat} (f:okW L w):(AG a.after a.st w).length=a.n:=
 Ex (I:=fun m=>m.length=a.n) (fun m x _ _=>a.after_len m x) w _ f a.st_len
def NF.Large (a:NF) (k:Nat):Prop:=∃i l,Exp a.L a.after a.st i l∧k<l.length
theorem NF.not_large {a:NF} {k:Nat} {l:List (List Bool)} (h:Bc a.L a.after a.st l) (y:l.length≤k):¬a.Large k:=by
 rintro⟨i,m,f,hk⟩
 have:=(h.top f).2.length_le
 omega
def WA.to (a:WA) (s x:Nat):List Int:=(a.edges.filter fun e=>decide (e.frm=(s:Int))&&decide (e.letter=(x:Int))).map (·.to)
def WA.nf (a:WA):NF:=⟨a.L,(List.range a.n).map fun s=>(List.range a.L).map fun x=>a.to s x,a.start,BF a.n a.accept⟩
theorem WA.nf_n (a:WA):a.nf.n=a.n:=by simp [NF.n,WA.nf]
theorem WA.nf_to (a:WA) {s x:Nat} (f:s<a.n) (h:x<a.L):a.nf.to s x=a.to s x:=by
 simp [NF.to,WA.nf,List.getD_eq_getElem?_getD,f,h]
theorem WA.mem_to {a:WA} {s x:Nat} {y:Int}:y∈a.to s x↔∃e∈a.edges,e.frm=(s:Int)∧e.letter=(x:Int)∧e.to=y:=by
 simp [WA.to,and_assoc]
theorem WA.nf_ok {a:WA} (h:a.In):a.nf.OK:=by
 have C:∀x:Int,inN a.states x=true→inN a.nf.n x=true:=fun x f=>by
  rw [a.nf_n,Ds]; rw [Ds] at f; unfold WA.n; omega
 refine⟨by rw [a.nf_n]; exact C0 _ _,fun r z=>?_,fun r z l E x f=>?_,fun x f=>C x (h.start x f)⟩
 ·obtain⟨s,_,rfl⟩:=List.mem_map.1 z
  simp [WA.nf]
 ·obtain⟨s,_,rfl⟩:=List.mem_map.1 z
  obtain⟨y,_,rfl⟩:=List.mem_map.1 E
  obtain⟨e,F,_,_,rfl⟩:=WA.mem_to.1 f
  exact C _ (h.edge e F).2.2
def WA.lang (a:WA) (w:List Nat):Bool:=a.nf.lang w
def AZ (L:Nat) (t:List (List Nat)) (ac:List Bool):WA:=
 ⟨(L:Int),(ac.length:Int),[0],AC ac,(List.range ac.length).flatMap fun q:Nat=>(List.range L).map fun x:Nat=>⟨(q:Int),(x:Int),(dnx t q x:Int)⟩⟩
theorem Nk {L:Nat} {t y:List (List Nat)} {ac f:List Bool} (I:ac.length=f.length) (ht:∀q x,q<ac.length→x<L→dnx t q x=dnx y q x) (E:∀q,q<ac.length→dac ac q=dac f q):AZ L t ac=AZ L y f:=by
 have e:ac=f:=by
  apply List.ext_getElem?
  intro i
  rcases Nat.lt_or_ge i ac.length with h | h
  ·obtain⟨b,z⟩:=Ay h
   obtain⟨c,C⟩:=Ay (l:=f) (i:=i) (by omega)
   have:=E i h
   unfold dac at this
   rw [getD_some z,getD_some C] at this
   rw [z,C,this]
  ·rw [List.getElem?_eq_none h,List.getElem?_eq_none (by omega)]
 subst e
 unfold AZ
 congr 1
 simp only [List.flatMap]
 congr 1
 refine List.map_congr_left fun q F=>List.map_congr_left fun x G=>?_
 rw [ht q x (List.mem_range.1 F) (List.mem_range.1 G)]
theorem RM {L:Nat} {t y:List (List Nat)} {ac f:List Bool} {Λ Λ':List Nat→Bool} (h:Ce L ac.length (dnx t) (dac ac) Λ) (z:Ce L f.length (dnx y) (dac f) Λ') (C:∀w,okW L w→Λ w=Λ' w):AZ L t ac=AZ L y f:=by
 obtain⟨E,F,G⟩:=h.unique z C
 exact Nk E F G
end Go.Proofs.YtlakpndhhelliaaGreatDoor
namespace Go.Proofs.YtlakpndhhelliaaGreatDoor
def NF.B (a:NF):Nat→Nat→Bool
 | 0,q=>a.acc.getD q false
 | d+1,q=>(List.range a.n).any fun y=>(List.range a.L).any (fun x=>decide ((y:Int)∈a.to q x))&&a.B d y
theorem NF.B_succ {a:NF} {d q:Nat}:a.B (d+1) q=true↔∃x y,x<a.L∧y<a.n∧(y:Int)∈a.to q x∧a.B d y=true:=by
 simp only [NF.B,List.any_eq_true,List.mem_range,Bool.and_eq_true,decide_eq_true_eq]
 constructor
 ·rintro⟨y,f,⟨x,z,h⟩,C⟩
  exact⟨x,y,z,f,h,C⟩
 ·rintro⟨x,y,z,f,h,C⟩
  exact⟨y,f,⟨x,z,h⟩,C⟩
def NF.Dist (a:NF) (q k:Nat):Prop:=a.B k q=true∧∀e,e<k→a.B e q=false
theorem NF.Dist.unique {a:NF} {q k j:Nat} (h:a.Dist q k) (y:a.Dist q j):k=j:=by
 rcases Nat.lt_trichotomy k j with f | f | f
 ·have:=y.2 k f; rw [h.1] at this; exact absurd this (by simp)
 ·exact f
 ·have:=h.2 j f; rw [y.1] at this; exact absurd this (by simp)
theorem NF.dist_of {a:NF} {q:Nat}:∀(k:Nat),a.B k q=true→∃j,j≤k∧a.Dist q j:=by
 intro k
 induction k using Nat.strongRecOn with
 | _ k ih=>
  intro h
  by_cases y:∃e,e<k∧a.B e q=true
  ·obtain⟨e,f,z⟩:=y
   obtain⟨j,E,hd⟩:=ih e f z
   exact⟨j,by omega,hd⟩
  ·refine⟨k,Nat.le_refl _,h,fun e f=>?_⟩
   rcases C:a.B e q with _ | _
   ·rfl
   ·exact absurd ⟨e,f,C⟩ y
theorem NF.Dist.next {a:NF} {q k:Nat} (h:a.Dist q (k+1)):∃x y,x<a.L∧y<a.n∧(y:Int)∈a.to q x∧a.Dist y k:=by
 obtain⟨x,y,f,z,C,E⟩:=NF.B_succ.1 h.1
 refine⟨x,y,f,z,C,E,fun e G=>?_⟩
 rcases F:a.B e y with _ | _
 ·rfl
 ·have:=h.2 (e+1) (by omega)
  rw [NF.B_succ.2 ⟨x,y,f,z,C,F⟩] at this
  exact absurd this (by simp)
theorem NF.Dist.lt {a:NF} {q k:Nat} (z:q<a.n) (h:a.Dist q k):k<a.n:=by
 have key:∀(k q:Nat),q<a.n→a.Dist q k→∃l:List Nat,l.length=k+1∧l.Nodup∧(∀s∈l,s<a.n)∧∀s∈l,∃j,j≤k∧a.Dist s j:=by
  intro k
  induction k with
  | zero=>exact fun q z h=>⟨[q],rfl,by simp,by simpa using z,fun s f=>⟨0,Nat.le_refl _,by rw [List.mem_singleton.1 f]; exact h⟩⟩
  | succ k ih=>
   intro q z h
   obtain⟨x,y,_,J,_,hd⟩:=h.next
   obtain⟨l,G,C,E,I⟩:=ih y J hd
   refine⟨q::l,by simp [G],List.nodup_cons.2 ⟨fun M=>?_,C⟩,fun s f=>?_,fun s f=>?_⟩
   ·obtain⟨j,O,F⟩:=I q M
    have:=h.unique F
    omega
   ·rcases List.mem_cons.1 f with rfl | f
    ·exact z
    ·exact E s f
   ·rcases List.mem_cons.1 f with rfl | f
    ·exact⟨k+1,Nat.le_refl _,h⟩
    ·obtain⟨j,O,F⟩:=I s f
     exact⟨j,by omega,F⟩
 obtain⟨l,G,C,E,_⟩:=key k q z h
 have:=DY l (List.range a.n) C fun s f=>List.mem_range.2 (E s f)
 simp at this
 omega
structure NF.Far (a:NF) (far:List Int):Prop where
 len:far.length=a.n
 at_:∀q,q<a.n→(far.getD q (-1)= -1∧∀d,a.B d q=false)∨∃k:Nat,far.getD q (-1)=(k:Int)∧a.Dist q k
theorem NF.Far.iff {a:NF} {far:List Int} (h:a.Far far) {q:Nat} (z:q<a.n) (k:Nat):far.getD q (-1)=(k:Int)↔a.Dist q k:=by
 rcases h.at_ q z with⟨y,f⟩ | ⟨j,y,f⟩
 ·rw [y]
  exact⟨fun e=>by omega,fun hd=>by have:=f k; rw [hd.1] at this; exact absurd this (by simp)⟩
 ·rw [y]
  constructor
  ·intro e
   have:j=k:=by omega
   subst this
   exact f
  ·intro hd
   rw [f.unique hd]
theorem NF.Far.unique {a:NF} {far z:List Int} (h:a.Far far) (C:a.Far z):far=z:=by
 apply List.ext_getElem?
 intro q
 rcases Nat.lt_or_ge q a.n with f | f
 ·obtain⟨x,F⟩:=Ay (l:=far) (i:=q) (by rw [h.len]; exact f)
  obtain⟨y,G⟩:=Ay (l:=z) (i:=q) (by rw [C.len]; exact f)
  have O:far.getD q (-1)=x:=getD_some F
  have U:z.getD q (-1)=y:=getD_some G
  rw [F,G]
  congr 1
  rcases h.at_ q f with⟨I,E⟩ | ⟨j,I,E⟩
  ·rcases C.at_ q f with⟨J,_⟩ | ⟨k,J,M⟩
   ·omega
   ·have:=E k; rw [M.1] at this; exact absurd this (by simp)
  ·have:=(C.iff f j).2 E
   omega
 ·rw [List.getElem?_eq_none (by rw [h.len]; exact f),List.getElem?_eq_none (by rw [C.len]; exact f)]
def AH (far:List Int) (m:List Bool) (k:Nat):List Bool:=(List.range m.length).map fun q=>m.getD q false&&decide (far.getD q (-1)=(k:Int))
theorem Dw {far:List Int} {m:List Bool} {k q:Nat}:(AH far m k).getD q false=true↔m.getD q false=true∧far.getD q (-1)=(k:Int):=by
 unfold AH
 rw [List.getD_eq_getElem?_getD]
 rcases Nat.lt_or_ge q m.length with f | f
 ·simp [f]
 ·rw [List.getElem?_eq_none (by simpa using f),List.getD_eq_getElem?_getD (l:=m),List.getElem?_eq_none f]
  simp
def Dv (m:List Bool):Bool:=m.any id
theorem EL {m:List Bool}:Dv m=true↔∃q,q<m.length∧m.getD q false=true:=by
 unfold Dv
 rw [List.any_eq_true]
 constructor
 ·rintro⟨b,f,h⟩
  obtain⟨q,y⟩:=List.mem_iff_getElem?.1 f
  exact⟨q,AO y,by rw [getD_some y]; exact h⟩
 ·rintro⟨q,y,h⟩
  obtain⟨b,f⟩:=Ay y
  rw [getD_some f] at h
  exact⟨b,List.mem_of_getElem? f,h⟩
def NF.pick (a:NF) (far:List Int) (m:List Bool) (k:Nat):Option Nat:=(List.range a.L).find? fun x=>Dv (AH far (a.after m x) k)
def NF.shortW (a:NF) (far:List Int):Nat→List Bool→List Nat
 | 0,_=>[]
 | k+1,m=>match a.pick far m k with
  | some x=>x::a.shortW far k (AH far (a.after m x) k)
  | none=>[]
theorem NF.after_get {a:NF} {m:List Bool} {x y:Nat} (f:y<a.n):(a.after m x).getD y false=true↔∃s,s<a.n∧m.getD s false=true∧(y:Int)∈a.to s x:=by
 unfold NF.after
 rw [List.getD_eq_getElem?_getD]
 simp [f]
theorem NF.after_mono {a:NF} {m m':List Bool} (h:∀q,m.getD q false=true→m'.getD q false=true) (x q:Nat) (y:(a.after m x).getD q false=true):(a.after m' x).getD q false=true:=by
 rcases Nat.lt_or_ge q a.n with f | f
 ·obtain⟨s,z,C,E⟩:=(NF.after_get f).1 y
  exact(NF.after_get f).2 ⟨s,z,h s C,E⟩
 ·rw [List.getD_eq_getElem?_getD,List.getElem?_eq_none (by rw [a.after_len]; exact f)] at y
  simp at y
theorem NF.run_mono {a:NF}:∀(w:List Nat) {m m':List Bool},(∀q,m.getD q false=true→m'.getD q false=true)→∀q,(AG a.after m w).getD q false=true→(AG a.after m' w).getD q false=true
 | [],_,_,h=>h
 | x::w,_,_,h=>NF.run_mono w (NF.after_mono h x)
theorem NF.has_iff {a:NF} {m:List Bool}:a.has m=true↔∃s,s<a.n∧m.getD s false=true∧a.acc.getD s false=true:=by
 simp [NF.has]
theorem NF.has_mono {a:NF} {m m':List Bool} (h:∀q,m.getD q false=true→m'.getD q false=true) (f:a.has m=true):a.has m'=true:=by
 obtain⟨s,y,z,C⟩:=NF.has_iff.1 f
 exact NF.has_iff.2 ⟨s,y,h s z,C⟩
theorem NF.B_of {a:NF}:∀(w:List Nat) {m:List Bool},okW a.L w→a.has (AG a.after m w)=true→∃s,s<a.n∧m.getD s false=true∧a.B w.length s=true
 | [],_,_,h=>by
  obtain⟨s,f,C,F⟩:=NF.has_iff.1 h
  exact⟨s,f,C,F⟩
 | x::w,m,hw,h=>by
  obtain⟨y,E,G,I⟩:=NF.B_of w (m:=a.after m x) (fun z J=>hw z (List.mem_cons_of_mem _ J)) h
  obtain⟨s,M,f,C⟩:=(NF.after_get E).1 G
  exact⟨s,M,f,NF.B_succ.2 ⟨x,y,hw x List.mem_cons_self,E,C,I⟩⟩
structure NF.Lev (a:NF) (far:List Int) (m:List Bool) (k:Nat):Prop where
 len:m.length=a.n
 ne:∃q,q<a.n∧m.getD q false=true
 all:∀q,q<a.n→m.getD q false=true→a.Dist q k
theorem NF.Lev.cut {a:NF} {far:List Int} (z:a.Far far) {m:List Bool} {k:Nat} (C:m.length=a.n) (h:Dv (AH far m k)=true):a.Lev far (AH far m k) k:=by
 obtain⟨q,y,f⟩:=EL.1 h
 have E:(AH far m k).length=a.n:=by simp [AH,C]
 exact⟨E,⟨q,by omega,f⟩,fun q y f=>(z.iff y k).1 (Dw.1 f).2⟩
theorem NF.Lev.pick {a:NF} {far:List Int} (G:a.Far far) {m:List Bool} {k:Nat} (h:a.Lev far m (k+1)):∃x,a.pick far m k=some x∧x<a.L∧a.Lev far (AH far (a.after m x) k) k∧∀y,y<x→Dv (AH far (a.after m y) k)=false:=by
 obtain⟨q,I,J⟩:=h.ne
 obtain⟨x,y,U,C,V,hd⟩:=(h.all q I J).next
 have W:Dv (AH far (a.after m x) k)=true:=EL.2 ⟨y,by simp [AH,a.after_len,C],Dw.2 ⟨(NF.after_get C).2 ⟨q,I,J,V⟩,(G.iff C k).2 hd⟩⟩
 rcases E:a.pick far m k with _ | z
 ·have:=List.find?_eq_none.1 E x (List.mem_range.2 U)
  rw [W] at this
  exact absurd rfl this
 ·have Z:=List.find?_some E
  have M:=List.mem_of_find?_eq_some E
  refine⟨z,rfl,List.mem_range.1 M,NF.Lev.cut G (a.after_len _ _) Z,fun y C=>?_⟩
  obtain⟨F,l2,O,hb⟩:=(List.find?_eq_some_iff_append.1 E).2
  have a6:F.length=z:=by
   have f:(List.range a.L)[F.length]?=some z:=by rw [O]; simp
   have h4:=AO f
   rw [List.getElem?_range (by simpa using h4)] at f
   exact Option.some.inj f
  have a4:y∈F:=by
   have f:(List.range a.L)[y]?=some y:=by
    rw [List.getElem?_range]
    have:=List.mem_range.1 M; omega
   rw [O,List.getElem?_append_left (by omega)] at f
   exact List.mem_of_getElem? f
  have:=hb y a4
  simpa using this
theorem NF.shortW_spec {a:NF} {far:List Int} (z:a.Far far):∀(k:Nat) (m:List Bool),a.Lev far m k→okW a.L (a.shortW far k m)∧(a.shortW far k m).length=k∧a.has (AG a.after m (a.shortW far k m))=true:=by
 intro k
 induction k with
 | zero=>
  intro m h
  obtain⟨q,f,y⟩:=h.ne
  exact⟨okW.nil _,rfl,NF.has_iff.2 ⟨q,f,y,(h.all q f y).1⟩⟩
 | succ k ih=>
  intro m h
  obtain⟨x,C,E,F,_⟩:=h.pick z
  obtain⟨G,I,J⟩:=ih _ F
  have e:a.shortW far (k+1) m=x::a.shortW far k (AH far (a.after m x) k):=by rw [NF.shortW,C]
  rw [e]
  generalize a.shortW far k (AH far (a.after m x) k)=w at*
  refine⟨G.cons E,by rw [List.length_cons,I],?_⟩
  show a.has (AG a.after (a.after m x) w)=true
  exact NF.has_mono (NF.run_mono w (m':=a.after m x) fun q f=>(Dw.1 f).1) J
theorem NF.single {a:NF}:∀(w:List Nat) {m:List Bool},a.has (AG a.after m w)=true→∃s,s<a.n∧m.getD s false=true∧∀m':List Bool,m'.getD s false=true→a.has (AG a.after m' w)=true
 | [],m,h=>by
  obtain⟨s,f,z,G⟩:=NF.has_iff.1 h
  exact⟨s,f,z,fun m' C=>NF.has_iff.2 ⟨s,f,C,G⟩⟩
 | x::w,m,h=>by
  obtain⟨y,E,C,I⟩:=NF.single w (m:=a.after m x) h
  obtain⟨s,F,f,z⟩:=(NF.after_get E).1 C
  exact⟨s,F,f,fun m' J=>I _ ((NF.after_get E).2 ⟨s,F,J,z⟩)⟩
def Fk:List Nat→List Nat→Prop
 | [],_=>True
 | _::_,[]=>False
 | x::u,y::v=>x<y∨x=y∧Fk u v
theorem NF.shortW_first {a:NF} {far:List Int} (E:a.Far far):∀(k:Nat) (m:List Bool) (v:List Nat),a.Lev far m k→okW a.L v→v.length=k→a.has (AG a.after m v)=true→Fk (a.shortW far k m) v
  | 0,_,_,_,_,_,_=>trivial
  | k+1,m,[],_,_,hl,_=>absurd hl (by simp)
  | k+1,m,y::v,h,hv,hl,hA=>by
    obtain⟨x,W,hx,Z,a2⟩:=h.pick E
    simp only [NF.shortW,W,Fk]
    have G:v.length=k:=by simpa using hl
    have I:okW a.L v:=fun z hz=>hv z (List.mem_cons_of_mem _ hz)
    obtain⟨s,f,J,M⟩:=NF.single v (m:=a.after m y) hA
    have hd:a.Dist s k:=by
      obtain⟨q,hq,a5,a6⟩:=(NF.after_get f).1 J
      have hB:a.B k s=true:=by
        obtain⟨O,a8,C,U⟩:=NF.B_of v (m:=BF a.n [(s:Int)]) I (M _ (by rw [getD_some (CS f)]; simp))
        rw [getD_some (CS a8)] at C
        have:O=s:=by have:(O:Int)=(s:Int):=by simpa using C
                     omega
        rw [G] at U
        rwa [this] at U
      refine⟨hB,fun e he=>?_⟩
      rcases hb:a.B e s with _ | _
      · rfl
      · have:=(h.all q hq a5).2 (e+1) (by omega)
        rw [NF.B_succ.2 ⟨y,s,hv y List.mem_cons_self,f,a6,hb⟩] at this
        exact absurd this (by simp)
    have V:(AH far (a.after m y) k).getD s false=true:=Dw.2 ⟨J,(E.iff f k).2 hd⟩
    rcases Nat.lt_trichotomy x y with F | rfl | F
    · exact .inl F
    · exact .inr ⟨rfl,NF.shortW_first E k _ v Z I G (M _ V)⟩
    · have C:=a2 y F
      rw [EL.2 ⟨s,by simp [AH,a.after_len,f],V⟩] at C
      exact absurd C (by simp)
structure NF.Short (a:NF) (r:Option (List Nat)):Prop where
 non:r=none→∀w,okW a.L w→a.lang w=false
 som:∀w,r=some w→okW a.L w∧a.lang w=true∧∀v,okW a.L v→a.lang v=true→w.length<v.length∨w.length=v.length∧Fk w v
def RV (L:Nat) (Λ:List Nat→Bool) (z:List Nat):Prop:=okW L z∧Λ z=true∧∀v,okW L v→Λ v=true→z.length<v.length∨z.length=v.length∧Fk z v
end Go.Proofs.YtlakpndhhelliaaGreatDoor
namespace Go.Proofs.YtlakpndhhelliaaGreatDoor
def NF.psR (a:NF) (s x:Nat):List (Nat×Int):=(List.range x).flatMap fun y=>(a.to s y).map fun t=>(s,t)
def NF.psS (a:NF) (s:Nat):List (Nat×Int):=(List.range s).flatMap fun r=>a.psR r a.L
def NF.ps (a:NF) (s x j:Nat):List (Nat×Int):=a.psS s++a.psR s x++((a.to s x).take j).map fun t=>(s,t)
theorem NF.ps_step {a:NF} {s x j:Nat} {t:Int} (h:(a.to s x)[j]?=some t):a.ps s x (j+1)=a.ps s x j++[(s,t)]:=by
 unfold NF.ps
 rw [List.take_add_one,h]
 simp
theorem NF.ps_row {a:NF} {s x j:Nat} (h:(a.to s x).length≤j):a.ps s x j=a.ps s (x+1) 0:=by
 unfold NF.ps
 rw [List.take_of_length_le h]
 simp [NF.psR,List.range_succ]
theorem NF.ps_state {a:NF} {s:Nat}:a.ps s a.L 0=a.ps (s+1) 0 0:=by
 unfold NF.ps
 simp [NF.psS,NF.psR,List.range_succ]
theorem Ia {S T:Type} {f:S→List T} {l m:List S} (h:l<+:m):(l.flatMap f).length≤(m.flatMap f).length:=by
 obtain⟨k,rfl⟩:=h
 simp
theorem Iy {m n:Nat} (h:m≤n):List.range m<+:List.range n:=by
 have:n=m+(n - m):=by omega
 rw [this,List.range_add]
 exact List.prefix_append _ _
theorem NF.ps_len {a:NF} {s x j:Nat} (f:s<a.n) (h:x<a.L):(a.ps s x j).length≤(a.psS a.n).length:=by
 have y:(a.psS (s+1)).length≤(a.psS a.n).length:=Ia (Iy (by omega))
 have z:(a.psR s (x+1)).length≤(a.psR s a.L).length:=Ia (Iy (by omega))
 have C:(a.psS (s+1)).length=(a.psS s).length+(a.psR s a.L).length:=by simp [NF.psS,List.range_succ]
 have E:(a.psR s (x+1)).length=(a.psR s x).length+(a.to s x).length:=by simp [NF.psR,List.range_succ]
 unfold NF.ps
 simp only [List.length_append,List.length_map,List.length_take]
 omega
theorem NF.to_len {a:NF} {s x:Nat} (f:s<a.n) (h:x<a.L):(a.to s x).length≤(a.psS a.n).length:=by
 have:=a.ps_len (j:=(a.to s x).length) f h
 unfold NF.ps at this
 simp only [List.length_append,List.length_map,List.length_take] at this
 omega
theorem NF.mem_psS {a:NF} {n s:Nat} {t:Int}:(s,t)∈a.psS n↔s<n∧∃x,x<a.L∧t∈a.to s x:=by
 simp only [NF.psS,NF.psR,List.mem_flatMap,List.mem_range,List.mem_map,Prod.mk.injEq]
 constructor
 ·rintro⟨r,y,x,f,u,h,rfl,rfl⟩
  exact⟨y,x,f,h⟩
 ·rintro⟨z,x,f,h⟩
  exact⟨s,z,x,f,t,h,rfl,rfl⟩
def Bk (ps:List (Nat×Int)) (y:Nat):List Nat:=(ps.filter fun p=>decide (p.2=(y:Int))).map (·.1)
theorem JS (ps:List (Nat×Int)) (y:Nat):(Bk ps y).length≤ps.length:=by
 unfold Bk
 rw [List.length_map]
 exact List.length_filter_le _ _
theorem Mx (ps:List (Nat×Int)) (s t y:Nat):Bk (ps++[(s,(t:Int))]) y=if y=t then Bk ps y++[s] else Bk ps y:=by
 unfold Bk
 rw [List.filter_append,List.map_append]
 by_cases e:y=t
 ·subst e; simp
 ·rw [if_neg e]
  have:decide ((t:Int)=(y:Int))=false:=by simp; omega
  simp [this]
theorem Ll {ps:List (Nat×Int)} {s y:Nat}:s∈Bk ps y↔(s,(y:Int))∈ps:=by
 simp only [Bk,List.mem_map,List.mem_filter,decide_eq_true_eq]
 constructor
 ·rintro⟨⟨p,t⟩,⟨z,f⟩,rfl⟩
  simp only at f
  subst f
  exact z
 ·intro h
  exact⟨_,⟨h,rfl⟩,rfl⟩
def NF.edge (a:NF) (q y:Nat):Prop:=∃x,x<a.L∧(y:Int)∈a.to q x
theorem NF.mem_back {a:NF} {q y:Nat}:q∈Bk (a.psS a.n) y↔q<a.n∧a.edge q y:=Ll.trans NF.mem_psS
def NF.far0 (a:NF) (s:Nat):List Int:=(List.range a.n).map fun q=>if q<s then (if a.acc.getD q false then 0 else -1) else 0
def NF.que0 (a:NF) (s:Nat):List Nat:=(List.range s).filter fun q=>a.acc.getD q false
theorem NF.far0_len (a:NF) (s:Nat):(a.far0 s).length=a.n:=by simp [NF.far0]
theorem NF.far0_at {a:NF} {s q:Nat} (h:q<a.n):(a.far0 s)[q]?=some (if q<s then (if a.acc.getD q false then 0 else -1) else 0):=by
 unfold NF.far0
 rw [List.getElem?_map,List.getElem?_range h]
 rfl
theorem NF.far0_step {a:NF} {s:Nat} (h:s<a.n):(a.far0 s).set s (if a.acc.getD s false then 0 else -1)=a.far0 (s+1):=by
 apply List.ext_getElem?
 intro q
 rw [List.getElem?_set]
 rcases Nat.lt_or_ge q a.n with f | f
 ·rw [far0_at f,far0_at f,far0_len]
  by_cases e:s=q
  ·subst e; simp [h]
  ·rw [if_neg e]
   by_cases z:q<s
   ·have y:q<s+1:=by omega
    simp only [z,y,if_true]
   ·have y:¬q<s+1:=by omega
    simp only [z,y,if_false]
 ·rw [List.getElem?_eq_none (by rw [far0_len]; exact f),List.getElem?_eq_none (by rw [far0_len]; exact f),if_neg (by omega)]
theorem NF.que0_step {a:NF} {s:Nat}:a.que0 (s+1)=if a.acc.getD s false then a.que0 s++[s] else a.que0 s:=by
 unfold NF.que0
 rw [List.range_succ,List.filter_append]
 rw [List.filter_cons,List.filter_nil]
 split
 ·rfl
 ·exact List.append_nil _
def und (far:List Int):Nat:=far.countP fun z=>decide (z= -1)
theorem GN:∀{far:List Int} {s:Nat} {v:Int},far[s]?=some (-1)→v≠-1→und (far.set s v)+1=und far
 | [],_,_,h,_=>by simp at h
 | z::far,0,v,h,hv=>by
  have f:z= -1:=by simpa using h
  subst f
  simp [und,List.set_cons_zero,hv]
 | z::far,s+1,v,h,hv=>by
  have:=GN (far:=far) (s:=s) (v:=v) (by simpa using h) hv
  unfold und at this ⊢
  rw [List.set_cons_succ,List.countP_cons,List.countP_cons]
  omega
structure NF.Bfs (a:NF) (far:List Int) (qs:List Nat):Prop where
 len:far.length=a.n
 ge:∀q,q<a.n→far.getD q (-1)= -1∨∃k:Nat,far.getD q (-1)=(k:Int)∧a.Dist q k
 acc:∀q,q<a.n→a.acc.getD q false=true→far.getD q (-1)≠-1
 cl:∀q y,q<a.n→y<a.n→far.getD q (-1)= -1→a.edge q y→far.getD y (-1)= -1∨y∈qs
 q:∀y∈qs,y<a.n∧far.getD y (-1)≠-1
 asc:qs.Pairwise fun x y=>far.getD x (-1)≤far.getD y (-1)
 top:∀x∈qs,∀y∈qs,far.getD y (-1)≤far.getD x (-1)+1
 size:qs.length+und far≤a.n
theorem RU {n q:Nat} (h:q<n):(List.range n)[q]?=some q:=List.getElem?_range h
theorem Oy (a:NF):(a.que0 a.n).length+und (a.far0 a.n)≤a.n:=by
 have key:∀l:List Nat,(∀q∈l,q<a.n)→(l.filter fun q=>a.acc.getD q false).length+(l.map fun q=>if q<a.n then (if a.acc.getD q false then (0:Int) else -1) else 0).countP (fun z=>decide (z= -1))≤l.length:=by
  intro l
  induction l with
  | nil=>intro _; simp
  | cons q l ih=>
   intro h
   have:=ih fun x y=>h x (List.mem_cons_of_mem _ y)
   have f:=h q List.mem_cons_self
   rw [List.filter_cons,List.map_cons,List.countP_cons,if_pos f]
   rcases C:a.acc.getD q false with _ | _
   ·have e:(if decide ((if false=true then (0:Int) else -1)= -1)=true then 1 else 0)=1:=by decide
    rw [e,if_neg (by decide),List.length_cons]
    omega
   ·have e:(if decide ((if true=true then (0:Int) else -1)= -1)=true then 1 else 0)=0:=by decide
    rw [e,if_pos rfl,List.length_cons,List.length_cons]
    omega
 have:=key (List.range a.n) fun q f=>List.mem_range.1 f
 rw [List.length_range] at this
 exact this
theorem NF.bfs0 (a:NF):a.Bfs (a.far0 a.n) (a.que0 a.n):=by
 have C:∀q,q<a.n→(a.far0 a.n).getD q (-1)=if a.acc.getD q false then 0 else -1:=fun q f=>by
  rw [getD_some (NF.far0_at f),if_pos f]
 have E:∀q,q∈a.que0 a.n↔q<a.n∧a.acc.getD q false=true:=fun q=>by simp [NF.que0]
 have z:∀q∈a.que0 a.n,(a.far0 a.n).getD q (-1)=0:=fun q f=>by
  obtain⟨I,J⟩:=(E q).1 f
  rw [C q I,J]; rfl
 refine⟨a.far0_len _,fun q f=>?_,fun q f M=>?_,fun q y f h _ _=>?_,fun y h=>?_,?_,fun x F y h=>?_,Oy a⟩
 ·rw [C q f]
  rcases G:a.acc.getD q false with _ | _
  ·exact .inl rfl
  ·exact .inr ⟨0,rfl,G,fun e O=>absurd O (by omega)⟩
 ·rw [C q f,M]; simp
 ·rw [C y h]
  rcases G:a.acc.getD y false with _ | _
  ·exact .inl rfl
  ·exact .inr ((E y).2 ⟨h,G⟩)
 ·exact⟨((E y).1 h).1,by rw [z y h]; decide⟩
 ·exact List.pairwise_of_forall_mem_list fun x F y h=>by rw [z x F,z y h]; exact Int.le_refl _
 ·rw [z x F,z y h]; decide
section
variable {a:NF} {far:List Int} {qs:List Nat}
theorem NF.Bfs.isFar (h:a.Bfs far []):a.Far far:=by
 refine⟨h.len,fun q z=>?_⟩
 rcases h.ge q z with f | f
 ·refine .inl ⟨f,fun d=>?_⟩
  have key:∀d q,q<a.n→far.getD q (-1)= -1→a.B d q=false:=by
   intro d
   induction d with
   | zero=>
    intro q z f
    rcases C:a.B 0 q with _ | _
    ·rfl
    ·exact absurd f (h.acc q z C)
   | succ d ih=>
    intro q z f
    rcases C:a.B (d+1) q with _ | _
    ·rfl
    ·obtain⟨x,y,I,F,J,G⟩:=NF.B_succ.1 C
     rcases h.cl q y z F f ⟨x,I,J⟩ with E | E
     ·rw [ih y F E] at G; exact absurd G (by simp)
     ·exact absurd E List.not_mem_nil
  exact key d q z f
 ·exact .inr f
theorem NF.Bfs.least {hd k:Nat} {t:List Nat} (h:a.Bfs far (hd::t)) (hk:far.getD hd (-1)=(k:Int)):∀e q,q<a.n→far.getD q (-1)= -1→a.B e q=true→k+1≤e:=by
 intro e
 induction e with
 | zero=>intro q E F f; exact absurd F (h.acc q E f)
 | succ e ih=>
  intro q E F f
  obtain⟨x,y,I,G,J,f⟩:=NF.B_succ.1 f
  rcases h.cl q y E G F ⟨x,I,J⟩ with z | z
  ·have:=ih y G z f; omega
  ·rcases h.ge y G with C | ⟨j,C,M⟩
   ·exact absurd C (h.q y z).2
   ·have V:j≤e:=by
     rcases Nat.lt_or_ge e j with O | U
     ·have:=M.2 e O; rw [f] at this; exact absurd this (by simp)
     ·exact U
    have W:(k:Int)≤(j:Int):=by
     rcases List.mem_cons.1 z with rfl | z
     ·rw [←hk,←C]; exact Int.le_refl _
     ·rw [←hk,←C]; exact(List.pairwise_cons.1 h.asc).1 y z
    omega
theorem Gn {l:List Int} {s q:Nat} {v d:Int} (f:s<l.length):(l.set s v).getD q d=if q=s then v else l.getD q d:=by
 rw [List.getD_eq_getElem?_getD,List.getElem?_set]
 by_cases e:s=q
 ·subst e; simp [f]
 ·rw [if_neg e,if_neg (fun h=>e h.symm),List.getD_eq_getElem?_getD]
theorem NF.Bfs.find {hd k s:Nat} {t:List Nat} (h:a.Bfs far (hd::t)) (hk:far.getD hd (-1)=(k:Int)) (Z:s<a.n) (hn:far.getD s (-1)= -1) (he:a.edge s hd):a.Bfs (far.set s (((k+1:Nat)):Int)) (hd::(t++[s])):=by
 have a7:s<far.length:=by rw [h.len]; exact Z
 have G:∀q,(far.set s (((k+1:Nat)):Int)).getD q (-1)=if q=s then (((k+1:Nat)):Int) else far.getD q (-1):=fun q=>Gn a7
 have a3:=h.q hd List.mem_cons_self
 have aa:∀y∈hd::t,y≠s:=fun y f e=>(h.q y f).2 (by rw [e]; exact hn)
 have C:∀y∈hd::t,(far.set s (((k+1:Nat)):Int)).getD y (-1)=far.getD y (-1):=fun y f=>by rw [G,if_neg (aa y f)]
 have O:(far.set s (((k+1:Nat)):Int)).getD s (-1)=(((k+1:Nat)):Int):=by rw [G,if_pos rfl]
 have hD:a.Dist s (k+1):=by
  obtain⟨x,E,hm⟩:=he
  refine⟨NF.B_succ.2 ⟨x,hd,E,a3.1,hm,?_⟩,fun e he=>?_⟩
  ·rcases h.ge hd a3.1 with F | ⟨j,F,h2⟩
   ·exact absurd F a3.2
   ·have:j=k:=by omega
    subst this
    exact h2.1
  ·rcases hb:a.B e s with _ | _
   ·rfl
   ·have:=h.least hk e s Z hn hb; omega
 have e:hd::(t++[s])=(hd::t)++[s]:=rfl
 have J:∀y,y∈hd::(t++[s])↔y∈hd::t∨y=s:=fun y=>by rw [e,List.mem_append,List.mem_singleton]
 refine⟨by rw [List.length_set]; exact h.len,fun q M=>?_,fun q M hA=>?_,fun q y M f F h2=>?_,fun y f=>?_,?_,fun x E y f=>?_,?_⟩
 ·rw [G]
  split
  ·rename_i U; subst U
   exact .inr ⟨k+1,rfl,hD⟩
  ·exact h.ge q M
 ·rw [G]
  split
  ·omega
  ·exact h.acc q M hA
 ·rw [G] at F
  by_cases U:q=s
  ·rw [if_pos U] at F; omega
  ·rw [if_neg U] at F
   by_cases a8:y=s
   ·exact .inr ((J y).2 (.inr a8))
   ·rw [G,if_neg a8]
    rcases h.cl q y M f F h2 with h3 | h3
    ·exact .inl h3
    ·exact .inr ((J y).2 (.inl h3))
 ·rcases(J y).1 f with f | rfl
  ·rw [C y f]; exact h.q y f
  ·rw [O]; exact⟨Z,by omega⟩
 ·rw [e,List.pairwise_append]
  refine⟨?_,List.pairwise_singleton _ _,fun x E y f=>?_⟩
  ·exact h.asc.imp_of_mem fun {x y} E f hxy=>by rw [C x E,C y f]; exact hxy
  ·rw [List.mem_singleton.1 f,O,C x E]
   have:=h.top hd List.mem_cons_self x E
   omega
 ·have ag:∀z∈hd::t,(k:Int)≤far.getD z (-1):=fun z I=>by
   rcases List.mem_cons.1 I with rfl | I
   ·omega
   ·rw [←hk]; exact(List.pairwise_cons.1 h.asc).1 z I
  rcases(J x).1 E with V | ex <;> rcases(J y).1 f with W | ey
  ·rw [C x V,C y W]; exact h.top x V y W
  ·rw [C x V,ey,O]; have:=ag x V; omega
  ·rw [C y W,ex,O]; have:=h.top hd List.mem_cons_self y W; omega
  ·rw [ex,ey]; omega
 ·have hu:=GN (far:=far) (s:=s) (v:=(((k+1:Nat)):Int)) (by
   obtain⟨z,I⟩:=Ay a7
   rw [I,←getD_some (d:=(-1:Int)) I,hn]) (by omega)
  have:=h.size
  simp only [List.length_cons,List.length_append,List.length_nil] at this ⊢
  omega
theorem NF.Bfs.pop {hd:Nat} {t:List Nat} (h:a.Bfs far (hd::t)) (G:∀q,q<a.n→a.edge q hd→far.getD q (-1)≠-1):a.Bfs far t:=by
 refine⟨h.len,h.ge,h.acc,fun q y C f E F=>?_,fun y f=>h.q y (List.mem_cons_of_mem _ f),(List.pairwise_cons.1 h.asc).2,fun x I y f=>h.top x (List.mem_cons_of_mem _ I) y (List.mem_cons_of_mem _ f),?_⟩
 ·rcases h.cl q y C f E F with z | z
  ·exact .inl z
  ·rcases List.mem_cons.1 z with rfl | z
   ·exact absurd E (G q C F)
   ·exact .inr z
 ·have:=h.size
  rw [List.length_cons] at this
  omega
end
structure NF.BfsJ (a:NF) (far:List Int) (hd:Nat) (t:List Nat) (k m j:Nat):Prop where
 bfs:a.Bfs far (hd::t)
 hk:far.getD hd (-1)=(k:Int)
 pre:∀s∈(Bk (a.psS a.n) hd).take j,far.getD s (-1)≠-1
 size:t.length+und far=m
section
variable {a:NF} {far:List Int} {hd k m j s:Nat} {t:List Nat}
theorem NF.BfsJ.skip (h:a.BfsJ far hd t k m j) (y:(Bk (a.psS a.n) hd)[j]?=some s) (z:far.getD s (-1)≠-1):a.BfsJ far hd t k m (j+1):=by
 refine⟨h.bfs,h.hk,fun q f=>?_,h.size⟩
 rw [List.take_add_one,y] at f
 rcases List.mem_append.1 f with f | f
 ·exact h.pre q f
 ·have:q=s:=by simpa using f
  rw [this]; exact z
theorem NF.BfsJ.found (h:a.BfsJ far hd t k m j) (C:(Bk (a.psS a.n) hd)[j]?=some s) (y:far.getD s (-1)= -1):a.BfsJ (far.set s (((k+1:Nat)):Int)) hd (t++[s]) k m (j+1):=by
 obtain⟨E,J⟩:=NF.mem_back.1 (List.mem_of_getElem? C)
 have F:s<far.length:=by rw [h.bfs.len]; exact E
 have G:∀q,(far.set s (((k+1:Nat)):Int)).getD q (-1)=if q=s then (((k+1:Nat)):Int) else far.getD q (-1):=fun q=>Gn F
 refine⟨h.bfs.find h.hk E y J,?_,fun q f=>?_,?_⟩
 ·rw [G,if_neg,h.hk]
  rintro rfl
  exact(h.bfs.q _ List.mem_cons_self).2 y
 ·rw [G]
  split
  ·omega
  ·rename_i hne
   rw [List.take_add_one,C] at f
   rcases List.mem_append.1 f with f | f
   ·exact h.pre q f
   ·exact absurd (by simpa using f) hne
 ·have M:=GN (far:=far) (s:=s) (v:=(((k+1:Nat)):Int)) (by
   obtain⟨z,I⟩:=Ay F
   rw [I,←getD_some (d:=(-1:Int)) I,y]) (by omega)
  have:=h.size
  rw [List.length_append,List.length_singleton]
  omega
theorem NF.BfsJ.done (h:a.BfsJ far hd t k m j) (f:(Bk (a.psS a.n) hd).length≤j):a.Bfs far t:=
 h.bfs.pop fun q y z=>h.pre q (by rw [List.take_of_length_le f]; exact NF.mem_back.2 ⟨y,z⟩)
end
end Go.Proofs.YtlakpndhhelliaaGreatDoor
namespace Go.Proofs.YtlakpndhhelliaaGreatDoor
def BQ (far:List Int) (b:Int) (l:List Int):Int:=l.foldl (fun b s=>if 0≤far.getD s.toNat (-1)∧(b<0∨far.getD s.toNat (-1)<b) then far.getD s.toNat (-1) else b) b
theorem K0 {far:List Int} {b:Int} {l:List Int} {k:Nat} {s:Int} (h:l[k]?=some s):BQ far b (l.take (k+1))=if 0≤far.getD s.toNat (-1)∧(BQ far b (l.take k)<0∨far.getD s.toNat (-1)<BQ far b (l.take k)) then far.getD s.toNat (-1) else BQ far b (l.take k):=by
 unfold BQ
 rw [List.take_add_one,h]
 simp only [Option.toList_some,List.foldl_append,List.foldl_cons,List.foldl_nil]
theorem GG {far:List Int} (J:∀q,-1≤far.getD q (-1)):∀(l:List Int) (b:Int),-1≤b→-1≤BQ far b l∧
  (BQ far b l<0→b<0∧∀s∈l,far.getD s.toNat (-1)= -1)∧
  (0≤BQ far b l→(BQ far b l=b∨∃s∈l,far.getD s.toNat (-1)=BQ far b l)∧(b<0∨BQ far b l≤b)∧∀s∈l,far.getD s.toNat (-1)= -1∨BQ far b l≤far.getD s.toNat (-1)):=by
 intro l
 induction l with
 | nil=>intro b F; exact⟨F,fun h=>⟨h,fun s f=>absurd f List.not_mem_nil⟩,fun h=>⟨.inl rfl,.inr (Int.le_refl _),fun s f=>absurd f List.not_mem_nil⟩⟩
 | cons x l ih=>
  intro b F
  have W:=J x.toNat
  obtain⟨C,z⟩:∃C,C=if 0≤far.getD x.toNat (-1)∧(b<0∨far.getD x.toNat (-1)<b) then far.getD x.toNat (-1) else b:=⟨_,rfl⟩
  have e:BQ far b (x::l)=BQ far C l:=by rw [z]; rfl
  rw [e]
  have M:-1≤C:=by rw [z]; split <;> omega
  obtain⟨O,U,V⟩:=ih C M
  refine⟨O,fun h=>?_,fun h=>?_⟩
  ·obtain⟨y,E⟩:=U h
   rw [z] at y
   split at y
   ·omega
   ·rename_i hn
    refine⟨y,fun s f=>?_⟩
    rcases List.mem_cons.1 f with rfl | f
    ·omega
    ·exact E s f
  ·obtain⟨y,E,G⟩:=V h
   by_cases I:0≤far.getD x.toNat (-1)∧(b<0∨far.getD x.toNat (-1)<b)
   ·rw [if_pos I] at z
    refine⟨?_,?_,fun s f=>?_⟩
    ·rcases y with y | ⟨s,f,y⟩
     ·exact .inr ⟨x,List.mem_cons_self,by omega⟩
     ·exact .inr ⟨s,List.mem_cons_of_mem _ f,y⟩
    ·omega
    ·rcases List.mem_cons.1 f with rfl | f
     ·omega
     ·exact G s f
   ·rw [if_neg I] at z
    subst z
    refine⟨?_,E,fun s f=>?_⟩
    ·rcases y with y | ⟨s,f,y⟩
     ·exact .inl y
     ·exact .inr ⟨s,List.mem_cons_of_mem _ f,y⟩
    ·rcases List.mem_cons.1 f with rfl | f
     ·omega
     ·exact G s f
theorem NF.Far.ge {a:NF} {far:List Int} (h:a.Far far) (q:Nat):-1≤far.getD q (-1):=by
 rcases Nat.lt_or_ge q a.n with f | f
 ·rcases h.at_ q f with⟨y,_⟩ | ⟨k,y,_⟩ <;> omega
 ·rw [List.getD_eq_getElem?_getD,List.getElem?_eq_none (by rw [h.len]; exact f)]
  exact Int.le_refl _
def NF.shortR (a:NF) (far:List Int):Option (List Nat):=
 if BQ far (-1) a.start<0 then none else some (a.shortW far (BQ far (-1) a.start).toNat (AH far a.st (BQ far (-1) a.start).toNat))
theorem NF.st_get {a:NF} {q:Nat} (f:q<a.n):a.st.getD q false=decide ((q:Int)∈a.start):=getD_some (CS f)
theorem NF.start_lev {a:NF} {far:List Int} (h:a.Far far) (C:a.OK) {k:Nat} (hk:BQ far (-1) a.start=(k:Int)):a.Lev far (AH far a.st k) k:=by
 obtain⟨_,_,E⟩:=GG h.ge a.start (-1) (by omega)
 obtain⟨f,_,_⟩:=E (by omega)
 rcases f with f | ⟨s,y,f⟩
 ·omega
 ·obtain⟨q,rfl,F⟩:=Dc (C.start s y)
  have z:q<a.n:=by simpa using F
  refine NF.Lev.cut h a.st_len (EL.2 ⟨q,by simp [AH,a.st_len,z],Dw.2 ⟨?_,?_⟩⟩)
  ·rw [NF.st_get z]; simpa using y
  ·have:((q:Int)).toNat=q:=by omega
   rw [this] at f
   rw [f,hk]
theorem NF.shortR_ok {a:NF} {far:List Int} (C:a.Far far) (a8:a.OK):a.Short (a.shortR far):=by
  obtain⟨U,I,h3⟩:=GG C.ge a.start (-1) (by omega)
  have hB:∀w,okW a.L w→a.lang w=true→∃s:Nat,s<a.n∧(s:Int)∈a.start∧a.B w.length s=true:=fun w V h=>by
    obtain⟨s,y,z,f⟩:=NF.B_of w V h
    rw [NF.st_get y] at z
    exact⟨s,y,by simpa using z,f⟩
  unfold NF.shortR
  split
  · rename_i E
    refine⟨fun _ w V=>?_,fun w h=>by cases h⟩
    rcases f:a.lang w with _ | _
    · rfl
    · obtain⟨s,y,z,f⟩:=hB w V f
      have:=(I E).2 _ z
      have e:((s:Int)).toNat=s:=by omega
      rw [e] at this
      rcases C.at_ s y with⟨_,J⟩ | ⟨k,J,_⟩
      · rw [J] at f; exact absurd f (by simp)
      · omega
  · rename_i M
    obtain⟨k,hk⟩:=Int.eq_ofNat_of_zero_le (show 0≤BQ far (-1) a.start by omega)
    have hL:=NF.start_lev C a8 hk
    obtain⟨h4,J,h6⟩:=NF.shortW_spec C k _ hL
    have ab:(BQ far (-1) a.start).toNat=k:=by omega
    rw [ab]
    refine⟨fun h=>(by cases h),fun w h=>?_⟩
    injection h with h
    have ad:∀v,a.has (AG a.after (AH far a.st k) v)=true→a.lang v=true:=fun v F=>NF.has_mono (NF.run_mono v (m':=a.st) fun q hq=>(Dw.1 hq).1) F
    subst h
    refine⟨h4,ad _ h6,fun v F hA=>?_⟩
    rw [J]
    obtain⟨s,y,z,f⟩:=hB v F hA
    have ah:(k:Int)≤v.length:=by
      have:=(h3 (by omega)).2.2 _ z
      have e:((s:Int)).toNat=s:=by omega
      rw [e] at this
      rcases C.at_ s y with⟨_,G⟩ | ⟨j,G,W⟩
      · rw [G] at f; exact absurd f (by simp)
      · have:j≤v.length:=by
          rcases Nat.lt_or_ge v.length j with E | M
          · rw [W.2 _ E] at f; exact absurd f (by simp)
          · exact M
        omega
    rcases Nat.lt_or_ge k v.length with E | ai
    · exact .inl E
    · have Z:v.length=k:=by omega
      refine .inr ⟨Z.symm,?_⟩
      refine NF.shortW_first C k _ v hL F Z ?_
      obtain⟨s,y,z,a6⟩:=NF.single v (m:=a.st) hA
      refine a6 _ (Dw.2 ⟨z,?_⟩)
      have O:a.B k s=true:=by
        obtain⟨s',af,U,I⟩:=NF.B_of v (m:=BF a.n [(s:Int)]) F (a6 _ (by rw [getD_some (CS y)]; simp))
        rw [getD_some (CS af)] at U
        have:s'=s:=by have:(s':Int)=(s:Int):=by simpa using U
                      omega
        rw [Z] at I
        rwa [this] at I
      rw [NF.st_get y] at z
      have ag:=(h3 (by omega)).2.2 _ (by simpa using z)
      have e:((s:Int)).toNat=s:=by omega
      rw [e] at ag
      rcases C.at_ s y with⟨_,G⟩ | ⟨j,G,W⟩
      · rw [G] at O; exact absurd O (by simp)
      · have:j≤k:=by
          rcases Nat.lt_or_ge k j with E | M
          · rw [W.2 _ E] at O; exact absurd O (by simp)
          · exact M
        omega
structure NF.Rel (a:NF) (es:List (Nat×Nat)) (far:List Int) (d j:Nat):Prop where
 len:far.length=a.n
 low:∀q k,q<a.n→k<d→(far.getD q (-1)=(k:Int)↔a.Dist q k)
 val:∀q,q<a.n→far.getD q (-1)= -1∨∃k:Nat,far.getD q (-1)=(k:Int)∧k≤d∧a.Dist q k
 done:∀e∈es.take j,far.getD e.2 (-1)+1=(d:Int)→far.getD e.1 (-1)≠-1
section
variable {a:NF} {es:List (Nat×Nat)} {far:List Int} {d j:Nat}
theorem NF.Rel.step (h:a.Rel es far d j) (hd:0<d) (U:∀e,e∈es↔e.1<a.n∧e.2<a.n∧a.edge e.1 e.2) {q y:Nat} (E:es[j]?=some (q,y)):
  a.Rel es (if far.getD q (-1)<0∧far.getD y (-1)=(d:Int) - 1 then far.set q (d:Int) else far) d (j+1):=by
 obtain⟨J,M,x,V,W⟩:=(U _).1 (List.mem_of_getElem? E)
 by_cases G:far.getD q (-1)<0∧far.getD y (-1)=(d:Int) - 1
 ·rw [if_pos G]
  have Z:q<far.length:=by rw [h.len]; exact J
  have F:∀r,(far.set q (d:Int)).getD r (-1)=if r=q then (d:Int) else far.getD r (-1):=fun r=>Gn Z
  have a2:a.Dist y (d - 1):=(h.low y (d - 1) M (by omega)).1 (by omega)
  have O:∀k,k<d→¬a.Dist q k:=fun k hk C=>by
   have:=(h.low q k J hk).2 C; omega
  have C:a.Dist q d:=by
   have hB:a.B d q=true:=by
    have:=NF.B_succ (a:=a) (d:=d - 1) (q:=q)
    rw [show d - 1+1=d by omega] at this
    exact this.2 ⟨x,y,V,M,W,a2.1⟩
   refine⟨hB,fun e E=>?_⟩
   rcases hb:a.B e q with _ | _
   ·rfl
   ·obtain⟨j,hj,a5⟩:=NF.dist_of e hb
    exact absurd a5 (O j (by omega))
  refine⟨by rw [List.length_set]; exact h.len,fun r k I hk=>?_,fun r I=>?_,fun e f z=>?_⟩
  ·rw [F]
   split
   ·rename_i e; subst e
    exact⟨fun e=>by omega,fun C=>absurd C (O k hk)⟩
   ·exact h.low r k I hk
  ·rw [F]
   split
   ·rename_i e; subst e
    exact .inr ⟨d,rfl,Nat.le_refl _,C⟩
   ·exact h.val r I
  ·rw [F]
   split
   ·omega
   ·rename_i hne
    rw [F] at z
    rw [List.take_add_one,E] at f
    rcases List.mem_append.1 f with f | f
    ·split at z
     ·omega
     ·exact h.done e f z
    ·have:e=(q,y):=by simpa using f
     subst this
     exact absurd rfl hne
 ·rw [if_neg G]
  refine⟨h.len,h.low,h.val,fun e f z=>?_⟩
  rw [List.take_add_one,E] at f
  rcases List.mem_append.1 f with f | f
  ·exact h.done e f z
  ·have:e=(q,y):=by simpa using f
   subst this
   intro h2
   have a8:far.getD y (-1)+1=(d:Int):=z
   have a9:far.getD q (-1)= -1:=h2
   exact G ⟨by omega,by omega⟩
theorem NF.Rel.next (h:a.Rel es far d es.length) (hd:0<d) (I:∀e,e∈es↔e.1<a.n∧e.2<a.n∧a.edge e.1 e.2):a.Rel es far (d+1) 0:=by
 refine⟨h.len,fun q k z hk=>?_,fun q z=>?_,fun e J=>by simp at J⟩
 ·rcases Nat.lt_or_ge k d with M | a2
  ·exact h.low q k z M
  ·have:k=d:=by omega
   subst this
   constructor
   ·intro e
    rcases h.val q z with f | ⟨j,f,_,C⟩
    ·omega
    ·have:j=k:=by omega
     subst this
     exact C
   ·intro F
    obtain⟨E,rfl⟩:∃E,k=E+1:=⟨k - 1,by omega⟩
    obtain⟨x,y,O,G,U,V⟩:=F.next
    have a3:=(h.low y E G (by omega)).2 V
    have W:(q,y)∈es:=(I _).2 ⟨z,G,x,O,U⟩
    have:=h.done (q,y) (by rw [List.take_length]; exact W) (by simp only; omega)
    rcases h.val q z with f | ⟨j,f,_,C⟩
    ·exact absurd f this
    ·rw [f,F.unique C]
 ·rcases h.val q z with f | ⟨k,f,C,Z⟩
  ·exact .inl f
  ·exact .inr ⟨k,f,by omega,Z⟩
theorem NF.Rel.isFar (h:a.Rel es far (a.n+1) 0):a.Far far:=by
 refine⟨h.len,fun q f=>?_⟩
 rcases h.val q f with y | ⟨k,y,_,C⟩
 ·refine .inl ⟨y,fun d=>?_⟩
  rcases E:a.B d q with _ | _
  ·rfl
  ·obtain⟨k,hk,z⟩:=NF.dist_of d E
   have:=(h.low q k f (by have:=z.lt f; omega)).2 z
   omega
 ·exact .inr ⟨k,y,C⟩
end
theorem NF.rel0 (a:NF) (es:List (Nat×Nat)):a.Rel es (a.far0 a.n) 1 0:=by
 have z:∀q,q<a.n→(a.far0 a.n).getD q (-1)=if a.acc.getD q false then 0 else -1:=fun q f=>by
  rw [getD_some (NF.far0_at f),if_pos f]
 have C:∀q,a.Dist q 0↔a.acc.getD q false=true:=fun q=>⟨fun h=>h.1,fun h=>⟨h,fun e y=>absurd y (by omega)⟩⟩
 refine⟨a.far0_len _,fun q k f hk=>?_,fun q f=>?_,fun e y=>by simp at y⟩
 ·have:k=0:=by omega
  subst this
  rw [z q f,C]
  rcases a.acc.getD q false with _ | _ <;> simp
 ·rw [z q f]
  rcases E:a.acc.getD q false with _ | _
  ·exact .inl rfl
  ·exact .inr ⟨0,rfl,by omega,(C q).2 E⟩
end Go.Proofs.YtlakpndhhelliaaGreatDoor
namespace Go.Proofs.YtlakpndhhelliaaGreatDoor
def WA.afterE (a:WA) (m:List Bool) (x:Int) (k:Nat):List Bool:=(List.range a.n).map fun q:Nat=>(a.edges.take k).any fun e=>decide (e.letter=x)&&m.getD e.frm.toNat false&&decide (e.to=(q:Int))
theorem WA.afterE_len (a:WA) (m:List Bool) (x:Int) (k:Nat):(a.afterE m x k).length=a.n:=by simp [WA.afterE]
theorem WA.afterE_get {a:WA} {m:List Bool} {x:Int} {k q:Nat} (f:q<a.n):(a.afterE m x k)[q]?=some ((a.edges.take k).any fun e=>decide (e.letter=x)&&m.getD e.frm.toNat false&&decide (e.to=(q:Int))):=by
 unfold WA.afterE
 rw [List.getElem?_map,List.getElem?_range f]
 rfl
theorem WA.afterE_zero (a:WA) (m:List Bool) (x:Int):a.afterE m x 0=List.replicate a.n false:=by
 apply List.ext_getElem?
 intro q
 rcases Nat.lt_or_ge q a.n with f | f
 ·rw [afterE_get f,List.getElem?_replicate,if_pos f]; simp
 ·rw [List.getElem?_eq_none (by rw [afterE_len]; exact f),List.getElem?_eq_none (by simpa using f)]
theorem WA.afterE_step {a:WA} {m:List Bool} {x:Int} {k:Nat} {e:Edg} (y:a.edges[k]?=some e) (ht:0≤e.to):a.afterE m x (k+1)=if decide (e.letter=x)&&m.getD e.frm.toNat false then (a.afterE m x k).set e.to.toNat true else a.afterE m x k:=by
 apply List.ext_getElem?
 intro q
 rcases Nat.lt_or_ge q a.n with f | f
 ·rw [afterE_get f,List.take_add_one,y,List.any_append]
  simp only [Option.toList_some,List.any_cons,List.any_nil,Bool.or_false]
  rcases z:(decide (e.letter=x)&&m.getD e.frm.toNat false) with _ | _
  ·rw [if_neg (by decide),afterE_get f]; simp
  ·rw [if_pos rfl,List.getElem?_set,afterE_len]
   by_cases h:e.to.toNat=q
   ·rw [if_pos h,if_pos (by omega)]
    have:e.to=(q:Int):=by omega
    simp [this]
   ·rw [if_neg h,afterE_get f]
    have:decide (e.to=(q:Int))=false:=by simp; omega
    simp [this]
 ·rw [List.getElem?_eq_none (by rw [afterE_len]; exact f),List.getElem?_eq_none]
  split <;> simp [afterE_len,f]
theorem WA.afterE_all {a:WA} (h:a.In) {m:List Bool} {x k:Nat} (G:x<a.L) (hk:a.edges.length≤k):a.afterE m (x:Int) k=a.nf.after m x:=by
 apply List.ext_getElem?
 intro q
 rcases Nat.lt_or_ge q a.n with z | z
 ·rw [afterE_get z,List.take_of_length_le hk]
  unfold NF.after
  rw [a.nf_n,List.getElem?_map,List.getElem?_range z]
  simp only [Option.map_some]
  congr 1
  rw [Bool.eq_iff_iff,List.any_eq_true,List.any_eq_true]
  constructor
  ·rintro⟨e,C,y⟩
   simp only [Bool.and_eq_true,decide_eq_true_eq] at y
   obtain⟨⟨y,E⟩,F⟩:=y
   obtain⟨M,V,W⟩:=h.edge e C
   obtain⟨f,I,J⟩:=Dc M
   refine⟨f,List.mem_range.2 J,?_⟩
   rw [I] at E
   rw [a.nf_to J G]
   simp only [Bool.and_eq_true,decide_eq_true_eq]
   exact⟨by simpa using E,WA.mem_to.2 ⟨e,C,I,y,F⟩⟩
  ·rintro⟨s,O,y⟩
   rw [a.nf_to (List.mem_range.1 O) G] at y
   simp only [Bool.and_eq_true,decide_eq_true_eq] at y
   obtain⟨e,C,E,F,U⟩:=WA.mem_to.1 y.2
   refine⟨e,C,?_⟩
   simp only [Bool.and_eq_true,decide_eq_true_eq]
   refine⟨⟨F,?_⟩,U⟩
   rw [E]
   simpa using y.1
 ·rw [List.getElem?_eq_none (by rw [afterE_len]; exact z),List.getElem?_eq_none (by rw [NF.after_len,a.nf_n]; exact z)]
theorem WA.nf_acc {a:WA} {s:Nat} (f:s<a.n):a.nf.acc.getD s false=decide ((s:Int)∈a.accept):=getD_some (CS f)
theorem WA.meets_has {a:WA} (h:a.In) (m:List Bool):(a.accept.any fun s=>m.getD s.toNat false)=a.nf.has m:=by
 rw [Bool.eq_iff_iff,List.any_eq_true,NF.has_iff]
 constructor
 ·rintro⟨s,z,y⟩
  obtain⟨q,rfl,f⟩:=Dc (h.accept s z)
  refine⟨q,by rw [a.nf_n]; exact f,by simpa using y,?_⟩
  rw [WA.nf_acc f]
  simpa using z
 ·rintro⟨q,f,y,C⟩
  rw [a.nf_n] at f
  rw [WA.nf_acc f] at C
  exact⟨(q:Int),by simpa using C,by simpa using y⟩
theorem WA.st_marks (a:WA):a.nf.st=BF a.n a.start:=by unfold NF.st; rw [a.nf_n]; rfl
theorem Ng {n:Int}:∀{w:List Int},(∀x∈w,inN n x=true)→∃u:List Nat,w=u.map (fun x:Nat=>(x:Int))∧okW n.toNat u
 | [],_=>⟨[],rfl,okW.nil _⟩
 | x::w,h=>by
  obtain⟨u,rfl,f⟩:=Ng (w:=w) fun y z=>h y (List.mem_cons_of_mem _ z)
  obtain⟨k,rfl,hk⟩:=Dc (h x List.mem_cons_self)
  exact⟨k::u,rfl,f.cons hk⟩
theorem GM {E:Type} {p:Nat→E→Bool} (G:∀s y e,p s e=true→p y e=true→s=y) (f:List Nat) (C:f.Nodup):∀es:List E,(f.flatMap fun s=>es.filter (p s)).length≤es.length
 | []=>by
  have:(f.flatMap fun s=>([]:List E).filter (p s))=[]:=List.flatMap_eq_nil_iff.2 fun _ _=>rfl
  rw [this]
  exact Nat.le_refl _
 | e::es=>by
  have I:=GM G f C es
  have M:∀f:List Nat,f.Nodup→(f.flatMap fun s=>(e::es).filter (p s)).length≤(f.flatMap fun s=>es.filter (p s)).length+1∧((∀s∈f,p s e=false)→(f.flatMap fun s=>(e::es).filter (p s)).length≤(f.flatMap fun s=>es.filter (p s)).length):=by
   intro f
   induction f with
   | nil=>simp
   | cons s f I=>
    intro C
    obtain⟨O,U⟩:=List.nodup_cons.1 C
    obtain⟨W,J⟩:=I U
    rw [List.flatMap_cons,List.flatMap_cons,List.length_append,List.length_append,List.filter_cons]
    by_cases z:p s e=true
    ·have V:∀y∈f,p y e=false:=fun y F=>by
      rw [Bool.eq_false_iff]
      intro h
      exact O (by rw [G s y e z h]; exact F)
     have:=J V
     rw [if_pos z,List.length_cons]
     refine⟨by omega,fun h=>?_⟩
     rw [h s List.mem_cons_self] at z
     cases z
    ·rw [if_neg z]
     refine⟨by omega,fun h=>?_⟩
     have:=J fun y F=>h y (List.mem_cons_of_mem _ F)
     omega
  have:=(M f C).1
  rw [List.length_cons]
  omega
theorem WA.ps_len (a:WA):(a.nf.psS a.nf.n).length≤a.edges.length:=by
 have f:∀s,s<a.n→(a.nf.psR s a.nf.L).length≤(a.edges.filter fun e=>decide (e.frm=(s:Int))).length:=fun s C=>by
  have e:a.nf.psR s a.nf.L=((List.range a.L).flatMap fun x=>(a.edges.filter fun e=>decide (e.frm=(s:Int))).filter fun e=>decide (e.letter=((x:Nat):Int))).map fun e=>(s,e.to):=by
   unfold NF.psR
   rw [List.map_flatMap]
   show(List.range a.L).flatMap _=_
   simp only [List.flatMap]
   congr 1
   refine List.map_congr_left fun x E=>?_
   rw [a.nf_to C (List.mem_range.1 E)]
   unfold WA.to
   rw [List.filter_filter,List.map_map]
   congr 1
   refine List.filter_congr fun e _=>Bool.and_comm _ _
  rw [e,List.length_map]
  refine GM (p:=fun(x:Nat) (e:Edg)=>decide (e.letter=(x:Int))) (fun s F e f y=>?_) _ List.nodup_range _
  have f:=of_decide_eq_true f
  have y:=of_decide_eq_true y
  omega
 have y:∀z:List Nat,(∀s∈z,s<a.n)→(z.flatMap fun s=>a.nf.psR s a.nf.L).length≤(z.flatMap fun s:Nat=>a.edges.filter fun e=>decide (e.frm=(s:Int))).length:=by
  intro z
  induction z with
  | nil=>simp
  | cons s z ih=>
   intro h
   have:=ih fun x E=>h x (List.mem_cons_of_mem _ E)
   have:=f s (h s List.mem_cons_self)
   rw [List.flatMap_cons,List.flatMap_cons,List.length_append,List.length_append]
   omega
 have G:=y (List.range a.n) fun s C=>List.mem_range.1 C
 have I:=GM (p:=fun(s:Nat) (e:Edg)=>decide (e.frm=(s:Int))) (fun s F e f y=>by
  have f:=of_decide_eq_true f
  have y:=of_decide_eq_true y
  omega) (List.range a.n) List.nodup_range a.edges
 rw [a.nf_n]
 unfold NF.psS
 exact Nat.le_trans G I
end Go.Proofs.YtlakpndhhelliaaGreatDoor
namespace Go.Proofs.YtlakpndhhelliaaGreatDoor
section
variable {L:Nat} {t:List (List Nat)} {ac:List Bool}
theorem F8:(AZ L t ac).n=ac.length:=by simp [WA.n,AZ]
theorem HV:(AZ L t ac).L=L:=by simp [WA.L,AZ]
theorem Ha {e:Edg}:e∈(AZ L t ac).edges↔∃q x,q<ac.length∧x<L∧e=⟨(q:Int),(x:Int),(dnx t q x:Int)⟩:=by
 simp only [AZ,List.mem_flatMap,List.mem_range,List.mem_map]
 constructor
 ·rintro⟨q,f,x,h,rfl⟩
  exact⟨q,x,f,h,rfl⟩
 ·rintro⟨q,x,f,h,rfl⟩
  exact⟨q,f,x,h,rfl⟩
theorem RE:(AZ L t ac).edges.length=ac.length*L:=by
 have:∀f:List Nat,(f.flatMap fun q:Nat=>(List.range L).map fun x:Nat=>(⟨(q:Int),(x:Int),(dnx t q x:Int)⟩:Edg)).length=f.length*L:=by
  intro f
  induction f with
  | nil=>simp
  | cons q f ih=>rw [List.flatMap_cons,List.length_append,ih,List.length_map,List.length_range,List.length_cons,Nat.add_mul]; omega
 have h:=this (List.range ac.length)
 rw [List.length_range] at h
 exact h
theorem RJ (m:List Bool):(AC m).length≤m.length:=by
 unfold AC
 rw [List.length_map]
 have:=List.length_filter_le (fun q=>m.getD q false) (List.range m.length)
 rwa [List.length_range] at this
theorem PR {m:List Bool} {x:Int} (h:x∈AC m):inN (m.length:Int) x=true:=by
 obtain⟨q,rfl,f⟩:=DE.1 h
 rw [Ds]
 have:=AO f
 omega
theorem OG (h:DOK L t ac):(AZ L t ac).In:=by
 refine⟨fun x f=>?_,fun x f=>PR f,fun e y=>?_⟩
 ·have:x=0:=by simpa [AZ] using f
  subst this
  rw [Ds]
  have:=h.pos
  exact⟨Int.le_refl _,by show(0:Int)<(ac.length:Int); omega⟩
 ·obtain⟨q,x,z,f,rfl⟩:=Ha.1 y
  have:=h.lt z f
  exact⟨Ds.2 ⟨Int.natCast_nonneg q,by show(q:Int)<(ac.length:Int); omega⟩,Ds.2 ⟨Int.natCast_nonneg x,by show(x:Int)<(L:Int); omega⟩,Ds.2 ⟨Int.natCast_nonneg (dnx t q x),by show(dnx t q x:Int)<(ac.length:Int); omega⟩⟩
theorem RL (h:DOK L t ac) (f:1≤L) (y:L≤8) (z:ac.length≤400):(AZ L t ac).ok=true:=
 WA.ok_iff.2 ⟨⟨by show(1:Int)≤(L:Int); omega,by show(L:Int)≤8; omega,by show(0:Int)≤(ac.length:Int); omega,by show(ac.length:Int)≤400; omega⟩,OG h⟩
theorem JC {s x:Nat} (f:s<ac.length) (h:x<L) {y:Int}:y∈(AZ L t ac).nf.to s x↔y=(dnx t s x:Int):=by
  rw [WA.nf_to _ (by rw [F8]; exact f) (by rw [HV]; exact h),WA.mem_to]
  constructor
  · rintro⟨e,C,E,F,rfl⟩
    obtain⟨q,z,J,M,rfl⟩:=Ha.1 C
    have G:q=s:=by have:(q:Int)=(s:Int):=E
                   omega
    have I:z=x:=by have:(z:Int)=(x:Int):=F
                   omega
    rw [G,I]
  · rintro rfl
    exact⟨_,Ha.2 ⟨s,x,f,h,rfl⟩,rfl,rfl,rfl⟩
theorem EG {n q s:Nat} (f:s<n):(BF n [(q:Int)]).getD s false=decide (s=q):=by
 rw [getD_some (CS f)]
 by_cases h:s=q
 ·simp [h]
 ·have:(s:Int)≠(q:Int):=by omega
  simp [h,this]
theorem J8 {q x:Nat} (C:q<ac.length) (E:x<L):(AZ L t ac).nf.after (BF ac.length [(q:Int)]) x=BF ac.length [(dnx t q x:Int)]:=by
 have F:(AZ L t ac).nf.n=ac.length:=by rw [WA.nf_n,F8]
 apply List.ext_getElem?
 intro y
 rcases Nat.lt_or_ge y ac.length with h | h
 ·rw [CS h]
  unfold NF.after
  rw [F,List.getElem?_map,List.getElem?_range h]
  simp only [Option.map_some]
  congr 1
  rw [Bool.eq_iff_iff,List.any_eq_true]
  constructor
  ·rintro⟨s,z,f⟩
   have z:=List.mem_range.1 z
   rw [EG z] at f
   simp only [Bool.and_eq_true,decide_eq_true_eq] at f
   obtain⟨rfl,f⟩:=f
   rw [JC z E] at f
   simpa using f
  ·intro f
   refine⟨q,List.mem_range.2 C,?_⟩
   rw [EG C]
   simp only [decide_true,Bool.true_and,decide_eq_true_eq]
   rw [JC C E]
   simpa using f
 ·rw [List.getElem?_eq_none (by rw [NF.after_len,F]; exact h),List.getElem?_eq_none (by rw [C0]; exact h)]
theorem J5:(AZ L t ac).nf.st=BF ac.length [((0:Nat):Int)]:=by
 rw [WA.st_marks,F8]; rfl
theorem HX (h:DOK L t ac):∀(w:List Nat) (q:Nat),okW L w→q<ac.length→AG (AZ L t ac).nf.after (BF ac.length [(q:Int)]) w=BF ac.length [((AG (dnx t) q w:Nat):Int)]
 | [],_,_,_=>rfl
 | x::w,q,hw,hq=>by
  have f:=hw x List.mem_cons_self
  show AG _ ((AZ L t ac).nf.after _ x) w=BF _ [((AG (dnx t) (dnx t q x) w:Nat):Int)]
  rw [J8 hq f]
  exact HX h w _ (fun y z=>hw y (List.mem_cons_of_mem _ z)) (h.lt hq f)
theorem Ob {q:Nat} (y:q<ac.length):(AZ L t ac).nf.has (BF ac.length [(q:Int)])=dac ac q:=by
 have C:(AZ L t ac).n=ac.length:=F8
 have E:∀s,s<ac.length→(AZ L t ac).nf.acc.getD s false=dac ac s:=fun s f=>by
  rw [WA.nf_acc (by rw [C]; exact f)]
  obtain⟨b,z⟩:=Ay f
  unfold dac
  rw [getD_some z]
  have:((s:Int)∈(AZ L t ac).accept)↔b=true:=by
   show(s:Int)∈AC ac↔_
   rw [DE]
   constructor
   ·rintro⟨r,M,h⟩
    have:s=r:=by omega
    subst this
    exact Option.some.inj (z.symm.trans h)
   ·rintro rfl
    exact⟨s,rfl,z⟩
  by_cases h:b=true
  ·rw [h]; simpa using this.2 h
  ·have G:b=false:=by simpa using h
   rw [G]
   simp only [decide_eq_false_iff_not]
   exact fun I=>h (this.1 I)
 rw [Bool.eq_iff_iff,NF.has_iff,WA.nf_n,C]
 constructor
 ·rintro⟨s,f,F,J⟩
  rw [EG f] at F
  have:s=q:=by simpa using F
  subst this
  rwa [E s f] at J
 ·intro h
  exact⟨q,y,by rw [EG y]; simp,by rw [E q y]; exact h⟩
theorem Ry (h:DOK L t ac) {w:List Nat} (f:okW L w):(AZ L t ac).lang w=dac ac (AG (dnx t) 0 w):=by
 unfold WA.lang NF.lang
 rw [J5,HX h w 0 f h.pos,Ob (h.run f)]
theorem RA (h:DOK L t ac) {k:Nat} (hk:ac.length≤k):¬(AZ L t ac).nf.Large k:=by
 rintro⟨i,l,F,V⟩
 have J:(AZ L t ac).nf.L=L:=HV (t:=t) (ac:=ac)
 rw [J,J5] at F
 have M:∀q y,q<ac.length→y<ac.length→BF ac.length [(q:Int)]=BF ac.length [(y:Int)]→q=y:=fun q y f W e=>by
  have:=EG (q:=y) f
  rw [←e,EG f] at this
  simpa using this
 obtain⟨m,O,G⟩:=Exp.rel (R:=fun(s:List Bool) (q:Nat)=>q<ac.length∧s=BF ac.length [(q:Int)]) (δ':=dnx t) (t0:=0) (fun a b a' Z z C=>by
  obtain⟨z,rfl⟩:=z
  obtain⟨C,rfl⟩:=C
  exact⟨fun e=>M _ _ z C e,fun e=>by rw [e]⟩) ⟨h.pos,rfl⟩ (fun s q x I E=>by
  obtain⟨f,rfl⟩:=E
  exact⟨h.lt f I,J8 f I⟩) F
 have U:=DY m (List.range ac.length) O.inv.nodup fun q f=>by
  obtain⟨s,_,E,_⟩:=G.right f
  exact List.mem_range.2 E
 rw [List.length_range] at U
 have:=G.length
 omega
end
end Go.Proofs.YtlakpndhhelliaaGreatDoor
namespace Go.Proofs.YtlakpndhhelliaaGreatDoor
structure Mv where
 frm:Int
 inn:Int
 out:Int
 to:Int
structure TR where
 letters:Int
 states:Int
 start:List Int
 accept:List Int
 moves:List Mv
def TR.moveB (t:TR) (e:Mv):Bool:=inN t.states e.frm&&inN t.states e.to&&(inN t.letters e.inn&&inN t.letters e.out)
def TR.head (t:TR):Bool:=decide (1≤t.letters)&&decide (t.letters≤8)&&decide (0≤t.states)&&decide (t.states≤400)
def TR.ok (t:TR):Bool:=t.head&&t.start.all (inN t.states)&&t.accept.all (inN t.states)&&t.moves.all t.moveB
structure TR.In (t:TR):Prop where
 start:∀x∈t.start,inN t.states x=true
 accept:∀x∈t.accept,inN t.states x=true
 move:∀e∈t.moves,inN t.states e.frm=true∧inN t.letters e.inn=true∧inN t.letters e.out=true∧inN t.states e.to=true
theorem TR.ok_iff {t:TR}:t.ok=true↔(1≤t.letters∧t.letters≤8∧0≤t.states∧t.states≤400)∧t.In:=by
 simp only [TR.ok,TR.head,Bool.and_eq_true,decide_eq_true_eq,List.all_eq_true,TR.moveB]
 constructor
 ·rintro⟨⟨⟨⟨⟨⟨y,z⟩,C⟩,E⟩,F⟩,G⟩,f⟩
  exact⟨⟨y,z,C,E⟩,F,G,fun e h=>⟨(f e h).1.1,(f e h).2.1,(f e h).2.2,(f e h).1.2⟩⟩
 ·rintro⟨⟨y,z,C,E⟩,F,G,f⟩
  exact⟨⟨⟨⟨⟨⟨y,z⟩,C⟩,E⟩,F⟩,G⟩,fun e h=>⟨⟨(f e h).1,(f e h).2.2.2⟩,(f e h).2.1,(f e h).2.2.1⟩⟩
def TR.n (t:TR):Nat:=t.states.toNat
def TR.L (t:TR):Nat:=t.letters.toNat
def TR.nextM (t:TR) (m:List Bool) (x y:Int) (k:Nat):List Bool:=(List.range t.n).map fun q:Nat=>(t.moves.take k).any fun e=>m.getD e.frm.toNat false&&decide (e.inn=x)&&decide (e.out=y)&&decide (e.to=(q:Int))
theorem TR.nextM_len (t:TR) (m:List Bool) (x y:Int) (k:Nat):(t.nextM m x y k).length=t.n:=by simp [TR.nextM]
theorem TR.nextM_get {t:TR} {m:List Bool} {x y:Int} {k q:Nat} (f:q<t.n):(t.nextM m x y k)[q]?=some ((t.moves.take k).any fun e=>m.getD e.frm.toNat false&&decide (e.inn=x)&&decide (e.out=y)&&decide (e.to=(q:Int))):=by
 unfold TR.nextM
 rw [List.getElem?_map,List.getElem?_range f]
 rfl
theorem TR.nextM_zero (t:TR) (m:List Bool) (x y:Int):t.nextM m x y 0=List.replicate t.n false:=by
 apply List.ext_getElem?
 intro q
 rcases Nat.lt_or_ge q t.n with f | f
 ·rw [nextM_get f,List.getElem?_replicate,if_pos f]; simp
 ·rw [List.getElem?_eq_none (by rw [nextM_len]; exact f),List.getElem?_eq_none (by simpa using f)]
theorem TR.nextM_step {t:TR} {m:List Bool} {x y:Int} {k:Nat} {e:Mv} (z:t.moves[k]?=some e) (ht:0≤e.to):t.nextM m x y (k+1)=if m.getD e.frm.toNat false&&decide (e.inn=x)&&decide (e.out=y) then (t.nextM m x y k).set e.to.toNat true else t.nextM m x y k:=by
 apply List.ext_getElem?
 intro q
 rcases Nat.lt_or_ge q t.n with f | f
 ·rw [nextM_get f,List.take_add_one,z,List.any_append]
  simp only [Option.toList_some,List.any_cons,List.any_nil,Bool.or_false]
  rcases C:(m.getD e.frm.toNat false&&decide (e.inn=x)&&decide (e.out=y)) with _ | _
  ·rw [if_neg (by decide),nextM_get f]; simp
  ·rw [if_pos rfl,List.getElem?_set,nextM_len]
   by_cases h:e.to.toNat=q
   ·rw [if_pos h,if_pos (by omega)]
    have:e.to=(q:Int):=by omega
    simp [this]
   ·rw [if_neg h,nextM_get f]
    have:decide (e.to=(q:Int))=false:=by simp; omega
    simp [this]
 ·rw [List.getElem?_eq_none (by rw [nextM_len]; exact f),List.getElem?_eq_none]
  split <;> simp [nextM_len,f]
def TR.setK (t:TR) (u v:List Int) (k:Nat):List Bool:=((u.zip v).take k).foldl (fun m p=>t.nextM m p.1 p.2 t.moves.length) (BF t.n t.start)
theorem TR.setK_len (t:TR) (u v:List Int) (k:Nat):(t.setK u v k).length=t.n:=by
 have:∀(l:List (Int×Int)) (m:List Bool),m.length=t.n→(l.foldl (fun m p=>t.nextM m p.1 p.2 t.moves.length) m).length=t.n:=by
  intro l
  induction l with
  | nil=>exact fun _ h=>h
  | cons p l ih=>exact fun m _=>ih _ (t.nextM_len _ _ _ _)
 exact this _ _ (C0 _ _)
theorem TR.setK_step {t:TR} {u v:List Int} {k:Nat} {x y:Int} (f:u[k]?=some x) (h:v[k]?=some y):t.setK u v (k+1)=t.nextM (t.setK u v k) x y t.moves.length:=by
 have:(u.zip v)[k]?=some (x,y):=by rw [List.getElem?_zip_eq_some]; exact⟨f,h⟩
 unfold TR.setK
 rw [List.take_add_one,this]
 simp
def TR.rel (t:TR) (u v:List Int):Bool:=t.accept.any fun s=>(t.setK u v u.length).getD s.toNat false
end Go.Proofs.YtlakpndhhelliaaGreatDoor
namespace Go.Proofs.YtlakpndhhelliaaGreatDoor
open Go.RowKit
def DJ (e:Edg):Nat→Value
 | 0=>.int .i64 e.frm
 | 1=>.int .i64 e.letter
 | _=>.int .i64 e.to
def Cb (w:World) (B:Nat) (v:Value) (a:WA):Prop:=
 ∃A1 c1 A2 c2 A3 c3,v=.agg #[.int .i64 a.letters,.int .i64 a.states,.slice A1 a.start.length c1,.slice A2 a.accept.length c2,.slice A3 a.edges.length c3]∧
  Sl w B 1 Ai A1 a.start∧Sl w B 1 Ai A2 a.accept∧Sl w B 3 DJ A3 a.edges∧a.start.length≤c1
theorem Cb.keep {w w':World} {B B':Nat} {v:Value} {a:WA} (h:Cb w B v a) (hk:∀p:Addr,p.block<B→w'.cell? p=w.cell? p) (f:B≤B'):Cb w' B' v a:=by
 obtain⟨y,z,C,c2,E,F,e,G,I,J,M⟩:=h
 exact⟨y,z,C,c2,E,F,e,G.keep hk f,I.keep hk f,J.keep hk f,M⟩
theorem Cb.below {w w':World} {B:Nat} {v:Value} {a:WA} (h:Cb w B v a) (f:Below B w w'):Cb w' B v a:=h.keep (fun _ y=>f.cell y) (Nat.le_refl _)
def VSl {D:Type} (R:World→Nat→Value→D→Prop) (w:World) (B:Nat) (A:Option Addr) (ds:List D):Prop:=
 ds.length≤9223372036854775807∧(ds≠[]→∃b off,A=some ⟨b,off,none⟩∧b<B∧∀k d,ds[k]?=some d→∃v,w.cell? ⟨b,off+k,none⟩=some v∧R w B v d)
def FG {D:Type} (R:World→Nat→Value→D→Prop):Prop:=∀{w w':World} {B B':Nat} {v:Value} {d:D},R w B v d→(∀p:Addr,p.block<B→w'.cell? p=w.cell? p)→B≤B'→R w' B' v d
theorem VSl.keep {D:Type} {R:World→Nat→Value→D→Prop} (f:FG R) {w w':World} {B B':Nat} {A:Option Addr} {ds:List D} (h:VSl R w B A ds) (hk:∀p:Addr,p.block<B→w'.cell? p=w.cell? p) (y:B≤B'):VSl R w' B' A ds:=
 ⟨h.1,fun z=>by
  obtain⟨b,C,e,E,F⟩:=h.2 z
  refine⟨b,C,e,by omega,fun k d hd=>?_⟩
  obtain⟨v,G,I⟩:=F k d hd
  exact⟨v,(hk _ E).trans G,f I hk y⟩⟩
theorem VSl.at {D:Type} {R:World→Nat→Value→D→Prop} {w:World} {B:Nat} {A:Option Addr} {ds:List D} (h:VSl R w B A ds) {k:Nat} {d:D} (hk:ds[k]?=some d):
  ∃b f v,A=some ⟨b,f,none⟩∧b<B∧w.cell? ⟨b,f+k,none⟩=some v∧R w B v d:=by
 obtain⟨b,f,e,y,z⟩:=h.2 (by rintro rfl; simp at hk)
 obtain⟨v,C,E⟩:=z k d hk
 exact⟨b,f,v,e,y,C,E⟩
def R1 (w:World) (B:Nat) (v:Value) (l:List Int):Prop:=∃A c,v=.slice A l.length c∧Sl w B 1 Ai A l
theorem R1.keep:FG R1:=by
 rintro w w' B B' v d ⟨A,c,e,h⟩ hk f
 exact⟨A,c,e,h.keep hk f⟩
def Aj (l:List Nat):List Int:=l.map fun x:Nat=>(x:Int)
def R1n (w:World) (B:Nat) (v:Value) (l:List Nat):Prop:=R1 w B v (Aj l)
theorem R1n.keep:FG R1n:=fun h hk f=>R1.keep h hk f
def R2 (w:World) (B:Nat) (v:Value) (t:List (List Int)):Prop:=∃A c,v=.slice A t.length c∧VSl R1 w B A t
theorem R2.keep:FG R2:=by
 rintro w w' B B' v d ⟨A,c,e,h⟩ hk f
 exact⟨A,c,e,VSl.keep (@R1.keep) h hk f⟩
def Cc (w:World) (B:Nat) (v:Value) (a:NF):Prop:=
 ∃A1 c1 A2 c2 A3 c3,v=.agg #[.int .i64 (a.L:Int),.slice A1 a.nx.length c1,.slice A2 a.start.length c2,.slice A3 a.acc.length c3]∧
  VSl R2 w B A1 a.nx∧Sl w B 1 Ai A2 a.start∧Sl w B 1 Dh A3 a.acc∧a.start.length≤c2
theorem Cc.keep {w w':World} {B B':Nat} {v:Value} {a:NF} (h:Cc w B v a) (hk:∀p:Addr,p.block<B→w'.cell? p=w.cell? p) (f:B≤B'):Cc w' B' v a:=by
 obtain⟨y,z,C,c2,E,F,e,G,I,J,M⟩:=h
 exact⟨y,z,C,c2,E,F,e,VSl.keep (@R2.keep) G hk f,I.keep hk f,J.keep hk f,M⟩
theorem Cc.below {w w':World} {B:Nat} {v:Value} {a:NF} (h:Cc w B v a) (f:Below B w w'):Cc w' B v a:=h.keep (fun _ y=>f.cell y) (Nat.le_refl _)
def BG (w:World) (B:Nat) (v:Value) (t:List (List Nat)) (ac:List Bool):Prop:=
 ∃A1 c1 A2 c2,v=.agg #[.slice A1 t.length c1,.slice A2 ac.length c2]∧VSl R1n w B A1 t∧Sl w B 1 Dh A2 ac
theorem BG.keep {w w':World} {B B':Nat} {v:Value} {t:List (List Nat)} {ac:List Bool} (h:BG w B v t ac) (hk:∀p:Addr,p.block<B→w'.cell? p=w.cell? p) (f:B≤B'):BG w' B' v t ac:=by
 obtain⟨y,z,C,c2,e,E,F⟩:=h
 exact⟨y,z,C,c2,e,VSl.keep (@R1n.keep) E hk f,F.keep hk f⟩
theorem BG.below {w w':World} {B:Nat} {v:Value} {t:List (List Nat)} {ac:List Bool} (h:BG w B v t ac) (f:Below B w w'):BG w' B v t ac:=h.keep (fun _ y=>f.cell y) (Nat.le_refl _)
theorem C2 {w:World} {base n B:Nat} {e:TypeId} {v:Value} {l:List Int} (h:w.ownsRow base e 1 v n (l.map (Value.int .i64))) (y:l.length=n) (G:w.heap.size≤B) (I:n≤9223372036854775807):R1 w B v l:=by
 subst y
 rcases h.2 with⟨rfl,z⟩ | ⟨g,C,E,rfl,J,f,M,O,U,ht⟩
 ·have:l=[]:=by simpa using z
  subst this
  exact⟨none,0,rfl,Sl.nil rfl⟩
 ·refine⟨_,C,rfl,by omega,fun _=>⟨g,0,rfl,?_,fun k d hd j V=>?_⟩⟩
  ·have:=(Array.getElem?_eq_some_iff.1 f).1; omega
  ·have F:j=0:=by omega
   subst F
   rw [cell_of_row w g _ E e (0,0) f]
   have hk:=AO hd
   have:(l.map (Value.int .i64))[k]?=some (.int .i64 d):=by rw [List.getElem?_map,hd]; rfl
   rw [←ht,List.getElem?_take] at this
   split at this
   ·simpa [Ai] using this
   ·cases this
theorem Ja {w:World} {base n B:Nat} {e:TypeId} {v:Value} {l:List Bool} (h:w.ownsRow base e 1 v n (l.map Value.bool)) (y:l.length=n) (G:w.heap.size≤B) (I:n≤9223372036854775807):∃A c,v=.slice A l.length c∧Sl w B 1 Dh A l:=by
 subst y
 rcases h.2 with⟨rfl,z⟩ | ⟨g,C,E,rfl,J,f,M,O,U,ht⟩
 ·have:l=[]:=by simpa using z
  subst this
  exact⟨none,0,rfl,Sl.nil rfl⟩
 ·refine⟨_,C,rfl,by omega,fun _=>⟨g,0,rfl,?_,fun k d hd j V=>?_⟩⟩
  ·have:=(Array.getElem?_eq_some_iff.1 f).1; omega
  ·have F:j=0:=by omega
   subst F
   rw [cell_of_row w g _ E e (0,0) f]
   have hk:=AO hd
   have:(l.map Value.bool)[k]?=some (.bool d):=by rw [List.getElem?_map,hd]; rfl
   rw [←ht,List.getElem?_take] at this
   split at this
   ·simpa [Dh] using this
   ·cases this
end Go.Proofs.YtlakpndhhelliaaGreatDoor
namespace Go.Proofs.YtlakpndhhelliaaGreatDoor
open Go.RowKit
theorem Kr {D:Type} {p:D→Bool} {l:List D} {k:Nat} {x:D} (f:l[k]?=some x) (h:(l.take k).all p=true) (y:p x=true):(l.take (k+1)).all p=true:=by
 rw [List.take_add_one,f]; simp [y]; simpa using h
theorem I4 {D:Type} {p:D→Bool} {l:List D} {k:Nat} {x:D} (f:l[k]?=some x) (h:p x=false):l.all p=false:=by
 rw [List.all_eq_false]; exact⟨x,List.mem_of_getElem? f,by simp [h]⟩
theorem Ph {D:Type} {p:D→Bool} {l:List D} {k:Nat} (hk:l.length≤k) (h:(l.take k).all p=true):l.all p=true:=by
 rwa [List.take_of_length_le hk] at h
theorem RQ {A B:Type} (f:A→B→A) (a:A) (l:List B) (k:Nat) (x:B) (h:l[k]?=some x):(l.take (k+1)).foldl f a=f ((l.take k).foldl f a) x:=by
 rw [List.take_add_one,h]; simp
theorem RK {A B:Type} (f:A→B→A) (a:A) (l:List B) (k:Nat) (h:l.length≤k):(l.take k).foldl f a=l.foldl f a:=by rw [List.take_of_length_le h]
theorem CF {D:Type} {l:List D} {k:Nat} {x:D} (h:l[k]?=some x):l.take (k+1)=l.take k++[x]:=by rw [List.take_add_one,h]; rfl
theorem Bq {D E:Type} {f:D→E} {l:List D} {k:Nat} {x:D} (h:l[k]?=some x):(l.map f)[k]?=some (f x):=by rw [List.getElem?_map,h]; rfl
theorem F2.of_get {S T:Type} {R:S→T→Prop}:∀{l:List S} {m:List T},l.length=m.length→(∀(i:Nat) (a:S) (b:T),l[i]?=some a→m[i]?=some b→R a b)→F2 R l m
 | [],[],_,_=>.nil
 | [],_::_,h,_=>absurd h (by simp)
 | _::_,[],h,_=>absurd h (by simp)
 | a::l,b::m,h,hr=>.cons (hr 0 a b rfl rfl) (F2.of_get (by simpa using h) fun i x y f z=>hr (i+1) x y (by simpa using f) (by simpa using z))
theorem F2.imp {S T:Type} {R R':S→T→Prop} {l:List S} {m:List T} (h:F2 R l m) (f:∀a b,R a b→R' a b):F2 R' l m:=by
 induction h with
 | nil=>exact .nil
 | cons h1 _ ih=>exact .cons (f _ _ h1) ih
theorem F2.at {S T:Type} {R:S→T→Prop} {l:List S} {m:List T} (h:F2 R l m) {i:Nat} {b:T} (f:m[i]?=some b):∃a,l[i]?=some a∧R a b:=by
 obtain⟨a,y⟩:=Ay (l:=l) (i:=i) (by rw [h.length]; exact AO f)
 exact⟨a,y,h.get y f⟩
theorem Ap (w:World):Below w.heap.size w w.drew:=⟨rfl,rfl,rfl,Nat.le_refl _,fun _ _=>rfl⟩
theorem Ag (w:World) (cs:Array Value) (t:TypeId):∃w1,w.alloc (.cells cs t)=w1∧Below w.heap.size w w1∧Blk w1 w.heap.size t cs∧Ae w w1 (fun _=>False):=
 ⟨_,rfl,(Below.refl _ _).alloc (Nat.le_refl _) _,Blk.new _ _ _,(Ae.refl _ _).alloc _⟩
theorem Blk.below {w w':World} {g:Nat} {t:TypeId} {cs:Array Value} (h:Blk w g t cs) (f:Below w.heap.size w w'):Blk w' g t cs:=h.kept (Ae.of_below f fun _=>False) id
theorem Blk.at {w w':World} {g B:Nat} {t:TypeId} {cs:Array Value} (h:Blk w g t cs) (f:g<B) (y:Below B w w'):Blk w' g t cs:=by
 unfold Blk at h ⊢
 rw [y.block g f]
 exact h
theorem Gm (z:Value) (n:Nat):madeCells #[z] (n*1)=Array.replicate n z:=by
 apply Array.ext
 ·simp [madeCells]
 ·intro i f h
  simp [madeCells,Nat.mod_one]
theorem FC {P:Program} {t e bytes:Nat} {z:Value} (ht:P.underlying t=some (.slice e)) (y:(P.info? e).map (fun i=>(i.zero,i.size,i.bytes))=some (some z,1,bytes)) (C:z.cells=#[z]) (E:bytes≤200)
  (w:World) (n:Nat) (F:n≤250000):
  ∃g w1,(Instr.makeSlice t (.int .i64 n) (.int .i64 n)).run P w=.ok (.slice (some ⟨g,0,none⟩) n n) w1∧Blk w1 g e (Array.replicate n z)∧Below w.heap.size w w1∧w.heap.size≤g:=by
 obtain⟨i,G,I,h,J⟩:=info_parts y
 have O:bytes*n≤200*250000:=Nat.mul_le_mul E F
 have M:(i.bytes:Int)*(n:Int)≤281474976710656:=by
  rw [J,←Int.natCast_mul]; omega
 have f:=run_makeSlice (P:=P) w t e i z ht G I .i64 .i64 n n (by omega) (Int.le_refl _) (by rw [h]; simp; omega) M (by omega)
 simp only [Int.toNat_natCast] at f
 rw [h,C,Gm] at f
 exact⟨_,_,f,Blk.new _ _ _,(Below.refl _ _).alloc (Nat.le_refl _) _,Nat.le_refl _⟩
theorem JU:(Tryz.prog.info? 3).map (fun i=>(i.zero,i.size,i.bytes))=some (some (.int .i64 0),1,8):=by kernel_rfl
theorem Jb:(Tryz.prog.info? 4).map (fun i=>(i.zero,i.size,i.bytes))=some (some (.bool false),1,1):=by kernel_rfl
theorem GE:(Tryz.prog.info? 24).map (fun i=>(i.zero,i.size,i.bytes))=some (some (.slice none 0 0),1,24):=by kernel_rfl
theorem HG:(Tryz.prog.info? 53).map (fun i=>(i.zero,i.size,i.bytes))=some (some (.slice none 0 0),1,24):=by kernel_rfl
theorem Fp (w:World) (n:Nat) (f:n≤250000):
  ∃g w1,(Instr.makeSlice 24 (.int .i64 n) (.int .i64 n)).run Tryz.prog w=.ok (.slice (some ⟨g,0,none⟩) n n) w1∧Blk w1 g 3 (Array.replicate n (.int .i64 0))∧Below w.heap.size w w1∧w.heap.size≤g:=
 FC Tryz.underlying24 JU rfl (by omega) w n f
theorem Q5 (w:World) (n:Nat) (f:n≤250000):
  ∃g w1,(Instr.makeSlice 54 (.int .i64 n) (.int .i64 n)).run Tryz.prog w=.ok (.slice (some ⟨g,0,none⟩) n n) w1∧Blk w1 g 4 (Array.replicate n (.bool false))∧Below w.heap.size w w1∧w.heap.size≤g:=
 FC Tryz.underlying54 Jb rfl (by omega) w n f
theorem Kl (w:World) (n:Nat) (f:n≤250000):
  ∃g w1,(Instr.makeSlice 53 (.int .i64 n) (.int .i64 n)).run Tryz.prog w=.ok (.slice (some ⟨g,0,none⟩) n n) w1∧Blk w1 g 24 (Array.replicate n (.slice none 0 0))∧Below w.heap.size w w1∧w.heap.size≤g:=
 FC Tryz.underlying53 GE rfl (by omega) w n f
theorem RN (w:World) (n:Nat) (f:n≤250000):
  ∃g w1,(Instr.makeSlice 61 (.int .i64 n) (.int .i64 n)).run Tryz.prog w=.ok (.slice (some ⟨g,0,none⟩) n n) w1∧Blk w1 g 53 (Array.replicate n (.slice none 0 0))∧Below w.heap.size w w1∧w.heap.size≤g:=
 FC Tryz.underlying61 HG rfl (by omega) w n f
theorem DS:C4 Tryz.prog 24 3 1:=EH Tryz.underlying24 JU rfl (by omega) (by omega)
theorem JF:C4 Tryz.prog 54 4 1:=EH Tryz.underlying54 Jb rfl (by omega) (by omega)
theorem GS:C4 Tryz.prog 53 24 1:=EH Tryz.underlying53 GE rfl (by omega) (by omega)
theorem IJ (n:Nat) (z:Value):Array.replicate n z=(List.replicate n z).toArray:=by
 apply Array.ext'
 simp
theorem Jl {P:Program} {ops:Array Oper} {rest:List Oper} {o:Oper} {a:Act} {Q:Exit→Act→World→Prop} {w:World} {t e bytes sz:Nat} {z:Value} (ht:P.underlying t=some (.slice e)) (F:(P.info? e).map (fun i=>(i.zero,i.size,i.bytes))=some (some z,sz,bytes)) (G:bytes≤200) (I:sz≤80)
  (n:Nat) (C:n≤200000) (J:o.guard=none) (x y:Operand) (M:o.op=.makeSlice t x y) (O:a.eval x=.int .i64 n) (U:a.eval y=.int .i64 n)
  (h:∀g w1,Blk w1 g e (madeCells z.cells (n*sz))→Below w.heap.size w w1→w.heap.size≤g→wpList P ops Q rest (a.put o.dst (.slice (some ⟨g,0,none⟩) n n)) w1):wpList P ops Q (o::rest) a w:=by
 refine wpList_plain J fun K V=>?_
 obtain⟨i,W,Z,E,h4⟩:=info_parts F
 have a4:bytes*n≤200*200000:=Nat.mul_le_mul G C
 have a3:(i.bytes:Int)*(n:Int)≤281474976710656:=by
  rw [h4,←Int.natCast_mul]; omega
 have a5:n*sz≤200000*80:=Nat.mul_le_mul C I
 have a6:((n:Int).toNat)*i.size≤16000000:=by rw [E,Int.toNat_natCast]; omega
 have f:=run_makeSlice (P:=P) w t e i z ht W Z .i64 .i64 n n (by omega) (Int.le_refl _) (by omega) a3 (by omega)
 simp only [Int.toNat_natCast] at f
 rw [E] at f
 unfold Oper.wp execOp
 simp only [M,O,U,Sem.run_bind,Sem.run_pure,Result.andThen_ok,f]
 exact V _ _ (h _ _ (Blk.new _ _ _) ((Below.refl _ _).alloc (Nat.le_refl _) _) (Nat.le_refl _))
section
variable {w w':World} {base n size:Nat} {e:TypeId} {v:Value} {xs:List Value}
theorem EJ (h:w.ownsRow base e 1 v n xs) {k:Nat} {u:Value} (hk:xs[k]?=some u):∃g f,v=.slice (some ⟨g,0,none⟩) n f∧w.cell? ⟨g,k,none⟩=some u:=by
 obtain⟨E,y⟩:=h
 have F:=AO hk
 rcases y with⟨_,rfl⟩ | ⟨g,f,z,rfl,G,C,I,J,M,ht⟩
 ·omega
 ·refine⟨g,f,rfl,?_⟩
  rw [cell_of_row w g k z e (0,0) C,←hk,←ht,List.getElem?_take]
  simp; omega
theorem Bm (h:w.ownsRow base e size v n xs) {k:Nat} (hk:v.ownBlock=some k):base≤k:=by
 rcases h.2 with⟨rfl,_⟩ | ⟨g,f,y,rfl,z,_⟩
 ·simp [Value.ownBlock] at hk
 ·have:g=k:=by simpa [Value.ownBlock] using hk
  omega
theorem Cm (h:w.ownsRow base e size v n xs) {k:Nat} (hk:v.ownBlock=some k):k<w.heap.size:=by
 rcases h.2 with⟨rfl,_⟩ | ⟨g,y,z,rfl,C,f,_⟩
 ·simp [Value.ownBlock] at hk
 ·have:g=k:=by simpa [Value.ownBlock] using hk
  subst this
  exact(Array.getElem?_eq_some_iff.1 f).1
theorem CT:w.ownsRow base e size (.slice none 0 0) 0 []:=⟨by simp,.inl ⟨rfl,rfl⟩⟩
theorem Dz (h:w.ownsRow base e size v n xs) {base':Nat} (E:base'≤base):w.ownsRow base' e size v n xs:=by
 refine⟨h.1,?_⟩
 rcases h.2 with f | ⟨g,y,z,C,F,rest⟩
 ·exact .inl f
 ·exact .inr ⟨g,y,z,C,by omega,rest⟩
theorem EK {g:Nat} {cs:Array Value} (h:Blk w g e cs) (y:base≤g) (f:cs.size=n) (z:n≤4000000):w.ownsRow base e 1 (.slice (some ⟨g,0,none⟩) n n) n cs.toList:=by
 refine⟨by simp [f],.inr ⟨g,n,cs,rfl,y,h,Nat.le_refl _,by unfold maxLen; omega,by omega,?_⟩⟩
 rw [List.take_of_length_le (by simp [f])]
theorem AX {X:Nat→Prop} (hk:Ae w w' X) (h:w.ownsRow base e size v n xs) (y:∀g cs,X g→¬Blk w g e cs):w'.ownsRow base e size v n xs:=
 hk.ownsRow h fun g f z=>by
  rcases h.2 with⟨rfl,_⟩ | ⟨C,F,G,rfl,_,E,_⟩
  ·simp [Value.ownBlock] at f
  ·have:C=g:=by simpa [Value.ownBlock] using f
   subst this
   exact y _ _ z E
theorem B5 (h:w.ownsRow base e size v n xs) (f:Below w.heap.size w w'):w'.ownsRow base e size v n xs:=
 (Ae.of_below f (fun _=>False)).ownsRow h fun _ _=>id
theorem Fj {f:TypeId} (h:w.ownsRow base e size v n xs) (y:e≠f):∀g cs,v.ownBlock=some g→¬Blk w g f cs:=fun _ _ z C=>AK h C y z
end
def Ck (w:World) (base:Nat) (N:Nat→Prop) (vs:List Value) (ds:List (List Int)):Prop:=
 F2 (fun v d=>w.ownsRow base 3 1 v d.length (d.map (Value.int .i64))∧∀g,v.ownBlock=some g→N g) vs ds
theorem Ck.nil {w:World} {base:Nat} {N:Nat→Prop}:Ck w base N [] []:=F2.nil
theorem Ck.keep {w w':World} {base base':Nat} {N N' X:Nat→Prop} {vs:List Value} {ds:List (List Int)} (h:Ck w base N vs ds) (hk:Ae w w' X) (C:∀g cs,N g→X g→¬Blk w g 3 cs) (E:∀g,g<w.heap.size→N g→N' g) (F:base'≤base):Ck w' base' N' vs ds:=
 h.imp fun v d ⟨y,z⟩=>⟨Dz (hk.ownsRow y fun g f G=>by
  rcases y.2 with⟨rfl,_⟩ | ⟨I,M,O,rfl,_,J,_⟩
  ·simp [Value.ownBlock] at f
  ·have:I=g:=by simpa [Value.ownBlock] using f
   subst this
   exact C _ _ (z _ f) G J) F,fun g f=>E g (Cm y f) (z g f)⟩
theorem Ck.snoc {w:World} {base:Nat} {N:Nat→Prop} {vs:List Value} {ds:List (List Int)} (h:Ck w base N vs ds) {v:Value} {d:List Int} (f:w.ownsRow base 3 1 v d.length (d.map (Value.int .i64))) (y:∀g,v.ownBlock=some g→N g):Ck w base N (vs++[v]) (ds++[d]):=F2.snoc h ⟨f,y⟩
theorem Ck.read {w:World} {base base' B n:Nat} {N:Nat→Prop} {vs:List Value} {ds:List (List Int)} {v:Value} (h:Ck w base N vs ds) (y:w.ownsRow base' 24 1 v n vs) (U:n≤4000000) (z:w.heap.size≤B) (C:∀d∈ds,d.length≤4000000):∃A c,v=.slice A ds.length c∧VSl R1 w B A ds:=by
 have E:n=ds.length:=by have:=y.1; rw [h.length] at this; omega
 subst E
 rcases y.2 with⟨rfl,F⟩ | ⟨g,G,V,rfl,W,I,Z,hs,hz,ht⟩
 ·have:ds=[]:=List.length_eq_zero_iff.1 F
  subst this
  exact⟨none,0,rfl,by simp,fun h=>absurd rfl h⟩
 ·refine⟨_,G,rfl,by omega,fun _=>⟨g,0,rfl,?_,fun k d hd=>?_⟩⟩
  ·have:=(Array.getElem?_eq_some_iff.1 I).1; omega
  ·obtain⟨u,J,M,_⟩:=F2.at h hd
   obtain⟨g',a5,f,O⟩:=EJ y J
   injection f with f _ _
   injection f with f
   injection f with f
   subst f
   exact⟨u,by rw [Nat.zero_add]; exact O,C2 M rfl z (by have:=C d (List.mem_of_getElem? hd); omega)⟩
end Go.Proofs.YtlakpndhhelliaaGreatDoor
