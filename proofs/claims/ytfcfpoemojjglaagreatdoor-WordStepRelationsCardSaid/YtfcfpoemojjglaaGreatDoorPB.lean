/-
  Part PB of a proof.
-/
import Derived.Test.YtfcfpoemojjglaaGreatDoorRows
import Derived.Laws.MakeOwn
import Derived.Test.YtfcfpoemojjglaaGreatDoorPA
set_option maxHeartbeats 16000000
set_option maxRecDepth 100000
set_option linter.unusedVariables false
set_option linter.unusedSimpArgs false
namespace Go.Proofs.YtfcfpoemojjglaaGreatDoor
def Ay {S:Type} (δ:S→Nat→S) (s:S) (w:List Nat):S:=w.foldl δ s
def okW (L:Nat) (w:List Nat):Prop:=∀x∈w,x<L
theorem okW.nil (L:Nat):okW L []:=fun _ h=>absurd h (List.not_mem_nil)
theorem okW.app {L:Nat} {u v:List Nat} (h:okW L u) (k:okW L v):okW L (u++v):=fun x y=>(List.mem_append.1 y).elim (h x) (k x)
theorem okW.snoc {L:Nat} {u:List Nat} {x:Nat} (h:okW L u) (z:x<L):okW L (u++[x]):=h.app (by intro y C; rw [List.mem_singleton.1 C]; exact z)
theorem okW.cons {L:Nat} {u:List Nat} {x:Nat} (C:x<L) (h:okW L u):okW L (x::u):=by
 intro y z
 rcases List.mem_cons.1 z with rfl | z
 ·exact C
 ·exact h y z
theorem Ge {S:Type} (δ:S→Nat→S) (s:S) (u v:List Nat):Ay δ s (u++v)=Ay δ (Ay δ s u) v:=List.foldl_append
theorem Fs {S:Type} (δ:S→Nat→S) (s:S) (u:List Nat) (x:Nat):Ay δ s (u++[x])=δ (Ay δ s u) x:=by rw [Ge]; rfl
theorem Ew {S:Type} {δ:S→Nat→S} {L:Nat} {I:S→Prop} (z:∀s x,x<L→I s→I (δ s x)):∀(w:List Nat) (s:S),okW L w→I s→I (Ay δ s w)
 | [],_,_,h=>h
 | x::w,s,hw,h=>Ew z w _ (fun y C=>hw y (List.mem_cons_of_mem _ C)) (z s x (hw x List.mem_cons_self) h)
inductive F2 {S T:Type} (R:S→T→Prop):List S→List T→Prop
 | nil:F2 R [] []
 | cons {a b l m}:R a b→F2 R l m→F2 R (a::l) (b::m)
section
variable {S T:Type} {R:S→T→Prop}
theorem F2.length {l:List S} {m:List T} (h:F2 R l m):l.length=m.length:=by
 induction h with
 | nil=>rfl
 | cons _ _ ih=>simp [ih]
theorem F2.get {l:List S} {m:List T} (h:F2 R l m):∀{i:Nat} {a:S} {b:T},l[i]?=some a→m[i]?=some b→R a b:=by
 induction h with
 | nil=>intro i a b h; simp at h
 | cons h1 _ ih=>
  intro i a b y z
  cases i with
  | zero=>simp at y z; subst y z; exact h1
  | succ i=>simp at y z; exact ih y z
theorem F2.snoc {l:List S} {m:List T} (h:F2 R l m) {a:S} {b:T} (y:R a b):F2 R (l++[a]) (m++[b]):=by
 induction h with
 | nil=>exact .cons y .nil
 | cons h1 _ ih=>exact .cons h1 ih
theorem F2.left {l:List S} {m:List T} (h:F2 R l m) {a:S} (y:a∈l):∃b,b∈m∧R a b:=by
 induction h with
 | nil=>cases y
 | cons h1 _ ih=>
  rcases List.mem_cons.1 y with rfl | y
  ·exact⟨_,List.mem_cons_self,h1⟩
  ·obtain⟨b,C,z⟩:=ih y
   exact⟨b,List.mem_cons_of_mem _ C,z⟩
theorem F2.right {l:List S} {m:List T} (h:F2 R l m) {b:T} (y:b∈m):∃a,a∈l∧R a b:=by
 induction h with
 | nil=>cases y
 | cons h1 _ ih=>
  rcases List.mem_cons.1 y with rfl | y
  ·exact⟨_,List.mem_cons_self,h1⟩
  ·obtain⟨a,C,z⟩:=ih y
   exact⟨a,List.mem_cons_of_mem _ C,z⟩
end
theorem JA {A B C:Type} {Q:A→B→Prop} {f:A→C→A} {g:B→C→B}:∀(l:List C),(∀x y c,c∈l→Q x y→Q (f x c) (g y c))→∀{x:A} {y:B},Q x y→Q (l.foldl f x) (l.foldl g y)
 | [],_,_,_,hq=>hq
 | c::l,hs,x,y,hq=>JA l (fun x y d hd=>hs x y d (List.mem_cons_of_mem _ hd)) (hs x y c List.mem_cons_self hq)
section
variable {S:Type} [DecidableEq S]
def Bs (l:List S) (a:S):List S:=if a∈l then l else l++[a]
theorem J1 {l:List S} {a b:S}:b∈Bs l a↔b∈l∨b=a:=by
 unfold Bs; split
 ·next h=>exact⟨.inl,fun y=>y.elim id fun e=>e ▸ h⟩
 ·simp
theorem Rj {l:List S} (h:l.Nodup) (a:S):(Bs l a).Nodup:=by
 unfold Bs; split
 ·exact h
 ·next ha=>exact List.nodup_append.2 ⟨h,by simp,fun x z y C e=>ha (by rw [←List.mem_singleton.1 C,←e]; exact z)⟩
theorem F6 (l:List S) (a:S):l<+:Bs l a:=by
 unfold Bs; split
 ·exact List.prefix_refl _
 ·exact List.prefix_append _ _
theorem P7 {l m:List S} (h:l<+:m) {a:S} (y:a∈l):m.idxOf a=l.idxOf a:=by
 obtain⟨t,rfl⟩:=h
 rw [List.idxOf_append,if_pos y]
theorem Ds {A:Type} {l m:List A} (h:l<+:m) {i:Nat} {a:A} (y:l[i]?=some a):m[i]?=some a:=by
 obtain⟨t,rfl⟩:=h
 rw [List.getElem?_append_left (List.getElem?_eq_some_iff.1 y).1]
 exact y
theorem FS {l:List S} {a:S} (h:a∈l):l[l.idxOf a]?=some a:=by
 rw [List.getElem?_eq_getElem (List.idxOf_lt_length_of_mem h)]
 exact congrArg some (List.getElem_idxOf (List.idxOf_lt_length_of_mem h))
theorem HO {l:List S} (h:l.Nodup) {i:Nat} {a:S} (y:l[i]?=some a):l.idxOf a=i:=by
 obtain⟨z,rfl⟩:=List.getElem?_eq_some_iff.1 y
 exact h.idxOf_getElem i z
variable (L:Nat) (δ:S→Nat→S) (s0:S)
def AZ (s:S) (l:List S) (k:Nat):List S:=(List.range k).foldl (fun l x=>Bs l (δ s x)) l
omit L s0 in
theorem Cr (s:S) (l:List S) (k:Nat):AZ δ s l (k+1)=Bs (AZ δ s l k) (δ s k):=by simp [AZ,List.range_succ]
inductive Exp:Nat→List S→Prop
 | start:Exp 0 [s0]
 | row {i l s}:Exp i l→l[i]?=some s→Exp (i+1) (AZ δ s l L)
def Bf (l:List S):Prop:=Exp L δ s0 l.length l
end
section
variable {S:Type} [DecidableEq S] {L:Nat} {δ:S→Nat→S} {s0:S}
theorem DK (s:S) (l:List S):∀k,l<+:AZ δ s l k
 | 0=>List.prefix_refl _
 | k+1=>by rw [Cr]; exact(DK s l k).trans (F6 _ _)
theorem So (s:S) (l:List S) {j k:Nat} (h:j≤k):AZ δ s l j<+:AZ δ s l k:=by
 obtain⟨d,rfl⟩:=Nat.exists_eq_add_of_le h
 induction d with
 | zero=>exact List.prefix_refl _
 | succ d ih=>rw [←Nat.add_assoc,Cr]; exact(ih (by omega)).trans (F6 _ _)
theorem Gb (s:S) (l:List S) {k x:Nat} (h:x<k):δ s x∈AZ δ s l k:=
 (So s l h).subset (by rw [Cr]; exact J1.2 (.inr rfl))
theorem KP {s:S} {l:List S}:∀{k:Nat} {a:S},a∈AZ δ s l k→a∈l∨∃x,x<k∧a=δ s x
 | 0,_,h=>.inl h
 | k+1,a,h=>by
  rw [Cr] at h
  rcases J1.1 h with h | rfl
  ·rcases KP h with h | ⟨x,y,e⟩
   ·exact .inl h
   ·exact .inr ⟨x,by omega,e⟩
  ·exact .inr ⟨k,by omega,rfl⟩
theorem GN (s:S) {l:List S} (h:l.Nodup):∀k,(AZ δ s l k).Nodup
 | 0=>h
 | k+1=>by rw [Cr]; exact Rj (GN s h k) _
structure LR (L:Nat) (δ:S→Nat→S) (s0:S) (i:Nat) (l:List S):Prop where
 le:i≤l.length
 head:l[0]?=some s0
 nodup:l.Nodup
 reach:∀s∈l,∃w,okW L w∧Ay δ s0 w=s
 closed:∀j s,j<i→l[j]?=some s→∀x,x<L→δ s x∈l
theorem Exp.inv {i:Nat} {l:List S} (h:Exp L δ s0 i l):LR L δ s0 i l:=by
 induction h with
 | start=>exact⟨by simp,rfl,by simp,fun s z=>⟨[],okW.nil L,(List.mem_singleton.1 z).symm⟩,fun j s I=>absurd I (Nat.not_lt_zero _)⟩
 | @row i l s _ z ih=>
  have y:=DK (δ:=δ) s l L
  have U:=y.length_le
  have O:=(List.getElem?_eq_some_iff.1 z).1
  refine⟨by omega,Ds y ih.head,GN s ih.nodup L,fun a F=>?_,fun j t I ht x E=>?_⟩
  ·rcases KP F with F | ⟨x,E,rfl⟩
   ·exact ih.reach a F
   ·obtain⟨w,M,rfl⟩:=ih.reach s (List.mem_of_getElem? z)
    exact⟨w++[x],M.snoc E,Fs _ _ _ _⟩
  ·rcases Nat.lt_or_ge j i with C | C
   ·obtain⟨G,J⟩:∃G,l[j]?=some G:=⟨_,List.getElem?_eq_getElem (by omega)⟩
    have:=(Ds y J).symm.trans ht
    injection this with this
    subst this
    exact y.subset (ih.closed j G C J x E)
   ·have C:j=i:=by omega
    subst C
    have:=(Ds y z).symm.trans ht
    injection this with this
    subst this
    exact Gb s l E
theorem Exp.det {i:Nat} {l:List S} (h:Exp L δ s0 i l):∀{m:List S},Exp L δ s0 i m→l=m:=by
 induction h with
 | start=>intro m y; cases y; rfl
 | @row i l s _ hs ih=>
  intro m y
  cases y with
  | @row _ l' s' h1 hs'=>
   have e:=ih h1
   subst e
   rw [hs] at hs'
   injection hs' with e
   subst e
   rfl
theorem Exp.pre {j:Nat} {m:List S} (h:Exp L δ s0 j m):∀{i:Nat} {l:List S},i≤j→Exp L δ s0 i l→l<+:m:=by
  induction h with
  | start=>intro i l z y; have:i=0:=by omega
           subst this; cases y; exact List.prefix_refl _
  | @row j m s h1 hs ih=>
    intro i l z y
    rcases Nat.lt_or_ge j i with h | h
    · have:i=j+1:=by omega
      subst this
      rw [y.det (Exp.row h1 hs)]
      exact List.prefix_refl _
    · exact(ih h y).trans (DK _ _ _)
theorem Bf.top {m:List S} (h:Bf L δ s0 m) {i:Nat} {l:List S} (y:Exp L δ s0 i l):i≤m.length∧l<+:m:=by
 have key:∀{i:Nat} {l:List S},Exp L δ s0 i l→i≤m.length:=by
  intro i l y
  induction y with
  | start=>omega
  | @row i l s h1 hs ih=>
   have:=(List.getElem?_eq_some_iff.1 (Ds (h.pre ih h1) hs)).1
   omega
 exact⟨key y,h.pre (key y) y⟩
theorem Bf.unique {l m:List S} (h:Bf L δ s0 l) (y:Bf L δ s0 m):l=m:=
 List.IsPrefix.eq_of_length_le (y.top h).2 (h.top y).2.length_le
theorem Bf.closed {l:List S} (h:Bf L δ s0 l) {s:S} (z:s∈l) {x:Nat} (C:x<L):δ s x∈l:=by
 obtain⟨j,y,rfl⟩:=List.getElem_of_mem z
 exact h.inv.closed j _ y (List.getElem?_eq_getElem y) x C
theorem Bf.run {l:List S} (h:Bf L δ s0 l) {w:List Nat} (z:okW L w):Ay δ s0 w∈l:=
 Ew (I:=fun s=>s∈l) (fun _ _ C y=>h.closed y C) w s0 z (List.mem_of_getElem? h.inv.head)
end
def FH {S T:Type} (R:S→T→Prop):Prop:=∀a b a' b',R a b→R a' b'→(a=a'↔b=b')
section
variable {S T:Type} [DecidableEq S] [DecidableEq T] {R:S→T→Prop} {L:Nat} {δ:S→Nat→S} {s0:S} {δ':T→Nat→T} {t0:T}
theorem F2.meet (E:FH R) {l:List S} {m:List T} (h:F2 R l m) {a:S} {b:T} (z:R a b):F2 R (Bs l a) (Bs m b):=by
 have F:a∈l↔b∈m:=by
  constructor
  ·intro y
   obtain⟨G,J,h1⟩:=h.left y
   rwa [(E a b a G z h1).1 rfl]
  ·intro C
   obtain⟨a',I,h1⟩:=h.right C
   rwa [(E a b a' b z h1).2 rfl]
 unfold Bs
 by_cases y:a∈l
 ·rw [if_pos y,if_pos (F.1 y)]; exact h
 ·rw [if_neg y,if_neg (fun C=>y (F.2 C))]; exact h.snoc z
theorem Exp.rel (z:FH R) (h0:R s0 t0) (F:∀s t x,x<L→R s t→R (δ s x) (δ' t x)) {i:Nat} {l:List S} (h:Exp L δ s0 i l):∃m,Exp L δ' t0 i m∧F2 R l m:=by
 induction h with
 | start=>exact⟨[t0],.start,.cons h0 .nil⟩
 | @row i l s _ hs' ih=>
  obtain⟨m,E,y⟩:=ih
  have C:=(List.getElem?_eq_some_iff.1 hs').1
  obtain⟨t,ht⟩:∃t,m[i]?=some t:=⟨_,List.getElem?_eq_getElem (by rw [←y.length]; exact C)⟩
  have G:=y.get hs' ht
  exact⟨_,.row E ht,JA (Q:=fun a b=>F2 R a b) _ (fun _ _ x I h=>h.meet z (F s t x (List.mem_range.1 I) G)) y⟩
theorem Bf.rel (C:FH R) (h0:R s0 t0) (F:∀s t x,x<L→R s t→R (δ s x) (δ' t x)) {l:List S} {m:List T} (h:Bf L δ s0 l) (z:Bf L δ' t0 m):F2 R l m:=by
 obtain⟨m',E,y⟩:=Exp.rel C h0 F h
 have hd:Bf L δ' t0 m':=by unfold Bf; rw [←y.length]; exact E
 rw [z.unique hd]
 exact y
theorem Bf.image (z:FH R) (h0:R s0 t0) (E:∀s t x,x<L→R s t→R (δ s x) (δ' t x)) {l:List S} (h:Bf L δ s0 l):∃m,Bf L δ' t0 m∧F2 R l m:=by
 obtain⟨m',C,y⟩:=Exp.rel z h0 E h
 exact⟨m',by unfold Bf; rw [←y.length]; exact C,y⟩
end
section
variable {S:Type} [DecidableEq S] {L:Nat} {δ:S→Nat→S} {s0:S}
def Cy (δ:S→Nat→S) (l:List S) (i x:Nat):Nat:=match l[i]? with
 | some s=>l.idxOf (δ s x)
 | none=>0
theorem Bf.num {l:List S} (h:Bf L δ s0 l) {w:List Nat} (z:okW L w):l[Ay (Cy δ l) 0 w]?=some (Ay δ s0 w):=by
 have key:∀(w:List Nat) (i:Nat) (s:S),okW L w→l[i]?=some s→l[Ay (Cy δ l) i w]?=some (Ay δ s w):=by
  intro w
  induction w with
  | nil=>exact fun i s _ h=>h
  | cons x w ih=>
   intro i s z C
   refine ih _ _ (fun y F=>z y (List.mem_cons_of_mem _ F)) ?_
   have E:=z x List.mem_cons_self
   have:Cy δ l i x=l.idxOf (δ s x):=by simp [Cy,C]
   rw [this]
   exact FS (h.closed (List.mem_of_getElem? C) E)
 exact key w 0 s0 z h.inv.head
theorem Bf.lt {l:List S} (h:Bf L δ s0 l) {i x:Nat} (y:i<l.length) (C:x<L):Cy δ l i x<l.length:=by
 have z:=List.getElem?_eq_getElem y
 simp only [Cy,z]
 exact List.idxOf_lt_length_of_mem (h.closed (List.getElem_mem y) C)
omit [DecidableEq S] in
theorem F2.range {l:List S} (m:List Nat) (h:F2 (fun s i=>l[i]?=some s) l m) (E:l.Nodup):m=List.range l.length:=by
 apply List.ext_getElem?
 intro i
 rcases Nat.lt_or_ge i l.length with y | y
 ·have z:i<m.length:=by rw [←h.length]; exact y
  have h1:=h.get (List.getElem?_eq_getElem y) (List.getElem?_eq_getElem z)
  obtain⟨hk,C⟩:=List.getElem?_eq_some_iff.1 h1
  have:=(List.getElem_inj E).1 C
  rw [List.getElem?_eq_getElem z,this,List.getElem?_range y]
 ·rw [List.getElem?_eq_none (by rw [←h.length]; exact y),List.getElem?_eq_none (by simpa using y)]
theorem Bf.machine {l:List S} (h:Bf L δ s0 l):Bf L (Cy δ l) 0 (List.range l.length):=by
 obtain⟨m,z,E⟩:=h.image (δ':=Cy δ l) (t0:=0) (R:=fun s i=>l[i]?=some s) (fun a b a' G h1 y=>⟨fun e=>by
  subst e
  rw [←HO h.inv.nodup h1,HO h.inv.nodup y],fun e=>by subst e; exact Option.some.inj (h1.symm.trans y)⟩) h.inv.head (fun s i x F C=>by
   have:Cy δ l i x=l.idxOf (δ s x):=by simp [Cy,C]
   rw [this]
   exact FS (h.closed (List.mem_of_getElem? C) F))
 rw [E.range m h.inv.nodup] at z
 exact z
end
structure Cz (L n:Nat) (nx:Nat→Nat→Nat) (acc:Nat→Bool) (Λ:List Nat→Bool):Prop where
 lang:∀w,okW L w→acc (Ay nx 0 w)=Λ w
 sep:∀u v,okW L u→okW L v→(∀z,okW L z→Λ (u++z)=Λ (v++z))→Ay nx 0 u=Ay nx 0 v
 ord:Bf L nx 0 (List.range n)
section
variable {L n:Nat} {nx:Nat→Nat→Nat} {acc:Nat→Bool} {Λ:List Nat→Bool}
theorem Cz.run_lt (h:Cz L n nx acc Λ) {w:List Nat} (y:okW L w):Ay nx 0 w<n:=List.mem_range.1 (h.ord.run y)
theorem Cz.pos (h:Cz L n nx acc Λ):0<n:=h.run_lt (okW.nil L)
theorem Cz.lt (h:Cz L n nx acc Λ) {q x:Nat} (y:q<n) (z:x<L):nx q x<n:=List.mem_range.1 (h.ord.closed (List.mem_range.2 y) z)
theorem Cz.reach (h:Cz L n nx acc Λ) {q:Nat} (y:q<n):∃w,okW L w∧Ay nx 0 w=q:=h.ord.inv.reach q (List.mem_range.2 y)
theorem Cz.same (h:Cz L n nx acc Λ) {u v:List Nat} (E:okW L u) (F:okW L v) (C:Ay nx 0 u=Ay nx 0 v) {z:List Nat} (y:okW L z):Λ (u++z)=Λ (v++z):=by
 rw [←h.lang _ (E.app y),←h.lang _ (F.app y),Ge,Ge,C]
theorem Cz.unique {U:Nat} {nx':Nat→Nat→Nat} {V:Nat→Bool} {Λ':List Nat→Bool} (h:Cz L n nx acc Λ) (J:Cz L U nx' V Λ') (I:∀w,okW L w→Λ w=Λ' w):
  n=U∧(∀q x,q<n→x<L→nx q x=nx' q x)∧∀q,q<n→acc q=V q:=by
 have Z:FH (fun p q:Nat=>∃w,okW L w∧Ay nx 0 w=p∧Ay nx' 0 w=q):=by
  rintro _ _ _ _ ⟨u,C,rfl,rfl⟩ ⟨v,F,rfl,rfl⟩
  exact⟨fun e=>J.sep u v C F fun z E=>by rw [←I _ (C.app E),←I _ (F.app E)]; exact h.same C F e E,
   fun e=>h.sep u v C F fun z E=>by rw [I _ (C.app E),I _ (F.app E)]; exact J.same C F e E⟩
 have W:=Bf.rel Z ⟨[],okW.nil L,rfl,rfl⟩ (by
  rintro _ _ x O ⟨w,y,rfl,rfl⟩
  exact⟨w++[x],y.snoc O,Fs _ _ _ _,Fs _ _ _ _⟩) h.ord J.ord
 have hn:n=U:=by simpa using W.length
 subst hn
 have hd:∀p,p<n→∃w,okW L w∧Ay nx 0 w=p∧Ay nx' 0 w=p:=fun p hp=>W.get (i:=p) (by simp [hp]) (by simp [hp])
 have hs:∀w,okW L w→Ay nx 0 w=Ay nx' 0 w:=fun w y=>by
  obtain⟨u,C,h1,G⟩:=hd _ (h.run_lt y)
  have:=(Z _ _ _ _ ⟨w,y,rfl,rfl⟩ ⟨u,C,rfl,rfl⟩).1 h1.symm
  rw [this,G]
 refine⟨rfl,fun q x M O=>?_,fun q M=>?_⟩
 ·obtain⟨w,y,h1,G⟩:=hd q M
  have:=hs (w++[x]) (y.snoc O)
  rw [Fs,Fs,h1,G] at this
  exact this
 ·obtain⟨w,y,h1,G⟩:=hd q M
  have:=(h.lang w y).trans ((I w y).trans (J.lang w y).symm)
  rwa [h1,G] at this
end
end Go.Proofs.YtfcfpoemojjglaaGreatDoor
namespace Go.Proofs.YtfcfpoemojjglaaGreatDoor
theorem An {α:Type} {l:List α} {i:Nat} (h:i<l.length):∃x,l[i]?=some x:=⟨_,List.getElem?_eq_getElem h⟩
theorem AP {α:Type} {l:List α} {i:Nat} {x:α} (h:l[i]?=some x):i<l.length:=(List.getElem?_eq_some_iff.1 h).1
theorem getD_some {α:Type} {l:List α} {i:Nat} {x d:α} (h:l[i]?=some x):l.getD i d=x:=by rw [List.getD_eq_getElem?_getD,h]; rfl
theorem D6:∀(l m:List Nat),l.Nodup→(∀a∈l,a∈m)→l.length≤m.length
 | [],_,_,_=>Nat.zero_le _
 | a::l,m,hn,hs=>by
  obtain⟨E,F,rfl⟩:=List.append_of_mem (hs a List.mem_cons_self)
  have z:=List.nodup_cons.1 hn
  have h1:=D6 l (E++F) z.2 (fun b y=>by
   have h:=hs b (List.mem_cons_of_mem _ y)
   have C:b≠a:=fun e=>z.1 (e ▸ y)
   simp only [List.mem_append,List.mem_cons] at h ⊢
   rcases h with h | h | h
   ·exact .inl h
   ·exact(C h).elim
   ·exact .inr h)
  simp only [List.length_append,List.length_cons] at h1 ⊢
  omega
theorem J7:∀(l m:List Nat),l.Nodup→(∀a∈l,a∈m)→m.length≤l.length→m.Nodup
 | [],m,_,_,hl=>by
  have:m=[]:=List.length_eq_zero_iff.1 (by simpa using hl)
  subst this
  exact List.nodup_nil
 | a::l,m,hn,hs,hl=>by
  obtain⟨z,C,rfl⟩:=List.append_of_mem (hs a List.mem_cons_self)
  have E:=List.nodup_cons.1 hn
  have F:∀b∈l,b∈z++C:=fun b y=>by
   have h:=hs b (List.mem_cons_of_mem _ y)
   have I:b≠a:=fun e=>E.1 (e ▸ y)
   simp only [List.mem_append,List.mem_cons] at h ⊢
   rcases h with h | h | h
   ·exact .inl h
   ·exact(I h).elim
   ·exact .inr h
  simp only [List.length_append,List.length_cons] at hl
  have h1:=J7 l (z++C) E.2 F (by simp; omega)
  refine List.perm_middle.nodup_iff.2 (List.nodup_cons.2 ⟨fun G=>?_,h1⟩)
  have h:=D6 (a::l) (z++C) hn (fun b y=>by
   rcases List.mem_cons.1 y with rfl | y
   ·exact G
   ·exact F b y)
  simp at h
  omega
def dnx (t:List (List Nat)) (q x:Nat):Nat:=(t.getD q []).getD x 0
def dac (ac:List Bool) (q:Nat):Bool:=ac.getD q false
structure DOK (L:Nat) (t:List (List Nat)) (ac:List Bool):Prop where
 len:t.length=ac.length
 pos:0<ac.length
 row:∀r∈t,r.length=L∧∀y∈r,y<ac.length
theorem DOK.at {L:Nat} {t:List (List Nat)} {ac:List Bool} (h:DOK L t ac) {q x:Nat} (F:q<ac.length) (G:x<L):∃r,t[q]?=some r∧r.length=L∧r[x]?=some (dnx t q x)∧dnx t q x<ac.length:=by
 obtain⟨r,z⟩:=An (l:=t) (i:=q) (by rw [h.len]; exact F)
 obtain⟨h1,E⟩:=h.row r (List.mem_of_getElem? z)
 obtain⟨y,C⟩:=An (l:=r) (i:=x) (by omega)
 have:dnx t q x=y:=by unfold dnx; rw [getD_some z,getD_some C]
 rw [this]
 exact⟨r,z,h1,C,E y (List.mem_of_getElem? C)⟩
theorem DOK.lt {L:Nat} {t:List (List Nat)} {ac:List Bool} (h:DOK L t ac) {q x:Nat} (y:q<ac.length) (z:x<L):dnx t q x<ac.length:=by
 obtain⟨_,_,_,_,h⟩:=h.at y z; exact h
theorem DOK.run {L:Nat} {t:List (List Nat)} {ac:List Bool} (h:DOK L t ac) {w:List Nat} (z:okW L w):Ay (dnx t) 0 w<ac.length:=
 Ew (I:=fun q=>q<ac.length) (fun _ _ C y=>h.lt y C) w 0 z h.pos
def EqW (L:Nat) (nx:Nat→Nat→Nat) (acc:Nat→Bool):Nat→Nat→Nat→Prop
 | 0,p,q=>acc p=acc q
 | r+1,p,q=>EqW L nx acc r p q∧∀x,x<L→EqW L nx acc r (nx p x) (nx q x)
section
variable {L n:Nat} {nx:Nat→Nat→Nat} {acc:Nat→Bool}
theorem EqW.of_words:∀(r:Nat) {p q:Nat},(∀z,okW L z→acc (Ay nx p z)=acc (Ay nx q z))→EqW L nx acc r p q
 | 0,_,_,h=>h [] (okW.nil L)
 | r+1,_,_,h=>⟨EqW.of_words r h,fun x y=>EqW.of_words r fun z C=>h (x::z) (C.cons y)⟩
theorem EqW.le {r:Nat}:∀(d:Nat) {i j:Nat},EqW L nx acc (r+d) i j→EqW L nx acc r i j
 | 0,_,_,h=>h
 | d+1,_,_,h=>EqW.le d h.1
theorem EqW.stable (y:∀q x,q<n→x<L→nx q x<n) {r:Nat} (z:∀i j,i<n→j<n→EqW L nx acc r i j→EqW L nx acc (r+1) i j):∀(d:Nat) {i j:Nat},i<n→j<n→EqW L nx acc r i j→EqW L nx acc (r+d) i j
 | 0,_,_,_,_,h=>h
 | d+1,i,j,hi,hj,h=>⟨EqW.stable y z d hi hj h,fun x C=>EqW.stable y z d (y i x hi C) (y j x hj C) ((z i j hi hj h).2 x C)⟩
structure BU (L n:Nat) (nx:Nat→Nat→Nat) (acc:Nat→Bool) (r:Nat) (cl:List Nat) (cnt:Nat):Prop where
 len:cl.length=n
 iff:∀i j,i<n→j<n→(cl.getD i 0=cl.getD j 0↔EqW L nx acc r i j)
 mem:∀v,v∈cl↔v<cnt
variable {r cnt cnt':Nat} {cl os:List Nat}
theorem BU.le (h:BU L n nx acc r cl cnt):cnt≤n:=by
 have:=D6 (List.range cnt) cl List.nodup_range (fun a y=>(h.mem a).2 (List.mem_range.1 y))
 simpa [h.len] using this
theorem BU.val (h:BU L n nx acc r cl cnt) {i:Nat} (z:i<n):cl.getD i 0<cnt:=by
 obtain⟨x,y⟩:=An (l:=cl) (i:=i) (by rw [h.len]; exact z)
 rw [getD_some y]
 exact(h.mem x).1 (List.mem_of_getElem? y)
theorem BU.back (h:BU L n nx acc r cl cnt) (y:BU L n nx acc (r+1) os cnt') {i:Nat} (z:i<n):cl.getD (os.idxOf (os.getD i 0)) 0=cl.getD i 0:=by
 have E:=(y.mem _).2 (y.val z)
 have C:=List.idxOf_lt_length_of_mem E
 rw [y.len] at C
 have F:os.getD (os.idxOf (os.getD i 0)) 0=os.getD i 0:=getD_some (FS E)
 exact(h.iff _ _ C z).2 ((y.iff _ _ C z).1 F).1
theorem BU.grow (h:BU L n nx acc r cl cnt) (y:BU L n nx acc (r+1) os cnt'):cnt≤cnt':=by
 have:=D6 (List.range cnt) ((List.range cnt').map fun v=>cl.getD (os.idxOf v) 0) List.nodup_range (fun u E=>by
  obtain⟨i,z⟩:=List.mem_iff_getElem?.1 ((h.mem u).2 (List.mem_range.1 E))
  have C:i<n:=by have:=AP z; rwa [h.len] at this
  exact List.mem_map.2 ⟨os.getD i 0,List.mem_range.2 (y.val C),by rw [h.back y C,getD_some z]⟩)
 simpa using this
theorem BU.rest (h:BU L n nx acc r cl cnt) (z:BU L n nx acc (r+1) os cnt) {i j:Nat} (y:i<n) (E:j<n) (I:EqW L nx acc r i j):EqW L nx acc (r+1) i j:=by
 have J:=J7 (List.range cnt) ((List.range cnt).map fun v=>cl.getD (os.idxOf v) 0) List.nodup_range (fun u M=>by
  obtain⟨i,y⟩:=List.mem_iff_getElem?.1 ((h.mem u).2 (List.mem_range.1 M))
  have C:i<n:=by have:=AP y; rwa [h.len] at this
  exact List.mem_map.2 ⟨os.getD i 0,List.mem_range.2 (z.val C),by rw [h.back z C,getD_some y]⟩) (by simp)
 refine(z.iff i j y E).1 ?_
 have F:∀i,i<n→((List.range cnt).map fun v=>cl.getD (os.idxOf v) 0)[os.getD i 0]?=some (cl.getD i 0):=fun i C=>by
  rw [List.getElem?_map,List.getElem?_range (z.val C)]
  simp only [Option.map_some,h.back z C]
 have h1:=F i y
 have G:=F j E
 rw [(h.iff i j y E).2 I] at h1
 exact(List.getElem?_inj (AP h1) J).1 (h1.trans G.symm)
structure Ck (L n:Nat) (nx:Nat→Nat→Nat) (acc:Nat→Bool) (cl:List Nat):Prop where
 len:cl.length=n
 iff:∀i j,i<n→j<n→(cl.getD i 0=cl.getD j 0↔∀r,EqW L nx acc r i j)
 lt:∀i,i<n→cl.getD i 0<n
theorem BU.atRest (F:∀q x,q<n→x<L→nx q x<n) (h:BU L n nx acc r cl cnt) (E:BU L n nx acc (r+1) os cnt):Ck L n nx acc cl:=by
 have G:=fun d {i j}=>EqW.stable F (fun i j y C z=>h.rest E y C z) d (i:=i) (j:=j)
 refine⟨h.len,fun i j y C=>?_,fun i y=>Nat.lt_of_lt_of_le (h.val y) h.le⟩
 rw [h.iff i j y C]
 exact⟨fun z k=>EqW.le (r:=k) r (by rw [Nat.add_comm]; exact G k y C z),fun z=>z r⟩
theorem Ck.step (z:∀q x,q<n→x<L→nx q x<n) (h:Ck L n nx acc cl) {i j x:Nat} (C:i<n) (E:j<n) (y:x<L) (F:cl.getD i 0=cl.getD j 0):cl.getD (nx i x) 0=cl.getD (nx j x) 0:=
 (h.iff _ _ (z i x C y) (z j x E y)).2 fun r=>((h.iff i j C E).1 F (r+1)).2 x y
theorem Ck.accE (h:Ck L n nx acc cl) {i j:Nat} (z:i<n) (C:j<n) (y:cl.getD i 0=cl.getD j 0):acc i=acc j:=(h.iff i j z C).1 y 0
def AF (nx:Nat→Nat→Nat) (cl:List Nat) (k x:Nat):Nat:=cl.getD (nx (cl.idxOf k) x) 0
theorem Ck.nxE (F:∀q x,q<n→x<L→nx q x<n) (h:Ck L n nx acc cl) {i x:Nat} (z:i<n) (G:x<L):AF nx cl (cl.getD i 0) x=cl.getD (nx i x) 0:=by
 obtain⟨v,y⟩:=An (l:=cl) (i:=i) (by rw [h.len]; exact z)
 have E:=List.mem_of_getElem? y
 have C:=List.idxOf_lt_length_of_mem E
 rw [h.len] at C
 unfold AF
 refine h.step F (by rw [getD_some y]; exact C) z G ?_
 rw [getD_some y,getD_some (FS E)]
theorem Ck.run (C:∀q x,q<n→x<L→nx q x<n) (G:0<n) (h:Ck L n nx acc cl) {w:List Nat} (z:okW L w):Ay (AF nx cl) (cl.getD 0 0) w=cl.getD (Ay nx 0 w) 0:=by
 have key:∀(w:List Nat) (q:Nat),okW L w→q<n→Ay (AF nx cl) (cl.getD q 0) w=cl.getD (Ay nx q w) 0:=by
  intro w
  induction w with
  | nil=>exact fun _ _ _=>rfl
  | cons x w ih=>
   intro q z E
   have F:=z x List.mem_cons_self
   show Ay (AF nx cl) (AF nx cl (cl.getD q 0) x) w=_
   rw [h.nxE C E F]
   exact ih _ (fun y I=>z y (List.mem_cons_of_mem _ I)) (C q x E F)
 exact key w 0 z G
theorem Ck.canon (E:∀q x,q<n→x<L→nx q x<n) (G:0<n) (h:Ck L n nx acc cl) {st:List Nat} (a4:∀s∈st,s<n) (C:Bf L (AF nx cl) (cl.getD 0 0) (st.map fun s=>cl.getD s 0)):
  Cz L st.length (Cy (AF nx cl) (st.map fun s=>cl.getD s 0)) (fun i=>acc (st.getD i 0)) (fun w=>acc (Ay nx 0 w)):=by
 have a3:∀w,okW L w→∃s,st[Ay (Cy (AF nx cl) (st.map fun s=>cl.getD s 0)) 0 w]?=some s∧cl.getD s 0=cl.getD (Ay nx 0 w) 0:=fun w y=>by
  have h1:=C.num y
  rw [h.run E G y,List.getElem?_map] at h1
  rcases F:st[Ay (Cy (AF nx cl) (st.map fun s=>cl.getD s 0)) 0 w]? with _ | s
  ·rw [F] at h1; simp at h1
  ·rw [F] at h1; exact⟨s,rfl,by simpa using h1⟩
 have M:∀w,okW L w→Ay nx 0 w<n:=fun w y=>Ew (I:=fun q=>q<n) (fun q x hx hq=>E q x hq hx) w 0 y G
 refine⟨fun w y=>?_,fun u v O U F=>?_,?_⟩
 ·obtain⟨s,W,Z⟩:=a3 w y
  show acc (st.getD _ 0)=_
  rw [getD_some W]
  exact h.accE (a4 s (List.mem_of_getElem? W)) (M w y) Z
 ·have h1:=(h.iff _ _ (M u O) (M v U)).2 fun r=>EqW.of_words r fun z hz=>by
   have:=F z hz
   rwa [Ge,Ge] at this
  have J:=C.num O
  have V:=C.num U
  rw [h.run E G O,h1] at J
  rw [h.run E G U] at V
  exact(List.getElem?_inj (AP J) C.inv.nodup).1 (J.trans V.symm)
 ·have:=C.machine
  rwa [List.length_map] at this
end
end Go.Proofs.YtfcfpoemojjglaaGreatDoor
namespace Go.Proofs.YtfcfpoemojjglaaGreatDoor
structure Edg where
 frm:Int
 letter:Int
 to:Int
structure WA where
 letters:Int
 states:Int
 start:List Int
 accept:List Int
 edges:List Edg
deriving instance DecidableEq for Edg
deriving instance DecidableEq for WA
def inN (n x:Int):Bool:=decide (0≤x)&&decide (x<n)
theorem D3 {n x:Int}:inN n x=true↔0≤x∧x<n:=by simp [inN]
theorem CT {n x:Int} (h:inN n x=true):∃k:Nat,x=(k:Int)∧k<n.toNat:=⟨x.toNat,by have:=D3.1 h; omega,by have:=D3.1 h; omega⟩
structure WA.In (a:WA):Prop where
 start:∀x∈a.start,inN a.states x=true
 accept:∀x∈a.accept,inN a.states x=true
 edge:∀e∈a.edges,inN a.states e.frm=true∧inN a.letters e.letter=true∧inN a.states e.to=true
def WA.edgeB (a:WA) (e:Edg):Bool:=inN a.states e.frm&&inN a.states e.to&&inN a.letters e.letter
def WA.ok (a:WA):Bool:=decide (1≤a.letters)&&decide (a.letters≤8)&&decide (0≤a.states)&&decide (a.states≤400)&&a.start.all (inN a.states)&&a.accept.all (inN a.states)&&a.edges.all a.edgeB
theorem WA.ok_iff {a:WA}:a.ok=true↔(1≤a.letters∧a.letters≤8∧0≤a.states∧a.states≤400)∧a.In:=by
 simp only [WA.ok,Bool.and_eq_true,decide_eq_true_eq,List.all_eq_true,WA.edgeB]
 constructor
 ·rintro⟨⟨⟨⟨⟨⟨h1,z⟩,C⟩,E⟩,F⟩,G⟩,h⟩
  exact⟨⟨h1,z,C,E⟩,F,G,fun e y=>⟨(h e y).1.1,(h e y).2,(h e y).1.2⟩⟩
 ·rintro⟨⟨h1,z,C,E⟩,F,G,h⟩
  exact⟨⟨⟨⟨⟨⟨h1,z⟩,C⟩,E⟩,F⟩,G⟩,fun e y=>⟨⟨(h e y).1,(h e y).2.2⟩,(h e y).2.1⟩⟩
def WA.L (a:WA):Nat:=a.letters.toNat
def WA.n (a:WA):Nat:=a.states.toNat
def BN (n:Nat) (l:List Int):List Bool:=(List.range n).map fun q:Nat=>decide ((q:Int)∈l)
theorem Dh (n:Nat) (l:List Int):(BN n l).length=n:=by simp [BN]
theorem Dg {n:Nat} {l:List Int} {q:Nat} (h:q<n):(BN n l)[q]?=some (decide ((q:Int)∈l)):=by simp [BN,h]
def AJ (m:List Bool):List Int:=((List.range m.length).filter fun q=>m.getD q false).map fun q:Nat=>(q:Int)
theorem Ee {m:List Bool} {x:Int}:x∈AJ m↔∃q:Nat,x=(q:Int)∧m[q]?=some true:=by
 simp only [AJ,List.mem_map,List.mem_filter,List.mem_range]
 constructor
 ·rintro⟨q,⟨h1,y⟩,rfl⟩
  exact⟨q,rfl,by rw [List.getD_eq_getElem?_getD,List.getElem?_eq_getElem h1] at y; rw [List.getElem?_eq_getElem h1]; exact congrArg some y⟩
 ·rintro⟨q,rfl,h⟩
  exact⟨q,⟨AP h,getD_some h⟩,rfl⟩
def Asc (l:List Int):Prop:=l.Pairwise (· < ·)
theorem Md (n:Nat) (p:Nat→Bool):Asc (((List.range n).filter p).map fun q:Nat=>(q:Int)):=by
 refine List.pairwise_map.2 (List.Pairwise.filter _ ?_)
 exact(List.pairwise_lt_range).imp fun h=>by omega
theorem Me (m:List Bool):Asc (AJ m):=Md _ _
theorem IU:∀{l k:List Int},Asc l→Asc k→(∀x,x∈l↔x∈k)→l=k
 | [],[],_,_,_=>rfl
 | [],y::k,_,_,h=>absurd ((h y).2 List.mem_cons_self) List.not_mem_nil
 | x::l,[],_,_,h=>absurd ((h x).1 List.mem_cons_self) List.not_mem_nil
 | x::l,y::k,hl,hk,h=>by
  obtain⟨h1,I⟩:=List.pairwise_cons.1 hl
  obtain⟨G,M⟩:=List.pairwise_cons.1 hk
  have J:x=y:=by
   rcases List.mem_cons.1 ((h x).1 List.mem_cons_self) with e | e
   ·exact e
   ·rcases List.mem_cons.1 ((h y).2 List.mem_cons_self) with E | E
    ·exact E.symm
    ·have:=h1 y E; have:=G x e; omega
  subst J
  rw [IU I M fun z=>?_]
  have F:=h z
  simp only [List.mem_cons] at F
  constructor
  ·intro C
   rcases F.1 (.inr C) with rfl | e
   ·have:=h1 z C; omega
   ·exact e
  ·intro C
   rcases F.2 (.inr C) with rfl | e
   ·have:=G z C; omega
   ·exact e
theorem SX {m k:List Bool} (E:m.length=k.length) (h:AJ m=AJ k):m=k:=by
 apply List.ext_getElem?
 intro i
 rcases Nat.lt_or_ge i m.length with z | z
 ·obtain⟨b,y⟩:=An z
  obtain⟨c,C⟩:=An (l:=k) (i:=i) (by omega)
  have:=(Ee (m:=m) (x:=i)).symm.trans ((by rw [h]:(i:Int)∈AJ m↔(i:Int)∈AJ k).trans Ee)
  have e:∀(l:List Bool) (b:Bool),l[i]?=some b→((∃q:Nat,(i:Int)=(q:Int)∧l[q]?=some true)↔b=true):=fun l b y=>by
   constructor
   ·rintro⟨q,F,h⟩
    have:q=i:=by omega
    subst this
    exact(Option.some.inj (h.symm.trans y)).symm
   ·rintro rfl
    exact⟨i,rfl,y⟩
  rw [e m b y,e k c C] at this
  rw [y,C]
  cases b <;> cases c <;> simp_all
 ·rw [List.getElem?_eq_none z,List.getElem?_eq_none (by omega)]
structure NF where
 L:Nat
 nx:List (List (List Int))
 start:List Int
 acc:List Bool
def NF.n (a:NF):Nat:=a.nx.length
def NF.to (a:NF) (s x:Nat):List Int:=(a.nx.getD s []).getD x []
structure NF.OK (a:NF):Prop where
 acc:a.acc.length=a.n
 row:∀r∈a.nx,r.length=a.L
 to:∀r∈a.nx,∀l∈r,∀x∈l,inN a.n x=true
 start:∀x∈a.start,inN a.n x=true
def NF.after (a:NF) (m:List Bool) (x:Nat):List Bool:=(List.range a.n).map fun q:Nat=>(List.range a.n).any fun s=>m.getD s false&&decide ((q:Int)∈a.to s x)
def NF.st (a:NF):List Bool:=BN a.n a.start
def NF.has (a:NF) (m:List Bool):Bool:=(List.range a.n).any fun s=>m.getD s false&&a.acc.getD s false
def NF.lang (a:NF) (w:List Nat):Bool:=a.has (Ay a.after a.st w)
theorem NF.after_len (a:NF) (m:List Bool) (x:Nat):(a.after m x).length=a.n:=by simp [NF.after]
theorem NF.st_len (a:NF):a.st.length=a.n:=Dh _ _
theorem NF.run_len (a:NF) {L:Nat} {w:List Nat} (h:okW L w):(Ay a.after a.st w).length=a.n:=
 Ew (I:=fun m=>m.length=a.n) (fun m x _ _=>a.after_len m x) w _ h a.st_len
def NF.Large (a:NF) (k:Nat):Prop:=∃i l,Exp a.L a.after a.st i l∧k<l.length
theorem NF.not_large {a:NF} {k:Nat} {l:List (List Bool)} (h:Bf a.L a.after a.st l) (z:l.length≤k):¬a.Large k:=by
 rintro⟨i,m,y,hk⟩
 have:=(h.top y).2.length_le
 omega
def WA.to (a:WA) (s x:Nat):List Int:=(a.edges.filter fun e=>decide (e.frm=(s:Int))&&decide (e.letter=(x:Int))).map (·.to)
def WA.nf (a:WA):NF:=⟨a.L,(List.range a.n).map fun s=>(List.range a.L).map fun x=>a.to s x,a.start,BN a.n a.accept⟩
theorem WA.nf_n (a:WA):a.nf.n=a.n:=by simp [NF.n,WA.nf]
theorem WA.nf_to (a:WA) {s x:Nat} (h:s<a.n) (y:x<a.L):a.nf.to s x=a.to s x:=by
 simp [NF.to,WA.nf,List.getD_eq_getElem?_getD,h,y]
theorem WA.mem_to {a:WA} {s x:Nat} {y:Int}:y∈a.to s x↔∃e∈a.edges,e.frm=(s:Int)∧e.letter=(x:Int)∧e.to=y:=by
 simp [WA.to,and_assoc]
theorem WA.nf_ok {a:WA} (h:a.In):a.nf.OK:=by
 have E:∀x:Int,inN a.states x=true→inN a.nf.n x=true:=fun x z=>by
  rw [a.nf_n,D3]; rw [D3] at z; unfold WA.n; omega
 refine⟨by rw [a.nf_n]; exact Dh _ _,fun r C=>?_,fun r C l G x z=>?_,fun x z=>E x (h.start x z)⟩
 ·obtain⟨s,_,rfl⟩:=List.mem_map.1 C
  simp [WA.nf]
 ·obtain⟨s,_,rfl⟩:=List.mem_map.1 C
  obtain⟨y,_,rfl⟩:=List.mem_map.1 G
  obtain⟨e,F,_,_,rfl⟩:=WA.mem_to.1 z
  exact E _ (h.edge e F).2.2
def WA.lang (a:WA) (w:List Nat):Bool:=a.nf.lang w
def AG (L:Nat) (t:List (List Nat)) (ac:List Bool):WA:=
 ⟨(L:Int),(ac.length:Int),[0],AJ ac,(List.range ac.length).flatMap fun q:Nat=>(List.range L).map fun x:Nat=>⟨(q:Int),(x:Int),(dnx t q x:Int)⟩⟩
end Go.Proofs.YtfcfpoemojjglaaGreatDoor
namespace Go.Proofs.YtfcfpoemojjglaaGreatDoor
def NF.B (a:NF):Nat→Nat→Bool
 | 0,q=>a.acc.getD q false
 | d+1,q=>(List.range a.n).any fun y=>(List.range a.L).any (fun x=>decide ((y:Int)∈a.to q x))&&a.B d y
theorem NF.B_succ {a:NF} {d q:Nat}:a.B (d+1) q=true↔∃x y,x<a.L∧y<a.n∧(y:Int)∈a.to q x∧a.B d y=true:=by
 simp only [NF.B,List.any_eq_true,List.mem_range,Bool.and_eq_true,decide_eq_true_eq]
 constructor
 ·rintro⟨y,E,⟨x,C,h⟩,z⟩
  exact⟨x,y,C,E,h,z⟩
 ·rintro⟨x,y,C,E,h,z⟩
  exact⟨y,E,⟨x,C,h⟩,z⟩
def NF.Dist (a:NF) (q k:Nat):Prop:=a.B k q=true∧∀e,e<k→a.B e q=false
theorem NF.Dist.unique {a:NF} {q k j:Nat} (h:a.Dist q k) (z:a.Dist q j):k=j:=by
 rcases Nat.lt_trichotomy k j with y | y | y
 ·have:=z.2 k y; rw [h.1] at this; exact absurd this (by simp)
 ·exact y
 ·have:=h.2 j y; rw [z.1] at this; exact absurd this (by simp)
theorem NF.dist_of {a:NF} {q:Nat}:∀(k:Nat),a.B k q=true→∃j,j≤k∧a.Dist q j:=by
 intro k
 induction k using Nat.strongRecOn with
 | _ k ih=>
  intro h
  by_cases z:∃e,e<k∧a.B e q=true
  ·obtain⟨e,y,C⟩:=z
   obtain⟨j,F,hd⟩:=ih e y C
   exact⟨j,by omega,hd⟩
  ·refine⟨k,Nat.le_refl _,h,fun e y=>?_⟩
   rcases E:a.B e q with _ | _
   ·rfl
   ·exact absurd ⟨e,y,E⟩ z
theorem NF.Dist.next {a:NF} {q k:Nat} (h:a.Dist q (k+1)):∃x y,x<a.L∧y<a.n∧(y:Int)∈a.to q x∧a.Dist y k:=by
 obtain⟨x,y,C,E,z,F⟩:=NF.B_succ.1 h.1
 refine⟨x,y,C,E,z,F,fun e I=>?_⟩
 rcases G:a.B e y with _ | _
 ·rfl
 ·have:=h.2 (e+1) (by omega)
  rw [NF.B_succ.2 ⟨x,y,C,E,z,G⟩] at this
  exact absurd this (by simp)
theorem NF.Dist.lt {a:NF} {q k:Nat} (C:q<a.n) (h:a.Dist q k):k<a.n:=by
 have key:∀(k q:Nat),q<a.n→a.Dist q k→∃l:List Nat,l.length=k+1∧l.Nodup∧(∀s∈l,s<a.n)∧∀s∈l,∃j,j≤k∧a.Dist s j:=by
  intro k
  induction k with
  | zero=>exact fun q C h=>⟨[q],rfl,by simp,by simpa using C,fun s z=>⟨0,Nat.le_refl _,by rw [List.mem_singleton.1 z]; exact h⟩⟩
  | succ k ih=>
   intro q C h
   obtain⟨x,y,_,O,_,hd⟩:=h.next
   obtain⟨l,h1,E,F,I⟩:=ih y O hd
   refine⟨q::l,by simp [h1],List.nodup_cons.2 ⟨fun M=>?_,E⟩,fun s z=>?_,fun s z=>?_⟩
   ·obtain⟨j,J,G⟩:=I q M
    have:=h.unique G
    omega
   ·rcases List.mem_cons.1 z with rfl | z
    ·exact C
    ·exact F s z
   ·rcases List.mem_cons.1 z with rfl | z
    ·exact⟨k+1,Nat.le_refl _,h⟩
    ·obtain⟨j,J,G⟩:=I s z
     exact⟨j,by omega,G⟩
 obtain⟨l,h1,E,F,_⟩:=key k q C h
 have:=D6 l (List.range a.n) E fun s z=>List.mem_range.2 (F s z)
 simp at this
 omega
structure NF.Far (a:NF) (far:List Int):Prop where
 len:far.length=a.n
 at_:∀q,q<a.n→(far.getD q (-1)= -1∧∀d,a.B d q=false)∨∃k:Nat,far.getD q (-1)=(k:Int)∧a.Dist q k
theorem NF.Far.iff {a:NF} {far:List Int} (h:a.Far far) {q:Nat} (z:q<a.n) (k:Nat):far.getD q (-1)=(k:Int)↔a.Dist q k:=by
 rcases h.at_ q z with⟨h1,y⟩ | ⟨j,h1,y⟩
 ·rw [h1]
  exact⟨fun e=>by omega,fun hd=>by have:=y k; rw [hd.1] at this; exact absurd this (by simp)⟩
 ·rw [h1]
  constructor
  ·intro e
   have:j=k:=by omega
   subst this
   exact y
  ·intro hd
   rw [y.unique hd]
theorem NF.Far.unique {a:NF} {far C:List Int} (h:a.Far far) (E:a.Far C):far=C:=by
 apply List.ext_getElem?
 intro q
 rcases Nat.lt_or_ge q a.n with z | z
 ·obtain⟨x,G⟩:=An (l:=far) (i:=q) (by rw [h.len]; exact z)
  obtain⟨y,I⟩:=An (l:=C) (i:=q) (by rw [E.len]; exact z)
  have O:far.getD q (-1)=x:=getD_some G
  have U:C.getD q (-1)=y:=getD_some I
  rw [G,I]
  congr 1
  rcases h.at_ q z with⟨h1,F⟩ | ⟨j,h1,F⟩
  ·rcases E.at_ q z with⟨J,_⟩ | ⟨k,J,M⟩
   ·omega
   ·have:=F k; rw [M.1] at this; exact absurd this (by simp)
  ·have:=(E.iff z j).2 F
   omega
 ·rw [List.getElem?_eq_none (by rw [h.len]; exact z),List.getElem?_eq_none (by rw [E.len]; exact z)]
def AQ (far:List Int) (m:List Bool) (k:Nat):List Bool:=(List.range m.length).map fun q=>m.getD q false&&decide (far.getD q (-1)=(k:Int))
theorem D1 {far:List Int} {m:List Bool} {k q:Nat}:(AQ far m k).getD q false=true↔m.getD q false=true∧far.getD q (-1)=(k:Int):=by
 unfold AQ
 rw [List.getD_eq_getElem?_getD]
 rcases Nat.lt_or_ge q m.length with h | h
 ·simp [h]
 ·rw [List.getElem?_eq_none (by simpa using h),List.getD_eq_getElem?_getD (l:=m),List.getElem?_eq_none h]
  simp
def DU (m:List Bool):Bool:=m.any id
theorem FA {m:List Bool}:DU m=true↔∃q,q<m.length∧m.getD q false=true:=by
 unfold DU
 rw [List.any_eq_true]
 constructor
 ·rintro⟨b,y,h⟩
  obtain⟨q,z⟩:=List.mem_iff_getElem?.1 y
  exact⟨q,AP z,by rw [getD_some z]; exact h⟩
 ·rintro⟨q,z,h⟩
  obtain⟨b,y⟩:=An z
  rw [getD_some y] at h
  exact⟨b,List.mem_of_getElem? y,h⟩
def NF.pick (a:NF) (far:List Int) (m:List Bool) (k:Nat):Option Nat:=(List.range a.L).find? fun x=>DU (AQ far (a.after m x) k)
def NF.shortW (a:NF) (far:List Int):Nat→List Bool→List Nat
 | 0,_=>[]
 | k+1,m=>match a.pick far m k with
  | some x=>x::a.shortW far k (AQ far (a.after m x) k)
  | none=>[]
theorem NF.after_get {a:NF} {m:List Bool} {x y:Nat} (h:y<a.n):(a.after m x).getD y false=true↔∃s,s<a.n∧m.getD s false=true∧(y:Int)∈a.to s x:=by
 unfold NF.after
 rw [List.getD_eq_getElem?_getD]
 simp [h]
theorem NF.after_mono {a:NF} {m m':List Bool} (h:∀q,m.getD q false=true→m'.getD q false=true) (x q:Nat) (z:(a.after m x).getD q false=true):(a.after m' x).getD q false=true:=by
 rcases Nat.lt_or_ge q a.n with y | y
 ·obtain⟨s,h1,C,E⟩:=(NF.after_get y).1 z
  exact(NF.after_get y).2 ⟨s,h1,h s C,E⟩
 ·rw [List.getD_eq_getElem?_getD,List.getElem?_eq_none (by rw [a.after_len]; exact y)] at z
  simp at z
theorem NF.run_mono {a:NF}:∀(w:List Nat) {m m':List Bool},(∀q,m.getD q false=true→m'.getD q false=true)→∀q,(Ay a.after m w).getD q false=true→(Ay a.after m' w).getD q false=true
 | [],_,_,h=>h
 | x::w,_,_,h=>NF.run_mono w (NF.after_mono h x)
theorem NF.has_iff {a:NF} {m:List Bool}:a.has m=true↔∃s,s<a.n∧m.getD s false=true∧a.acc.getD s false=true:=by
 simp [NF.has]
theorem NF.has_mono {a:NF} {m m':List Bool} (h:∀q,m.getD q false=true→m'.getD q false=true) (C:a.has m=true):a.has m'=true:=by
 obtain⟨s,h1,y,z⟩:=NF.has_iff.1 C
 exact NF.has_iff.2 ⟨s,h1,h s y,z⟩
theorem NF.B_of {a:NF}:∀(w:List Nat) {m:List Bool},okW a.L w→a.has (Ay a.after m w)=true→∃s,s<a.n∧m.getD s false=true∧a.B w.length s=true
 | [],_,_,h=>by
  obtain⟨s,h1,C,F⟩:=NF.has_iff.1 h
  exact⟨s,h1,C,F⟩
 | x::w,m,hw,h=>by
  obtain⟨y,E,I,G⟩:=NF.B_of w (m:=a.after m x) (fun z M=>hw z (List.mem_cons_of_mem _ M)) h
  obtain⟨s,J,h1,C⟩:=(NF.after_get E).1 I
  exact⟨s,J,h1,NF.B_succ.2 ⟨x,y,hw x List.mem_cons_self,E,C,G⟩⟩
structure NF.Lev (a:NF) (far:List Int) (m:List Bool) (k:Nat):Prop where
 len:m.length=a.n
 ne:∃q,q<a.n∧m.getD q false=true
 all:∀q,q<a.n→m.getD q false=true→a.Dist q k
theorem NF.Lev.cut {a:NF} {far:List Int} (C:a.Far far) {m:List Bool} {k:Nat} (E:m.length=a.n) (h:DU (AQ far m k)=true):a.Lev far (AQ far m k) k:=by
 obtain⟨q,z,y⟩:=FA.1 h
 have F:(AQ far m k).length=a.n:=by simp [AQ,E]
 exact⟨F,⟨q,by omega,y⟩,fun q z y=>(C.iff z k).1 (D1.1 y).2⟩
theorem NF.Lev.pick {a:NF} {far:List Int} (J:a.Far far) {m:List Bool} {k:Nat} (h:a.Lev far m (k+1)):∃x,a.pick far m k=some x∧x<a.L∧a.Lev far (AQ far (a.after m x) k) k∧∀y,y<x→DU (AQ far (a.after m y) k)=false:=by
 obtain⟨q,U,O⟩:=h.ne
 obtain⟨x,y,hx,F,a2,hd⟩:=(h.all q U O).next
 have Z:DU (AQ far (a.after m x) k)=true:=FA.2 ⟨y,by simp [AQ,a.after_len,F],D1.2 ⟨(NF.after_get F).2 ⟨q,U,O,a2⟩,(J.iff F k).2 hd⟩⟩
 rcases E:a.pick far m k with _ | z
 ·have:=List.find?_eq_none.1 E x (List.mem_range.2 hx)
  rw [Z] at this
  exact absurd rfl this
 ·have h1:=List.find?_some E
  have I:=List.mem_of_find?_eq_some E
  refine⟨z,rfl,List.mem_range.1 I,NF.Lev.cut J (a.after_len _ _) h1,fun y F=>?_⟩
  obtain⟨G,l2,M,W⟩:=(List.find?_eq_some_iff_append.1 E).2
  have a5:G.length=z:=by
   have C:(List.range a.L)[G.length]?=some z:=by rw [M]; simp
   have V:=AP C
   rw [List.getElem?_range (by simpa using V)] at C
   exact Option.some.inj C
  have a4:y∈G:=by
   have C:(List.range a.L)[y]?=some y:=by
    rw [List.getElem?_range]
    have:=List.mem_range.1 I; omega
   rw [M,List.getElem?_append_left (by omega)] at C
   exact List.mem_of_getElem? C
  have:=W y a4
  simpa using this
theorem NF.shortW_spec {a:NF} {far:List Int} (F:a.Far far):∀(k:Nat) (m:List Bool),a.Lev far m k→okW a.L (a.shortW far k m)∧(a.shortW far k m).length=k∧a.has (Ay a.after m (a.shortW far k m))=true:=by
 intro k
 induction k with
 | zero=>
  intro m h
  obtain⟨q,y,z⟩:=h.ne
  exact⟨okW.nil _,rfl,NF.has_iff.2 ⟨q,y,z,(h.all q y z).1⟩⟩
 | succ k ih=>
  intro m h
  obtain⟨x,I,J,G,_⟩:=h.pick F
  obtain⟨h1,C,E⟩:=ih _ G
  have e:a.shortW far (k+1) m=x::a.shortW far k (AQ far (a.after m x) k):=by rw [NF.shortW,I]
  rw [e]
  generalize a.shortW far k (AQ far (a.after m x) k)=w at*
  refine⟨h1.cons J,by rw [List.length_cons,C],?_⟩
  show a.has (Ay a.after (a.after m x) w)=true
  exact NF.has_mono (NF.run_mono w (m':=a.after m x) fun q y=>(D1.1 y).1) E
theorem NF.single {a:NF}:∀(w:List Nat) {m:List Bool},a.has (Ay a.after m w)=true→∃s,s<a.n∧m.getD s false=true∧∀m':List Bool,m'.getD s false=true→a.has (Ay a.after m' w)=true
 | [],m,h=>by
  obtain⟨s,h1,z,G⟩:=NF.has_iff.1 h
  exact⟨s,h1,z,fun m' C=>NF.has_iff.2 ⟨s,h1,C,G⟩⟩
 | x::w,m,h=>by
  obtain⟨y,F,C,I⟩:=NF.single w (m:=a.after m x) h
  obtain⟨s,E,h1,z⟩:=(NF.after_get F).1 C
  exact⟨s,E,h1,fun m' J=>I _ ((NF.after_get F).2 ⟨s,E,J,z⟩)⟩
def FX:List Nat→List Nat→Prop
 | [],_=>True
 | _::_,[]=>False
 | x::u,y::v=>x<y∨x=y∧FX u v
theorem NF.shortW_first {a:NF} {far:List Int} (E:a.Far far):∀(k:Nat) (m:List Bool) (v:List Nat),a.Lev far m k→okW a.L v→v.length=k→a.has (Ay a.after m v)=true→FX (a.shortW far k m) v
  | 0,_,_,_,_,_,_=>trivial
  | k+1,m,[],_,_,hl,_=>absurd hl (by simp)
  | k+1,m,y::v,h,hv,hl,hA=>by
    obtain⟨x,hp,hx,Z,a3⟩:=h.pick E
    simp only [NF.shortW,hp,FX]
    have M:v.length=k:=by simpa using hl
    have U:okW a.L v:=fun z hz=>hv z (List.mem_cons_of_mem _ hz)
    obtain⟨s,C,O,I⟩:=NF.single v (m:=a.after m y) hA
    have hd:a.Dist s k:=by
      obtain⟨q,hq,a4,a8⟩:=(NF.after_get C).1 O
      have W:a.B k s=true:=by
        obtain⟨V,a7,h1,G⟩:=NF.B_of v (m:=BN a.n [(s:Int)]) U (I _ (by rw [getD_some (Dg C)]; simp))
        rw [getD_some (Dg a7)] at h1
        have:V=s:=by have:(V:Int)=(s:Int):=by simpa using h1
                     omega
        rw [M] at G
        rwa [this] at G
      refine⟨W,fun e he=>?_⟩
      rcases hb:a.B e s with _ | _
      · rfl
      · have:=(h.all q hq a4).2 (e+1) (by omega)
        rw [NF.B_succ.2 ⟨y,s,hv y List.mem_cons_self,C,a8,hb⟩] at this
        exact absurd this (by simp)
    have J:(AQ far (a.after m y) k).getD s false=true:=D1.2 ⟨O,(E.iff C k).2 hd⟩
    rcases Nat.lt_trichotomy x y with F | rfl | F
    · exact .inl F
    · exact .inr ⟨rfl,NF.shortW_first E k _ v Z U M (I _ J)⟩
    · have h1:=a3 y F
      rw [FA.2 ⟨s,by simp [AQ,a.after_len,C],J⟩] at h1
      exact absurd h1 (by simp)
structure NF.Short (a:NF) (r:Option (List Nat)):Prop where
 non:r=none→∀w,okW a.L w→a.lang w=false
 som:∀w,r=some w→okW a.L w∧a.lang w=true∧∀v,okW a.L v→a.lang v=true→w.length<v.length∨w.length=v.length∧FX w v
def Ur (L:Nat) (Λ:List Nat→Bool) (z:List Nat):Prop:=okW L z∧Λ z=true∧∀v,okW L v→Λ v=true→z.length<v.length∨z.length=v.length∧FX z v
end Go.Proofs.YtfcfpoemojjglaaGreatDoor
namespace Go.Proofs.YtfcfpoemojjglaaGreatDoor
def NF.psR (a:NF) (s x:Nat):List (Nat×Int):=(List.range x).flatMap fun y=>(a.to s y).map fun t=>(s,t)
def NF.psS (a:NF) (s:Nat):List (Nat×Int):=(List.range s).flatMap fun r=>a.psR r a.L
def NF.ps (a:NF) (s x j:Nat):List (Nat×Int):=a.psS s++a.psR s x++((a.to s x).take j).map fun t=>(s,t)
theorem NF.ps_step {a:NF} {s x j:Nat} {t:Int} (h:(a.to s x)[j]?=some t):a.ps s x (j+1)=a.ps s x j++[(s,t)]:=by
 unfold NF.ps
 rw [List.take_add_one,h]
 simp
theorem NF.ps_row {a:NF} {s x j:Nat} (h:(a.to s x).length≤j):a.ps s x j=a.ps s (x+1) 0:=by
 unfold NF.ps
 rw [List.take_of_length_le h]
 simp [NF.psR,List.range_succ]
theorem NF.ps_state {a:NF} {s:Nat}:a.ps s a.L 0=a.ps (s+1) 0 0:=by
 unfold NF.ps
 simp [NF.psS,NF.psR,List.range_succ]
theorem Ju {S T:Type} {f:S→List T} {l m:List S} (h:l<+:m):(l.flatMap f).length≤(m.flatMap f).length:=by
 obtain⟨k,rfl⟩:=h
 simp
theorem KA {m n:Nat} (h:m≤n):List.range m<+:List.range n:=by
 have:n=m+(n - m):=by omega
 rw [this,List.range_add]
 exact List.prefix_append _ _
theorem NF.ps_len {a:NF} {s x j:Nat} (C:s<a.n) (E:x<a.L):(a.ps s x j).length≤(a.psS a.n).length:=by
 have h1:(a.psS (s+1)).length≤(a.psS a.n).length:=Ju (KA (by omega))
 have h:(a.psR s (x+1)).length≤(a.psR s a.L).length:=Ju (KA (by omega))
 have y:(a.psS (s+1)).length=(a.psS s).length+(a.psR s a.L).length:=by simp [NF.psS,List.range_succ]
 have z:(a.psR s (x+1)).length=(a.psR s x).length+(a.to s x).length:=by simp [NF.psR,List.range_succ]
 unfold NF.ps
 simp only [List.length_append,List.length_map,List.length_take]
 omega
theorem NF.to_len {a:NF} {s x:Nat} (h:s<a.n) (y:x<a.L):(a.to s x).length≤(a.psS a.n).length:=by
 have:=a.ps_len (j:=(a.to s x).length) h y
 unfold NF.ps at this
 simp only [List.length_append,List.length_map,List.length_take] at this
 omega
theorem NF.mem_psS {a:NF} {n s:Nat} {t:Int}:(s,t)∈a.psS n↔s<n∧∃x,x<a.L∧t∈a.to s x:=by
 simp only [NF.psS,NF.psR,List.mem_flatMap,List.mem_range,List.mem_map,Prod.mk.injEq]
 constructor
 ·rintro⟨r,z,x,y,u,h,rfl,rfl⟩
  exact⟨z,x,y,h⟩
 ·rintro⟨C,x,y,h⟩
  exact⟨s,C,x,y,t,h,rfl,rfl⟩
def Bp (ps:List (Nat×Int)) (y:Nat):List Nat:=(ps.filter fun p=>decide (p.2=(y:Int))).map (·.1)
theorem IX (ps:List (Nat×Int)) (y:Nat):(Bp ps y).length≤ps.length:=by
 unfold Bp
 rw [List.length_map]
 exact List.length_filter_le _ _
theorem Ms (ps:List (Nat×Int)) (s t y:Nat):Bp (ps++[(s,(t:Int))]) y=if y=t then Bp ps y++[s] else Bp ps y:=by
 unfold Bp
 rw [List.filter_append,List.map_append]
 by_cases e:y=t
 ·subst e; simp
 ·rw [if_neg e]
  have:decide ((t:Int)=(y:Int))=false:=by simp; omega
  simp [this]
theorem Q5 {ps:List (Nat×Int)} {s y:Nat}:s∈Bp ps y↔(s,(y:Int))∈ps:=by
 simp only [Bp,List.mem_map,List.mem_filter,decide_eq_true_eq]
 constructor
 ·rintro⟨⟨p,t⟩,⟨h1,z⟩,rfl⟩
  simp only at z
  subst z
  exact h1
 ·intro h
  exact⟨_,⟨h,rfl⟩,rfl⟩
def NF.edge (a:NF) (q y:Nat):Prop:=∃x,x<a.L∧(y:Int)∈a.to q x
theorem NF.mem_back {a:NF} {q y:Nat}:q∈Bp (a.psS a.n) y↔q<a.n∧a.edge q y:=Q5.trans NF.mem_psS
def NF.far0 (a:NF) (s:Nat):List Int:=(List.range a.n).map fun q=>if q<s then (if a.acc.getD q false then 0 else -1) else 0
def NF.que0 (a:NF) (s:Nat):List Nat:=(List.range s).filter fun q=>a.acc.getD q false
theorem NF.far0_len (a:NF) (s:Nat):(a.far0 s).length=a.n:=by simp [NF.far0]
theorem NF.far0_at {a:NF} {s q:Nat} (h:q<a.n):(a.far0 s)[q]?=some (if q<s then (if a.acc.getD q false then 0 else -1) else 0):=by
 unfold NF.far0
 rw [List.getElem?_map,List.getElem?_range h]
 rfl
theorem NF.far0_step {a:NF} {s:Nat} (h:s<a.n):(a.far0 s).set s (if a.acc.getD s false then 0 else -1)=a.far0 (s+1):=by
 apply List.ext_getElem?
 intro q
 rw [List.getElem?_set]
 rcases Nat.lt_or_ge q a.n with y | y
 ·rw [far0_at y,far0_at y,far0_len]
  by_cases e:s=q
  ·subst e; simp [h]
  ·rw [if_neg e]
   by_cases C:q<s
   ·have z:q<s+1:=by omega
    simp only [C,z,if_true]
   ·have z:¬q<s+1:=by omega
    simp only [C,z,if_false]
 ·rw [List.getElem?_eq_none (by rw [far0_len]; exact y),List.getElem?_eq_none (by rw [far0_len]; exact y),if_neg (by omega)]
theorem NF.que0_step {a:NF} {s:Nat}:a.que0 (s+1)=if a.acc.getD s false then a.que0 s++[s] else a.que0 s:=by
 unfold NF.que0
 rw [List.range_succ,List.filter_append]
 rw [List.filter_cons,List.filter_nil]
 split
 ·rfl
 ·exact List.append_nil _
def und (far:List Int):Nat:=far.countP fun z=>decide (z= -1)
theorem It:∀{far:List Int} {s:Nat} {v:Int},far[s]?=some (-1)→v≠-1→und (far.set s v)+1=und far
 | [],_,_,h,_=>by simp at h
 | z::far,0,v,h,hv=>by
  have y:z= -1:=by simpa using h
  subst y
  simp [und,List.set_cons_zero,hv]
 | z::far,s+1,v,h,hv=>by
  have:=It (far:=far) (s:=s) (v:=v) (by simpa using h) hv
  unfold und at this ⊢
  rw [List.set_cons_succ,List.countP_cons,List.countP_cons]
  omega
structure NF.Bfs (a:NF) (far:List Int) (qs:List Nat):Prop where
 len:far.length=a.n
 ge:∀q,q<a.n→far.getD q (-1)= -1∨∃k:Nat,far.getD q (-1)=(k:Int)∧a.Dist q k
 acc:∀q,q<a.n→a.acc.getD q false=true→far.getD q (-1)≠-1
 cl:∀q y,q<a.n→y<a.n→far.getD q (-1)= -1→a.edge q y→far.getD y (-1)= -1∨y∈qs
 q:∀y∈qs,y<a.n∧far.getD y (-1)≠-1
 asc:qs.Pairwise fun x y=>far.getD x (-1)≤far.getD y (-1)
 top:∀x∈qs,∀y∈qs,far.getD y (-1)≤far.getD x (-1)+1
 size:qs.length+und far≤a.n
theorem TN (a:NF):(a.que0 a.n).length+und (a.far0 a.n)≤a.n:=by
 have key:∀l:List Nat,(∀q∈l,q<a.n)→(l.filter fun q=>a.acc.getD q false).length+(l.map fun q=>if q<a.n then (if a.acc.getD q false then (0:Int) else -1) else 0).countP (fun z=>decide (z= -1))≤l.length:=by
  intro l
  induction l with
  | nil=>intro _; simp
  | cons q l ih=>
   intro h
   have:=ih fun x C=>h x (List.mem_cons_of_mem _ C)
   have y:=h q List.mem_cons_self
   rw [List.filter_cons,List.map_cons,List.countP_cons,if_pos y]
   rcases E:a.acc.getD q false with _ | _
   ·have e:(if decide ((if false=true then (0:Int) else -1)= -1)=true then 1 else 0)=1:=by decide
    rw [e,if_neg (by decide),List.length_cons]
    omega
   ·have e:(if decide ((if true=true then (0:Int) else -1)= -1)=true then 1 else 0)=0:=by decide
    rw [e,if_pos rfl,List.length_cons,List.length_cons]
    omega
 have:=key (List.range a.n) fun q y=>List.mem_range.1 y
 rw [List.length_range] at this
 exact this
theorem NF.bfs0 (a:NF):a.Bfs (a.far0 a.n) (a.que0 a.n):=by
 have E:∀q,q<a.n→(a.far0 a.n).getD q (-1)=if a.acc.getD q false then 0 else -1:=fun q h=>by
  rw [getD_some (NF.far0_at h),if_pos h]
 have G:∀q,q∈a.que0 a.n↔q<a.n∧a.acc.getD q false=true:=fun q=>by simp [NF.que0]
 have C:∀q∈a.que0 a.n,(a.far0 a.n).getD q (-1)=0:=fun q h=>by
  obtain⟨h1,J⟩:=(G q).1 h
  rw [E q h1,J]; rfl
 refine⟨a.far0_len _,fun q h=>?_,fun q h M=>?_,fun q y h z _ _=>?_,fun y z=>?_,?_,fun x I y z=>?_,TN a⟩
 ·rw [E q h]
  rcases F:a.acc.getD q false with _ | _
  ·exact .inl rfl
  ·exact .inr ⟨0,rfl,F,fun e O=>absurd O (by omega)⟩
 ·rw [E q h,M]; simp
 ·rw [E y z]
  rcases F:a.acc.getD y false with _ | _
  ·exact .inl rfl
  ·exact .inr ((G y).2 ⟨z,F⟩)
 ·exact⟨((G y).1 z).1,by rw [C y z]; decide⟩
 ·exact List.pairwise_of_forall_mem_list fun x I y z=>by rw [C x I,C y z]; exact Int.le_refl _
 ·rw [C x I,C y z]; decide
section
variable {a:NF} {far:List Int} {qs:List Nat}
theorem NF.Bfs.isFar (h:a.Bfs far []):a.Far far:=by
 refine⟨h.len,fun q z=>?_⟩
 rcases h.ge q z with h1 | h1
 ·refine .inl ⟨h1,fun d=>?_⟩
  have key:∀d q,q<a.n→far.getD q (-1)= -1→a.B d q=false:=by
   intro d
   induction d with
   | zero=>
    intro q z h1
    rcases E:a.B 0 q with _ | _
    ·rfl
    ·exact absurd h1 (h.acc q z E)
   | succ d ih=>
    intro q z h1
    rcases E:a.B (d+1) q with _ | _
    ·rfl
    ·obtain⟨x,y,J,G,I,F⟩:=NF.B_succ.1 E
     rcases h.cl q y z G h1 ⟨x,J,I⟩ with C | C
     ·rw [ih y G C] at F; exact absurd F (by simp)
     ·exact absurd C List.not_mem_nil
  exact key d q z h1
 ·exact .inr h1
theorem NF.Bfs.least {hd k:Nat} {t:List Nat} (h:a.Bfs far (hd::t)) (hk:far.getD hd (-1)=(k:Int)):∀e q,q<a.n→far.getD q (-1)= -1→a.B e q=true→k+1≤e:=by
 intro e
 induction e with
 | zero=>intro q F h1 C; exact absurd h1 (h.acc q F C)
 | succ e ih=>
  intro q F h1 C
  obtain⟨x,y,U,G,O,C⟩:=NF.B_succ.1 C
  rcases h.cl q y F G h1 ⟨x,U,O⟩ with z | z
  ·have:=ih y G z C; omega
  ·rcases h.ge y G with E | ⟨j,E,I⟩
   ·exact absurd E (h.q y z).2
   ·have V:j≤e:=by
     rcases Nat.lt_or_ge e j with M | J
     ·have:=I.2 e M; rw [C] at this; exact absurd this (by simp)
     ·exact J
    have W:(k:Int)≤(j:Int):=by
     rcases List.mem_cons.1 z with rfl | z
     ·rw [←hk,←E]; exact Int.le_refl _
     ·rw [←hk,←E]; exact(List.pairwise_cons.1 h.asc).1 y z
    omega
theorem Hs {l:List Int} {s q:Nat} {v d:Int} (y:s<l.length):(l.set s v).getD q d=if q=s then v else l.getD q d:=by
 rw [List.getD_eq_getElem?_getD,List.getElem?_set]
 by_cases e:s=q
 ·subst e; simp [y]
 ·rw [if_neg e,if_neg (fun h=>e h.symm),List.getD_eq_getElem?_getD]
theorem NF.Bfs.find {hd k s:Nat} {t:List Nat} (h:a.Bfs far (hd::t)) (hk:far.getD hd (-1)=(k:Int)) (hs:s<a.n) (hn:far.getD s (-1)= -1) (he:a.edge s hd):a.Bfs (far.set s (((k+1:Nat)):Int)) (hd::(t++[s])):=by
 have a8:s<far.length:=by rw [h.len]; exact hs
 have G:∀q,(far.set s (((k+1:Nat)):Int)).getD q (-1)=if q=s then (((k+1:Nat)):Int) else far.getD q (-1):=fun q=>Hs a8
 have a3:=h.q hd List.mem_cons_self
 have ag:∀y∈hd::t,y≠s:=fun y C e=>(h.q y C).2 (by rw [e]; exact hn)
 have E:∀y∈hd::t,(far.set s (((k+1:Nat)):Int)).getD y (-1)=far.getD y (-1):=fun y C=>by rw [G,if_neg (ag y C)]
 have O:(far.set s (((k+1:Nat)):Int)).getD s (-1)=(((k+1:Nat)):Int):=by rw [G,if_pos rfl]
 have hD:a.Dist s (k+1):=by
  obtain⟨x,F,hm⟩:=he
  refine⟨NF.B_succ.2 ⟨x,hd,F,a3.1,hm,?_⟩,fun e he=>?_⟩
  ·rcases h.ge hd a3.1 with h1 | ⟨j,h1,Z⟩
   ·exact absurd h1 a3.2
   ·have:j=k:=by omega
    subst this
    exact Z.1
  ·rcases hb:a.B e s with _ | _
   ·rfl
   ·have:=h.least hk e s hs hn hb; omega
 have e:hd::(t++[s])=(hd::t)++[s]:=rfl
 have J:∀y,y∈hd::(t++[s])↔y∈hd::t∨y=s:=fun y=>by rw [e,List.mem_append,List.mem_singleton]
 refine⟨by rw [List.length_set]; exact h.len,fun q M=>?_,fun q M hA=>?_,fun q y M C h1 Z=>?_,fun y C=>?_,?_,fun x F y C=>?_,?_⟩
 ·rw [G]
  split
  ·rename_i U; subst U
   exact .inr ⟨k+1,rfl,hD⟩
  ·exact h.ge q M
 ·rw [G]
  split
  ·omega
  ·exact h.acc q M hA
 ·rw [G] at h1
  by_cases U:q=s
  ·rw [if_pos U] at h1; omega
  ·rw [if_neg U] at h1
   by_cases a9:y=s
   ·exact .inr ((J y).2 (.inr a9))
   ·rw [G,if_neg a9]
    rcases h.cl q y M C h1 Z with h3 | h3
    ·exact .inl h3
    ·exact .inr ((J y).2 (.inl h3))
 ·rcases(J y).1 C with C | rfl
  ·rw [E y C]; exact h.q y C
  ·rw [O]; exact⟨hs,by omega⟩
 ·rw [e,List.pairwise_append]
  refine⟨?_,List.pairwise_singleton _ _,fun x F y C=>?_⟩
  ·exact h.asc.imp_of_mem fun {x y} F C hxy=>by rw [E x F,E y C]; exact hxy
  ·rw [List.mem_singleton.1 C,O,E x F]
   have:=h.top hd List.mem_cons_self x F
   omega
 ·have ae:∀z∈hd::t,(k:Int)≤far.getD z (-1):=fun z I=>by
   rcases List.mem_cons.1 I with rfl | I
   ·omega
   ·rw [←hk]; exact(List.pairwise_cons.1 h.asc).1 z I
  rcases(J x).1 F with V | ex <;> rcases(J y).1 C with W | ey
  ·rw [E x V,E y W]; exact h.top x V y W
  ·rw [E x V,ey,O]; have:=ae x V; omega
  ·rw [E y W,ex,O]; have:=h.top hd List.mem_cons_self y W; omega
  ·rw [ex,ey]; omega
 ·have hu:=It (far:=far) (s:=s) (v:=(((k+1:Nat)):Int)) (by
   obtain⟨z,I⟩:=An a8
   rw [I,←getD_some (d:=(-1:Int)) I,hn]) (by omega)
  have:=h.size
  simp only [List.length_cons,List.length_append,List.length_nil] at this ⊢
  omega
theorem NF.Bfs.pop {hd:Nat} {t:List Nat} (h:a.Bfs far (hd::t)) (G:∀q,q<a.n→a.edge q hd→far.getD q (-1)≠-1):a.Bfs far t:=by
 refine⟨h.len,h.ge,h.acc,fun q y F C h1 E=>?_,fun y C=>h.q y (List.mem_cons_of_mem _ C),(List.pairwise_cons.1 h.asc).2,fun x I y C=>h.top x (List.mem_cons_of_mem _ I) y (List.mem_cons_of_mem _ C),?_⟩
 ·rcases h.cl q y F C h1 E with z | z
  ·exact .inl z
  ·rcases List.mem_cons.1 z with rfl | z
   ·exact absurd h1 (G q F E)
   ·exact .inr z
 ·have:=h.size
  rw [List.length_cons] at this
  omega
end
structure NF.BfsJ (a:NF) (far:List Int) (hd:Nat) (t:List Nat) (k m j:Nat):Prop where
 bfs:a.Bfs far (hd::t)
 hk:far.getD hd (-1)=(k:Int)
 pre:∀s∈(Bp (a.psS a.n) hd).take j,far.getD s (-1)≠-1
 size:t.length+und far=m
section
variable {a:NF} {far:List Int} {hd k m j s:Nat} {t:List Nat}
theorem NF.BfsJ.skip (h:a.BfsJ far hd t k m j) (C:(Bp (a.psS a.n) hd)[j]?=some s) (z:far.getD s (-1)≠-1):a.BfsJ far hd t k m (j+1):=by
 refine⟨h.bfs,h.hk,fun q y=>?_,h.size⟩
 rw [List.take_add_one,C] at y
 rcases List.mem_append.1 y with y | y
 ·exact h.pre q y
 ·have:q=s:=by simpa using y
  rw [this]; exact z
theorem NF.BfsJ.found (h:a.BfsJ far hd t k m j) (F:(Bp (a.psS a.n) hd)[j]?=some s) (C:far.getD s (-1)= -1):a.BfsJ (far.set s (((k+1:Nat)):Int)) hd (t++[s]) k m (j+1):=by
 obtain⟨h1,J⟩:=NF.mem_back.1 (List.mem_of_getElem? F)
 have G:s<far.length:=by rw [h.bfs.len]; exact h1
 have E:∀q,(far.set s (((k+1:Nat)):Int)).getD q (-1)=if q=s then (((k+1:Nat)):Int) else far.getD q (-1):=fun q=>Hs G
 refine⟨h.bfs.find h.hk h1 C J,?_,fun q y=>?_,?_⟩
 ·rw [E,if_neg,h.hk]
  rintro rfl
  exact(h.bfs.q _ List.mem_cons_self).2 C
 ·rw [E]
  split
  ·omega
  ·rename_i hne
   rw [List.take_add_one,F] at y
   rcases List.mem_append.1 y with y | y
   ·exact h.pre q y
   ·exact absurd (by simpa using y) hne
 ·have M:=It (far:=far) (s:=s) (v:=(((k+1:Nat)):Int)) (by
   obtain⟨z,I⟩:=An G
   rw [I,←getD_some (d:=(-1:Int)) I,C]) (by omega)
  have:=h.size
  rw [List.length_append,List.length_singleton]
  omega
theorem NF.BfsJ.done (h:a.BfsJ far hd t k m j) (z:(Bp (a.psS a.n) hd).length≤j):a.Bfs far t:=
 h.bfs.pop fun q C y=>h.pre q (by rw [List.take_of_length_le z]; exact NF.mem_back.2 ⟨C,y⟩)
end
end Go.Proofs.YtfcfpoemojjglaaGreatDoor
namespace Go.Proofs.YtfcfpoemojjglaaGreatDoor
def B6 (far:List Int) (b:Int) (l:List Int):Int:=l.foldl (fun b s=>if 0≤far.getD s.toNat (-1)∧(b<0∨far.getD s.toNat (-1)<b) then far.getD s.toNat (-1) else b) b
theorem Mn {far:List Int} {b:Int} {l:List Int} {k:Nat} {s:Int} (h:l[k]?=some s):B6 far b (l.take (k+1))=if 0≤far.getD s.toNat (-1)∧(B6 far b (l.take k)<0∨far.getD s.toNat (-1)<B6 far b (l.take k)) then far.getD s.toNat (-1) else B6 far b (l.take k):=by
 unfold B6
 rw [List.take_add_one,h]
 simp only [Option.toList_some,List.foldl_append,List.foldl_cons,List.foldl_nil]
theorem Hd {far:List Int} (V:∀q,-1≤far.getD q (-1)):∀(l:List Int) (b:Int),-1≤b→-1≤B6 far b l∧
  (B6 far b l<0→b<0∧∀s∈l,far.getD s.toNat (-1)= -1)∧
  (0≤B6 far b l→(B6 far b l=b∨∃s∈l,far.getD s.toNat (-1)=B6 far b l)∧(b<0∨B6 far b l≤b)∧∀s∈l,far.getD s.toNat (-1)= -1∨B6 far b l≤far.getD s.toNat (-1)):=by
 intro l
 induction l with
 | nil=>intro b I; exact⟨I,fun h=>⟨h,fun s y=>absurd y List.not_mem_nil⟩,fun h=>⟨.inl rfl,.inr (Int.le_refl _),fun s y=>absurd y List.not_mem_nil⟩⟩
 | cons x l ih=>
  intro b I
  have W:=V x.toNat
  obtain⟨E,C⟩:∃E,E=if 0≤far.getD x.toNat (-1)∧(b<0∨far.getD x.toNat (-1)<b) then far.getD x.toNat (-1) else b:=⟨_,rfl⟩
  have e:B6 far b (x::l)=B6 far E l:=by rw [C]; rfl
  rw [e]
  have U:-1≤E:=by rw [C]; split <;> omega
  obtain⟨h1,M,O⟩:=ih E U
  refine⟨h1,fun h=>?_,fun h=>?_⟩
  ·obtain⟨z,F⟩:=M h
   rw [C] at z
   split at z
   ·omega
   ·rename_i hn
    refine⟨z,fun s y=>?_⟩
    rcases List.mem_cons.1 y with rfl | y
    ·omega
    ·exact F s y
  ·obtain⟨z,F,G⟩:=O h
   by_cases J:0≤far.getD x.toNat (-1)∧(b<0∨far.getD x.toNat (-1)<b)
   ·rw [if_pos J] at C
    refine⟨?_,?_,fun s y=>?_⟩
    ·rcases z with z | ⟨s,y,z⟩
     ·exact .inr ⟨x,List.mem_cons_self,by omega⟩
     ·exact .inr ⟨s,List.mem_cons_of_mem _ y,z⟩
    ·omega
    ·rcases List.mem_cons.1 y with rfl | y
     ·omega
     ·exact G s y
   ·rw [if_neg J] at C
    subst C
    refine⟨?_,F,fun s y=>?_⟩
    ·rcases z with z | ⟨s,y,z⟩
     ·exact .inl z
     ·exact .inr ⟨s,List.mem_cons_of_mem _ y,z⟩
    ·rcases List.mem_cons.1 y with rfl | y
     ·omega
     ·exact G s y
theorem NF.Far.ge {a:NF} {far:List Int} (h:a.Far far) (q:Nat):-1≤far.getD q (-1):=by
 rcases Nat.lt_or_ge q a.n with y | y
 ·rcases h.at_ q y with⟨h1,_⟩ | ⟨k,h1,_⟩ <;> omega
 ·rw [List.getD_eq_getElem?_getD,List.getElem?_eq_none (by rw [h.len]; exact y)]
  exact Int.le_refl _
def NF.shortR (a:NF) (far:List Int):Option (List Nat):=
 if B6 far (-1) a.start<0 then none else some (a.shortW far (B6 far (-1) a.start).toNat (AQ far a.st (B6 far (-1) a.start).toNat))
theorem NF.st_get {a:NF} {q:Nat} (h:q<a.n):a.st.getD q false=decide ((q:Int)∈a.start):=getD_some (Dg h)
theorem NF.start_lev {a:NF} {far:List Int} (y:a.Far far) (F:a.OK) {k:Nat} (hk:B6 far (-1) a.start=(k:Int)):a.Lev far (AQ far a.st k) k:=by
 obtain⟨_,_,E⟩:=Hd y.ge a.start (-1) (by omega)
 obtain⟨h,_,_⟩:=E (by omega)
 rcases h with h | ⟨s,C,h⟩
 ·omega
 ·obtain⟨q,rfl,G⟩:=CT (F.start s C)
  have z:q<a.n:=by simpa using G
  refine NF.Lev.cut y a.st_len (FA.2 ⟨q,by simp [AQ,a.st_len,z],D1.2 ⟨?_,?_⟩⟩)
  ·rw [NF.st_get z]; simpa using C
  ·have:((q:Int)).toNat=q:=by omega
   rw [this] at h
   rw [h,hk]
theorem NF.shortR_ok {a:NF} {far:List Int} (E:a.Far far) (ae:a.OK):a.Short (a.shortR far):=by
  obtain⟨h1,J,h3⟩:=Hd E.ge a.start (-1) (by omega)
  have hB:∀w,okW a.L w→a.lang w=true→∃s:Nat,s<a.n∧(s:Int)∈a.start∧a.B w.length s=true:=fun w Z h=>by
    obtain⟨s,C,z,y⟩:=NF.B_of w Z h
    rw [NF.st_get C] at z
    exact⟨s,C,by simpa using z,y⟩
  unfold NF.shortR
  split
  · rename_i F
    refine⟨fun _ w Z=>?_,fun w h=>by cases h⟩
    rcases y:a.lang w with _ | _
    · rfl
    · obtain⟨s,C,z,y⟩:=hB w Z y
      have:=(J F).2 _ z
      have e:((s:Int)).toNat=s:=by omega
      rw [e] at this
      rcases E.at_ s C with⟨_,M⟩ | ⟨k,M,_⟩
      · rw [M] at y; exact absurd y (by simp)
      · omega
  · rename_i U
    obtain⟨k,hk⟩:=Int.eq_ofNat_of_zero_le (show 0≤B6 far (-1) a.start by omega)
    have hL:=NF.start_lev E ae hk
    obtain⟨h4,M,h6⟩:=NF.shortW_spec E k _ hL
    have ab:(B6 far (-1) a.start).toNat=k:=by omega
    rw [ab]
    refine⟨fun h=>(by cases h),fun w h=>?_⟩
    injection h with h
    have ad:∀v,a.has (Ay a.after (AQ far a.st k) v)=true→a.lang v=true:=fun v I=>NF.has_mono (NF.run_mono v (m':=a.st) fun q hq=>(D1.1 hq).1) I
    subst h
    refine⟨h4,ad _ h6,fun v I hA=>?_⟩
    rw [M]
    obtain⟨s,C,z,y⟩:=hB v I hA
    have ai:(k:Int)≤v.length:=by
      have:=(h3 (by omega)).2.2 _ z
      have e:((s:Int)).toNat=s:=by omega
      rw [e] at this
      rcases E.at_ s C with⟨_,G⟩ | ⟨j,G,V⟩
      · rw [G] at y; exact absurd y (by simp)
      · have:j≤v.length:=by
          rcases Nat.lt_or_ge v.length j with F | U
          · rw [V.2 _ F] at y; exact absurd y (by simp)
          · exact U
        omega
    rcases Nat.lt_or_ge k v.length with F | ah
    · exact .inl F
    · have W:v.length=k:=by omega
      refine .inr ⟨W.symm,?_⟩
      refine NF.shortW_first E k _ v hL I W ?_
      obtain⟨s,C,z,a6⟩:=NF.single v (m:=a.st) hA
      refine a6 _ (D1.2 ⟨z,?_⟩)
      have O:a.B k s=true:=by
        obtain⟨s',ag,h1,J⟩:=NF.B_of v (m:=BN a.n [(s:Int)]) I (a6 _ (by rw [getD_some (Dg C)]; simp))
        rw [getD_some (Dg ag)] at h1
        have:s'=s:=by have:(s':Int)=(s:Int):=by simpa using h1
                      omega
        rw [W] at J
        rwa [this] at J
      rw [NF.st_get C] at z
      have aa:=(h3 (by omega)).2.2 _ (by simpa using z)
      have e:((s:Int)).toNat=s:=by omega
      rw [e] at aa
      rcases E.at_ s C with⟨_,G⟩ | ⟨j,G,V⟩
      · rw [G] at O; exact absurd O (by simp)
      · have:j≤k:=by
          rcases Nat.lt_or_ge k j with F | U
          · rw [V.2 _ F] at O; exact absurd O (by simp)
          · exact U
        omega
structure NF.Rel (a:NF) (es:List (Nat×Nat)) (far:List Int) (d j:Nat):Prop where
 len:far.length=a.n
 low:∀q k,q<a.n→k<d→(far.getD q (-1)=(k:Int)↔a.Dist q k)
 val:∀q,q<a.n→far.getD q (-1)= -1∨∃k:Nat,far.getD q (-1)=(k:Int)∧k≤d∧a.Dist q k
 done:∀e∈es.take j,far.getD e.2 (-1)+1=(d:Int)→far.getD e.1 (-1)≠-1
section
variable {a:NF} {es:List (Nat×Nat)} {far:List Int} {d j:Nat}
theorem NF.Rel.step (h:a.Rel es far d j) (hd:0<d) (a2:∀e,e∈es↔e.1<a.n∧e.2<a.n∧a.edge e.1 e.2) {q y:Nat} (E:es[j]?=some (q,y)):
  a.Rel es (if far.getD q (-1)<0∧far.getD y (-1)=(d:Int) - 1 then far.set q (d:Int) else far) d (j+1):=by
 obtain⟨J,O,x,hx,hm⟩:=(a2 _).1 (List.mem_of_getElem? E)
 by_cases G:far.getD q (-1)<0∧far.getD y (-1)=(d:Int) - 1
 ·rw [if_pos G]
  have a4:q<far.length:=by rw [h.len]; exact J
  have F:∀r,(far.set q (d:Int)).getD r (-1)=if r=q then (d:Int) else far.getD r (-1):=fun r=>Hs a4
  have a6:a.Dist y (d - 1):=(h.low y (d - 1) O (by omega)).1 (by omega)
  have M:∀k,k<d→¬a.Dist q k:=fun k hk C=>by
   have:=(h.low q k J hk).2 C; omega
  have C:a.Dist q d:=by
   have V:a.B d q=true:=by
    have:=NF.B_succ (a:=a) (d:=d - 1) (q:=q)
    rw [show d - 1+1=d by omega] at this
    exact this.2 ⟨x,y,hx,O,hm,a6.1⟩
   refine⟨V,fun e E=>?_⟩
   rcases W:a.B e q with _ | _
   ·rfl
   ·obtain⟨j,hj,Z⟩:=NF.dist_of e W
    exact absurd Z (M j (by omega))
  refine⟨by rw [List.length_set]; exact h.len,fun r k I hk=>?_,fun r I=>?_,fun e z h1=>?_⟩
  ·rw [F]
   split
   ·rename_i e; subst e
    exact⟨fun e=>by omega,fun C=>absurd C (M k hk)⟩
   ·exact h.low r k I hk
  ·rw [F]
   split
   ·rename_i e; subst e
    exact .inr ⟨d,rfl,Nat.le_refl _,C⟩
   ·exact h.val r I
  ·rw [F]
   split
   ·omega
   ·rename_i hne
    rw [F] at h1
    rw [List.take_add_one,E] at z
    rcases List.mem_append.1 z with z | z
    ·split at h1
     ·omega
     ·exact h.done e z h1
    ·have:e=(q,y):=by simpa using z
     subst this
     exact absurd rfl hne
 ·rw [if_neg G]
  refine⟨h.len,h.low,h.val,fun e z h1=>?_⟩
  rw [List.take_add_one,E] at z
  rcases List.mem_append.1 z with z | z
  ·exact h.done e z h1
  ·have:e=(q,y):=by simpa using z
   subst this
   intro U
   have a7:far.getD y (-1)+1=(d:Int):=h1
   have a8:far.getD q (-1)= -1:=U
   exact G ⟨by omega,by omega⟩
theorem NF.Rel.next (h:a.Rel es far d es.length) (hd:0<d) (O:∀e,e∈es↔e.1<a.n∧e.2<a.n∧a.edge e.1 e.2):a.Rel es far (d+1) 0:=by
 refine⟨h.len,fun q k z hk=>?_,fun q z=>?_,fun e M=>by simp at M⟩
 ·rcases Nat.lt_or_ge k d with U | a3
  ·exact h.low q k z U
  ·have:k=d:=by omega
   subst this
   constructor
   ·intro e
    rcases h.val q z with h1 | ⟨j,h1,_,C⟩
    ·omega
    ·have:j=k:=by omega
     subst this
     exact C
   ·intro F
    obtain⟨E,rfl⟩:∃E,k=E+1:=⟨k - 1,by omega⟩
    obtain⟨x,y,Z,G,V,J⟩:=F.next
    have a2:=(h.low y E G (by omega)).2 J
    have W:(q,y)∈es:=(O _).2 ⟨z,G,x,Z,V⟩
    have:=h.done (q,y) (by rw [List.take_length]; exact W) (by simp only; omega)
    rcases h.val q z with h1 | ⟨j,h1,_,C⟩
    ·exact absurd h1 this
    ·rw [h1,F.unique C]
 ·rcases h.val q z with h1 | ⟨k,h1,C,I⟩
  ·exact .inl h1
  ·exact .inr ⟨k,h1,by omega,I⟩
theorem NF.Rel.isFar (h:a.Rel es far (a.n+1) 0):a.Far far:=by
 refine⟨h.len,fun q y=>?_⟩
 rcases h.val q y with h1 | ⟨k,h1,_,C⟩
 ·refine .inl ⟨h1,fun d=>?_⟩
  rcases E:a.B d q with _ | _
  ·rfl
  ·obtain⟨k,hk,z⟩:=NF.dist_of d E
   have:=(h.low q k y (by have:=z.lt y; omega)).2 z
   omega
 ·exact .inr ⟨k,h1,C⟩
end
end Go.Proofs.YtfcfpoemojjglaaGreatDoor
namespace Go.Proofs.YtfcfpoemojjglaaGreatDoor
def WA.afterE (a:WA) (m:List Bool) (x:Int) (k:Nat):List Bool:=(List.range a.n).map fun q:Nat=>(a.edges.take k).any fun e=>decide (e.letter=x)&&m.getD e.frm.toNat false&&decide (e.to=(q:Int))
theorem WA.nf_acc {a:WA} {s:Nat} (h:s<a.n):a.nf.acc.getD s false=decide ((s:Int)∈a.accept):=getD_some (Dg h)
theorem WA.st_marks (a:WA):a.nf.st=BN a.n a.start:=by unfold NF.st; rw [a.nf_n]; rfl
theorem Hq {E:Type} {p:Nat→E→Bool} (G:∀s y e,p s e=true→p y e=true→s=y) (ls:List Nat) (C:ls.Nodup):∀es:List E,(ls.flatMap fun s=>es.filter (p s)).length≤es.length
 | []=>by
  have:(ls.flatMap fun s=>([]:List E).filter (p s))=[]:=List.flatMap_eq_nil_iff.2 fun _ _=>rfl
  rw [this]
  exact Nat.le_refl _
 | e::es=>by
  have J:=Hq G ls C es
  have h1:∀ls:List Nat,ls.Nodup→(ls.flatMap fun s=>(e::es).filter (p s)).length≤(ls.flatMap fun s=>es.filter (p s)).length+1∧((∀s∈ls,p s e=false)→(ls.flatMap fun s=>(e::es).filter (p s)).length≤(ls.flatMap fun s=>es.filter (p s)).length):=by
   intro ls
   induction ls with
   | nil=>simp
   | cons s ls J=>
    intro C
    obtain⟨U,M⟩:=List.nodup_cons.1 C
    obtain⟨V,I⟩:=J M
    rw [List.flatMap_cons,List.flatMap_cons,List.length_append,List.length_append,List.filter_cons]
    by_cases z:p s e=true
    ·have O:∀y∈ls,p y e=false:=fun y F=>by
      rw [Bool.eq_false_iff]
      intro h
      exact U (by rw [G s y e z h]; exact F)
     have:=I O
     rw [if_pos z,List.length_cons]
     refine⟨by omega,fun h=>?_⟩
     rw [h s List.mem_cons_self] at z
     cases z
    ·rw [if_neg z]
     refine⟨by omega,fun h=>?_⟩
     have:=I fun y F=>h y (List.mem_cons_of_mem _ F)
     omega
  have:=(h1 ls C).1
  rw [List.length_cons]
  omega
theorem WA.ps_len (a:WA):(a.nf.psS a.nf.n).length≤a.edges.length:=by
 have h1:∀s,s<a.n→(a.nf.psR s a.nf.L).length≤(a.edges.filter fun e=>decide (e.frm=(s:Int))).length:=fun s z=>by
  have e:a.nf.psR s a.nf.L=((List.range a.L).flatMap fun x=>(a.edges.filter fun e=>decide (e.frm=(s:Int))).filter fun e=>decide (e.letter=((x:Nat):Int))).map fun e=>(s,e.to):=by
   unfold NF.psR
   rw [List.map_flatMap]
   show(List.range a.L).flatMap _=_
   simp only [List.flatMap]
   congr 1
   refine List.map_congr_left fun x C=>?_
   rw [a.nf_to z (List.mem_range.1 C)]
   unfold WA.to
   rw [List.filter_filter,List.map_map]
   congr 1
   refine List.filter_congr fun e _=>Bool.and_comm _ _
  rw [e,List.length_map]
  refine Hq (p:=fun(x:Nat) (e:Edg)=>decide (e.letter=(x:Int))) (fun s G e h1 y=>?_) _ List.nodup_range _
  have h1:=of_decide_eq_true h1
  have y:=of_decide_eq_true y
  omega
 have y:∀ls:List Nat,(∀s∈ls,s<a.n)→(ls.flatMap fun s=>a.nf.psR s a.nf.L).length≤(ls.flatMap fun s:Nat=>a.edges.filter fun e=>decide (e.frm=(s:Int))).length:=by
  intro ls
  induction ls with
  | nil=>simp
  | cons s ls ih=>
   intro h
   have:=ih fun x C=>h x (List.mem_cons_of_mem _ C)
   have:=h1 s (h s List.mem_cons_self)
   rw [List.flatMap_cons,List.flatMap_cons,List.length_append,List.length_append]
   omega
 have E:=y (List.range a.n) fun s z=>List.mem_range.1 z
 have F:=Hq (p:=fun(s:Nat) (e:Edg)=>decide (e.frm=(s:Int))) (fun s G e h1 y=>by
  have h1:=of_decide_eq_true h1
  have y:=of_decide_eq_true y
  omega) (List.range a.n) List.nodup_range a.edges
 rw [a.nf_n]
 unfold NF.psS
 exact Nat.le_trans E F
end Go.Proofs.YtfcfpoemojjglaaGreatDoor
namespace Go.Proofs.YtfcfpoemojjglaaGreatDoor
section
variable {L:Nat} {t:List (List Nat)} {ac:List Bool}
theorem GG:(AG L t ac).n=ac.length:=by simp [WA.n,AG]
theorem GF:(AG L t ac).L=L:=by simp [WA.L,AG]
theorem Km {e:Edg}:e∈(AG L t ac).edges↔∃q x,q<ac.length∧x<L∧e=⟨(q:Int),(x:Int),(dnx t q x:Int)⟩:=by
 simp only [AG,List.mem_flatMap,List.mem_range,List.mem_map]
 constructor
 ·rintro⟨q,h,x,y,rfl⟩
  exact⟨q,x,h,y,rfl⟩
 ·rintro⟨q,x,h,y,rfl⟩
  exact⟨q,h,x,y,rfl⟩
theorem Ko {s x:Nat} (h:s<ac.length) (C:x<L) {y:Int}:y∈(AG L t ac).nf.to s x↔y=(dnx t s x:Int):=by
  rw [WA.nf_to _ (by rw [GG]; exact h) (by rw [GF]; exact C),WA.mem_to]
  constructor
  · rintro⟨e,I,h1,G,rfl⟩
    obtain⟨q,z,J,M,rfl⟩:=Km.1 I
    have E:q=s:=by have:(q:Int)=(s:Int):=h1
                   omega
    have F:z=x:=by have:(z:Int)=(x:Int):=G
                   omega
    rw [E,F]
  · rintro rfl
    exact⟨_,Km.2 ⟨s,x,h,C,rfl⟩,rfl,rfl,rfl⟩
theorem GC {n q s:Nat} (y:s<n):(BN n [(q:Int)]).getD s false=decide (s=q):=by
 rw [getD_some (Dg y)]
 by_cases h:s=q
 ·simp [h]
 ·have:(s:Int)≠(q:Int):=by omega
  simp [h,this]
theorem Rt {q x:Nat} (C:q<ac.length) (F:x<L):(AG L t ac).nf.after (BN ac.length [(q:Int)]) x=BN ac.length [(dnx t q x:Int)]:=by
 have E:(AG L t ac).nf.n=ac.length:=by rw [WA.nf_n,GG]
 apply List.ext_getElem?
 intro y
 rcases Nat.lt_or_ge y ac.length with h | h
 ·rw [Dg h]
  unfold NF.after
  rw [E,List.getElem?_map,List.getElem?_range h]
  simp only [Option.map_some]
  congr 1
  rw [Bool.eq_iff_iff,List.any_eq_true]
  constructor
  ·rintro⟨s,z,h1⟩
   have z:=List.mem_range.1 z
   rw [GC z] at h1
   simp only [Bool.and_eq_true,decide_eq_true_eq] at h1
   obtain⟨rfl,h1⟩:=h1
   rw [Ko z F] at h1
   simpa using h1
  ·intro h1
   refine⟨q,List.mem_range.2 C,?_⟩
   rw [GC C]
   simp only [decide_true,Bool.true_and,decide_eq_true_eq]
   rw [Ko C F]
   simpa using h1
 ·rw [List.getElem?_eq_none (by rw [NF.after_len,E]; exact h),List.getElem?_eq_none (by rw [Dh]; exact h)]
theorem Rx:(AG L t ac).nf.st=BN ac.length [((0:Nat):Int)]:=by
 rw [WA.st_marks,GG]; rfl
theorem Kn (h:DOK L t ac):∀(w:List Nat) (q:Nat),okW L w→q<ac.length→Ay (AG L t ac).nf.after (BN ac.length [(q:Int)]) w=BN ac.length [((Ay (dnx t) q w:Nat):Int)]
 | [],_,_,_=>rfl
 | x::w,q,hw,hq=>by
  have z:=hw x List.mem_cons_self
  show Ay _ ((AG L t ac).nf.after _ x) w=BN _ [((Ay (dnx t) (dnx t q x) w:Nat):Int)]
  rw [Rt hq z]
  exact Kn h w _ (fun y C=>hw y (List.mem_cons_of_mem _ C)) (h.lt hq z)
theorem Rw {q:Nat} (C:q<ac.length):(AG L t ac).nf.has (BN ac.length [(q:Int)])=dac ac q:=by
 have F:(AG L t ac).n=ac.length:=GG
 have E:∀s,s<ac.length→(AG L t ac).nf.acc.getD s false=dac ac s:=fun s y=>by
  rw [WA.nf_acc (by rw [F]; exact y)]
  obtain⟨b,z⟩:=An y
  unfold dac
  rw [getD_some z]
  have:((s:Int)∈(AG L t ac).accept)↔b=true:=by
   show(s:Int)∈AJ ac↔_
   rw [Ee]
   constructor
   ·rintro⟨r,M,h⟩
    have:s=r:=by omega
    subst this
    exact Option.some.inj (z.symm.trans h)
   ·rintro rfl
    exact⟨s,rfl,z⟩
  by_cases h:b=true
  ·rw [h]; simpa using this.2 h
  ·have I:b=false:=by simpa using h
   rw [I]
   simp only [decide_eq_false_iff_not]
   exact fun J=>h (this.1 J)
 rw [Bool.eq_iff_iff,NF.has_iff,WA.nf_n,F]
 constructor
 ·rintro⟨s,y,h1,G⟩
  rw [GC y] at h1
  have:s=q:=by simpa using h1
  subst this
  rwa [E s y] at G
 ·intro h
  exact⟨q,C,by rw [GC C]; simp,by rw [E q C]; exact h⟩
theorem Kl (h:DOK L t ac) {w:List Nat} (y:okW L w):(AG L t ac).lang w=dac ac (Ay (dnx t) 0 w):=by
 unfold WA.lang NF.lang
 rw [Rx,Kn h w 0 y h.pos,Rw (h.run y)]
end
end Go.Proofs.YtfcfpoemojjglaaGreatDoor
namespace Go.Proofs.YtfcfpoemojjglaaGreatDoor
structure Mv where
 frm:Int
 inn:Int
 out:Int
 to:Int
structure TR where
 letters:Int
 states:Int
 start:List Int
 accept:List Int
 moves:List Mv
def TR.moveB (t:TR) (e:Mv):Bool:=inN t.states e.frm&&inN t.states e.to&&(inN t.letters e.inn&&inN t.letters e.out)
def TR.head (t:TR):Bool:=decide (1≤t.letters)&&decide (t.letters≤8)&&decide (0≤t.states)&&decide (t.states≤400)
def TR.ok (t:TR):Bool:=t.head&&t.start.all (inN t.states)&&t.accept.all (inN t.states)&&t.moves.all t.moveB
structure TR.In (t:TR):Prop where
 start:∀x∈t.start,inN t.states x=true
 accept:∀x∈t.accept,inN t.states x=true
 move:∀e∈t.moves,inN t.states e.frm=true∧inN t.letters e.inn=true∧inN t.letters e.out=true∧inN t.states e.to=true
theorem TR.ok_iff {t:TR}:t.ok=true↔(1≤t.letters∧t.letters≤8∧0≤t.states∧t.states≤400)∧t.In:=by
 simp only [TR.ok,TR.head,Bool.and_eq_true,decide_eq_true_eq,List.all_eq_true,TR.moveB]
 constructor
 ·rintro⟨⟨⟨⟨⟨⟨h1,z⟩,C⟩,E⟩,F⟩,G⟩,h⟩
  exact⟨⟨h1,z,C,E⟩,F,G,fun e y=>⟨(h e y).1.1,(h e y).2.1,(h e y).2.2,(h e y).1.2⟩⟩
 ·rintro⟨⟨h1,z,C,E⟩,F,G,h⟩
  exact⟨⟨⟨⟨⟨⟨h1,z⟩,C⟩,E⟩,F⟩,G⟩,fun e y=>⟨⟨(h e y).1,(h e y).2.2.2⟩,(h e y).2.1,(h e y).2.2.1⟩⟩
def TR.n (t:TR):Nat:=t.states.toNat
def TR.L (t:TR):Nat:=t.letters.toNat
def TR.nextM (t:TR) (m:List Bool) (x y:Int) (k:Nat):List Bool:=(List.range t.n).map fun q:Nat=>(t.moves.take k).any fun e=>m.getD e.frm.toNat false&&decide (e.inn=x)&&decide (e.out=y)&&decide (e.to=(q:Int))
theorem TR.nextM_len (t:TR) (m:List Bool) (x y:Int) (k:Nat):(t.nextM m x y k).length=t.n:=by simp [TR.nextM]
theorem TR.nextM_get {t:TR} {m:List Bool} {x y:Int} {k q:Nat} (h:q<t.n):(t.nextM m x y k)[q]?=some ((t.moves.take k).any fun e=>m.getD e.frm.toNat false&&decide (e.inn=x)&&decide (e.out=y)&&decide (e.to=(q:Int))):=by
 unfold TR.nextM
 rw [List.getElem?_map,List.getElem?_range h]
 rfl
theorem TR.nextM_zero (t:TR) (m:List Bool) (x y:Int):t.nextM m x y 0=List.replicate t.n false:=by
 apply List.ext_getElem?
 intro q
 rcases Nat.lt_or_ge q t.n with h | h
 ·rw [nextM_get h,List.getElem?_replicate,if_pos h]; simp
 ·rw [List.getElem?_eq_none (by rw [nextM_len]; exact h),List.getElem?_eq_none (by simpa using h)]
theorem TR.nextM_step {t:TR} {m:List Bool} {x y:Int} {k:Nat} {e:Mv} (C:t.moves[k]?=some e) (ht:0≤e.to):t.nextM m x y (k+1)=if m.getD e.frm.toNat false&&decide (e.inn=x)&&decide (e.out=y) then (t.nextM m x y k).set e.to.toNat true else t.nextM m x y k:=by
 apply List.ext_getElem?
 intro q
 rcases Nat.lt_or_ge q t.n with h | h
 ·rw [nextM_get h,List.take_add_one,C,List.any_append]
  simp only [Option.toList_some,List.any_cons,List.any_nil,Bool.or_false]
  rcases E:(m.getD e.frm.toNat false&&decide (e.inn=x)&&decide (e.out=y)) with _ | _
  ·rw [if_neg (by decide),nextM_get h]; simp
  ·rw [if_pos rfl,List.getElem?_set,nextM_len]
   by_cases z:e.to.toNat=q
   ·rw [if_pos z,if_pos (by omega)]
    have:e.to=(q:Int):=by omega
    simp [this]
   ·rw [if_neg z,nextM_get h]
    have:decide (e.to=(q:Int))=false:=by simp; omega
    simp [this]
 ·rw [List.getElem?_eq_none (by rw [nextM_len]; exact h),List.getElem?_eq_none]
  split <;> simp [nextM_len,h]
def TR.setK (t:TR) (u v:List Int) (k:Nat):List Bool:=((u.zip v).take k).foldl (fun m p=>t.nextM m p.1 p.2 t.moves.length) (BN t.n t.start)
theorem TR.setK_len (t:TR) (u v:List Int) (k:Nat):(t.setK u v k).length=t.n:=by
 have:∀(l:List (Int×Int)) (m:List Bool),m.length=t.n→(l.foldl (fun m p=>t.nextM m p.1 p.2 t.moves.length) m).length=t.n:=by
  intro l
  induction l with
  | nil=>exact fun _ h=>h
  | cons p l ih=>exact fun m _=>ih _ (t.nextM_len _ _ _ _)
 exact this _ _ (Dh _ _)
theorem TR.setK_step {t:TR} {u v:List Int} {k:Nat} {x y:Int} (h:u[k]?=some x) (z:v[k]?=some y):t.setK u v (k+1)=t.nextM (t.setK u v k) x y t.moves.length:=by
 have:(u.zip v)[k]?=some (x,y):=by rw [List.getElem?_zip_eq_some]; exact⟨h,z⟩
 unfold TR.setK
 rw [List.take_add_one,this]
 simp
def TR.rel (t:TR) (u v:List Int):Bool:=t.accept.any fun s=>(t.setK u v u.length).getD s.toNat false
end Go.Proofs.YtfcfpoemojjglaaGreatDoor
namespace Go.Proofs.YtfcfpoemojjglaaGreatDoor
open Go.RowKit
def DP (e:Edg):Nat→Value
 | 0=>.int .i64 e.frm
 | 1=>.int .i64 e.letter
 | _=>.int .i64 e.to
def Bj (w:World) (B:Nat) (v:Value) (a:WA):Prop:=
 ∃A1 c1 A2 c2 A3 c3,v=.agg #[.int .i64 a.letters,.int .i64 a.states,.slice A1 a.start.length c1,.slice A2 a.accept.length c2,.slice A3 a.edges.length c3]∧
  Sl w B 1 Ai A1 a.start∧Sl w B 1 Ai A2 a.accept∧Sl w B 3 DP A3 a.edges∧a.start.length≤c1
theorem Bj.keep {w w':World} {B B':Nat} {v:Value} {a:WA} (h:Bj w B v a) (hk:∀p:Addr,p.block<B→w'.cell? p=w.cell? p) (y:B≤B'):Bj w' B' v a:=by
 obtain⟨z,F,C,c2,E,G,e,h1,I,J,M⟩:=h
 exact⟨z,F,C,c2,E,G,e,h1.keep hk y,I.keep hk y,J.keep hk y,M⟩
theorem Bj.below {w w':World} {B:Nat} {v:Value} {a:WA} (h:Bj w B v a) (y:Below B w w'):Bj w' B v a:=h.keep (fun _ z=>y.cell z) (Nat.le_refl _)
def VSl {D:Type} (R:World→Nat→Value→D→Prop) (w:World) (B:Nat) (A:Option Addr) (ds:List D):Prop:=
 ds.length≤9223372036854775807∧(ds≠[]→∃b off,A=some ⟨b,off,none⟩∧b<B∧∀k d,ds[k]?=some d→∃v,w.cell? ⟨b,off+k,none⟩=some v∧R w B v d)
def Gj {D:Type} (R:World→Nat→Value→D→Prop):Prop:=∀{w w':World} {B B':Nat} {v:Value} {d:D},R w B v d→(∀p:Addr,p.block<B→w'.cell? p=w.cell? p)→B≤B'→R w' B' v d
theorem VSl.keep {D:Type} {R:World→Nat→Value→D→Prop} (C:Gj R) {w w':World} {B B':Nat} {A:Option Addr} {ds:List D} (h:VSl R w B A ds) (hk:∀p:Addr,p.block<B→w'.cell? p=w.cell? p) (z:B≤B'):VSl R w' B' A ds:=
 ⟨h.1,fun G=>by
  obtain⟨b,I,e,E,F⟩:=h.2 G
  refine⟨b,I,e,by omega,fun k d hd=>?_⟩
  obtain⟨v,h1,y⟩:=F k d hd
  exact⟨v,(hk _ E).trans h1,C y hk z⟩⟩
theorem VSl.at {D:Type} {R:World→Nat→Value→D→Prop} {w:World} {B:Nat} {A:Option Addr} {ds:List D} (h:VSl R w B A ds) {k:Nat} {d:D} (hk:ds[k]?=some d):
  ∃b y v,A=some ⟨b,y,none⟩∧b<B∧w.cell? ⟨b,y+k,none⟩=some v∧R w B v d:=by
 obtain⟨b,y,e,C,E⟩:=h.2 (by rintro rfl; simp at hk)
 obtain⟨v,h1,z⟩:=E k d hk
 exact⟨b,y,v,e,C,h1,z⟩
def R1 (w:World) (B:Nat) (v:Value) (l:List Int):Prop:=∃A c,v=.slice A l.length c∧Sl w B 1 Ai A l
theorem R1.keep:Gj R1:=by
 rintro w w' B B' v d ⟨A,c,e,h⟩ hk y
 exact⟨A,c,e,h.keep hk y⟩
def Ak (l:List Nat):List Int:=l.map fun x:Nat=>(x:Int)
def R1n (w:World) (B:Nat) (v:Value) (l:List Nat):Prop:=R1 w B v (Ak l)
theorem R1n.keep:Gj R1n:=fun h hk y=>R1.keep h hk y
def R2 (w:World) (B:Nat) (v:Value) (t:List (List Int)):Prop:=∃A c,v=.slice A t.length c∧VSl R1 w B A t
theorem R2.keep:Gj R2:=by
 rintro w w' B B' v d ⟨A,c,e,h⟩ hk y
 exact⟨A,c,e,VSl.keep (@R1.keep) h hk y⟩
def Cn (w:World) (B:Nat) (v:Value) (a:NF):Prop:=
 ∃A1 c1 A2 c2 A3 c3,v=.agg #[.int .i64 (a.L:Int),.slice A1 a.nx.length c1,.slice A2 a.start.length c2,.slice A3 a.acc.length c3]∧
  VSl R2 w B A1 a.nx∧Sl w B 1 Ai A2 a.start∧Sl w B 1 DH A3 a.acc∧a.start.length≤c2
theorem Cn.keep {w w':World} {B B':Nat} {v:Value} {a:NF} (h:Cn w B v a) (hk:∀p:Addr,p.block<B→w'.cell? p=w.cell? p) (y:B≤B'):Cn w' B' v a:=by
 obtain⟨z,F,C,c2,E,G,e,h1,I,J,M⟩:=h
 exact⟨z,F,C,c2,E,G,e,VSl.keep (@R2.keep) h1 hk y,I.keep hk y,J.keep hk y,M⟩
theorem Cn.below {w w':World} {B:Nat} {v:Value} {a:NF} (h:Cn w B v a) (y:Below B w w'):Cn w' B v a:=h.keep (fun _ z=>y.cell z) (Nat.le_refl _)
def Br (w:World) (B:Nat) (v:Value) (t:List (List Nat)) (ac:List Bool):Prop:=
 ∃A1 c1 A2 c2,v=.agg #[.slice A1 t.length c1,.slice A2 ac.length c2]∧VSl R1n w B A1 t∧Sl w B 1 DH A2 ac
theorem Br.keep {w w':World} {B B':Nat} {v:Value} {t:List (List Nat)} {ac:List Bool} (h:Br w B v t ac) (hk:∀p:Addr,p.block<B→w'.cell? p=w.cell? p) (y:B≤B'):Br w' B' v t ac:=by
 obtain⟨z,E,C,c2,e,h1,F⟩:=h
 exact⟨z,E,C,c2,e,VSl.keep (@R1n.keep) h1 hk y,F.keep hk y⟩
theorem Br.below {w w':World} {B:Nat} {v:Value} {t:List (List Nat)} {ac:List Bool} (h:Br w B v t ac) (y:Below B w w'):Br w' B v t ac:=h.keep (fun _ z=>y.cell z) (Nat.le_refl _)
theorem B8 {w:World} {base n B:Nat} {e:TypeId} {v:Value} {l:List Int} (h:w.ownsRow base e 1 v n (l.map (Value.int .i64))) (F:l.length=n) (G:w.heap.size≤B) (O:n≤9223372036854775807):R1 w B v l:=by
 subst F
 rcases h.2 with⟨rfl,h0⟩ | ⟨g,z,C,rfl,I,y,J,U,V,ht⟩
 ·have:l=[]:=by simpa using h0
  subst this
  exact⟨none,0,rfl,Sl.nil rfl⟩
 ·refine⟨_,z,rfl,by omega,fun _=>⟨g,0,rfl,?_,fun k d hd j M=>?_⟩⟩
  ·have:=(Array.getElem?_eq_some_iff.1 y).1; omega
  ·have E:j=0:=by omega
   subst E
   rw [cell_of_row w g _ C e (0,0) y]
   have hk:=AP hd
   have:(l.map (Value.int .i64))[k]?=some (.int .i64 d):=by rw [List.getElem?_map,hd]; rfl
   rw [←ht,List.getElem?_take] at this
   split at this
   ·simpa [Ai] using this
   ·cases this
theorem Kg {w:World} {base n B:Nat} {e:TypeId} {v:Value} {l:List Bool} (h:w.ownsRow base e 1 v n (l.map Value.bool)) (F:l.length=n) (G:w.heap.size≤B) (O:n≤9223372036854775807):∃A c,v=.slice A l.length c∧Sl w B 1 DH A l:=by
 subst F
 rcases h.2 with⟨rfl,h0⟩ | ⟨g,z,C,rfl,I,y,J,U,V,ht⟩
 ·have:l=[]:=by simpa using h0
  subst this
  exact⟨none,0,rfl,Sl.nil rfl⟩
 ·refine⟨_,z,rfl,by omega,fun _=>⟨g,0,rfl,?_,fun k d hd j M=>?_⟩⟩
  ·have:=(Array.getElem?_eq_some_iff.1 y).1; omega
  ·have E:j=0:=by omega
   subst E
   rw [cell_of_row w g _ C e (0,0) y]
   have hk:=AP hd
   have:(l.map Value.bool)[k]?=some (.bool d):=by rw [List.getElem?_map,hd]; rfl
   rw [←ht,List.getElem?_take] at this
   split at this
   ·simpa [DH] using this
   ·cases this
end Go.Proofs.YtfcfpoemojjglaaGreatDoor
namespace Go.Proofs.YtfcfpoemojjglaaGreatDoor
open Go.RowKit
theorem Mb {D:Type} {p:D→Bool} {l:List D} {k:Nat} {x:D} (z:l[k]?=some x) (h:(l.take k).all p=true) (y:p x=true):(l.take (k+1)).all p=true:=by
 rw [List.take_add_one,z]; simp [y]; simpa using h
theorem IQ {D:Type} {p:D→Bool} {l:List D} {k:Nat} {x:D} (y:l[k]?=some x) (h:p x=false):l.all p=false:=by
 rw [List.all_eq_false]; exact⟨x,List.mem_of_getElem? y,by simp [h]⟩
theorem Ma {D:Type} {p:D→Bool} {l:List D} {k:Nat} (hk:l.length≤k) (h:(l.take k).all p=true):l.all p=true:=by
 rwa [List.take_of_length_le hk] at h
theorem B5 {D:Type} {l:List D} {k:Nat} {x:D} (h:l[k]?=some x):l.take (k+1)=l.take k++[x]:=by rw [List.take_add_one,h]; rfl
theorem AX {D E:Type} {f:D→E} {l:List D} {k:Nat} {x:D} (h:l[k]?=some x):(l.map f)[k]?=some (f x):=by rw [List.getElem?_map,h]; rfl
theorem F2.imp {S T:Type} {R R':S→T→Prop} {l:List S} {m:List T} (h:F2 R l m) (y:∀a b,R a b→R' a b):F2 R' l m:=by
 induction h with
 | nil=>exact .nil
 | cons h1 _ ih=>exact .cons (y _ _ h1) ih
theorem F2.at {S T:Type} {R:S→T→Prop} {l:List S} {m:List T} (h:F2 R l m) {i:Nat} {b:T} (z:m[i]?=some b):∃a,l[i]?=some a∧R a b:=by
 obtain⟨a,y⟩:=An (l:=l) (i:=i) (by rw [h.length]; exact AP z)
 exact⟨a,y,h.get y z⟩
theorem Ap (w:World):Below w.heap.size w w.drew:=⟨rfl,rfl,rfl,Nat.le_refl _,fun _ _=>rfl⟩
theorem Ae (w:World) (cs:Array Value) (t:TypeId):∃w1,w.alloc (.cells cs t)=w1∧Below w.heap.size w w1∧Blk w1 w.heap.size t cs∧Ac w w1 (fun _=>False):=
 ⟨_,rfl,(Below.refl _ _).alloc (Nat.le_refl _) _,Blk.new _ _ _,(Ac.refl _ _).alloc _⟩
theorem Blk.below {w w':World} {g:Nat} {t:TypeId} {cs:Array Value} (h:Blk w g t cs) (y:Below w.heap.size w w'):Blk w' g t cs:=h.kept (Ac.of_below y fun _=>False) id
theorem Blk.at {w w':World} {g B:Nat} {t:TypeId} {cs:Array Value} (h:Blk w g t cs) (z:g<B) (y:Below B w w'):Blk w' g t cs:=by
 unfold Blk at h ⊢
 rw [y.block g z]
 exact h
theorem HA (z:Value) (n:Nat):madeCells #[z] (n*1)=Array.replicate n z:=by
 apply Array.ext
 ·simp [madeCells]
 ·intro i h1 h
  simp [madeCells,Nat.mod_one]
theorem HJ {P:Program} {t e bytes:Nat} {z:Value} (ht:P.underlying t=some (.slice e)) (I:(P.info? e).map (fun i=>(i.zero,i.size,i.bytes))=some (some z,1,bytes)) (M:z.cells=#[z]) (F:bytes≤200)
  (w:World) (n:Nat) (J:n≤250000):
  ∃g w1,(Instr.makeSlice t (.int .i64 n) (.int .i64 n)).run P w=.ok (.slice (some ⟨g,0,none⟩) n n) w1∧Blk w1 g e (Array.replicate n z)∧Below w.heap.size w w1∧w.heap.size≤g:=by
 obtain⟨i,h1,C,y,E⟩:=info_parts I
 have O:bytes*n≤200*250000:=Nat.mul_le_mul F J
 have G:(i.bytes:Int)*(n:Int)≤281474976710656:=by
  rw [E,←Int.natCast_mul]; omega
 have h:=run_makeSlice (P:=P) w t e i z ht h1 C .i64 .i64 n n (by omega) (Int.le_refl _) (by rw [y]; simp; omega) G (by omega)
 simp only [Int.toNat_natCast] at h
 rw [y,M,HA] at h
 exact⟨_,_,h,Blk.new _ _ _,(Below.refl _ _).alloc (Nat.le_refl _) _,Nat.le_refl _⟩
theorem JF:(Tryz.prog.info? 3).map (fun i=>(i.zero,i.size,i.bytes))=some (some (.int .i64 0),1,8):=by kernel_rfl
theorem JG:(Tryz.prog.info? 4).map (fun i=>(i.zero,i.size,i.bytes))=some (some (.bool false),1,1):=by kernel_rfl
theorem Hu:(Tryz.prog.info? 24).map (fun i=>(i.zero,i.size,i.bytes))=some (some (.slice none 0 0),1,24):=by kernel_rfl
theorem Qk:(Tryz.prog.info? 75).map (fun i=>(i.zero,i.size,i.bytes))=some (some (.slice none 0 0),1,24):=by kernel_rfl
theorem Et (w:World) (n:Nat) (h:n≤250000):
  ∃g w1,(Instr.makeSlice 24 (.int .i64 n) (.int .i64 n)).run Tryz.prog w=.ok (.slice (some ⟨g,0,none⟩) n n) w1∧Blk w1 g 3 (Array.replicate n (.int .i64 0))∧Below w.heap.size w w1∧w.heap.size≤g:=
 HJ Tryz.underlying24 JF rfl (by omega) w n h
theorem HI (w:World) (n:Nat) (h:n≤250000):
  ∃g w1,(Instr.makeSlice 76 (.int .i64 n) (.int .i64 n)).run Tryz.prog w=.ok (.slice (some ⟨g,0,none⟩) n n) w1∧Blk w1 g 4 (Array.replicate n (.bool false))∧Below w.heap.size w w1∧w.heap.size≤g:=
 HJ Tryz.underlying76 JG rfl (by omega) w n h
theorem Ra (w:World) (n:Nat) (h:n≤250000):
  ∃g w1,(Instr.makeSlice 75 (.int .i64 n) (.int .i64 n)).run Tryz.prog w=.ok (.slice (some ⟨g,0,none⟩) n n) w1∧Blk w1 g 24 (Array.replicate n (.slice none 0 0))∧Below w.heap.size w w1∧w.heap.size≤g:=
 HJ Tryz.underlying75 Hu rfl (by omega) w n h
theorem C9:Dd Tryz.prog 24 3 1:=EX Tryz.underlying24 JF rfl (by omega) (by omega)
theorem GM:Dd Tryz.prog 76 4 1:=EX Tryz.underlying76 JG rfl (by omega) (by omega)
theorem F9:Dd Tryz.prog 75 24 1:=EX Tryz.underlying75 Hu rfl (by omega) (by omega)
theorem KH (n:Nat) (z:Value):Array.replicate n z=(List.replicate n z).toArray:=by
 apply Array.ext'
 simp
theorem LG {P:Program} {ops:Array Oper} {rest:List Oper} {o:Oper} {a:Act} {Q:Exit→Act→World→Prop} {w:World} {t e bytes sz:Nat} {z:Value} (ht:P.underlying t=some (.slice e)) (V:(P.info? e).map (fun i=>(i.zero,i.size,i.bytes))=some (some z,sz,bytes)) (M:bytes≤200) (W:sz≤80)
  (n:Nat) (F:n≤200000) (U:o.guard=none) (x y:Operand) (ho:o.op=.makeSlice t x y) (Z:a.eval x=.int .i64 n) (hy:a.eval y=.int .i64 n)
  (h:∀g w1,Blk w1 g e (madeCells z.cells (n*sz))→Below w.heap.size w w1→w.heap.size≤g→wpList P ops Q rest (a.put o.dst (.slice (some ⟨g,0,none⟩) n n)) w1):wpList P ops Q (o::rest) a w:=by
 refine wpList_plain U fun K J=>?_
 obtain⟨i,h1,G,E,I⟩:=info_parts V
 have a3:bytes*n≤200*200000:=Nat.mul_le_mul M F
 have O:(i.bytes:Int)*(n:Int)≤281474976710656:=by
  rw [I,←Int.natCast_mul]; omega
 have a4:n*sz≤200000*80:=Nat.mul_le_mul F W
 have a5:((n:Int).toNat)*i.size≤16000000:=by rw [E,Int.toNat_natCast]; omega
 have C:=run_makeSlice (P:=P) w t e i z ht h1 G .i64 .i64 n n (by omega) (Int.le_refl _) (by omega) O (by omega)
 simp only [Int.toNat_natCast] at C
 rw [E] at C
 unfold Oper.wp execOp
 simp only [ho,Z,hy,Sem.run_bind,Sem.run_pure,Result.andThen_ok,C]
 exact J _ _ (h _ _ (Blk.new _ _ _) ((Below.refl _ _).alloc (Nat.le_refl _) _) (Nat.le_refl _))
section
variable {w w':World} {base n size:Nat} {e:TypeId} {v:Value} {xs:List Value}
theorem C7 (h:w.ownsRow base e 1 v n xs) {k:Nat} {u:Value} (hk:xs[k]?=some u):∃g y,v=.slice (some ⟨g,0,none⟩) n y∧w.cell? ⟨g,k,none⟩=some u:=by
 obtain⟨J,E⟩:=h
 have I:=AP hk
 rcases E with⟨_,rfl⟩ | ⟨g,y,z,rfl,F,C,G,M,O,ht⟩
 ·omega
 ·refine⟨g,y,rfl,?_⟩
  rw [cell_of_row w g k z e (0,0) C,←hk,←ht,List.getElem?_take]
  simp; omega
theorem Bb (h:w.ownsRow base e size v n xs) {k:Nat} (hk:v.ownBlock=some k):base≤k:=by
 rcases h.2 with⟨rfl,_⟩ | ⟨g,y,z,rfl,C,_⟩
 ·simp [Value.ownBlock] at hk
 ·have:g=k:=by simpa [Value.ownBlock] using hk
  omega
theorem Cj (h:w.ownsRow base e size v n xs) {k:Nat} (hk:v.ownBlock=some k):k<w.heap.size:=by
 rcases h.2 with⟨rfl,_⟩ | ⟨g,z,C,rfl,E,y,_⟩
 ·simp [Value.ownBlock] at hk
 ·have:g=k:=by simpa [Value.ownBlock] using hk
  subst this
  exact(Array.getElem?_eq_some_iff.1 y).1
theorem Cb:w.ownsRow base e size (.slice none 0 0) 0 []:=⟨by simp,.inl ⟨rfl,rfl⟩⟩
theorem DC (h:w.ownsRow base e size v n xs) {base':Nat} (F:base'≤base):w.ownsRow base' e size v n xs:=by
 refine⟨h.1,?_⟩
 rcases h.2 with C | ⟨g,y,z,h1,E,rest⟩
 ·exact .inl C
 ·exact .inr ⟨g,y,z,h1,by omega,rest⟩
theorem DD {g:Nat} {cs:Array Value} (h:Blk w g e cs) (z:base≤g) (y:cs.size=n) (C:n≤4000000):w.ownsRow base e 1 (.slice (some ⟨g,0,none⟩) n n) n cs.toList:=by
 refine⟨by simp [y],.inr ⟨g,n,cs,rfl,z,h,Nat.le_refl _,by unfold maxLen; omega,by omega,?_⟩⟩
 rw [List.take_of_length_le (by simp [y])]
theorem AK {X:Nat→Prop} (hk:Ac w w' X) (h:w.ownsRow base e size v n xs) (C:∀g cs,X g→¬Blk w g e cs):w'.ownsRow base e size v n xs:=
 hk.ownsRow h fun g y F=>by
  rcases h.2 with⟨rfl,_⟩ | ⟨z,G,I,rfl,_,E,_⟩
  ·simp [Value.ownBlock] at y
  ·have:z=g:=by simpa [Value.ownBlock] using y
   subst this
   exact C _ _ F E
theorem Bt (h:w.ownsRow base e size v n xs) (y:Below w.heap.size w w'):w'.ownsRow base e size v n xs:=
 (Ac.of_below y (fun _=>False)).ownsRow h fun _ _=>id
theorem F4 {y:TypeId} (h:w.ownsRow base e size v n xs) (E:e≠y):∀g cs,v.ownBlock=some g→¬Blk w g y cs:=fun _ _ C z=>Aw h z E C
end
def Cl (w:World) (base:Nat) (N:Nat→Prop) (vs:List Value) (ds:List (List Int)):Prop:=
 F2 (fun v d=>w.ownsRow base 3 1 v d.length (d.map (Value.int .i64))∧∀g,v.ownBlock=some g→N g) vs ds
theorem Cl.nil {w:World} {base:Nat} {N:Nat→Prop}:Cl w base N [] []:=F2.nil
theorem Cl.keep {w w':World} {base base':Nat} {N N' X:Nat→Prop} {vs:List Value} {ds:List (List Int)} (h:Cl w base N vs ds) (hk:Ac w w' X) (F:∀g cs,N g→X g→¬Blk w g 3 cs) (E:∀g,g<w.heap.size→N g→N' g) (G:base'≤base):Cl w' base' N' vs ds:=
 h.imp fun v d ⟨h1,z⟩=>⟨DC (hk.ownsRow h1 fun g y J=>by
  rcases h1.2 with⟨rfl,_⟩ | ⟨C,M,O,rfl,_,I,_⟩
  ·simp [Value.ownBlock] at y
  ·have:C=g:=by simpa [Value.ownBlock] using y
   subst this
   exact F _ _ (z _ y) J I) G,fun g y=>E g (Cj h1 y) (z g y)⟩
theorem Cl.snoc {w:World} {base:Nat} {N:Nat→Prop} {vs:List Value} {ds:List (List Int)} (h:Cl w base N vs ds) {v:Value} {d:List Int} (h1:w.ownsRow base 3 1 v d.length (d.map (Value.int .i64))) (y:∀g,v.ownBlock=some g→N g):Cl w base N (vs++[v]) (ds++[d]):=F2.snoc h ⟨h1,y⟩
theorem Cl.read {w:World} {base base' B n:Nat} {N:Nat→Prop} {vs:List Value} {ds:List (List Int)} {v:Value} (h:Cl w base N vs ds) (z:w.ownsRow base' 24 1 v n vs) (hn:n≤4000000) (E:w.heap.size≤B) (I:∀d∈ds,d.length≤4000000):∃A c,v=.slice A ds.length c∧VSl R1 w B A ds:=by
 have J:n=ds.length:=by have:=z.1; rw [h.length] at this; omega
 subst J
 rcases z.2 with⟨rfl,h0⟩ | ⟨g,C,U,rfl,W,G,Z,hs,hz,ht⟩
 ·have:ds=[]:=List.length_eq_zero_iff.1 h0
  subst this
  exact⟨none,0,rfl,by simp,fun h=>absurd rfl h⟩
 ·refine⟨_,C,rfl,by omega,fun _=>⟨g,0,rfl,?_,fun k d hd=>?_⟩⟩
  ·have:=(Array.getElem?_eq_some_iff.1 G).1; omega
  ·obtain⟨u,M,h1,_⟩:=F2.at h hd
   obtain⟨V,O,y,F⟩:=C7 z M
   injection y with y _ _
   injection y with y
   injection y with y
   subst y
   exact⟨u,by rw [Nat.zero_add]; exact F,B8 h1 rfl E (by have:=I d (List.mem_of_getElem? hd); omega)⟩
end Go.Proofs.YtfcfpoemojjglaaGreatDoor
