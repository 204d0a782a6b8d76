/-
  Part PB of a proof.
-/
import Derived.Test.YtfcfpoemojjglaaGreatDoorRows
import Derived.Laws.MakeOwn
import Derived.Test.YtfcfpoemojjglaaGreatDoorPA
set_option maxHeartbeats 16000000
set_option maxRecDepth 100000
set_option linter.unusedVariables false
set_option linter.unusedSimpArgs false
namespace Go.Proofs.YtfcfpoemojjglaaGreatDoor
def Ay {S:Type} (δ:S→Nat→S) (s:S) (w:List Nat):S:=w.foldl δ s
inductive F2 {S T:Type} (R:S→T→Prop):List S→List T→Prop
 | nil:F2 R [] []
 | cons {a b l m}:R a b→F2 R l m→F2 R (a::l) (b::m)
section
variable {S T:Type} {R:S→T→Prop}
theorem F2.length {l:List S} {m:List T} (h:F2 R l m):l.length=m.length:=by
 induction h with
 | nil=>rfl
 | cons _ _ ih=>simp [ih]
theorem F2.get {l:List S} {m:List T} (h:F2 R l m):∀{i:Nat} {a:S} {b:T},l[i]?=some a→m[i]?=some b→R a b:=by
 induction h with
 | nil=>intro i a b h; simp at h
 | cons h1 _ ih=>
  intro i a b x y
  cases i with
  | zero=>simp at x y; subst x y; exact h1
  | succ i=>simp at x y; exact ih x y
theorem F2.snoc {l:List S} {m:List T} (h:F2 R l m) {a:S} {b:T} (x:R a b):F2 R (l++[a]) (m++[b]):=by
 induction h with
 | nil=>exact .cons x .nil
 | cons h1 _ ih=>exact .cons h1 ih
theorem F2.left {l:List S} {m:List T} (h:F2 R l m) {a:S} (x:a∈l):∃b,b∈m∧R a b:=by
 induction h with
 | nil=>cases x
 | cons h1 _ ih=>
  rcases List.mem_cons.1 x with rfl | x
  ·exact⟨_,List.mem_cons_self,h1⟩
  ·obtain⟨b,C,y⟩:=ih x
   exact⟨b,List.mem_cons_of_mem _ C,y⟩
theorem F2.right {l:List S} {m:List T} (h:F2 R l m) {b:T} (x:b∈m):∃a,a∈l∧R a b:=by
 induction h with
 | nil=>cases x
 | cons h1 _ ih=>
  rcases List.mem_cons.1 x with rfl | x
  ·exact⟨_,List.mem_cons_self,h1⟩
  ·obtain⟨a,C,y⟩:=ih x
   exact⟨a,List.mem_cons_of_mem _ C,y⟩
end
section
variable {S:Type} [DecidableEq S]
def Bs (l:List S) (a:S):List S:=if a∈l then l else l++[a]
variable (L:Nat) (δ:S→Nat→S) (s0:S)
omit L s0 in
end
section
variable {S:Type} [DecidableEq S] {L:Nat} {δ:S→Nat→S} {s0:S}
omit [DecidableEq S] in
theorem F2.range {l:List S} (m:List Nat) (h:F2 (fun s i=>l[i]?=some s) l m) (E:l.Nodup):m=List.range l.length:=by
 apply List.ext_getElem?
 intro i
 rcases Nat.lt_or_ge i l.length with x | x
 ·have y:i<m.length:=by rw [←h.length]; exact x
  have h1:=h.get (List.getElem?_eq_getElem x) (List.getElem?_eq_getElem y)
  obtain⟨hk,C⟩:=List.getElem?_eq_some_iff.1 h1
  have:=(List.getElem_inj E).1 C
  rw [List.getElem?_eq_getElem y,this,List.getElem?_range x]
 ·rw [List.getElem?_eq_none (by rw [←h.length]; exact x),List.getElem?_eq_none (by simpa using x)]
end
end Go.Proofs.YtfcfpoemojjglaaGreatDoor
namespace Go.Proofs.YtfcfpoemojjglaaGreatDoor
theorem An {α:Type} {l:List α} {i:Nat} (h:i<l.length):∃x,l[i]?=some x:=⟨_,List.getElem?_eq_getElem h⟩
theorem AP {α:Type} {l:List α} {i:Nat} {x:α} (h:l[i]?=some x):i<l.length:=(List.getElem?_eq_some_iff.1 h).1
theorem getD_some {α:Type} {l:List α} {i:Nat} {x d:α} (h:l[i]?=some x):l.getD i d=x:=by rw [List.getD_eq_getElem?_getD,h]; rfl
theorem D6:∀(l m:List Nat),l.Nodup→(∀a∈l,a∈m)→l.length≤m.length
 | [],_,_,_=>Nat.zero_le _
 | a::l,m,hn,hs=>by
  obtain⟨E,F,rfl⟩:=List.append_of_mem (hs a List.mem_cons_self)
  have y:=List.nodup_cons.1 hn
  have h1:=D6 l (E++F) y.2 (fun b x=>by
   have h:=hs b (List.mem_cons_of_mem _ x)
   have C:b≠a:=fun e=>y.1 (e ▸ x)
   simp only [List.mem_append,List.mem_cons] at h ⊢
   rcases h with h | h | h
   ·exact .inl h
   ·exact(C h).elim
   ·exact .inr h)
  simp only [List.length_append,List.length_cons] at h1 ⊢
  omega
end Go.Proofs.YtfcfpoemojjglaaGreatDoor
namespace Go.Proofs.YtfcfpoemojjglaaGreatDoor
structure Edg where
 frm:Int
 letter:Int
 to:Int
structure WA where
 letters:Int
 states:Int
 start:List Int
 accept:List Int
 edges:List Edg
deriving instance DecidableEq for Edg
deriving instance DecidableEq for WA
def inN (n x:Int):Bool:=decide (0≤x)&&decide (x<n)
theorem D3 {n x:Int}:inN n x=true↔0≤x∧x<n:=by simp [inN]
theorem CT {n x:Int} (h:inN n x=true):∃k:Nat,x=(k:Int)∧k<n.toNat:=⟨x.toNat,by have:=D3.1 h; omega,by have:=D3.1 h; omega⟩
structure WA.In (a:WA):Prop where
 start:∀x∈a.start,inN a.states x=true
 accept:∀x∈a.accept,inN a.states x=true
 edge:∀e∈a.edges,inN a.states e.frm=true∧inN a.letters e.letter=true∧inN a.states e.to=true
def WA.edgeB (a:WA) (e:Edg):Bool:=inN a.states e.frm&&inN a.states e.to&&inN a.letters e.letter
def WA.ok (a:WA):Bool:=decide (1≤a.letters)&&decide (a.letters≤8)&&decide (0≤a.states)&&decide (a.states≤400)&&a.start.all (inN a.states)&&a.accept.all (inN a.states)&&a.edges.all a.edgeB
theorem WA.ok_iff {a:WA}:a.ok=true↔(1≤a.letters∧a.letters≤8∧0≤a.states∧a.states≤400)∧a.In:=by
 simp only [WA.ok,Bool.and_eq_true,decide_eq_true_eq,List.all_eq_true,WA.edgeB]
 constructor
 ·rintro⟨⟨⟨⟨⟨⟨h1,y⟩,C⟩,E⟩,F⟩,G⟩,h⟩
  exact⟨⟨h1,y,C,E⟩,F,G,fun e x=>⟨(h e x).1.1,(h e x).2,(h e x).1.2⟩⟩
 ·rintro⟨⟨h1,y,C,E⟩,F,G,h⟩
  exact⟨⟨⟨⟨⟨⟨h1,y⟩,C⟩,E⟩,F⟩,G⟩,fun e x=>⟨⟨(h e x).1,(h e x).2.2⟩,(h e x).2.1⟩⟩
def WA.L (a:WA):Nat:=a.letters.toNat
def WA.n (a:WA):Nat:=a.states.toNat
def BN (n:Nat) (l:List Int):List Bool:=(List.range n).map fun q:Nat=>decide ((q:Int)∈l)
theorem Dh (n:Nat) (l:List Int):(BN n l).length=n:=by simp [BN]
theorem Dg {n:Nat} {l:List Int} {q:Nat} (h:q<n):(BN n l)[q]?=some (decide ((q:Int)∈l)):=by simp [BN,h]
def AJ (m:List Bool):List Int:=((List.range m.length).filter fun q=>m.getD q false).map fun q:Nat=>(q:Int)
theorem Ee {m:List Bool} {x:Int}:x∈AJ m↔∃q:Nat,x=(q:Int)∧m[q]?=some true:=by
 simp only [AJ,List.mem_map,List.mem_filter,List.mem_range]
 constructor
 ·rintro⟨q,⟨h1,y⟩,rfl⟩
  exact⟨q,rfl,by rw [List.getD_eq_getElem?_getD,List.getElem?_eq_getElem h1] at y; rw [List.getElem?_eq_getElem h1]; exact congrArg some y⟩
 ·rintro⟨q,rfl,h⟩
  exact⟨q,⟨AP h,getD_some h⟩,rfl⟩
def Asc (l:List Int):Prop:=l.Pairwise (· < ·)
theorem Md (n:Nat) (p:Nat→Bool):Asc (((List.range n).filter p).map fun q:Nat=>(q:Int)):=by
 refine List.pairwise_map.2 (List.Pairwise.filter _ ?_)
 exact(List.pairwise_lt_range).imp fun h=>by omega
theorem Me (m:List Bool):Asc (AJ m):=Md _ _
theorem IU:∀{l k:List Int},Asc l→Asc k→(∀x,x∈l↔x∈k)→l=k
 | [],[],_,_,_=>rfl
 | [],y::k,_,_,h=>absurd ((h y).2 List.mem_cons_self) List.not_mem_nil
 | x::l,[],_,_,h=>absurd ((h x).1 List.mem_cons_self) List.not_mem_nil
 | x::l,y::k,hl,hk,h=>by
  obtain⟨h1,G⟩:=List.pairwise_cons.1 hl
  obtain⟨k1,k2⟩:=List.pairwise_cons.1 hk
  have I:x=y:=by
   rcases List.mem_cons.1 ((h x).1 List.mem_cons_self) with e | e
   ·exact e
   ·rcases List.mem_cons.1 ((h y).2 List.mem_cons_self) with E | E
    ·exact E.symm
    ·have:=h1 y E; have:=k1 x e; omega
  subst I
  rw [IU G k2 fun z=>?_]
  have F:=h z
  simp only [List.mem_cons] at F
  constructor
  ·intro C
   rcases F.1 (.inr C) with rfl | e
   ·have:=h1 z C; omega
   ·exact e
  ·intro C
   rcases F.2 (.inr C) with rfl | e
   ·have:=k1 z C; omega
   ·exact e
structure NF where
 L:Nat
 nx:List (List (List Int))
 start:List Int
 acc:List Bool
def NF.n (a:NF):Nat:=a.nx.length
def NF.to (a:NF) (s x:Nat):List Int:=(a.nx.getD s []).getD x []
structure NF.OK (a:NF):Prop where
 acc:a.acc.length=a.n
 row:∀r∈a.nx,r.length=a.L
 to:∀r∈a.nx,∀l∈r,∀x∈l,inN a.n x=true
 start:∀x∈a.start,inN a.n x=true
def NF.after (a:NF) (m:List Bool) (x:Nat):List Bool:=(List.range a.n).map fun q:Nat=>(List.range a.n).any fun s=>m.getD s false&&decide ((q:Int)∈a.to s x)
def NF.st (a:NF):List Bool:=BN a.n a.start
def NF.has (a:NF) (m:List Bool):Bool:=(List.range a.n).any fun s=>m.getD s false&&a.acc.getD s false
def NF.lang (a:NF) (w:List Nat):Bool:=a.has (Ay a.after a.st w)
theorem NF.after_len (a:NF) (m:List Bool) (x:Nat):(a.after m x).length=a.n:=by simp [NF.after]
def WA.to (a:WA) (s x:Nat):List Int:=(a.edges.filter fun e=>decide (e.frm=(s:Int))&&decide (e.letter=(x:Int))).map (·.to)
def WA.nf (a:WA):NF:=⟨a.L,(List.range a.n).map fun s=>(List.range a.L).map fun x=>a.to s x,a.start,BN a.n a.accept⟩
theorem WA.nf_to (a:WA) {s x:Nat} (h:s<a.n) (y:x<a.L):a.nf.to s x=a.to s x:=by
 simp [NF.to,WA.nf,List.getD_eq_getElem?_getD,h,y]
def WA.lang (a:WA) (w:List Nat):Bool:=a.nf.lang w
end Go.Proofs.YtfcfpoemojjglaaGreatDoor
namespace Go.Proofs.YtfcfpoemojjglaaGreatDoor
def NF.B (a:NF):Nat→Nat→Bool
 | 0,q=>a.acc.getD q false
 | d+1,q=>(List.range a.n).any fun y=>(List.range a.L).any (fun x=>decide ((y:Int)∈a.to q x))&&a.B d y
theorem NF.B_succ {a:NF} {d q:Nat}:a.B (d+1) q=true↔∃x y,x<a.L∧y<a.n∧(y:Int)∈a.to q x∧a.B d y=true:=by
 simp only [NF.B,List.any_eq_true,List.mem_range,Bool.and_eq_true,decide_eq_true_eq]
 constructor
 ·rintro⟨y,F,⟨x,E,h⟩,C⟩
  exact⟨x,y,E,F,h,C⟩
 ·rintro⟨x,y,E,F,h,C⟩
  exact⟨y,F,⟨x,E,h⟩,C⟩
def NF.Dist (a:NF) (q k:Nat):Prop:=a.B k q=true∧∀e,e<k→a.B e q=false
theorem NF.Dist.unique {a:NF} {q k j:Nat} (h:a.Dist q k) (y:a.Dist q j):k=j:=by
 rcases Nat.lt_trichotomy k j with x | x | x
 ·have:=y.2 k x; rw [h.1] at this; exact absurd this (by simp)
 ·exact x
 ·have:=h.2 j x; rw [y.1] at this; exact absurd this (by simp)
theorem NF.dist_of {a:NF} {q:Nat}:∀(k:Nat),a.B k q=true→∃j,j≤k∧a.Dist q j:=by
 intro k
 induction k using Nat.strongRecOn with
 | _ k ih=>
  intro h
  by_cases y:∃e,e<k∧a.B e q=true
  ·obtain⟨e,x,C⟩:=y
   obtain⟨j,F,hd⟩:=ih e x C
   exact⟨j,by omega,hd⟩
  ·refine⟨k,Nat.le_refl _,h,fun e x=>?_⟩
   rcases E:a.B e q with _ | _
   ·rfl
   ·exact absurd ⟨e,x,E⟩ y
theorem NF.Dist.next {a:NF} {q k:Nat} (h:a.Dist q (k+1)):∃x y,x<a.L∧y<a.n∧(y:Int)∈a.to q x∧a.Dist y k:=by
 obtain⟨x,y,E,F,C,G⟩:=NF.B_succ.1 h.1
 refine⟨x,y,E,F,C,G,fun e J=>?_⟩
 rcases I:a.B e y with _ | _
 ·rfl
 ·have:=h.2 (e+1) (by omega)
  rw [NF.B_succ.2 ⟨x,y,E,F,C,I⟩] at this
  exact absurd this (by simp)
theorem NF.Dist.lt {a:NF} {q k:Nat} (E:q<a.n) (h:a.Dist q k):k<a.n:=by
 have key:∀(k q:Nat),q<a.n→a.Dist q k→∃l:List Nat,l.length=k+1∧l.Nodup∧(∀s∈l,s<a.n)∧∀s∈l,∃j,j≤k∧a.Dist s j:=by
  intro k
  induction k with
  | zero=>exact fun q E h=>⟨[q],rfl,by simp,by simpa using E,fun s C=>⟨0,Nat.le_refl _,by rw [List.mem_singleton.1 C]; exact h⟩⟩
  | succ k ih=>
   intro q E h
   obtain⟨x,y,_,U,_,hd⟩:=h.next
   obtain⟨l,h1,F,G,J⟩:=ih y U hd
   refine⟨q::l,by simp [h1],List.nodup_cons.2 ⟨fun O=>?_,F⟩,fun s C=>?_,fun s C=>?_⟩
   ·obtain⟨j,M,I⟩:=J q O
    have:=h.unique I
    omega
   ·rcases List.mem_cons.1 C with rfl | C
    ·exact E
    ·exact G s C
   ·rcases List.mem_cons.1 C with rfl | C
    ·exact⟨k+1,Nat.le_refl _,h⟩
    ·obtain⟨j,M,I⟩:=J s C
     exact⟨j,by omega,I⟩
 obtain⟨l,h1,F,G,_⟩:=key k q E h
 have:=D6 l (List.range a.n) F fun s C=>List.mem_range.2 (G s C)
 simp at this
 omega
structure NF.Far (a:NF) (far:List Int):Prop where
 len:far.length=a.n
 at_:∀q,q<a.n→(far.getD q (-1)= -1∧∀d,a.B d q=false)∨∃k:Nat,far.getD q (-1)=(k:Int)∧a.Dist q k
theorem NF.Far.iff {a:NF} {far:List Int} (h:a.Far far) {q:Nat} (y:q<a.n) (k:Nat):far.getD q (-1)=(k:Int)↔a.Dist q k:=by
 rcases h.at_ q y with⟨h1,x⟩ | ⟨j,h1,x⟩
 ·rw [h1]
  exact⟨fun e=>by omega,fun hd=>by have:=x k; rw [hd.1] at this; exact absurd this (by simp)⟩
 ·rw [h1]
  constructor
  ·intro e
   have:j=k:=by omega
   subst this
   exact x
  ·intro hd
   rw [x.unique hd]
theorem NF.Far.unique {a:NF} {far E:List Int} (h:a.Far far) (F:a.Far E):far=E:=by
 apply List.ext_getElem?
 intro q
 rcases Nat.lt_or_ge q a.n with C | C
 ·obtain⟨x,I⟩:=An (l:=far) (i:=q) (by rw [h.len]; exact C)
  obtain⟨y,J⟩:=An (l:=E) (i:=q) (by rw [F.len]; exact C)
  have M:far.getD q (-1)=x:=getD_some I
  have O:E.getD q (-1)=y:=getD_some J
  rw [I,J]
  congr 1
  rcases h.at_ q C with⟨h1,G⟩ | ⟨j,h1,G⟩
  ·rcases F.at_ q C with⟨k1,_⟩ | ⟨k,k1,k2⟩
   ·omega
   ·have:=G k; rw [k2.1] at this; exact absurd this (by simp)
  ·have:=(F.iff C j).2 G
   omega
 ·rw [List.getElem?_eq_none (by rw [h.len]; exact C),List.getElem?_eq_none (by rw [F.len]; exact C)]
def AQ (far:List Int) (m:List Bool) (k:Nat):List Bool:=(List.range m.length).map fun q=>m.getD q false&&decide (far.getD q (-1)=(k:Int))
theorem D1 {far:List Int} {m:List Bool} {k q:Nat}:(AQ far m k).getD q false=true↔m.getD q false=true∧far.getD q (-1)=(k:Int):=by
 unfold AQ
 rw [List.getD_eq_getElem?_getD]
 rcases Nat.lt_or_ge q m.length with h | h
 ·simp [h]
 ·rw [List.getElem?_eq_none (by simpa using h),List.getD_eq_getElem?_getD (l:=m),List.getElem?_eq_none h]
  simp
def DU (m:List Bool):Bool:=m.any id
theorem FA {m:List Bool}:DU m=true↔∃q,q<m.length∧m.getD q false=true:=by
 unfold DU
 rw [List.any_eq_true]
 constructor
 ·rintro⟨b,x,h⟩
  obtain⟨q,y⟩:=List.mem_iff_getElem?.1 x
  exact⟨q,AP y,by rw [getD_some y]; exact h⟩
 ·rintro⟨q,y,h⟩
  obtain⟨b,x⟩:=An y
  rw [getD_some x] at h
  exact⟨b,List.mem_of_getElem? x,h⟩
def NF.pick (a:NF) (far:List Int) (m:List Bool) (k:Nat):Option Nat:=(List.range a.L).find? fun x=>DU (AQ far (a.after m x) k)
theorem NF.after_get {a:NF} {m:List Bool} {x y:Nat} (h:y<a.n):(a.after m x).getD y false=true↔∃s,s<a.n∧m.getD s false=true∧(y:Int)∈a.to s x:=by
 unfold NF.after
 rw [List.getD_eq_getElem?_getD]
 simp [h]
structure NF.Lev (a:NF) (far:List Int) (m:List Bool) (k:Nat):Prop where
 len:m.length=a.n
 ne:∃q,q<a.n∧m.getD q false=true
 all:∀q,q<a.n→m.getD q false=true→a.Dist q k
theorem NF.Lev.cut {a:NF} {far:List Int} (C:a.Far far) {m:List Bool} {k:Nat} (E:m.length=a.n) (h:DU (AQ far m k)=true):a.Lev far (AQ far m k) k:=by
 obtain⟨q,y,x⟩:=FA.1 h
 have F:(AQ far m k).length=a.n:=by simp [AQ,E]
 exact⟨F,⟨q,by omega,x⟩,fun q y x=>(C.iff y k).1 (D1.1 x).2⟩
theorem NF.Lev.pick {a:NF} {far:List Int} (I:a.Far far) {m:List Bool} {k:Nat} (h:a.Lev far m (k+1)):∃x,a.pick far m k=some x∧x<a.L∧a.Lev far (AQ far (a.after m x) k) k∧∀y,y<x→DU (AQ far (a.after m y) k)=false:=by
 obtain⟨q,O,M⟩:=h.ne
 obtain⟨x,y,hx,F,Z,hd⟩:=(h.all q O M).next
 have W:DU (AQ far (a.after m x) k)=true:=FA.2 ⟨y,by simp [AQ,a.after_len,F],D1.2 ⟨(NF.after_get F).2 ⟨q,O,M,Z⟩,(I.iff F k).2 hd⟩⟩
 rcases E:a.pick far m k with _ | z
 ·have:=List.find?_eq_none.1 E x (List.mem_range.2 hx)
  rw [W] at this
  exact absurd rfl this
 ·have h1:=List.find?_some E
  have G:=List.mem_of_find?_eq_some E
  refine⟨z,rfl,List.mem_range.1 G,NF.Lev.cut I (a.after_len _ _) h1,fun y F=>?_⟩
  obtain⟨l1,l2,J,V⟩:=(List.find?_eq_some_iff_append.1 E).2
  have a4:l1.length=z:=by
   have C:(List.range a.L)[l1.length]?=some z:=by rw [J]; simp
   have U:=AP C
   rw [List.getElem?_range (by simpa using U)] at C
   exact Option.some.inj C
  have a3:y∈l1:=by
   have C:(List.range a.L)[y]?=some y:=by
    rw [List.getElem?_range]
    have:=List.mem_range.1 G; omega
   rw [J,List.getElem?_append_left (by omega)] at C
   exact List.mem_of_getElem? C
  have:=V y a3
  simpa using this
end Go.Proofs.YtfcfpoemojjglaaGreatDoor
namespace Go.Proofs.YtfcfpoemojjglaaGreatDoor
def NF.psR (a:NF) (s x:Nat):List (Nat×Int):=(List.range x).flatMap fun y=>(a.to s y).map fun t=>(s,t)
def NF.psS (a:NF) (s:Nat):List (Nat×Int):=(List.range s).flatMap fun r=>a.psR r a.L
def NF.ps (a:NF) (s x j:Nat):List (Nat×Int):=a.psS s++a.psR s x++((a.to s x).take j).map fun t=>(s,t)
theorem NF.mem_psS {a:NF} {n s:Nat} {t:Int}:(s,t)∈a.psS n↔s<n∧∃x,x<a.L∧t∈a.to s x:=by
 simp only [NF.psS,NF.psR,List.mem_flatMap,List.mem_range,List.mem_map,Prod.mk.injEq]
 constructor
 ·rintro⟨r,C,x,y,u,h,rfl,rfl⟩
  exact⟨C,x,y,h⟩
 ·rintro⟨E,x,y,h⟩
  exact⟨s,E,x,y,t,h,rfl,rfl⟩
def Bp (ps:List (Nat×Int)) (y:Nat):List Nat:=(ps.filter fun p=>decide (p.2=(y:Int))).map (·.1)
theorem Q5 {ps:List (Nat×Int)} {s y:Nat}:s∈Bp ps y↔(s,(y:Int))∈ps:=by
 simp only [Bp,List.mem_map,List.mem_filter,decide_eq_true_eq]
 constructor
 ·rintro⟨⟨p,t⟩,⟨h1,x⟩,rfl⟩
  simp only at x
  subst x
  exact h1
 ·intro h
  exact⟨_,⟨h,rfl⟩,rfl⟩
def NF.edge (a:NF) (q y:Nat):Prop:=∃x,x<a.L∧(y:Int)∈a.to q x
theorem NF.mem_back {a:NF} {q y:Nat}:q∈Bp (a.psS a.n) y↔q<a.n∧a.edge q y:=Q5.trans NF.mem_psS
def und (far:List Int):Nat:=far.countP fun z=>decide (z= -1)
theorem It:∀{far:List Int} {s:Nat} {v:Int},far[s]?=some (-1)→v≠-1→und (far.set s v)+1=und far
 | [],_,_,h,_=>by simp at h
 | z::far,0,v,h,hv=>by
  have x:z= -1:=by simpa using h
  subst x
  simp [und,List.set_cons_zero,hv]
 | z::far,s+1,v,h,hv=>by
  have:=It (far:=far) (s:=s) (v:=v) (by simpa using h) hv
  unfold und at this ⊢
  rw [List.set_cons_succ,List.countP_cons,List.countP_cons]
  omega
structure NF.Bfs (a:NF) (far:List Int) (qs:List Nat):Prop where
 len:far.length=a.n
 ge:∀q,q<a.n→far.getD q (-1)= -1∨∃k:Nat,far.getD q (-1)=(k:Int)∧a.Dist q k
 acc:∀q,q<a.n→a.acc.getD q false=true→far.getD q (-1)≠-1
 cl:∀q y,q<a.n→y<a.n→far.getD q (-1)= -1→a.edge q y→far.getD y (-1)= -1∨y∈qs
 q:∀y∈qs,y<a.n∧far.getD y (-1)≠-1
 asc:qs.Pairwise fun x y=>far.getD x (-1)≤far.getD y (-1)
 top:∀x∈qs,∀y∈qs,far.getD y (-1)≤far.getD x (-1)+1
 size:qs.length+und far≤a.n
section
variable {a:NF} {far:List Int} {qs:List Nat}
theorem NF.Bfs.least {hd k:Nat} {t:List Nat} (h:a.Bfs far (hd::t)) (hk:far.getD hd (-1)=(k:Int)):∀e q,q<a.n→far.getD q (-1)= -1→a.B e q=true→k+1≤e:=by
 intro e
 induction e with
 | zero=>intro q G h1 E; exact absurd h1 (h.acc q G E)
 | succ e ih=>
  intro q G h1 E
  obtain⟨x,y,V,I,U,E⟩:=NF.B_succ.1 E
  rcases h.cl q y G I h1 ⟨x,V,U⟩ with C | C
  ·have:=ih y I C E; omega
  ·rcases h.ge y I with F | ⟨j,F,J⟩
   ·exact absurd F (h.q y C).2
   ·have W:j≤e:=by
     rcases Nat.lt_or_ge e j with O | M
     ·have:=J.2 e O; rw [E] at this; exact absurd this (by simp)
     ·exact M
    have Z:(k:Int)≤(j:Int):=by
     rcases List.mem_cons.1 C with rfl | C
     ·rw [←hk,←F]; exact Int.le_refl _
     ·rw [←hk,←F]; exact(List.pairwise_cons.1 h.asc).1 y C
    omega
theorem Hs {l:List Int} {s q:Nat} {v d:Int} (x:s<l.length):(l.set s v).getD q d=if q=s then v else l.getD q d:=by
 rw [List.getD_eq_getElem?_getD,List.getElem?_set]
 by_cases e:s=q
 ·subst e; simp [x]
 ·rw [if_neg e,if_neg (fun h=>e h.symm),List.getD_eq_getElem?_getD]
theorem NF.Bfs.find {hd k s:Nat} {t:List Nat} (h:a.Bfs far (hd::t)) (hk:far.getD hd (-1)=(k:Int)) (hs:s<a.n) (hn:far.getD s (-1)= -1) (he:a.edge s hd):a.Bfs (far.set s (((k+1:Nat)):Int)) (hd::(t++[s])):=by
 have a8:s<far.length:=by rw [h.len]; exact hs
 have G:∀q,(far.set s (((k+1:Nat)):Int)).getD q (-1)=if q=s then (((k+1:Nat)):Int) else far.getD q (-1):=fun q=>Hs a8
 have a3:=h.q hd List.mem_cons_self
 have af:∀y∈hd::t,y≠s:=fun y C e=>(h.q y C).2 (by rw [e]; exact hn)
 have E:∀y∈hd::t,(far.set s (((k+1:Nat)):Int)).getD y (-1)=far.getD y (-1):=fun y C=>by rw [G,if_neg (af y C)]
 have O:(far.set s (((k+1:Nat)):Int)).getD s (-1)=(((k+1:Nat)):Int):=by rw [G,if_pos rfl]
 have hD:a.Dist s (k+1):=by
  obtain⟨x,F,hm⟩:=he
  refine⟨NF.B_succ.2 ⟨x,hd,F,a3.1,hm,?_⟩,fun e he=>?_⟩
  ·rcases h.ge hd a3.1 with h1 | ⟨j,h1,Z⟩
   ·exact absurd h1 a3.2
   ·have:j=k:=by omega
    subst this
    exact Z.1
  ·rcases hb:a.B e s with _ | _
   ·rfl
   ·have:=h.least hk e s hs hn hb; omega
 have e:hd::(t++[s])=(hd::t)++[s]:=rfl
 have J:∀y,y∈hd::(t++[s])↔y∈hd::t∨y=s:=fun y=>by rw [e,List.mem_append,List.mem_singleton]
 refine⟨by rw [List.length_set]; exact h.len,fun q M=>?_,fun q M hA=>?_,fun q y M C h1 Z=>?_,fun y C=>?_,?_,fun x F y C=>?_,?_⟩
 ·rw [G]
  split
  ·rename_i U; subst U
   exact .inr ⟨k+1,rfl,hD⟩
  ·exact h.ge q M
 ·rw [G]
  split
  ·omega
  ·exact h.acc q M hA
 ·rw [G] at h1
  by_cases U:q=s
  ·rw [if_pos U] at h1; omega
  ·rw [if_neg U] at h1
   by_cases a9:y=s
   ·exact .inr ((J y).2 (.inr a9))
   ·rw [G,if_neg a9]
    rcases h.cl q y M C h1 Z with h3 | h3
    ·exact .inl h3
    ·exact .inr ((J y).2 (.inl h3))
 ·rcases(J y).1 C with C | rfl
  ·rw [E y C]; exact h.q y C
  ·rw [O]; exact⟨hs,by omega⟩
 ·rw [e,List.pairwise_append]
  refine⟨?_,List.pairwise_singleton _ _,fun x F y C=>?_⟩
  ·exact h.asc.imp_of_mem fun {x y} F C hxy=>by rw [E x F,E y C]; exact hxy
  ·rw [List.mem_singleton.1 C,O,E x F]
   have:=h.top hd List.mem_cons_self x F
   omega
 ·have ad:∀z∈hd::t,(k:Int)≤far.getD z (-1):=fun z I=>by
   rcases List.mem_cons.1 I with rfl | I
   ·omega
   ·rw [←hk]; exact(List.pairwise_cons.1 h.asc).1 z I
  rcases(J x).1 F with V | ex <;> rcases(J y).1 C with W | ey
  ·rw [E x V,E y W]; exact h.top x V y W
  ·rw [E x V,ey,O]; have:=ad x V; omega
  ·rw [E y W,ex,O]; have:=h.top hd List.mem_cons_self y W; omega
  ·rw [ex,ey]; omega
 ·have hu:=It (far:=far) (s:=s) (v:=(((k+1:Nat)):Int)) (by
   obtain⟨z,I⟩:=An a8
   rw [I,←getD_some (d:=(-1:Int)) I,hn]) (by omega)
  have:=h.size
  simp only [List.length_cons,List.length_append,List.length_nil] at this ⊢
  omega
theorem NF.Bfs.pop {hd:Nat} {t:List Nat} (h:a.Bfs far (hd::t)) (I:∀q,q<a.n→a.edge q hd→far.getD q (-1)≠-1):a.Bfs far t:=by
 refine⟨h.len,h.ge,h.acc,fun q y G E h1 F=>?_,fun y E=>h.q y (List.mem_cons_of_mem _ E),(List.pairwise_cons.1 h.asc).2,fun x J y E=>h.top x (List.mem_cons_of_mem _ J) y (List.mem_cons_of_mem _ E),?_⟩
 ·rcases h.cl q y G E h1 F with C | C
  ·exact .inl C
  ·rcases List.mem_cons.1 C with rfl | C
   ·exact absurd h1 (I q G F)
   ·exact .inr C
 ·have:=h.size
  rw [List.length_cons] at this
  omega
end
structure NF.BfsJ (a:NF) (far:List Int) (hd:Nat) (t:List Nat) (k m j:Nat):Prop where
 bfs:a.Bfs far (hd::t)
 hk:far.getD hd (-1)=(k:Int)
 pre:∀s∈(Bp (a.psS a.n) hd).take j,far.getD s (-1)≠-1
 size:t.length+und far=m
section
variable {a:NF} {far:List Int} {hd k m j s:Nat} {t:List Nat}
theorem NF.BfsJ.skip (h:a.BfsJ far hd t k m j) (C:(Bp (a.psS a.n) hd)[j]?=some s) (y:far.getD s (-1)≠-1):a.BfsJ far hd t k m (j+1):=by
 refine⟨h.bfs,h.hk,fun q x=>?_,h.size⟩
 rw [List.take_add_one,C] at x
 rcases List.mem_append.1 x with x | x
 ·exact h.pre q x
 ·have:q=s:=by simpa using x
  rw [this]; exact y
theorem NF.BfsJ.done (h:a.BfsJ far hd t k m j) (y:(Bp (a.psS a.n) hd).length≤j):a.Bfs far t:=
 h.bfs.pop fun q C x=>h.pre q (by rw [List.take_of_length_le y]; exact NF.mem_back.2 ⟨C,x⟩)
end
end Go.Proofs.YtfcfpoemojjglaaGreatDoor
namespace Go.Proofs.YtfcfpoemojjglaaGreatDoor
theorem NF.Far.ge {a:NF} {far:List Int} (h:a.Far far) (q:Nat):-1≤far.getD q (-1):=by
 rcases Nat.lt_or_ge q a.n with x | x
 ·rcases h.at_ q x with⟨h1,_⟩ | ⟨k,h1,_⟩ <;> omega
 ·rw [List.getD_eq_getElem?_getD,List.getElem?_eq_none (by rw [h.len]; exact x)]
  exact Int.le_refl _
structure NF.Rel (a:NF) (es:List (Nat×Nat)) (far:List Int) (d j:Nat):Prop where
 len:far.length=a.n
 low:∀q k,q<a.n→k<d→(far.getD q (-1)=(k:Int)↔a.Dist q k)
 val:∀q,q<a.n→far.getD q (-1)= -1∨∃k:Nat,far.getD q (-1)=(k:Int)∧k≤d∧a.Dist q k
 done:∀e∈es.take j,far.getD e.2 (-1)+1=(d:Int)→far.getD e.1 (-1)≠-1
section
variable {a:NF} {es:List (Nat×Nat)} {far:List Int} {d j:Nat}
theorem NF.Rel.step (h:a.Rel es far d j) (hd:0<d) (a3:∀e,e∈es↔e.1<a.n∧e.2<a.n∧a.edge e.1 e.2) {q y:Nat} (F:es[j]?=some (q,y)):
  a.Rel es (if far.getD q (-1)<0∧far.getD y (-1)=(d:Int) - 1 then far.set q (d:Int) else far) d (j+1):=by
 obtain⟨M,U,x,hx,hm⟩:=(a3 _).1 (List.mem_of_getElem? F)
 by_cases I:far.getD q (-1)<0∧far.getD y (-1)=(d:Int) - 1
 ·rw [if_pos I]
  have a5:q<far.length:=by rw [h.len]; exact M
  have G:∀r,(far.set q (d:Int)).getD r (-1)=if r=q then (d:Int) else far.getD r (-1):=fun r=>Hs a5
  have a7:a.Dist y (d - 1):=(h.low y (d - 1) U (by omega)).1 (by omega)
  have O:∀k,k<d→¬a.Dist q k:=fun k hk E=>by
   have:=(h.low q k M hk).2 E; omega
  have E:a.Dist q d:=by
   have W:a.B d q=true:=by
    have:=NF.B_succ (a:=a) (d:=d - 1) (q:=q)
    rw [show d - 1+1=d by omega] at this
    exact this.2 ⟨x,y,hx,U,hm,a7.1⟩
   refine⟨W,fun e F=>?_⟩
   rcases Z:a.B e q with _ | _
   ·rfl
   ·obtain⟨j,hj,a2⟩:=NF.dist_of e Z
    exact absurd a2 (O j (by omega))
  refine⟨by rw [List.length_set]; exact h.len,fun r k J hk=>?_,fun r J=>?_,fun e C h1=>?_⟩
  ·rw [G]
   split
   ·rename_i e; subst e
    exact⟨fun e=>by omega,fun E=>absurd E (O k hk)⟩
   ·exact h.low r k J hk
  ·rw [G]
   split
   ·rename_i e; subst e
    exact .inr ⟨d,rfl,Nat.le_refl _,E⟩
   ·exact h.val r J
  ·rw [G]
   split
   ·omega
   ·rename_i hne
    rw [G] at h1
    rw [List.take_add_one,F] at C
    rcases List.mem_append.1 C with C | C
    ·split at h1
     ·omega
     ·exact h.done e C h1
    ·have:e=(q,y):=by simpa using C
     subst this
     exact absurd rfl hne
 ·rw [if_neg I]
  refine⟨h.len,h.low,h.val,fun e C h1=>?_⟩
  rw [List.take_add_one,F] at C
  rcases List.mem_append.1 C with C | C
  ·exact h.done e C h1
  ·have:e=(q,y):=by simpa using C
   subst this
   intro V
   have a8:far.getD y (-1)+1=(d:Int):=h1
   have a9:far.getD q (-1)= -1:=V
   exact I ⟨by omega,by omega⟩
theorem NF.Rel.next (h:a.Rel es far d es.length) (hd:0<d) (U:∀e,e∈es↔e.1<a.n∧e.2<a.n∧a.edge e.1 e.2):a.Rel es far (d+1) 0:=by
 refine⟨h.len,fun q k C hk=>?_,fun q C=>?_,fun e O=>by simp at O⟩
 ·rcases Nat.lt_or_ge k d with V | a4
  ·exact h.low q k C V
  ·have:k=d:=by omega
   subst this
   constructor
   ·intro e
    rcases h.val q C with h1 | ⟨j,h1,_,E⟩
    ·omega
    ·have:j=k:=by omega
     subst this
     exact E
   ·intro G
    obtain⟨F,rfl⟩:∃F,k=F+1:=⟨k - 1,by omega⟩
    obtain⟨x,y,hx,I,W,M⟩:=G.next
    have a3:=(h.low y F I (by omega)).2 M
    have Z:(q,y)∈es:=(U _).2 ⟨C,I,x,hx,W⟩
    have:=h.done (q,y) (by rw [List.take_length]; exact Z) (by simp only; omega)
    rcases h.val q C with h1 | ⟨j,h1,_,E⟩
    ·exact absurd h1 this
    ·rw [h1,G.unique E]
 ·rcases h.val q C with h1 | ⟨k,h1,E,J⟩
  ·exact .inl h1
  ·exact .inr ⟨k,h1,by omega,J⟩
end
end Go.Proofs.YtfcfpoemojjglaaGreatDoor
namespace Go.Proofs.YtfcfpoemojjglaaGreatDoor
end Go.Proofs.YtfcfpoemojjglaaGreatDoor
namespace Go.Proofs.YtfcfpoemojjglaaGreatDoor
end Go.Proofs.YtfcfpoemojjglaaGreatDoor
namespace Go.Proofs.YtfcfpoemojjglaaGreatDoor
structure Mv where
 frm:Int
 inn:Int
 out:Int
 to:Int
structure TR where
 letters:Int
 states:Int
 start:List Int
 accept:List Int
 moves:List Mv
def TR.moveB (t:TR) (e:Mv):Bool:=inN t.states e.frm&&inN t.states e.to&&(inN t.letters e.inn&&inN t.letters e.out)
def TR.head (t:TR):Bool:=decide (1≤t.letters)&&decide (t.letters≤8)&&decide (0≤t.states)&&decide (t.states≤400)
def TR.ok (t:TR):Bool:=t.head&&t.start.all (inN t.states)&&t.accept.all (inN t.states)&&t.moves.all t.moveB
structure TR.In (t:TR):Prop where
 start:∀x∈t.start,inN t.states x=true
 accept:∀x∈t.accept,inN t.states x=true
 move:∀e∈t.moves,inN t.states e.frm=true∧inN t.letters e.inn=true∧inN t.letters e.out=true∧inN t.states e.to=true
theorem TR.ok_iff {t:TR}:t.ok=true↔(1≤t.letters∧t.letters≤8∧0≤t.states∧t.states≤400)∧t.In:=by
 simp only [TR.ok,TR.head,Bool.and_eq_true,decide_eq_true_eq,List.all_eq_true,TR.moveB]
 constructor
 ·rintro⟨⟨⟨⟨⟨⟨h1,y⟩,C⟩,E⟩,F⟩,G⟩,h⟩
  exact⟨⟨h1,y,C,E⟩,F,G,fun e x=>⟨(h e x).1.1,(h e x).2.1,(h e x).2.2,(h e x).1.2⟩⟩
 ·rintro⟨⟨h1,y,C,E⟩,F,G,h⟩
  exact⟨⟨⟨⟨⟨⟨h1,y⟩,C⟩,E⟩,F⟩,G⟩,fun e x=>⟨⟨(h e x).1,(h e x).2.2.2⟩,(h e x).2.1,(h e x).2.2.1⟩⟩
def TR.n (t:TR):Nat:=t.states.toNat
def TR.L (t:TR):Nat:=t.letters.toNat
def TR.nextM (t:TR) (m:List Bool) (x y:Int) (k:Nat):List Bool:=(List.range t.n).map fun q:Nat=>(t.moves.take k).any fun e=>m.getD e.frm.toNat false&&decide (e.inn=x)&&decide (e.out=y)&&decide (e.to=(q:Int))
theorem TR.nextM_len (t:TR) (m:List Bool) (x y:Int) (k:Nat):(t.nextM m x y k).length=t.n:=by simp [TR.nextM]
theorem TR.nextM_get {t:TR} {m:List Bool} {x y:Int} {k q:Nat} (h:q<t.n):(t.nextM m x y k)[q]?=some ((t.moves.take k).any fun e=>m.getD e.frm.toNat false&&decide (e.inn=x)&&decide (e.out=y)&&decide (e.to=(q:Int))):=by
 unfold TR.nextM
 rw [List.getElem?_map,List.getElem?_range h]
 rfl
theorem TR.nextM_zero (t:TR) (m:List Bool) (x y:Int):t.nextM m x y 0=List.replicate t.n false:=by
 apply List.ext_getElem?
 intro q
 rcases Nat.lt_or_ge q t.n with h | h
 ·rw [nextM_get h,List.getElem?_replicate,if_pos h]; simp
 ·rw [List.getElem?_eq_none (by rw [nextM_len]; exact h),List.getElem?_eq_none (by simpa using h)]
theorem TR.nextM_step {t:TR} {m:List Bool} {x y:Int} {k:Nat} {e:Mv} (E:t.moves[k]?=some e) (ht:0≤e.to):t.nextM m x y (k+1)=if m.getD e.frm.toNat false&&decide (e.inn=x)&&decide (e.out=y) then (t.nextM m x y k).set e.to.toNat true else t.nextM m x y k:=by
 apply List.ext_getElem?
 intro q
 rcases Nat.lt_or_ge q t.n with h | h
 ·rw [nextM_get h,List.take_add_one,E,List.any_append]
  simp only [Option.toList_some,List.any_cons,List.any_nil,Bool.or_false]
  rcases F:(m.getD e.frm.toNat false&&decide (e.inn=x)&&decide (e.out=y)) with _ | _
  ·rw [if_neg (by decide),nextM_get h]; simp
  ·rw [if_pos rfl,List.getElem?_set,nextM_len]
   by_cases C:e.to.toNat=q
   ·rw [if_pos C,if_pos (by omega)]
    have:e.to=(q:Int):=by omega
    simp [this]
   ·rw [if_neg C,nextM_get h]
    have:decide (e.to=(q:Int))=false:=by simp; omega
    simp [this]
 ·rw [List.getElem?_eq_none (by rw [nextM_len]; exact h),List.getElem?_eq_none]
  split <;> simp [nextM_len,h]
def TR.setK (t:TR) (u v:List Int) (k:Nat):List Bool:=((u.zip v).take k).foldl (fun m p=>t.nextM m p.1 p.2 t.moves.length) (BN t.n t.start)
theorem TR.setK_len (t:TR) (u v:List Int) (k:Nat):(t.setK u v k).length=t.n:=by
 have:∀(l:List (Int×Int)) (m:List Bool),m.length=t.n→(l.foldl (fun m p=>t.nextM m p.1 p.2 t.moves.length) m).length=t.n:=by
  intro l
  induction l with
  | nil=>exact fun _ h=>h
  | cons p l ih=>exact fun m _=>ih _ (t.nextM_len _ _ _ _)
 exact this _ _ (Dh _ _)
theorem TR.setK_step {t:TR} {u v:List Int} {k:Nat} {x y:Int} (h:u[k]?=some x) (C:v[k]?=some y):t.setK u v (k+1)=t.nextM (t.setK u v k) x y t.moves.length:=by
 have:(u.zip v)[k]?=some (x,y):=by rw [List.getElem?_zip_eq_some]; exact⟨h,C⟩
 unfold TR.setK
 rw [List.take_add_one,this]
 simp
def TR.rel (t:TR) (u v:List Int):Bool:=t.accept.any fun s=>(t.setK u v u.length).getD s.toNat false
end Go.Proofs.YtfcfpoemojjglaaGreatDoor
namespace Go.Proofs.YtfcfpoemojjglaaGreatDoor
open Go.RowKit
def DP (e:Edg):Nat→Value
 | 0=>.int .i64 e.frm
 | 1=>.int .i64 e.letter
 | _=>.int .i64 e.to
def Bj (w:World) (B:Nat) (v:Value) (a:WA):Prop:=
 ∃A1 c1 A2 c2 A3 c3,v=.agg #[.int .i64 a.letters,.int .i64 a.states,.slice A1 a.start.length c1,.slice A2 a.accept.length c2,.slice A3 a.edges.length c3]∧
  Sl w B 1 Ai A1 a.start∧Sl w B 1 Ai A2 a.accept∧Sl w B 3 DP A3 a.edges∧a.start.length≤c1
theorem Bj.keep {w w':World} {B B':Nat} {v:Value} {a:WA} (h:Bj w B v a) (hk:∀p:Addr,p.block<B→w'.cell? p=w.cell? p) (x:B≤B'):Bj w' B' v a:=by
 obtain⟨A1,c1,A2,c2,A3,c3,e,h1,y,C,E⟩:=h
 exact⟨A1,c1,A2,c2,A3,c3,e,h1.keep hk x,y.keep hk x,C.keep hk x,E⟩
theorem Bj.below {w w':World} {B:Nat} {v:Value} {a:WA} (h:Bj w B v a) (x:Below B w w'):Bj w' B v a:=h.keep (fun _ y=>x.cell y) (Nat.le_refl _)
def VSl {D:Type} (R:World→Nat→Value→D→Prop) (w:World) (B:Nat) (A:Option Addr) (ds:List D):Prop:=
 ds.length≤9223372036854775807∧(ds≠[]→∃b off,A=some ⟨b,off,none⟩∧b<B∧∀k d,ds[k]?=some d→∃v,w.cell? ⟨b,off+k,none⟩=some v∧R w B v d)
def Gj {D:Type} (R:World→Nat→Value→D→Prop):Prop:=∀{w w':World} {B B':Nat} {v:Value} {d:D},R w B v d→(∀p:Addr,p.block<B→w'.cell? p=w.cell? p)→B≤B'→R w' B' v d
theorem VSl.keep {D:Type} {R:World→Nat→Value→D→Prop} (C:Gj R) {w w':World} {B B':Nat} {A:Option Addr} {ds:List D} (h:VSl R w B A ds) (hk:∀p:Addr,p.block<B→w'.cell? p=w.cell? p) (y:B≤B'):VSl R w' B' A ds:=
 ⟨h.1,fun G=>by
  obtain⟨b,off,e,E,F⟩:=h.2 G
  refine⟨b,off,e,by omega,fun k d hd=>?_⟩
  obtain⟨v,h1,x⟩:=F k d hd
  exact⟨v,(hk _ E).trans h1,C x hk y⟩⟩
theorem VSl.at {D:Type} {R:World→Nat→Value→D→Prop} {w:World} {B:Nat} {A:Option Addr} {ds:List D} (h:VSl R w B A ds) {k:Nat} {d:D} (hk:ds[k]?=some d):
  ∃b off v,A=some ⟨b,off,none⟩∧b<B∧w.cell? ⟨b,off+k,none⟩=some v∧R w B v d:=by
 obtain⟨b,off,e,y,C⟩:=h.2 (by rintro rfl; simp at hk)
 obtain⟨v,h1,x⟩:=C k d hk
 exact⟨b,off,v,e,y,h1,x⟩
def R1 (w:World) (B:Nat) (v:Value) (l:List Int):Prop:=∃A c,v=.slice A l.length c∧Sl w B 1 Ai A l
theorem R1.keep:Gj R1:=by
 rintro w w' B B' v d ⟨A,c,e,h⟩ hk x
 exact⟨A,c,e,h.keep hk x⟩
def Ak (l:List Nat):List Int:=l.map fun x:Nat=>(x:Int)
def R2 (w:World) (B:Nat) (v:Value) (t:List (List Int)):Prop:=∃A c,v=.slice A t.length c∧VSl R1 w B A t
theorem R2.keep:Gj R2:=by
 rintro w w' B B' v d ⟨A,c,e,h⟩ hk x
 exact⟨A,c,e,VSl.keep (@R1.keep) h hk x⟩
def Cn (w:World) (B:Nat) (v:Value) (a:NF):Prop:=
 ∃A1 c1 A2 c2 A3 c3,v=.agg #[.int .i64 (a.L:Int),.slice A1 a.nx.length c1,.slice A2 a.start.length c2,.slice A3 a.acc.length c3]∧
  VSl R2 w B A1 a.nx∧Sl w B 1 Ai A2 a.start∧Sl w B 1 DH A3 a.acc∧a.start.length≤c2
theorem Cn.keep {w w':World} {B B':Nat} {v:Value} {a:NF} (h:Cn w B v a) (hk:∀p:Addr,p.block<B→w'.cell? p=w.cell? p) (x:B≤B'):Cn w' B' v a:=by
 obtain⟨A1,c1,A2,c2,A3,c3,e,h1,y,C,E⟩:=h
 exact⟨A1,c1,A2,c2,A3,c3,e,VSl.keep (@R2.keep) h1 hk x,y.keep hk x,C.keep hk x,E⟩
theorem Cn.below {w w':World} {B:Nat} {v:Value} {a:NF} (h:Cn w B v a) (x:Below B w w'):Cn w' B v a:=h.keep (fun _ y=>x.cell y) (Nat.le_refl _)
theorem B8 {w:World} {base n B:Nat} {e:TypeId} {v:Value} {l:List Int} (h:w.ownsRow base e 1 v n (l.map (Value.int .i64))) (E:l.length=n) (F:w.heap.size≤B) (M:n≤9223372036854775807):R1 w B v l:=by
 subst E
 rcases h.2 with⟨rfl,h0⟩ | ⟨g,cap,y,rfl,G,x,I,O,U,ht⟩
 ·have:l=[]:=by simpa using h0
  subst this
  exact⟨none,0,rfl,Sl.nil rfl⟩
 ·refine⟨_,cap,rfl,by omega,fun _=>⟨g,0,rfl,?_,fun k d hd j J=>?_⟩⟩
  ·have:=(Array.getElem?_eq_some_iff.1 x).1; omega
  ·have C:j=0:=by omega
   subst C
   rw [cell_of_row w g _ y e (0,0) x]
   have hk:=AP hd
   have:(l.map (Value.int .i64))[k]?=some (.int .i64 d):=by rw [List.getElem?_map,hd]; rfl
   rw [←ht,List.getElem?_take] at this
   split at this
   ·simpa [Ai] using this
   ·cases this
end Go.Proofs.YtfcfpoemojjglaaGreatDoor
namespace Go.Proofs.YtfcfpoemojjglaaGreatDoor
open Go.RowKit
theorem Mb {D:Type} {p:D→Bool} {l:List D} {k:Nat} {x:D} (C:l[k]?=some x) (h:(l.take k).all p=true) (y:p x=true):(l.take (k+1)).all p=true:=by
 rw [List.take_add_one,C]; simp [y]; simpa using h
theorem IQ {D:Type} {p:D→Bool} {l:List D} {k:Nat} {x:D} (y:l[k]?=some x) (h:p x=false):l.all p=false:=by
 rw [List.all_eq_false]; exact⟨x,List.mem_of_getElem? y,by simp [h]⟩
theorem Ma {D:Type} {p:D→Bool} {l:List D} {k:Nat} (hk:l.length≤k) (h:(l.take k).all p=true):l.all p=true:=by
 rwa [List.take_of_length_le hk] at h
theorem B5 {D:Type} {l:List D} {k:Nat} {x:D} (h:l[k]?=some x):l.take (k+1)=l.take k++[x]:=by rw [List.take_add_one,h]; rfl
theorem AX {D E:Type} {f:D→E} {l:List D} {k:Nat} {x:D} (h:l[k]?=some x):(l.map f)[k]?=some (f x):=by rw [List.getElem?_map,h]; rfl
theorem F2.imp {S T:Type} {R R':S→T→Prop} {l:List S} {m:List T} (h:F2 R l m) (x:∀a b,R a b→R' a b):F2 R' l m:=by
 induction h with
 | nil=>exact .nil
 | cons h1 _ ih=>exact .cons (x _ _ h1) ih
theorem F2.at {S T:Type} {R:S→T→Prop} {l:List S} {m:List T} (h:F2 R l m) {i:Nat} {b:T} (y:m[i]?=some b):∃a,l[i]?=some a∧R a b:=by
 obtain⟨a,x⟩:=An (l:=l) (i:=i) (by rw [h.length]; exact AP y)
 exact⟨a,x,h.get x y⟩
theorem Ap (w:World):Below w.heap.size w w.drew:=⟨rfl,rfl,rfl,Nat.le_refl _,fun _ _=>rfl⟩
theorem Ae (w:World) (cs:Array Value) (t:TypeId):∃h,w.alloc (.cells cs t)=h∧Below w.heap.size w h∧Blk h w.heap.size t cs∧Ac w h (fun _=>False):=
 ⟨_,rfl,(Below.refl _ _).alloc (Nat.le_refl _) _,Blk.new _ _ _,(Ac.refl _ _).alloc _⟩
theorem Blk.below {w w':World} {g:Nat} {t:TypeId} {cs:Array Value} (h:Blk w g t cs) (x:Below w.heap.size w w'):Blk w' g t cs:=h.kept (Ac.of_below x fun _=>False) id
theorem Blk.at {w w':World} {g B:Nat} {t:TypeId} {cs:Array Value} (h:Blk w g t cs) (y:g<B) (x:Below B w w'):Blk w' g t cs:=by
 unfold Blk at h ⊢
 rw [x.block g y]
 exact h
theorem HA (z:Value) (n:Nat):madeCells #[z] (n*1)=Array.replicate n z:=by
 apply Array.ext
 ·simp [madeCells]
 ·intro i h1 h
  simp [madeCells,Nat.mod_one]
theorem HJ {P:Program} {t e bytes:Nat} {z:Value} (ht:P.underlying t=some (.slice e)) (I:(P.info? e).map (fun i=>(i.zero,i.size,i.bytes))=some (some z,1,bytes)) (M:z.cells=#[z]) (F:bytes≤200)
  (w:World) (n:Nat) (J:n≤250000):
  ∃g x,(Instr.makeSlice t (.int .i64 n) (.int .i64 n)).run P w=.ok (.slice (some ⟨g,0,none⟩) n n) x∧Blk x g e (Array.replicate n z)∧Below w.heap.size w x∧w.heap.size≤g:=by
 obtain⟨i,h1,C,y,E⟩:=info_parts I
 have O:bytes*n≤200*250000:=Nat.mul_le_mul F J
 have G:(i.bytes:Int)*(n:Int)≤281474976710656:=by
  rw [E,←Int.natCast_mul]; omega
 have h:=run_makeSlice (P:=P) w t e i z ht h1 C .i64 .i64 n n (by omega) (Int.le_refl _) (by rw [y]; simp; omega) G (by omega)
 simp only [Int.toNat_natCast] at h
 rw [y,M,HA] at h
 exact⟨_,_,h,Blk.new _ _ _,(Below.refl _ _).alloc (Nat.le_refl _) _,Nat.le_refl _⟩
theorem JF:(Tryz.prog.info? 3).map (fun i=>(i.zero,i.size,i.bytes))=some (some (.int .i64 0),1,8):=by kernel_rfl
theorem JG:(Tryz.prog.info? 4).map (fun i=>(i.zero,i.size,i.bytes))=some (some (.bool false),1,1):=by kernel_rfl
theorem Hu:(Tryz.prog.info? 24).map (fun i=>(i.zero,i.size,i.bytes))=some (some (.slice none 0 0),1,24):=by kernel_rfl
theorem Qk:(Tryz.prog.info? 75).map (fun i=>(i.zero,i.size,i.bytes))=some (some (.slice none 0 0),1,24):=by kernel_rfl
theorem Et (w:World) (n:Nat) (x:n≤250000):
  ∃g h,(Instr.makeSlice 24 (.int .i64 n) (.int .i64 n)).run Tryz.prog w=.ok (.slice (some ⟨g,0,none⟩) n n) h∧Blk h g 3 (Array.replicate n (.int .i64 0))∧Below w.heap.size w h∧w.heap.size≤g:=
 HJ Tryz.underlying24 JF rfl (by omega) w n x
theorem HI (w:World) (n:Nat) (x:n≤250000):
  ∃g h,(Instr.makeSlice 76 (.int .i64 n) (.int .i64 n)).run Tryz.prog w=.ok (.slice (some ⟨g,0,none⟩) n n) h∧Blk h g 4 (Array.replicate n (.bool false))∧Below w.heap.size w h∧w.heap.size≤g:=
 HJ Tryz.underlying76 JG rfl (by omega) w n x
theorem Ra (w:World) (n:Nat) (x:n≤250000):
  ∃g h,(Instr.makeSlice 75 (.int .i64 n) (.int .i64 n)).run Tryz.prog w=.ok (.slice (some ⟨g,0,none⟩) n n) h∧Blk h g 24 (Array.replicate n (.slice none 0 0))∧Below w.heap.size w h∧w.heap.size≤g:=
 HJ Tryz.underlying75 Hu rfl (by omega) w n x
theorem C9:Dd Tryz.prog 24 3 1:=EX Tryz.underlying24 JF rfl (by omega) (by omega)
theorem GM:Dd Tryz.prog 76 4 1:=EX Tryz.underlying76 JG rfl (by omega) (by omega)
theorem F9:Dd Tryz.prog 75 24 1:=EX Tryz.underlying75 Hu rfl (by omega) (by omega)
theorem KH (n:Nat) (z:Value):Array.replicate n z=(List.replicate n z).toArray:=by
 apply Array.ext'
 simp
theorem LG {P:Program} {ops:Array Oper} {rest:List Oper} {o:Oper} {a:Act} {Q:Exit→Act→World→Prop} {w:World} {t e bytes sz:Nat} {z:Value} (ht:P.underlying t=some (.slice e)) (W:(P.info? e).map (fun i=>(i.zero,i.size,i.bytes))=some (some z,sz,bytes)) (O:bytes≤200) (Z:sz≤80)
  (n:Nat) (G:n≤200000) (V:o.guard=none) (x y:Operand) (ho:o.op=.makeSlice t x y) (hx:a.eval x=.int .i64 n) (hy:a.eval y=.int .i64 n)
  (h:∀g E,Blk E g e (madeCells z.cells (n*sz))→Below w.heap.size w E→w.heap.size≤g→wpList P ops Q rest (a.put o.dst (.slice (some ⟨g,0,none⟩) n n)) E):wpList P ops Q (o::rest) a w:=by
 refine wpList_plain V fun K M=>?_
 obtain⟨i,h1,I,F,J⟩:=info_parts W
 have a4:bytes*n≤200*200000:=Nat.mul_le_mul O G
 have U:(i.bytes:Int)*(n:Int)≤281474976710656:=by
  rw [J,←Int.natCast_mul]; omega
 have a5:n*sz≤200000*80:=Nat.mul_le_mul G Z
 have a6:((n:Int).toNat)*i.size≤16000000:=by rw [F,Int.toNat_natCast]; omega
 have C:=run_makeSlice (P:=P) w t e i z ht h1 I .i64 .i64 n n (by omega) (Int.le_refl _) (by omega) U (by omega)
 simp only [Int.toNat_natCast] at C
 rw [F] at C
 unfold Oper.wp execOp
 simp only [ho,hx,hy,Sem.run_bind,Sem.run_pure,Result.andThen_ok,C]
 exact M _ _ (h _ _ (Blk.new _ _ _) ((Below.refl _ _).alloc (Nat.le_refl _) _) (Nat.le_refl _))
section
variable {w w':World} {base n size:Nat} {e:TypeId} {v:Value} {xs:List Value}
theorem C7 (h:w.ownsRow base e 1 v n xs) {k:Nat} {u:Value} (hk:xs[k]?=some u):∃g cap,v=.slice (some ⟨g,0,none⟩) n cap∧w.cell? ⟨g,k,none⟩=some u:=by
 obtain⟨I,C⟩:=h
 have G:=AP hk
 rcases C with⟨_,rfl⟩ | ⟨g,cap,x,rfl,E,y,F,J,M,ht⟩
 ·omega
 ·refine⟨g,cap,rfl,?_⟩
  rw [cell_of_row w g k x e (0,0) y,←hk,←ht,List.getElem?_take]
  simp; omega
theorem Bb (h:w.ownsRow base e size v n xs) {k:Nat} (hk:v.ownBlock=some k):base≤k:=by
 rcases h.2 with⟨rfl,_⟩ | ⟨g,cap,x,rfl,y,_⟩
 ·simp [Value.ownBlock] at hk
 ·have:g=k:=by simpa [Value.ownBlock] using hk
  omega
theorem Cj (h:w.ownsRow base e size v n xs) {k:Nat} (hk:v.ownBlock=some k):k<w.heap.size:=by
 rcases h.2 with⟨rfl,_⟩ | ⟨g,cap,y,rfl,C,x,_⟩
 ·simp [Value.ownBlock] at hk
 ·have:g=k:=by simpa [Value.ownBlock] using hk
  subst this
  exact(Array.getElem?_eq_some_iff.1 x).1
theorem Cb:w.ownsRow base e size (.slice none 0 0) 0 []:=⟨by simp,.inl ⟨rfl,rfl⟩⟩
theorem DC (h:w.ownsRow base e size v n xs) {x:Nat} (F:x≤base):w.ownsRow x e size v n xs:=by
 refine⟨h.1,?_⟩
 rcases h.2 with C | ⟨g,cap,y,h1,E,rest⟩
 ·exact .inl C
 ·exact .inr ⟨g,cap,y,h1,by omega,rest⟩
theorem DD {g:Nat} {cs:Array Value} (h:Blk w g e cs) (y:base≤g) (x:cs.size=n) (C:n≤4000000):w.ownsRow base e 1 (.slice (some ⟨g,0,none⟩) n n) n cs.toList:=by
 refine⟨by simp [x],.inr ⟨g,n,cs,rfl,y,h,Nat.le_refl _,by unfold maxLen; omega,by omega,?_⟩⟩
 rw [List.take_of_length_le (by simp [x])]
theorem AK {X:Nat→Prop} (hk:Ac w w' X) (h:w.ownsRow base e size v n xs) (C:∀g cs,X g→¬Blk w g e cs):w'.ownsRow base e size v n xs:=
 hk.ownsRow h fun g x F=>by
  rcases h.2 with⟨rfl,_⟩ | ⟨y,cap,G,rfl,_,E,_⟩
  ·simp [Value.ownBlock] at x
  ·have:y=g:=by simpa [Value.ownBlock] using x
   subst this
   exact C _ _ F E
theorem Bt (h:w.ownsRow base e size v n xs) (x:Below w.heap.size w w'):w'.ownsRow base e size v n xs:=
 (Ac.of_below x (fun _=>False)).ownsRow h fun _ _=>id
end
end Go.Proofs.YtfcfpoemojjglaaGreatDoor
