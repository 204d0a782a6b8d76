/-
  Part SB of a proof.
-/
import Derived.Test.YtfcfpoemojjglaaGreatDoorPA
import Derived.Test.YtfcfpoemojjglaaGreatDoorPB
import Derived.Test.YtfcfpoemojjglaaGreatDoorCA
set_option maxHeartbeats 16000000
set_option maxRecDepth 100000
set_option linter.unusedVariables false
set_option linter.unusedSimpArgs false
namespace Go.Proofs.YtfcfpoemojjglaaGreatDoor
abbrev Nme:=Nat×Nat×Nat
structure Drw where
 L:Nat
 nm:List Nme
 st:List Nme
 ac:List Nme
 mv:List (Nme×Int×Int×Nme)
def Wn {S:Type} [DecidableEq S] (l:List S) (s:S):Nat:=l.idxOf s
def Drw.num (d:Drw) (k:Nme):Nat:=Wn d.nm k
def Drw.add (d:Drw) (k:Nme):Drw:=if k∈d.nm then d else { d with nm:=d.nm++[k] }
def Drw.mov (d:Drw) (a:Nme) (i o:Int) (b:Nme):Drw:={ d with mv:=d.mv++[(a,i,o,b)] }
def Drw.acc (d:Drw) (a:Nme):Drw:={ d with ac:=d.ac++[a] }
def Drw.beg (d:Drw) (a:Nme):Drw:={ d with st:=d.st++[a] }
def Drw.kp1 (d:Drw) (f:Nme) (κ:Nat→Option Nme) (x:Nat):Drw:=match κ x with
 | none=>d
 | some k=>(d.add k).mov f x x k
def Drw.kpN (d:Drw) (f:Nme) (κ:Nat→Option Nme) (n:Nat):Drw:=(List.range n).foldl (fun d x=>d.kp1 f κ x) d
def Drw.kp (d:Drw) (f:Nme) (κ:Nat→Option Nme):Drw:=d.kpN f κ d.L
def Drw.enc (d:Drw) (m:Nme×Int×Int×Nme):Mv:=⟨(d.num m.1:Int),m.2.1,m.2.2.1,(d.num m.2.2.2:Int)⟩
def Drw.tr (d:Drw):TR:=⟨(d.L:Int),(d.nm.length:Int),d.st.map fun k=>(d.num k:Int),d.ac.map fun k=>(d.num k:Int),d.mv.map d.enc⟩
structure Drw.Ok (d:Drw):Prop where
 nodup:d.nm.Nodup
 st:∀k∈d.st,k∈d.nm
 ac:∀k∈d.ac,k∈d.nm
 mv:∀m∈d.mv,m.1∈d.nm∧m.2.2.2∈d.nm
section
variable {d:Drw} {k f:Nme} {κ:Nat→Option Nme}
theorem Drw.kpN_succ (d:Drw) (f:Nme) (κ:Nat→Option Nme) (n:Nat):d.kpN f κ (n+1)=(d.kpN f κ n).kp1 f κ n:=by
 unfold Drw.kpN
 rw [List.range_succ,List.foldl_append]
 rfl
theorem Drw.add_of_mem (h:k∈d.nm):d.add k=d:=if_pos h
theorem Drw.add_L (d:Drw) (k:Nme):(d.add k).L=d.L:=by unfold Drw.add; split <;> rfl
theorem Drw.add_st (d:Drw) (k:Nme):(d.add k).st=d.st:=by unfold Drw.add; split <;> rfl
theorem Drw.add_ac (d:Drw) (k:Nme):(d.add k).ac=d.ac:=by unfold Drw.add; split <;> rfl
theorem Drw.add_mv (d:Drw) (k:Nme):(d.add k).mv=d.mv:=by unfold Drw.add; split <;> rfl
theorem Drw.mem_add {j:Nme}:j∈(d.add k).nm↔j∈d.nm∨j=k:=by
 unfold Drw.add
 split
 ·exact⟨.inl,fun h=>h.elim id fun e=>e ▸ ‹_›⟩
 ·simp
theorem Drw.add_mem (d:Drw) (k:Nme):k∈(d.add k).nm:=Drw.mem_add.2 (.inr rfl)
theorem X4 {S:Type} [DecidableEq S] {l m:List S} {s:S} (h:s∈l):Wn (l++m) s=Wn l s:=by
 unfold Wn
 rw [List.idxOf_append,if_pos h]
theorem X5 {S:Type} [DecidableEq S] {l:List S} {s:S} (h:s∉l):Wn (l++[s]) s=l.length:=by
 unfold Wn
 rw [List.idxOf_append,if_neg h]
 simp
theorem X3 {S:Type} [DecidableEq S] {l:List S} {s:S} (h:s∈l):Wn l s<l.length∧l[Wn l s]?=some s:=by
 unfold Wn
 exact⟨List.idxOf_lt_length_of_mem h,by rw [List.getElem?_eq_getElem (List.idxOf_lt_length_of_mem h),List.getElem_idxOf]⟩
theorem Drw.num_lt (h:k∈d.nm):d.num k<d.nm.length:=(X3 h).1
theorem Drw.add_num (d:Drw) (j:Nme) (h:k∈d.nm):(d.add j).num k=d.num k:=by
 unfold Drw.add Drw.num
 split
 ·rfl
 ·exact X4 h
theorem Drw.Ok.add (h:d.Ok) (k:Nme):(d.add k).Ok:=by
 refine⟨?_,?_,?_,?_⟩
 ·unfold Drw.add
  split
  ·exact h.nodup
  ·rename_i hn
   exact List.nodup_append.2 ⟨h.nodup,by simp,fun a C b E=>by rw [List.mem_singleton.1 E]; rintro rfl; exact hn C⟩
 ·rw [Drw.add_st]; exact fun j y=>Drw.mem_add.2 (.inl (h.st j y))
 ·rw [Drw.add_ac]; exact fun j y=>Drw.mem_add.2 (.inl (h.ac j y))
 ·rw [Drw.add_mv]; exact fun m z=>⟨Drw.mem_add.2 (.inl (h.mv m z).1),Drw.mem_add.2 (.inl (h.mv m z).2)⟩
theorem Drw.Ok.mov (h:d.Ok) {a b:Nme} (i o:Int) (y:a∈d.nm) (z:b∈d.nm):(d.mov a i o b).Ok:=
 ⟨h.nodup,h.st,h.ac,fun m C=>(List.mem_append.1 C).elim (h.mv m) fun e=>by rw [List.mem_singleton.1 e]; exact⟨y,z⟩⟩
theorem Drw.Ok.acc (h:d.Ok) (y:k∈d.nm):(d.acc k).Ok:=
 ⟨h.nodup,h.st,fun j z=>(List.mem_append.1 z).elim (h.ac j) fun e=>by rw [List.mem_singleton.1 e]; exact y,h.mv⟩
theorem Drw.Ok.beg (h:d.Ok) (y:k∈d.nm):(d.beg k).Ok:=
 ⟨h.nodup,fun j z=>(List.mem_append.1 z).elim (h.st j) fun e=>by rw [List.mem_singleton.1 e]; exact y,h.ac,h.mv⟩
theorem Drw.enc_add (d:Drw) (k:Nme) {m:Nme×Int×Int×Nme} (h:m.1∈d.nm∧m.2.2.2∈d.nm):(d.add k).enc m=d.enc m:=by
 unfold Drw.enc
 rw [Drw.add_num d k h.1,Drw.add_num d k h.2]
theorem Drw.Ok.mv_add (h:d.Ok) (k:Nme):(d.add k).mv.map (d.add k).enc=d.mv.map d.enc:=by
 rw [Drw.add_mv]
 exact List.map_congr_left fun m y=>Drw.enc_add d k (h.mv m y)
theorem Drw.kp1_mem {x:Nat} {j:Nme}:j∈(d.kp1 f κ x).nm↔j∈d.nm∨κ x=some j:=by
 unfold Drw.kp1
 split
 ·rename_i e; simp [e]
 ·rename_i k e
  show j∈(d.add k).nm↔_
  rw [Drw.mem_add,e]
  simp [eq_comm]
theorem Drw.kpN_mem (d:Drw) (f:Nme) (κ:Nat→Option Nme) (j:Nme):∀n,j∈(d.kpN f κ n).nm↔j∈d.nm∨∃x,x<n∧κ x=some j
 | 0=>by simp [Drw.kpN]
 | n+1=>by
  rw [Drw.kpN_succ,Drw.kp1_mem,Drw.kpN_mem d f κ j n]
  constructor
  ·rintro((h | ⟨x,y,e⟩) | e)
   ·exact .inl h
   ·exact .inr ⟨x,by omega,e⟩
   ·exact .inr ⟨n,by omega,e⟩
  ·rintro(h | ⟨x,y,e⟩)
   ·exact .inl (.inl h)
   ·rcases Nat.lt_or_ge x n with h1 | h1
    ·exact .inl (.inr ⟨x,h1,e⟩)
    ·have:x=n:=by omega
     subst this
     exact .inr e
theorem Drw.kp_mem {j:Nme}:j∈(d.kp f κ).nm↔j∈d.nm∨∃x,x<d.L∧κ x=some j:=Drw.kpN_mem d f κ j d.L
theorem Drw.kp1_rest (d:Drw) (f:Nme) (κ:Nat→Option Nme) (x:Nat):(d.kp1 f κ x).L=d.L∧(d.kp1 f κ x).st=d.st∧(d.kp1 f κ x).ac=d.ac:=by
 unfold Drw.kp1
 split
 ·exact⟨rfl,rfl,rfl⟩
 ·exact⟨Drw.add_L _ _,Drw.add_st _ _,Drw.add_ac _ _⟩
theorem Drw.kpN_rest (d:Drw) (f:Nme) (κ:Nat→Option Nme):∀n,(d.kpN f κ n).L=d.L∧(d.kpN f κ n).st=d.st∧(d.kpN f κ n).ac=d.ac
 | 0=>⟨rfl,rfl,rfl⟩
 | n+1=>by
  rw [Drw.kpN_succ]
  have h1:=Drw.kp1_rest (d.kpN f κ n) f κ n
  have h:=Drw.kpN_rest d f κ n
  exact⟨h1.1.trans h.1,h1.2.1.trans h.2.1,h1.2.2.trans h.2.2⟩
theorem Drw.kp_L:(d.kp f κ).L=d.L:=(Drw.kpN_rest d f κ d.L).1
theorem Drw.kpN_mv (d:Drw) (f:Nme) (κ:Nat→Option Nme) (m:Nme×Int×Int×Nme):∀n,m∈(d.kpN f κ n).mv↔m∈d.mv∨∃x:Nat,x<n∧∃k,κ x=some k∧m=(f,(x:Int),(x:Int),k)
 | 0=>by simp [Drw.kpN]
 | n+1=>by
  have key:m∈((d.kpN f κ n).kp1 f κ n).mv↔m∈(d.kpN f κ n).mv∨∃k,κ n=some k∧m=(f,(n:Int),(n:Int),k):=by
   unfold Drw.kp1
   split
   ·rename_i e; simp [e]
   ·rename_i k e
    show m∈((d.kpN f κ n).add k).mv++[_]↔_
    rw [Drw.add_mv,List.mem_append,List.mem_singleton,e]
    simp
  rw [Drw.kpN_succ,key,Drw.kpN_mv d f κ m n]
  constructor
  ·rintro((h | ⟨x,y,e⟩) | e)
   ·exact .inl h
   ·exact .inr ⟨x,by omega,e⟩
   ·exact .inr ⟨n,by omega,e⟩
  ·rintro(h | ⟨x,y,e⟩)
   ·exact .inl (.inl h)
   ·rcases Nat.lt_or_ge x n with h1 | h1
    ·exact .inl (.inr ⟨x,h1,e⟩)
    ·have:x=n:=by omega
     subst this
     exact .inr e
theorem Drw.kp_mv {m:Nme×Int×Int×Nme}:m∈(d.kp f κ).mv↔m∈d.mv∨∃x:Nat,x<d.L∧∃k,κ x=some k∧m=(f,(x:Int),(x:Int),k):=Drw.kpN_mv d f κ m d.L
theorem Drw.Ok.kpN (h:d.Ok) (y:f∈d.nm) (κ:Nat→Option Nme):∀n,(d.kpN f κ n).Ok
 | 0=>h
 | n+1=>by
  rw [Drw.kpN_succ]
  have z:=h.kpN y κ n
  unfold Drw.kp1
  split
  ·exact z
  ·rename_i k e
   exact(z.add k).mov _ _ (Drw.mem_add.2 (.inl ((Drw.kpN_mem d f κ f n).2 (.inl y)))) (Drw.add_mem _ k)
theorem Drw.Ok.kp (h:d.Ok) (y:f∈d.nm) (κ:Nat→Option Nme):(d.kp f κ).Ok:=h.kpN y κ d.L
end
def K3 (b:Bool):Nat:=if b then 1 else 0
def alw (l:List Int) (x:Int):Bool:=decide (l.length=0)||decide (x∈l)
def Drw.free (d:Drw) (s:Nme):Drw:=(d.acc s).kp s fun _=>some s
def dr0 (L:Nat):Drw:=((((⟨L,[],[],[],[]⟩:Drw).add (0,0,0)).add (5,0,0)).beg (0,0,0)).free (5,0,0)
def HH (right:List Int) (x:Nat):Option Nme:=if alw right x then some (5,0,0) else none
def Wl (left:List Int) (x:Nat):Option Nme:=some (1,K3 (alw left x),0)
def G4 (L:Nat) (at_:Int) (right:List Int):Drw×Nme:=
 if at_=2 then (if right.length=0 then ((dr0 L).add (6,0,0)).acc (6,0,0) else (dr0 L).add (6,0,0),(6,0,0))
 else if 0<right.length then (((dr0 L).add (2,0,0)).kp (2,0,0) (HH right),(2,0,0))
 else (dr0 L,(5,0,0))
def Lb (L:Nat) (at_ f t:Int) (left right:List Int):Drw:=
 if left.length=0 then (G4 L at_ right).1.mov (0,0,0) f t (G4 L at_ right).2 else (G4 L at_ right).1
def Wh (d:Drw) (left:List Int):Nat→Drw
 | 0=>d
 | i+1=>((Wh d left i).add (1,i,0)).kp (1,i,0) (Wl left)
def WI (d:Drw) (b:Nme) (f t:Int) (left:List Int):Drw:=((Wh (d.kp (0,0,0) (Wl left)) left 2).add (1,1,0)).mov (1,1,0) f t b
def Ww (L:Nat) (at_ f t:Int) (left right:List Int):Drw:=
 if at_=1 then Lb L at_ f t left right else WI (Lb L at_ f t left right) (G4 L at_ right).2 f t left
def Wo (left:List Int) (x:Nat):Option Nme:=some (4,K3 (alw left x),0)
def Sa (left right:List Int) (x:Nat):Option Nme:=if alw right x then Wo left x else none
def Wu (left right:List Int) (x:Nat):Option Nme:=some (1,K3 (alw left x),K3 (alw right x))
def Wt (left:List Int) (r:Nat) (x:Nat):Option Nme:=some (1,K3 (alw left x),r)
def K4 (L:Nat) (f t:Int) (left right:List Int):Drw:=
 if alw left f&&alw right f then (((dr0 L).add (3,0,0)).mov (0,0,0) f t (3,0,0)).acc (3,0,0) else ((dr0 L).add (3,0,0)).mov (0,0,0) f t (3,0,0)
def Q1 (d:Drw) (left:List Int):Nat→Drw
 | 0=>d
 | i+1=>((Q1 d left i).add (4,i,0)).kp (4,i,0) (Wo left)
def Ws (d:Drw) (left right:List Int):Drw:=
 (((Q1 (d.kp (3,0,0) (Sa left right)) left 2).add (4,1,0)).acc (4,1,0)).kp (0,0,0) (Wu left right)
def Qg (d:Drw) (left:List Int) (r:Nat):Nat→Drw
 | 0=>d
 | i+1=>((Qg d left r i).add (1,i,r)).kp (1,i,r) (Wt left r)
def Sb (d:Drw) (f t:Int) (left:List Int) (r:Nat):Drw:=
 (((Qg d left r 2).add (2,r,0)).add (1,1,r)).mov (1,1,r) f t (2,r,0)
def Wp (d:Drw) (f t:Int) (left right:List Int) (r:Nat):Drw:=
 (if r=1 then (Sb d f t left r).acc (2,r,0) else Sb d f t left r).kp (2,r,0) (HH right)
def La (d:Drw) (f t:Int) (left right:List Int):Nat→Drw
 | 0=>d
 | r+1=>Wp (La d f t left right r) f t left right r
def WP (L:Nat) (f t:Int) (left right:List Int):Drw:=La (Ws (K4 L f t left right) left right) f t left right 2
def WG (L:Nat):Drw:=(((((⟨L,[],[],[],[]⟩:Drw).add (0,0,0)).add (8,0,0)).add (5,0,0)).beg (0,0,0)).free (5,0,0)
def Wr (L:Nat) (a b x y:Int):Drw:=(((WG L).kp (0,0,0) fun _=>some (0,0,0)).mov (0,0,0) a b (8,0,0)).mov (8,0,0) x y (5,0,0)
def WO (d:Drw) (a b x y:Int):Drw:=
 (((((((d.add (0,1,0)).add (7,0,0)).add (6,0,0)).beg (0,1,0)).mov (0,1,0) x y (7,0,0)).kp (7,0,0) fun _=>some (7,0,0)).mov (7,0,0) a b (6,0,0)).acc (6,0,0)
def Wi (L:Nat) (topo a b x y:Int):Drw:=if topo=3 then WO (Wr L a b x y) a b x y else Wr L a b x y
end Go.Proofs.YtfcfpoemojjglaaGreatDoor
namespace Go.Proofs.YtfcfpoemojjglaaGreatDoor
def TR.At (t:TR) (u v:List Int):Nat→Int→Prop
 | 0,q=>q∈t.start
 | k+1,q=>∃e∈t.moves,t.At u v k e.frm∧u[k]?=some e.inn∧v[k]?=some e.out∧e.to=q
theorem TR.At_in {t:TR} (h:t.In) {u v:List Int}:∀{k:Nat} {q:Int},t.At u v k q→inN t.states q=true
 | 0,q,hq=>h.start q hq
 | k+1,q,⟨e,he,_,_,_,hq⟩=>hq ▸ (h.move e he).2.2.2
theorem TR.setK_at {t:TR} (h:t.In) {u v:List Int} (U:u.length=v.length):∀{k:Nat} {q:Nat},k≤u.length→((t.setK u v k).getD q false=true↔t.At u v k (q:Int))
 | 0,q,_=>by
  have:t.setK u v 0=BN t.n t.start:=by simp [TR.setK]
  rw [this]
  show _↔(q:Int)∈t.start
  rcases Nat.lt_or_ge q t.n with z | z
  ·rw [List.getD_eq_getElem?_getD,Dg z]
   simp
  ·rw [List.getD_eq_getElem?_getD,List.getElem?_eq_none (by rw [Dh]; exact z)]
   refine⟨fun e=>by simp at e,fun e=>?_⟩
   have:=D3.1 (h.start _ e)
   unfold TR.n at z
   omega
 | k+1,q,hk=>by
  obtain⟨x,I⟩:∃x,u[k]?=some x:=⟨_,List.getElem?_eq_getElem (by omega)⟩
  obtain⟨y,J⟩:∃y,v[k]?=some y:=⟨_,List.getElem?_eq_getElem (by omega)⟩
  rw [TR.setK_step I J]
  have M:=fun j=>TR.setK_at h (v:=v) U (k:=k) (q:=j) (by omega)
  show _↔∃e∈t.moves,t.At u v k e.frm∧u[k]?=some e.inn∧v[k]?=some e.out∧e.to=(q:Int)
  rcases Nat.lt_or_ge q t.n with z | z
  ·rw [List.getD_eq_getElem?_getD,TR.nextM_get z,List.take_length]
   simp only [Option.getD_some,List.any_eq_true,Bool.and_eq_true,decide_eq_true_eq]
   constructor
   ·rintro⟨e,C,⟨⟨h1,F⟩,G⟩,E⟩
    refine⟨e,C,?_,by rw [I,F],by rw [J,G],E⟩
    have:=(M _).1 h1
    have O:=D3.1 (h.move e C).1
    rwa [show((e.frm.toNat:Nat):Int)=e.frm by omega] at this
   ·rintro⟨e,C,h1,F,G,E⟩
    have O:=D3.1 (h.move e C).1
    refine⟨e,C,⟨⟨(M _).2 (by rwa [show((e.frm.toNat:Nat):Int)=e.frm by omega]),?_⟩,?_⟩,E⟩
    ·exact(Option.some.inj (I.symm.trans F)).symm
    ·exact(Option.some.inj (J.symm.trans G)).symm
  ·rw [List.getD_eq_getElem?_getD,List.getElem?_eq_none (by rw [TR.nextM_len]; exact z)]
   refine⟨fun e=>by simp at e,?_⟩
   rintro⟨e,C,-,-,-,E⟩
   have:=D3.1 (h.move e C).2.2.2
   unfold TR.n at z
   omega
theorem TR.rel_at {t:TR} (h:t.In) {u v:List Int} (y:u.length=v.length):t.rel u v=true↔∃s∈t.accept,t.At u v u.length s:=by
 unfold TR.rel
 rw [List.any_eq_true]
 refine exists_congr fun s=>and_congr_right fun z=>?_
 have C:=D3.1 (h.accept s z)
 rw [TR.setK_at h y (Nat.le_refl _),show((s.toNat:Nat):Int)=s by omega]
def Mv.up (n:Int) (e:Mv):Mv:=⟨e.frm+n,e.inn,e.out,e.to+n⟩
def TR.plus (o t:TR):TR:=⟨o.letters,o.states+t.states,o.start++t.start.map (· +o.states),o.accept++t.accept.map (· +o.states),o.moves++t.moves.map (Mv.up o.states)⟩
section
variable {o t:TR} (ho:o.In) (ht:t.In) (h0:0≤o.states) (h1:0≤t.states)
include ho ht h0 h1
set_option linter.unusedSectionVars false
theorem TR.plus_in (F:o.letters=t.letters):(o.plus t).In:=by
 have up:∀x,inN o.states x=true→inN (o.states+t.states) x=true:=fun x h=>by rw [D3] at h ⊢; omega
 have C:∀x,inN t.states x=true→inN (o.states+t.states) (x+o.states)=true:=fun x h=>by rw [D3] at h ⊢; omega
 refine⟨fun x E=>?_,fun x E=>?_,fun e G=>?_⟩
 ·rcases List.mem_append.1 E with h | h
  ·exact up x (ho.start x h)
  ·obtain⟨y,z,rfl⟩:=List.mem_map.1 h
   exact C y (ht.start y z)
 ·rcases List.mem_append.1 E with h | h
  ·exact up x (ho.accept x h)
  ·obtain⟨y,z,rfl⟩:=List.mem_map.1 h
   exact C y (ht.accept y z)
 ·rcases List.mem_append.1 G with h | h
  ·have:=ho.move e h
   exact⟨up _ this.1,this.2.1,this.2.2.1,up _ this.2.2.2⟩
  ·obtain⟨y,z,rfl⟩:=List.mem_map.1 h
   have:=ht.move y z
   refine⟨C _ this.1,?_,?_,C _ this.2.2.2⟩
   ·show inN o.letters _=true; rw [F]; exact this.2.1
   ·show inN o.letters _=true; rw [F]; exact this.2.2.1
theorem TR.plus_at {u v:List Int}:∀{k:Nat} {q:Int},(o.plus t).At u v k q↔o.At u v k q∨t.At u v k (q - o.states)
 | 0,q=>by
  show q∈o.start++t.start.map (· +o.states)↔q∈o.start∨(q - o.states)∈t.start
  rw [List.mem_append,List.mem_map]
  refine or_congr_right ⟨?_,fun h=>⟨_,h,by omega⟩⟩
  rintro⟨y,J,rfl⟩
  rwa [show y+o.states - o.states=y by omega]
 | k+1,q=>by
  have I:=fun j=>TR.plus_at (u:=u) (v:=v) (k:=k) (q:=j)
  show(∃e∈o.moves++t.moves.map (Mv.up o.states),(o.plus t).At u v k e.frm∧u[k]?=some e.inn∧v[k]?=some e.out∧e.to=q)↔(∃e∈o.moves,o.At u v k e.frm∧_)∨∃e∈t.moves,t.At u v k e.frm∧_
  constructor
  ·rintro⟨e,F,z,C,E,G⟩
   rcases List.mem_append.1 F with h | h
   ·refine .inl ⟨e,h,?_,C,E,G⟩
    rcases(I _).1 z with z | z
    ·exact z
    ·have:=D3.1 (TR.At_in ht z)
     have:=D3.1 (ho.move e h).1
     omega
   ·obtain⟨y,J,rfl⟩:=List.mem_map.1 h
    refine .inr ⟨y,J,?_,C,E,?_⟩
    ·rcases(I _).1 z with z | z
     ·have M:=D3.1 (TR.At_in ho z)
      have:=D3.1 (ht.move y J).1
      simp only [Mv.up] at M
      omega
     ·rwa [show(y.up o.states).frm - o.states=y.frm by simp only [Mv.up]; omega] at z
    ·have:y.to+o.states=q:=G
     omega
  ·rintro(⟨e,F,z,C,E,G⟩ | ⟨e,F,z,C,E,G⟩)
   ·exact⟨e,List.mem_append_left _ F,(I _).2 (.inl z),C,E,G⟩
   ·refine⟨e.up o.states,List.mem_append_right _ (List.mem_map_of_mem F),(I _).2 (.inr ?_),C,E,?_⟩
    ·rwa [show(e.up o.states).frm - o.states=e.frm by simp only [Mv.up]; omega]
    ·show e.to+o.states=q
     omega
theorem TR.plus_rel {u v:List Int} (G:o.letters=t.letters) (E:u.length=v.length):(o.plus t).rel u v=(o.rel u v||t.rel u v):=by
 rw [Bool.eq_iff_iff,Bool.or_eq_true,TR.rel_at (TR.plus_in ho ht h0 h1 G) E,TR.rel_at ho E,TR.rel_at ht E]
 have key:=fun q=>TR.plus_at ho ht h0 h1 (u:=u) (v:=v) (k:=u.length) (q:=q)
 constructor
 ·rintro⟨s,C,z⟩
  rcases List.mem_append.1 C with h | h
  ·refine .inl ⟨s,h,?_⟩
   rcases(key _).1 z with z | z
   ·exact z
   ·have:=D3.1 (TR.At_in ht z)
    have:=D3.1 (ho.accept s h)
    omega
  ·obtain⟨y,F,rfl⟩:=List.mem_map.1 h
   refine .inr ⟨y,F,?_⟩
   rcases(key _).1 z with z | z
   ·have:=D3.1 (TR.At_in ho z)
    have:=D3.1 (ht.accept y F)
    omega
   ·rwa [show y+o.states - o.states=y by omega] at z
 ·rintro(⟨s,C,z⟩ | ⟨s,C,z⟩)
  ·exact⟨s,List.mem_append_left _ C,(key _).2 (.inl z)⟩
  ·exact⟨s+o.states,List.mem_append_right _ (List.mem_map_of_mem (f:=(· +o.states)) C),(key _).2 (.inr (by rwa [show s+o.states - o.states=s by omega]))⟩
end
theorem Xi {α:Type} {P:List α→Prop} (h0:P []) (h1:∀l a,P l→P (l++[a])) (l:List α):P l:=by
 rw [←List.reverse_reverse l]
 induction l.reverse with
 | nil=>exact h0
 | cons a l ih=>rw [List.reverse_cons]; exact h1 _ a ih
def TR.sum (L:Int) (ts:List TR):TR:=ts.foldl TR.plus ⟨L,0,[],[],[]⟩
theorem TR.sum_snoc (L:Int) (h:List TR) (t:TR):TR.sum L (h++[t])=(TR.sum L h).plus t:=by
 unfold TR.sum
 rw [List.foldl_append]
 rfl
theorem TR.sum_ok {L:Int}:∀y:List TR,(∀t∈y,t.In∧0≤t.states∧t.letters=L)→(TR.sum L y).In∧0≤(TR.sum L y).states∧(TR.sum L y).letters=L∧
  ∀u v:List Int,u.length=v.length→(TR.sum L y).rel u v=y.any fun t=>t.rel u v:=by
 refine Xi ?_ ?_
 ·exact fun _=>⟨⟨fun x h=>(by cases h),fun x h=>(by cases h),fun x h=>(by cases h)⟩,Int.le_refl _,rfl,fun u v _=>rfl⟩
 ·intro y t I h
  obtain⟨a1,C,z,F⟩:=I fun x G=>h x (List.mem_append_left _ G)
  obtain⟨b1,b2,b3⟩:=h t (by simp)
  rw [TR.sum_snoc]
  refine⟨TR.plus_in a1 b1 C b2 (by rw [z,b3]),?_,z,fun u v E=>?_⟩
  ·show 0≤(TR.sum L y).states+t.states; omega
  ·rw [TR.plus_rel a1 b1 C b2 (by rw [z,b3]) E,F u v E,List.any_append]
   simp
theorem TR.sum_states {L:Int} {m:Int}:∀y:List TR,(∀t∈y,t.states≤m)→(TR.sum L y).states≤m*y.length:=by
 refine Xi ?_ ?_
 ·intro _; simp [TR.sum]
 ·intro y t C h
  have a:=C fun x z=>h x (List.mem_append_left _ z)
  have b:=h t (by simp)
  rw [TR.sum_snoc,List.length_append]
  show(TR.sum L y).states+t.states≤_
  simp only [List.length_singleton,Int.natCast_add,Int.natCast_one,Int.mul_add,Int.mul_one]
  omega
end Go.Proofs.YtfcfpoemojjglaaGreatDoor
namespace Go.Proofs.YtfcfpoemojjglaaGreatDoor
abbrev Nme.small (k:Nme):Prop:=k.1<9∧k.2.1<2∧k.2.2<2
structure Drw.Good (L:Nat) (d:Drw):Prop where
 eL:d.L=L
 ok:d.Ok
 le:∀m∈d.mv,inN (L:Int) m.2.1=true∧inN (L:Int) m.2.2.1=true
 ks:∀k∈d.nm,Nme.small k
section
variable {L:Nat} {d:Drw} {k:Nme} {f:Nme} {κ:Nat→Option Nme}
theorem Drw.Good.zero (L:Nat):Drw.Good L ⟨L,[],[],[],[]⟩:=⟨rfl,⟨List.nodup_nil,fun _ h=>(by cases h),fun _ h=>(by cases h),fun _ h=>(by cases h)⟩,fun _ h=>(by cases h),fun _ h=>(by cases h)⟩
theorem Drw.Good.add (h:d.Good L) (hk:Nme.small k):(d.add k).Good L:=
 ⟨(d.add_L k).trans h.eL,h.ok.add k,by rw [Drw.add_mv]; exact h.le,fun j y=>(Drw.mem_add.1 y).elim (h.ks j) fun e=>e ▸ hk⟩
theorem Drw.Good.mov (h:d.Good L) {a b:Nme} {i o:Int} (y:a∈d.nm) (z:b∈d.nm) (C:inN (L:Int) i=true) (ho:inN (L:Int) o=true):(d.mov a i o b).Good L:=
 ⟨h.eL,h.ok.mov i o y z,fun m E=>(List.mem_append.1 E).elim (h.le m) fun e=>by rw [List.mem_singleton.1 e]; exact⟨C,ho⟩,h.ks⟩
theorem Drw.Good.acc (h:d.Good L) (y:k∈d.nm):(d.acc k).Good L:=⟨h.eL,h.ok.acc y,h.le,h.ks⟩
theorem Drw.Good.beg (h:d.Good L) (y:k∈d.nm):(d.beg k).Good L:=⟨h.eL,h.ok.beg y,h.le,h.ks⟩
theorem Drw.Good.kp (h:d.Good L) (E:f∈d.nm) (G:∀x j,κ x=some j→Nme.small j):(d.kp f κ).Good L:=
 ⟨Drw.kp_L.trans h.eL,h.ok.kp E κ,fun m z=>by
  rcases Drw.kp_mv.1 z with z | ⟨x,F,j,-,rfl⟩
  ·exact h.le m z
  ·rw [h.eL] at F
   have C:inN (L:Int) (x:Int)=true:=D3.2 ⟨by omega,by omega⟩
   exact⟨C,C⟩,fun j y=>by
  rcases Drw.kp_mem.1 y with y | ⟨x,-,e⟩
  ·exact h.ks j y
  ·exact G x j e⟩
theorem Drw.Good.free (h:d.Good L) (y:f∈d.nm):(d.free f).Good L:=
 (h.acc y).kp y fun x j e=>by cases e; exact h.ks f y
theorem Drw.mem_free (h:k∈d.nm):k∈(d.free f).nm:=Drw.kp_mem.2 (.inl h)
theorem Drw.mem_kp (h:k∈d.nm):k∈(d.kp f κ).nm:=Drw.kp_mem.2 (.inl h)
theorem Drw.mem_add_ (h:k∈d.nm) (j:Nme):k∈(d.add j).nm:=Drw.mem_add.2 (.inl h)
theorem Drw.Good.len (h:d.Good L):d.nm.length≤36:=by
 have h1:(d.nm.map fun k=>k.1*4+k.2.1*2+k.2.2).Nodup:=by
  rw [List.nodup_iff_pairwise_ne,List.pairwise_map]
  refine(List.nodup_iff_pairwise_ne.1 h.ok.nodup).imp_of_mem fun {a b} ha hb hne e=>hne ?_
  obtain⟨a1,y,z⟩:=a
  obtain⟨b1,b2,b3⟩:=b
  have h1:=h.ks _ ha
  have C:=h.ks _ hb
  simp only [Nme.small] at h1 C e
  have:a1=b1∧y=b2∧z=b3:=by omega
  rw [this.1,this.2.1,this.2.2]
 have:=D6 _ (List.range 36) h1 fun n E=>by
  obtain⟨k,hk,rfl⟩:=List.mem_map.1 E
  have:=h.ks k hk
  simp only [Nme.small] at this
  rw [List.mem_range]
  omega
 simpa using this
theorem Drw.Good.tr_in (h:d.Good L):d.tr.In:=by
 have y:∀k∈d.nm,inN d.tr.states (d.num k:Int)=true:=fun k hk=>by
  have:=Drw.num_lt hk
  rw [D3]
  show _∧_<(d.nm.length:Int)
  omega
 refine⟨fun x z=>?_,fun x z=>?_,fun e F=>?_⟩
 ·obtain⟨k,hk,rfl⟩:=List.mem_map.1 z
  exact y k (h.ok.st k hk)
 ·obtain⟨k,hk,rfl⟩:=List.mem_map.1 z
  exact y k (h.ok.ac k hk)
 ·obtain⟨m,E,rfl⟩:=List.mem_map.1 F
  have h1:=h.ok.mv m E
  have C:=h.le m E
  refine⟨y _ h1.1,?_,?_,y _ h1.2⟩
  ·show inN (d.L:Int) _=true; rw [h.eL]; exact C.1
  ·show inN (d.L:Int) _=true; rw [h.eL]; exact C.2
end
section
variable {L:Nat} {f t at_:Int} {left right:List Int}
theorem WD (b:Bool):K3 b<2:=by cases b <;> decide
theorem WZ (L:Nat):(dr0 L).Good L∧(0,0,0)∈(dr0 L).nm∧(5,0,0)∈(dr0 L).nm:=by
 have h0:Drw.Good L ((((⟨L,[],[],[],[]⟩:Drw).add (0,0,0)).add (5,0,0)).beg (0,0,0)):=(((Drw.Good.zero L).add (by decide)).add (by decide)).beg (Drw.mem_add_ (Drw.add_mem _ _) _)
 exact⟨h0.free (Drw.add_mem _ _),Drw.mem_free (Drw.mem_add_ (Drw.add_mem _ _) _),Drw.mem_free (Drw.add_mem _ _)⟩
theorem WS:∀x j,HH right x=some j→Nme.small j:=fun x j e=>by
 unfold HH at e
 split at e
 ·cases e; decide
 ·cases e
theorem W5:∀x j,Wl left x=some j→Nme.small j:=fun x j e=>by cases e; exact⟨by show 1<9; omega,WD _,by show 0<2; omega⟩
theorem Xe:∀x j,Wo left x=some j→Nme.small j:=fun x j e=>by cases e; exact⟨by show 4<9; omega,WD _,by show 0<2; omega⟩
theorem Yy:∀x j,Sa left right x=some j→Nme.small j:=fun x j e=>by
 unfold Sa at e
 split at e
 ·exact Xe x j e
 ·cases e
theorem Yw:∀x j,Wu left right x=some j→Nme.small j:=fun x j e=>by cases e; exact⟨by show 1<9; omega,WD _,WD _⟩
theorem Yv {r:Nat} (h:r<2):∀x j,Wt left r x=some j→Nme.small j:=fun x j e=>by cases e; exact⟨by show 1<9; omega,WD _,h⟩
theorem X8:(G4 L at_ right).1.Good L∧(0,0,0)∈(G4 L at_ right).1.nm∧(G4 L at_ right).2∈(G4 L at_ right).1.nm:=by
 obtain⟨h0,y,z⟩:=WZ L
 unfold G4
 split
 ·have h1:=h0.add (k:=(6,0,0)) (by decide)
  have h:=Drw.add_mem (dr0 L) (6,0,0)
  show Drw.Good L (if _ then _ else _)∧_
  split
  ·exact⟨h1.acc h,Drw.mem_add_ y _,h⟩
  ·exact⟨h1,Drw.mem_add_ y _,h⟩
 ·split
  ·have h:=Drw.add_mem (dr0 L) (2,0,0)
   exact⟨(h0.add (k:=(2,0,0)) (by decide)).kp h WS,Drw.mem_kp (Drw.mem_add_ y _),Drw.mem_kp h⟩
  ·exact⟨h0,y,z⟩
theorem Yb (z:inN (L:Int) f=true) (ht:inN (L:Int) t=true):(Lb L at_ f t left right).Good L∧(0,0,0)∈(Lb L at_ f t left right).nm∧(G4 L at_ right).2∈(Lb L at_ f t left right).nm:=by
 obtain⟨h0,h,y⟩:=X8 (L:=L) (at_:=at_) (right:=right)
 unfold Lb
 split
 ·exact⟨h0.mov h y z ht,h,y⟩
 ·exact⟨h0,h,y⟩
theorem W4 {d:Drw} (hd:d.Good L):∀i,i≤2→(Wh d left i).Good L∧∀k∈d.nm,k∈(Wh d left i).nm
 | 0,_=>⟨hd,fun _ h=>h⟩
 | i+1,hi=>by
  obtain⟨h1,y⟩:=W4 hd i (by omega)
  exact⟨(h1.add (k:=(1,i,0)) ⟨by show 1<9; omega,by show i<2; omega,by show 0<2; omega⟩).kp (Drw.add_mem _ _) (W5 (left:=left)),fun k hk=>Drw.mem_kp (Drw.mem_add_ (y k hk) _)⟩
theorem Ya {d:Drw} {b:Nme} (hd:d.Good L) (y:(0,0,0)∈d.nm) (z:b∈d.nm) (C:inN (L:Int) f=true) (ht:inN (L:Int) t=true):(WI d b f t left).Good L:=by
 unfold WI
 obtain⟨h1,h⟩:=W4 (left:=left) (hd.kp y (W5 (left:=left))) 2 (by omega)
 exact(h1.add (k:=(1,1,0)) (by decide)).mov (Drw.add_mem _ _) (Drw.mem_add_ (h b (Drw.mem_kp z)) _) C ht
theorem X9 (h:inN (L:Int) f=true) (ht:inN (L:Int) t=true):(Ww L at_ f t left right).Good L:=by
 obtain⟨h0,y,z⟩:=Yb (at_:=at_) (left:=left) (right:=right) h ht
 unfold Ww
 split
 ·exact h0
 ·exact Ya h0 y z h ht
theorem Yt (z:inN (L:Int) f=true) (ht:inN (L:Int) t=true):(K4 L f t left right).Good L∧(0,0,0)∈(K4 L f t left right).nm∧(3,0,0)∈(K4 L f t left right).nm∧(5,0,0)∈(K4 L f t left right).nm:=by
 obtain⟨h0,h,y⟩:=WZ L
 have h1:=(h0.add (k:=(3,0,0)) (by decide)).mov (Drw.mem_add_ h _) (Drw.add_mem _ _) z ht
 unfold K4
 split
 ·exact⟨h1.acc (Drw.add_mem _ _),Drw.mem_add_ h _,Drw.add_mem _ _,Drw.mem_add_ y _⟩
 ·exact⟨h1,Drw.mem_add_ h _,Drw.add_mem _ _,Drw.mem_add_ y _⟩
theorem Xd {d:Drw} (hd:d.Good L):∀i,i≤2→(Q1 d left i).Good L∧∀k∈d.nm,k∈(Q1 d left i).nm
 | 0,_=>⟨hd,fun _ h=>h⟩
 | i+1,hi=>by
  obtain⟨h1,y⟩:=Xd hd i (by omega)
  exact⟨(h1.add (k:=(4,i,0)) ⟨by show 4<9; omega,by show i<2; omega,by show 0<2; omega⟩).kp (Drw.add_mem _ _) (Xe (left:=left)),fun k hk=>Drw.mem_kp (Drw.mem_add_ (y k hk) _)⟩
theorem Yu {d:Drw} (hd:d.Good L) (C:(0,0,0)∈d.nm) (J:(3,0,0)∈d.nm) (F:(5,0,0)∈d.nm):(Ws d left right).Good L∧(5,0,0)∈(Ws d left right).nm∧(0,0,0)∈(Ws d left right).nm:=by
 unfold Ws
 obtain⟨h1,h⟩:=Xd (left:=left) (hd.kp J (Yy (left:=left) (right:=right))) 2 (by omega)
 have G:=h _ (Drw.mem_kp F)
 have E:=h _ (Drw.mem_kp C)
 clear h
 generalize Q1 (d.kp (3,0,0) (Sa left right)) left 2=dx at*
 have z:=(h1.add (k:=(4,1,0)) (by decide)).acc (k:=(4,1,0)) (Drw.add_mem _ _)
 have y:(0,0,0)∈((dx.add (4,1,0)).acc (4,1,0)).nm:=Drw.mem_add_ E _
 have I:(5,0,0)∈((dx.add (4,1,0)).acc (4,1,0)).nm:=Drw.mem_add_ G _
 exact⟨z.kp y Yw,Drw.mem_kp I,Drw.mem_kp y⟩
theorem Xc {d:Drw} {r:Nat} (y:r<2) (hd:d.Good L):∀i,i≤2→(Qg d left r i).Good L∧∀k∈d.nm,k∈(Qg d left r i).nm
 | 0,_=>⟨hd,fun _ h=>h⟩
 | i+1,hi=>by
  obtain⟨h1,z⟩:=Xc y hd i (by omega)
  exact⟨(h1.add (k:=(1,i,r)) ⟨by show 1<9; omega,by show i<2; omega,y⟩).kp (Drw.add_mem _ _) (Yv (left:=left) y),fun k hk=>Drw.mem_kp (Drw.mem_add_ (z k hk) _)⟩
theorem Yz {d:Drw} {r:Nat} (y:r<2) (hd:d.Good L) (E:(5,0,0)∈d.nm) (G:inN (L:Int) f=true) (ht:inN (L:Int) t=true):(Sb d f t left r).Good L∧(5,0,0)∈(Sb d f t left r).nm∧(2,r,0)∈(Sb d f t left r).nm:=by
 obtain⟨h1,h⟩:=Xc (left:=left) y hd 2 (by omega)
 have F:=h _ E
 clear h
 unfold Sb
 generalize Qg d left r 2=dx at*
 have h:=h1.add (k:=(2,r,0)) ⟨by show 2<9; omega,y,by show 0<2; omega⟩
 have C:=h.add (k:=(1,1,r)) ⟨by show 1<9; omega,by show 1<2; omega,y⟩
 have z:(2,r,0)∈((dx.add (2,r,0)).add (1,1,r)).nm:=Drw.mem_add_ (Drw.add_mem _ _) _
 exact⟨C.mov (Drw.add_mem _ _) z G ht,Drw.mem_add_ (Drw.mem_add_ F _) _,z⟩
theorem YA {d:Drw} {r:Nat} (F:r<2) (hd:d.Good L) (C:(5,0,0)∈d.nm) (E:inN (L:Int) f=true) (ht:inN (L:Int) t=true):(Wp d f t left right r).Good L∧(5,0,0)∈(Wp d f t left right r).nm:=by
 obtain⟨y,z,h⟩:=Yz (left:=left) F hd C E ht
 unfold Wp
 generalize Sb d f t left r=dm at*
 split
 ·exact⟨(y.acc h).kp h WS,Drw.mem_kp z⟩
 ·exact⟨y.kp h WS,Drw.mem_kp z⟩
theorem Xf {d:Drw} (hd:d.Good L) (h:(5,0,0)∈d.nm) (y:inN (L:Int) f=true) (ht:inN (L:Int) t=true):∀r,r≤2→(La d f t left right r).Good L∧(5,0,0)∈(La d f t left right r).nm
 | 0,_=>⟨hd,h⟩
 | r+1,hr=>by
  obtain⟨h1,z⟩:=Xf hd h y ht r (by omega)
  exact YA (by omega) h1 z y ht
theorem Yx (h:inN (L:Int) f=true) (ht:inN (L:Int) t=true):(WP L f t left right).Good L:=by
 obtain⟨h0,y,E,z⟩:=Yt (left:=left) (right:=right) h ht
 obtain⟨h1,C,-⟩:=Yu (left:=left) (right:=right) h0 y E z
 exact(Xf h1 C h ht 2 (by omega)).1
theorem Yg (L:Nat):(WG L).Good L∧(0,0,0)∈(WG L).nm∧(8,0,0)∈(WG L).nm∧(5,0,0)∈(WG L).nm:=by
 have h0:Drw.Good L (((((⟨L,[],[],[],[]⟩:Drw).add (0,0,0)).add (8,0,0)).add (5,0,0)).beg (0,0,0)):=((((Drw.Good.zero L).add (by decide)).add (by decide)).add (by decide)).beg (Drw.mem_add_ (Drw.mem_add_ (Drw.add_mem _ _) _) _)
 exact⟨h0.free (Drw.add_mem _ _),Drw.mem_free (Drw.mem_add_ (Drw.mem_add_ (Drw.add_mem _ _) _) _),Drw.mem_free (Drw.mem_add_ (Drw.add_mem _ _) _),Drw.mem_free (Drw.add_mem _ _)⟩
theorem W8 {topo a b x y:Int} (F:inN (L:Int) a=true) (G:inN (L:Int) b=true) (I:inN (L:Int) x=true) (J:inN (L:Int) y=true):(Wi L topo a b x y).Good L:=by
 obtain⟨h0,z,E,C⟩:=Yg L
 have h1:(Wr L a b x y).Good L:=((h0.kp z fun _ j e=>by cases e; decide).mov (Drw.mem_kp z) (Drw.mem_kp E) F G).mov (Drw.mem_kp E) (Drw.mem_kp C) I J
 have W:(5,0,0)∈(Wr L a b x y).nm:=Drw.mem_kp C
 unfold Wi
 generalize Wr L a b x y=dm at*
 split
 ·unfold WO
  have U:=((h1.add (k:=(0,1,0)) (by decide)).add (k:=(7,0,0)) (by decide)).add (k:=(6,0,0)) (by decide)
  have M:=Drw.mem_add_ (Drw.mem_add_ (Drw.add_mem dm (0,1,0)) (7,0,0)) (6,0,0)
  have h:=Drw.mem_add_ (Drw.add_mem (dm.add (0,1,0)) (7,0,0)) (6,0,0)
  have O:=Drw.add_mem ((dm.add (0,1,0)).add (7,0,0)) (6,0,0)
  generalize ((dm.add (0,1,0)).add (7,0,0)).add (6,0,0)=dn at*
  have V:=((U.beg M).mov M h I J).kp (f:=(7,0,0)) (κ:=fun _=>some (7,0,0)) h fun _ j e=>by cases e; decide
  exact(V.mov (Drw.mem_kp h) (Drw.mem_kp O) F G).acc (Drw.mem_kp O)
 ·exact h1
end
end Go.Proofs.YtfcfpoemojjglaaGreatDoor
namespace Go.Proofs.YtfcfpoemojjglaaGreatDoor
def BW (f s:List Int) (q x:Nat):Nat:=if (q=0∧(x:Int)∈f)∨(q=1∧(x:Int)∈s) then 1 else 2
def C6 (f s:List Int):List Nat→Bool
 | []=>false
 | x::w=>decide ((x:Int)∈f)&&w.all fun y:Nat=>decide ((y:Int)∈s)
def Cf (L:Nat) (f s:List Int):WA:=⟨(L:Int),2,[0],[1],(f.map fun x=>⟨0,x,1⟩)++s.map fun x=>⟨1,x,1⟩⟩
end Go.Proofs.YtfcfpoemojjglaaGreatDoor
namespace Go.Proofs.YtfcfpoemojjglaaGreatDoor
open K (Am AB orE Ad)
theorem AY {a b:Int}:orE a b=0↔a=0∧b=0:=by
 unfold orE
 by_cases h:a=0 <;> simp [h]
theorem Gg {b:Bool} {e:Int} (h:e≠0):Ad b e=0↔b=false:=by
 unfold Ad
 cases b <;> simp [h]
def AU (p:Am) (q:AB):List Int:=if 0<q.start.length then q.start else p.initial
def BS (p:Am) (q:AB):List Int:=if 0<p.leader.length then p.leader else AU p q
structure Gi (p:Am) (q:AB):Prop where
 L:1≤p.states.length∧p.states.length≤6
 starts:∀x∈AU p q,inN (p.states.length:Int) x=true
 lead:∀x∈BS p q,inN (p.states.length:Int) x=true
end Go.Proofs.YtfcfpoemojjglaaGreatDoor
