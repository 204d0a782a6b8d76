/-
  Part SB of a proof.
-/
import Derived.Test.YtjejejmeddkciaaGreatDoorPA
import Derived.Test.YtjejejmeddkciaaGreatDoorPB
import Derived.Test.YtjejejmeddkciaaGreatDoorCA
set_option maxHeartbeats 16000000
set_option maxRecDepth 100000
set_option linter.unusedVariables false
set_option linter.unusedSimpArgs false
namespace Go.Proofs.YtjejejmeddkciaaGreatDoor
abbrev Nme:=Nat×Nat×Nat
structure Drw where
 L:Nat
 nm:List Nme
 st:List Nme
 ac:List Nme
 mv:List (Nme×Int×Int×Nme)
def Wz {S:Type} [DecidableEq S] (l:List S) (s:S):Nat:=l.idxOf s
def Drw.num (d:Drw) (k:Nme):Nat:=Wz d.nm k
def Drw.add (d:Drw) (k:Nme):Drw:=if k∈d.nm then d else { d with nm:=d.nm++[k] }
def Drw.mov (d:Drw) (a:Nme) (i o:Int) (b:Nme):Drw:={ d with mv:=d.mv++[(a,i,o,b)] }
def Drw.acc (d:Drw) (a:Nme):Drw:={ d with ac:=d.ac++[a] }
def Drw.beg (d:Drw) (a:Nme):Drw:={ d with st:=d.st++[a] }
def Drw.kp1 (d:Drw) (f:Nme) (κ:Nat->Option Nme) (x:Nat):Drw:=match κ x with
 | none=>d
 | some k=>(d.add k).mov f x x k
def Drw.kpN (d:Drw) (f:Nme) (κ:Nat->Option Nme) (n:Nat):Drw:=(List.range n).foldl (fun d x=>d.kp1 f κ x) d
def Drw.kp (d:Drw) (f:Nme) (κ:Nat->Option Nme):Drw:=d.kpN f κ d.L
def Drw.enc (d:Drw) (m:Nme×Int×Int×Nme):Mv:=⟨(d.num m.1:Int),m.2.1,m.2.2.1,(d.num m.2.2.2:Int)⟩
def Drw.tr (d:Drw):TR:=⟨(d.L:Int),(d.nm.length:Int),d.st.map fun k=>(d.num k:Int),d.ac.map fun k=>(d.num k:Int),d.mv.map d.enc⟩
structure Drw.Ok (d:Drw):Prop where
 nodup:d.nm.Nodup
 st:∀k∈d.st,k∈d.nm
 ac:∀k∈d.ac,k∈d.nm
 mv:∀m∈d.mv,m.1∈d.nm/\m.2.2.2∈d.nm
section
variable {d:Drw} {k f:Nme} {κ:Nat->Option Nme}
theorem Drw.kpN_succ (d:Drw) (f:Nme) (κ:Nat->Option Nme) (n:Nat):d.kpN f κ (n+1)=(d.kpN f κ n).kp1 f κ n:=by
 unfold Drw.kpN;rw [List.range_succ,List.foldl_append];rfl
theorem Drw.add_of_mem (h:k∈d.nm):d.add k=d:=if_pos h
theorem Drw.add_L (d:Drw) (k:Nme):(d.add k).L=d.L:=by unfold Drw.add;split <;> rfl
theorem Drw.add_st (d:Drw) (k:Nme):(d.add k).st=d.st:=by unfold Drw.add;split <;> rfl
theorem Drw.add_ac (d:Drw) (k:Nme):(d.add k).ac=d.ac:=by unfold Drw.add;split <;> rfl
theorem Drw.add_mv (d:Drw) (k:Nme):(d.add k).mv=d.mv:=by unfold Drw.add;split <;> rfl
theorem Drw.mem_add {j:Nme}:j∈(d.add k).nm↔j∈d.nm\/j=k:=by
 unfold Drw.add;split
 ·exact⟨.inl,fun h=>h.elim id fun e=>e ▸ ‹_›⟩
 ·simp
theorem Drw.add_mem (d:Drw) (k:Nme):k∈(d.add k).nm:=Drw.mem_add.2 (.inr rfl)
theorem Zv {S:Type} [DecidableEq S] {l m:List S} {s:S} (h:s∈l):Wz (l++m) s=Wz l s:=by
 unfold Wz;rw [List.idxOf_append,if_pos h]
theorem Zw {S:Type} [DecidableEq S] {l:List S} {s:S} (h:s∉l):Wz (l++[s]) s=l.length:=by
 unfold Wz;rw [List.idxOf_append,if_neg h];simp
theorem XI {S:Type} [DecidableEq S] {l:List S} {s:S} (h:s∈l):Wz l s<l.length/\l[Wz l s]?=some s:=by
 unfold Wz;exact⟨List.idxOf_lt_length_of_mem h,by rw [List.getElem?_eq_getElem (List.idxOf_lt_length_of_mem h),List.getElem_idxOf]⟩
theorem Drw.num_lt (h:k∈d.nm):d.num k<d.nm.length:=(XI h).1
theorem Drw.add_num (d:Drw) (j:Nme) (h:k∈d.nm):(d.add j).num k=d.num k:=by
 unfold Drw.add Drw.num;split
 ·rfl
 ·exact Zv h
theorem Drw.num_get (h:k∈d.nm):d.nm[d.num k]?=some k:=(XI h).2
theorem Drw.num_inj {a b:Nme} (C:a∈d.nm) (E:b∈d.nm) (h:d.num a=d.num b):a=b:=by
 have h1:=Drw.num_get C;rw [h,Drw.num_get E] at h1;exact(Option.some.inj h1).symm
theorem Drw.Ok.add (h:d.Ok) (k:Nme):(d.add k).Ok:=by
 refine⟨?_,?_,?_,?_⟩
 ·unfold Drw.add;split
  ·exact h.nodup
  ·rename_i hn;exact List.nodup_append.2 ⟨h.nodup,by simp,fun a F b G=>by rw [List.mem_singleton.1 G];rintro rfl;exact hn F⟩
 ·rw [Drw.add_st];exact fun j C=>Drw.mem_add.2 (.inl (h.st j C))
 ·rw [Drw.add_ac];exact fun j C=>Drw.mem_add.2 (.inl (h.ac j C))
 ·rw [Drw.add_mv];exact fun m E=>⟨Drw.mem_add.2 (.inl (h.mv m E).1),Drw.mem_add.2 (.inl (h.mv m E).2)⟩
theorem Drw.Ok.mov (h:d.Ok) {a b:Nme} (i o:Int) (C:a∈d.nm) (E:b∈d.nm):(d.mov a i o b).Ok:=
 ⟨h.nodup,h.st,h.ac,fun m F=>(List.mem_append.1 F).elim (h.mv m) fun e=>by rw [List.mem_singleton.1 e];exact⟨C,E⟩⟩
theorem Drw.Ok.acc (h:d.Ok) (C:k∈d.nm):(d.acc k).Ok:=
 ⟨h.nodup,h.st,fun j E=>(List.mem_append.1 E).elim (h.ac j) fun e=>by rw [List.mem_singleton.1 e];exact C,h.mv⟩
theorem Drw.Ok.beg (h:d.Ok) (C:k∈d.nm):(d.beg k).Ok:=
 ⟨h.nodup,fun j E=>(List.mem_append.1 E).elim (h.st j) fun e=>by rw [List.mem_singleton.1 e];exact C,h.ac,h.mv⟩
theorem Drw.enc_add (d:Drw) (k:Nme) {m:Nme×Int×Int×Nme} (h:m.1∈d.nm/\m.2.2.2∈d.nm):(d.add k).enc m=d.enc m:=by
 unfold Drw.enc;rw [Drw.add_num d k h.1,Drw.add_num d k h.2]
theorem Drw.Ok.mv_add (h:d.Ok) (k:Nme):(d.add k).mv.map (d.add k).enc=d.mv.map d.enc:=by
 rw [Drw.add_mv];exact List.map_congr_left fun m C=>Drw.enc_add d k (h.mv m C)
theorem Drw.kp1_mem {x:Nat} {j:Nme}:j∈(d.kp1 f κ x).nm↔j∈d.nm\/κ x=some j:=by
 unfold Drw.kp1;split
 ·rename_i e;simp [e]
 ·rename_i k e;show j∈(d.add k).nm↔_
  rw [Drw.mem_add,e];simp [eq_comm]
theorem Drw.kpN_mem (d:Drw) (f:Nme) (κ:Nat->Option Nme) (j:Nme):∀n,j∈(d.kpN f κ n).nm↔j∈d.nm\/∃x,x<n/\κ x=some j
 | 0=>by simp [Drw.kpN]
 | n+1=>by
  rw [Drw.kpN_succ,Drw.kp1_mem,Drw.kpN_mem d f κ j n];constructor
  ·rintro((h|⟨x,C,e⟩)|e)
   ·exact .inl h
   ·exact .inr ⟨x,by omega,e⟩
   ·exact .inr ⟨n,by omega,e⟩
  ·rintro(h|⟨x,C,e⟩)
   ·exact .inl (.inl h)
   ·rcases Nat.lt_or_ge x n with h1|h1
    ·exact .inl (.inr ⟨x,h1,e⟩)
    ·have:x=n:=by omega
     subst this;exact .inr e
theorem Drw.kp_mem {j:Nme}:j∈(d.kp f κ).nm↔j∈d.nm\/∃x,x<d.L/\κ x=some j:=Drw.kpN_mem d f κ j d.L
theorem Drw.kp1_rest (d:Drw) (f:Nme) (κ:Nat->Option Nme) (x:Nat):(d.kp1 f κ x).L=d.L/\(d.kp1 f κ x).st=d.st/\(d.kp1 f κ x).ac=d.ac:=by
 unfold Drw.kp1;split
 ·exact⟨rfl,rfl,rfl⟩
 ·exact⟨Drw.add_L _ _,Drw.add_st _ _,Drw.add_ac _ _⟩
theorem Drw.kpN_rest (d:Drw) (f:Nme) (κ:Nat->Option Nme):∀n,(d.kpN f κ n).L=d.L/\(d.kpN f κ n).st=d.st/\(d.kpN f κ n).ac=d.ac
 | 0=>⟨rfl,rfl,rfl⟩
 | n+1=>by
  rw [Drw.kpN_succ];have h1:=Drw.kp1_rest (d.kpN f κ n) f κ n;have h:=Drw.kpN_rest d f κ n;exact⟨h1.1.trans h.1,h1.2.1.trans h.2.1,h1.2.2.trans h.2.2⟩
theorem Drw.kp_L:(d.kp f κ).L=d.L:=(Drw.kpN_rest d f κ d.L).1
theorem Drw.kp_st:(d.kp f κ).st=d.st:=(Drw.kpN_rest d f κ d.L).2.1
theorem Drw.kp_ac:(d.kp f κ).ac=d.ac:=(Drw.kpN_rest d f κ d.L).2.2
theorem Drw.kpN_mv (d:Drw) (f:Nme) (κ:Nat->Option Nme) (m:Nme×Int×Int×Nme):∀n,m∈(d.kpN f κ n).mv↔m∈d.mv\/∃x:Nat,x<n/\∃k,κ x=some k/\m=(f,(x:Int),(x:Int),k)
 | 0=>by simp [Drw.kpN]
 | n+1=>by
  have key:m∈((d.kpN f κ n).kp1 f κ n).mv↔m∈(d.kpN f κ n).mv\/∃k,κ n=some k/\m=(f,(n:Int),(n:Int),k):=by
   unfold Drw.kp1;split
   ·rename_i e;simp [e]
   ·rename_i k e;show m∈((d.kpN f κ n).add k).mv++[_]↔_
    rw [Drw.add_mv,List.mem_append,List.mem_singleton,e];simp
  rw [Drw.kpN_succ,key,Drw.kpN_mv d f κ m n];constructor
  ·rintro((h|⟨x,C,e⟩)|e)
   ·exact .inl h
   ·exact .inr ⟨x,by omega,e⟩
   ·exact .inr ⟨n,by omega,e⟩
  ·rintro(h|⟨x,C,e⟩)
   ·exact .inl (.inl h)
   ·rcases Nat.lt_or_ge x n with h1|h1
    ·exact .inl (.inr ⟨x,h1,e⟩)
    ·have:x=n:=by omega
     subst this;exact .inr e
theorem Drw.kp_mv {m:Nme×Int×Int×Nme}:m∈(d.kp f κ).mv↔m∈d.mv\/∃x:Nat,x<d.L/\∃k,κ x=some k/\m=(f,(x:Int),(x:Int),k):=Drw.kpN_mv d f κ m d.L
theorem Drw.Ok.kpN (h:d.Ok) (C:f∈d.nm) (κ:Nat->Option Nme):∀n,(d.kpN f κ n).Ok
 | 0=>h
 | n+1=>by
  rw [Drw.kpN_succ];have E:=h.kpN C κ n;unfold Drw.kp1;split
  ·exact E
  ·rename_i k e;exact(E.add k).mov _ _ (Drw.mem_add.2 (.inl ((Drw.kpN_mem d f κ f n).2 (.inl C)))) (Drw.add_mem _ k)
theorem Drw.Ok.kp (h:d.Ok) (C:f∈d.nm) (κ:Nat->Option Nme):(d.kp f κ).Ok:=h.kpN C κ d.L
end
def Ab (b:Bool):Nat:=if b then 1 else 0
def alw (l:List Int) (x:Int):Bool:=decide (l.length=0)||decide (x∈l)
def Drw.free (d:Drw) (s:Nme):Drw:=(d.acc s).kp s fun _=>some s
def dr0 (L:Nat):Drw:=((((⟨L,[],[],[],[]⟩:Drw).add (0,0,0)).add (5,0,0)).beg (0,0,0)).free (5,0,0)
def B4 (right:List Int) (x:Nat):Option Nme:=if alw right x then some (5,0,0) else none
def Wh (left:List Int) (x:Nat):Option Nme:=some (1,Ab (alw left x),0)
def Ao (L:Nat) (at_:Int) (right:List Int):Drw×Nme:=
 if at_=2 then (if right.length=0 then ((dr0 L).add (6,0,0)).acc (6,0,0) else (dr0 L).add (6,0,0),(6,0,0))
 else if 0<right.length then (((dr0 L).add (2,0,0)).kp (2,0,0) (B4 right),(2,0,0))
 else (dr0 L,(5,0,0))
def K3 (L:Nat) (at_ f t:Int) (left right:List Int):Drw:=
 if left.length=0 then (Ao L at_ right).1.mov (0,0,0) f t (Ao L at_ right).2 else (Ao L at_ right).1
def Qg (d:Drw) (left:List Int):Nat->Drw
 | 0=>d
 | i+1=>((Qg d left i).add (1,i,0)).kp (1,i,0) (Wh left)
def WZ (d:Drw) (b:Nme) (f t:Int) (left:List Int):Drw:=((Qg (d.kp (0,0,0) (Wh left)) left 2).add (1,1,0)).mov (1,1,0) f t b
def Q6 (L:Nat) (at_ f t:Int) (left right:List Int):Drw:=
 if at_=1 then K3 L at_ f t left right else WZ (K3 L at_ f t left right) (Ao L at_ right).2 f t left
def Wt (left:List Int) (x:Nat):Option Nme:=some (4,Ab (alw left x),0)
def Q1 (left right:List Int) (x:Nat):Option Nme:=if alw right x then Wt left x else none
def WH (left right:List Int) (x:Nat):Option Nme:=some (1,Ab (alw left x),Ab (alw right x))
def WG (left:List Int) (r:Nat) (x:Nat):Option Nme:=some (1,Ab (alw left x),r)
def HH (L:Nat) (f t:Int) (left right:List Int):Drw:=
 if alw left f&&alw right f then (((dr0 L).add (3,0,0)).mov (0,0,0) f t (3,0,0)).acc (3,0,0) else ((dr0 L).add (3,0,0)).mov (0,0,0) f t (3,0,0)
def MR (d:Drw) (left:List Int):Nat->Drw
 | 0=>d
 | i+1=>((MR d left i).add (4,i,0)).kp (4,i,0) (Wt left)
def Wk (d:Drw) (left right:List Int):Drw:=
 (((MR (d.kp (3,0,0) (Q1 left right)) left 2).add (4,1,0)).acc (4,1,0)).kp (0,0,0) (WH left right)
def Lb (d:Drw) (left:List Int) (r:Nat):Nat->Drw
 | 0=>d
 | i+1=>((Lb d left r i).add (1,i,r)).kp (1,i,r) (WG left r)
def rnM (d:Drw) (f t:Int) (left:List Int) (r:Nat):Drw:=
 (((Lb d left r 2).add (2,r,0)).add (1,1,r)).mov (1,1,r) f t (2,r,0)
def La (d:Drw) (f t:Int) (left right:List Int) (r:Nat):Drw:=
 (if r=1 then (rnM d f t left r).acc (2,r,0) else rnM d f t left r).kp (2,r,0) (B4 right)
def Sa (d:Drw) (f t:Int) (left right:List Int):Nat->Drw
 | 0=>d
 | r+1=>La (Sa d f t left right r) f t left right r
def Wl (L:Nat) (f t:Int) (left right:List Int):Drw:=Sa (Wk (HH L f t left right) left right) f t left right 2
def WB (L:Nat):Drw:=(((((⟨L,[],[],[],[]⟩:Drw).add (0,0,0)).add (8,0,0)).add (5,0,0)).beg (0,0,0)).free (5,0,0)
def Wg (L:Nat) (a b x y:Int):Drw:=(((WB L).kp (0,0,0) fun _=>some (0,0,0)).mov (0,0,0) a b (8,0,0)).mov (8,0,0) x y (5,0,0)
def WP (d:Drw) (a b x y:Int):Drw:=
 (((((((d.add (0,1,0)).add (7,0,0)).add (6,0,0)).beg (0,1,0)).mov (0,1,0) x y (7,0,0)).kp (7,0,0) fun _=>some (7,0,0)).mov (7,0,0) a b (6,0,0)).acc (6,0,0)
def Hg (L:Nat) (topo a b x y:Int):Drw:=if topo=3 then WP (Wg L a b x y) a b x y else Wg L a b x y
end Go.Proofs.YtjejejmeddkciaaGreatDoor
namespace Go.Proofs.YtjejejmeddkciaaGreatDoor
def TR.At (t:TR) (u v:List Int):Nat->Int->Prop
 | 0,q=>q∈t.start
 | k+1,q=>∃e∈t.moves,t.At u v k e.frm/\u[k]?=some e.inn/\v[k]?=some e.out/\e.to=q
theorem TR.setK_at {t:TR} (h:t.In) {u v:List Int} (V:u.length=v.length):∀{k:Nat} {q:Nat},k<=u.length->((t.setK u v k).getD q false=true↔t.At u v k (q:Int))
 | 0,q,_=>by
  have:t.setK u v 0=BN t.n t.start:=by simp [TR.setK]
  rw [this];show _↔(q:Int)∈t.start
  rcases Nat.lt_or_ge q t.n with C|C
  ·rw [List.getD_eq_getElem?_getD,Dg C];simp
  ·rw [List.getD_eq_getElem?_getD,List.getElem?_eq_none (by rw [Dh];exact C)];refine⟨fun e=>by simp at e,fun e=>?_⟩;have:=D3.1 (h.start _ e);unfold TR.n at C;omega
 | k+1,q,hk=>by
  obtain⟨x,J⟩:∃x,u[k]?=some x:=⟨_,List.getElem?_eq_getElem (by omega)⟩;obtain⟨y,M⟩:∃y,v[k]?=some y:=⟨_,List.getElem?_eq_getElem (by omega)⟩;rw [TR.setK_step J M];have O:=fun j=>TR.setK_at h (v:=v) V (k:=k) (q:=j) (by omega);show _↔∃e∈t.moves,t.At u v k e.frm/\u[k]?=some e.inn/\v[k]?=some e.out/\e.to=(q:Int)
  rcases Nat.lt_or_ge q t.n with C|C
  ·rw [List.getD_eq_getElem?_getD,TR.nextM_get C,List.take_length];simp only [Option.getD_some,List.any_eq_true,Bool.and_eq_true,decide_eq_true_eq];constructor
   ·rintro⟨e,E,⟨⟨h1,G⟩,I⟩,F⟩;refine⟨e,E,?_,by rw [J,G],by rw [M,I],F⟩;have:=(O _).1 h1;have U:=D3.1 (h.move e E).1
    rwa [show((e.frm.toNat:Nat):Int)=e.frm by omega] at this
   ·rintro⟨e,E,h1,G,I,F⟩;have U:=D3.1 (h.move e E).1;refine⟨e,E,⟨⟨(O _).2 (by rwa [show((e.frm.toNat:Nat):Int)=e.frm by omega]),?_⟩,?_⟩,F⟩
    ·exact(Option.some.inj (J.symm.trans G)).symm
    ·exact(Option.some.inj (M.symm.trans I)).symm
  ·rw [List.getD_eq_getElem?_getD,List.getElem?_eq_none (by rw [TR.nextM_len];exact C)];refine⟨fun e=>by simp at e,?_⟩;rintro⟨e,E,-,-,-,F⟩;have:=D3.1 (h.move e E).2.2.2;unfold TR.n at C;omega
theorem TR.rel_at {t:TR} (h:t.In) {u v:List Int} (C:u.length=v.length):t.rel u v=true↔∃s∈t.accept,t.At u v u.length s:=by
 unfold TR.rel;rw [List.any_eq_true];refine exists_congr fun s=>and_congr_right fun E=>?_;have F:=D3.1 (h.accept s E);rw [TR.setK_at h C (Nat.le_refl _),show((s.toNat:Nat):Int)=s by omega]
section
variable {o t:TR} (ho:o.In) (ht:t.In) (h0:0<=o.states) (h1:0<=t.states)
include ho ht h0 h1
set_option linter.unusedSectionVars false
end
theorem aDu {α:Type} {P:List α->Prop} (h0:P []) (h1:∀l a,P l->P (l++[a])) (l:List α):P l:=by
 rw [<-List.reverse_reverse l]
 induction l.reverse with
 | nil=>exact h0
 | cons a l ih=>rw [List.reverse_cons];exact h1 _ a ih
end Go.Proofs.YtjejejmeddkciaaGreatDoor
namespace Go.Proofs.YtjejejmeddkciaaGreatDoor
abbrev Nme.small (k:Nme):Prop:=k.1<9/\k.2.1<2/\k.2.2<2
structure Drw.Good (L:Nat) (d:Drw):Prop where
 eL:d.L=L
 ok:d.Ok
 le:∀m∈d.mv,inN (L:Int) m.2.1=true/\inN (L:Int) m.2.2.1=true
 ks:∀k∈d.nm,Nme.small k
section
variable {L:Nat} {d:Drw} {k:Nme} {f:Nme} {κ:Nat->Option Nme}
theorem Drw.Good.zero (L:Nat):Drw.Good L ⟨L,[],[],[],[]⟩:=⟨rfl,⟨List.nodup_nil,fun _ h=>(by cases h),fun _ h=>(by cases h),fun _ h=>(by cases h)⟩,fun _ h=>(by cases h),fun _ h=>(by cases h)⟩
theorem Drw.Good.add (h:d.Good L) (E:Nme.small k):(d.add k).Good L:=
 ⟨(d.add_L k).trans h.eL,h.ok.add k,by rw [Drw.add_mv];exact h.le,fun j C=>(Drw.mem_add.1 C).elim (h.ks j) fun e=>e ▸ E⟩
theorem Drw.Good.mov (h:d.Good L) {a b:Nme} {i o:Int} (C:a∈d.nm) (E:b∈d.nm) (F:inN (L:Int) i=true) (ho:inN (L:Int) o=true):(d.mov a i o b).Good L:=
 ⟨h.eL,h.ok.mov i o C E,fun m G=>(List.mem_append.1 G).elim (h.le m) fun e=>by rw [List.mem_singleton.1 e];exact⟨F,ho⟩,h.ks⟩
theorem Drw.Good.acc (h:d.Good L) (C:k∈d.nm):(d.acc k).Good L:=⟨h.eL,h.ok.acc C,h.le,h.ks⟩
theorem Drw.Good.beg (h:d.Good L) (C:k∈d.nm):(d.beg k).Good L:=⟨h.eL,h.ok.beg C,h.le,h.ks⟩
theorem Drw.Good.kp (h:d.Good L) (G:f∈d.nm) (J:∀x j,κ x=some j->Nme.small j):(d.kp f κ).Good L:=
 ⟨Drw.kp_L.trans h.eL,h.ok.kp G κ,fun m E=>by
  rcases Drw.kp_mv.1 E with E|⟨x,I,j,-,rfl⟩
  ·exact h.le m E
  ·rw [h.eL] at I;have F:inN (L:Int) (x:Int)=true:=D3.2 ⟨by omega,by omega⟩;exact⟨F,F⟩,fun j C=>by
  rcases Drw.kp_mem.1 C with C|⟨x,-,e⟩
  ·exact h.ks j C
  ·exact J x j e⟩
theorem Drw.Good.free (h:d.Good L) (C:f∈d.nm):(d.free f).Good L:=
 (h.acc C).kp C fun x j e=>by cases e;exact h.ks f C
theorem Drw.mem_free (h:k∈d.nm):k∈(d.free f).nm:=Drw.kp_mem.2 (.inl h)
theorem Drw.mem_kp (h:k∈d.nm):k∈(d.kp f κ).nm:=Drw.kp_mem.2 (.inl h)
theorem Drw.mem_add_ (h:k∈d.nm) (j:Nme):k∈(d.add j).nm:=Drw.mem_add.2 (.inl h)
theorem Drw.Good.len (h:d.Good L):d.nm.length<=36:=by
 have h1:(d.nm.map fun k=>k.1*4+k.2.1*2+k.2.2).Nodup:=by
  rw [List.nodup_iff_pairwise_ne,List.pairwise_map];refine(List.nodup_iff_pairwise_ne.1 h.ok.nodup).imp_of_mem fun {a b} ha hb hne e=>hne ?_;obtain⟨a1,C,E⟩:=a;obtain⟨b1,b2,b3⟩:=b;have h1:=h.ks _ ha;have F:=h.ks _ hb;simp only [Nme.small] at h1 F e;have:a1=b1/\C=b2/\E=b3:=by omega
  rw [this.1,this.2.1,this.2.2]
 have:=D6 _ (List.range 36) h1 fun n I=>by
  obtain⟨k,G,rfl⟩:=List.mem_map.1 I;have:=h.ks k G;simp only [Nme.small] at this;rw [List.mem_range];omega
 simpa using this
theorem Drw.Good.tr_in (h:d.Good L):d.tr.In:=by
 have E:∀k∈d.nm,inN d.tr.states (d.num k:Int)=true:=fun k C=>by
  have:=Drw.num_lt C;rw [D3];show _/\_<(d.nm.length:Int)
  omega
 refine⟨fun x F=>?_,fun x F=>?_,fun e J=>?_⟩
 ·obtain⟨k,C,rfl⟩:=List.mem_map.1 F;exact E k (h.ok.st k C)
 ·obtain⟨k,C,rfl⟩:=List.mem_map.1 F;exact E k (h.ok.ac k C)
 ·obtain⟨m,I,rfl⟩:=List.mem_map.1 J;have h1:=h.ok.mv m I;have G:=h.le m I;refine⟨E _ h1.1,?_,?_,E _ h1.2⟩
  ·show inN (d.L:Int) _=true;rw [h.eL];exact G.1
  ·show inN (d.L:Int) _=true;rw [h.eL];exact G.2
end
section
variable {L:Nat} {f t at_:Int} {left right:List Int}
theorem Wp (b:Bool):Ab b<2:=by cases b <;> decide
theorem XE (L:Nat):(dr0 L).Good L/\(0,0,0)∈(dr0 L).nm/\(5,0,0)∈(dr0 L).nm:=by
 have h0:Drw.Good L ((((⟨L,[],[],[],[]⟩:Drw).add (0,0,0)).add (5,0,0)).beg (0,0,0)):=(((Drw.Good.zero L).add (by decide)).add (by decide)).beg (Drw.mem_add_ (Drw.add_mem _ _) _);exact⟨h0.free (Drw.add_mem _ _),Drw.mem_free (Drw.mem_add_ (Drw.add_mem _ _) _),Drw.mem_free (Drw.add_mem _ _)⟩
theorem Xq:∀x j,B4 right x=some j->Nme.small j:=fun x j e=>by
 unfold B4 at e;split at e
 ·cases e;decide
 ·cases e
theorem XQ:∀x j,Wh left x=some j->Nme.small j:=fun x j e=>by cases e;exact⟨by show 1<9;omega,Wp _,by show 0<2;omega⟩
theorem X8:∀x j,Wt left x=some j->Nme.small j:=fun x j e=>by cases e;exact⟨by show 4<9;omega,Wp _,by show 0<2;omega⟩
theorem aAq:∀x j,Q1 left right x=some j->Nme.small j:=fun x j e=>by
 unfold Q1 at e;split at e
 ·exact X8 x j e
 ·cases e
theorem aAo:∀x j,WH left right x=some j->Nme.small j:=fun x j e=>by cases e;exact⟨by show 1<9;omega,Wp _,Wp _⟩
theorem aAn {r:Nat} (h:r<2):∀x j,WG left r x=some j->Nme.small j:=fun x j e=>by cases e;exact⟨by show 1<9;omega,Wp _,h⟩
theorem ZE:(Ao L at_ right).1.Good L/\(0,0,0)∈(Ao L at_ right).1.nm/\(Ao L at_ right).2∈(Ao L at_ right).1.nm:=by
 obtain⟨h0,C,E⟩:=XE L;unfold Ao;split
 ·have h1:=h0.add (k:=(6,0,0)) (by decide);have h:=Drw.add_mem (dr0 L) (6,0,0);show Drw.Good L (if _ then _ else _)/\_
  split
  ·exact⟨h1.acc h,Drw.mem_add_ C _,h⟩
  ·exact⟨h1,Drw.mem_add_ C _,h⟩
 ·split
  ·have h:=Drw.add_mem (dr0 L) (2,0,0);exact⟨(h0.add (k:=(2,0,0)) (by decide)).kp h Xq,Drw.mem_kp (Drw.mem_add_ C _),Drw.mem_kp h⟩
  ·exact⟨h0,C,E⟩
theorem ZI (E:inN (L:Int) f=true) (ht:inN (L:Int) t=true):(K3 L at_ f t left right).Good L/\(0,0,0)∈(K3 L at_ f t left right).nm/\(Ao L at_ right).2∈(K3 L at_ f t left right).nm:=by
 obtain⟨h0,h,C⟩:=ZE (L:=L) (at_:=at_) (right:=right);unfold K3;split
 ·exact⟨h0.mov h C E ht,h,C⟩
 ·exact⟨h0,h,C⟩
theorem XP {d:Drw} (C:d.Good L):∀i,i<=2->(Qg d left i).Good L/\∀k∈d.nm,k∈(Qg d left i).nm
 | 0,_=>⟨C,fun _ h=>h⟩
 | i+1,hi=>by
  obtain⟨h1,E⟩:=XP C i (by omega);exact⟨(h1.add (k:=(1,i,0)) ⟨by show 1<9;omega,by show i<2;omega,by show 0<2;omega⟩).kp (Drw.add_mem _ _) (XQ (left:=left)),fun k F=>Drw.mem_kp (Drw.mem_add_ (E k F) _)⟩
theorem ZG {d:Drw} {b:Nme} (F:d.Good L) (C:(0,0,0)∈d.nm) (E:b∈d.nm) (G:inN (L:Int) f=true) (ht:inN (L:Int) t=true):(WZ d b f t left).Good L:=by
 unfold WZ;obtain⟨h1,h⟩:=XP (left:=left) (F.kp C (XQ (left:=left))) 2 (by omega);exact(h1.add (k:=(1,1,0)) (by decide)).mov (Drw.add_mem _ _) (Drw.mem_add_ (h b (Drw.mem_kp E)) _) G ht
theorem ZF (h:inN (L:Int) f=true) (ht:inN (L:Int) t=true):(Q6 L at_ f t left right).Good L:=by
 obtain⟨h0,C,E⟩:=ZI (at_:=at_) (left:=left) (right:=right) h ht;unfold Q6;split
 ·exact h0
 ·exact ZG h0 C E h ht
theorem aAk (E:inN (L:Int) f=true) (ht:inN (L:Int) t=true):(HH L f t left right).Good L/\(0,0,0)∈(HH L f t left right).nm/\(3,0,0)∈(HH L f t left right).nm/\(5,0,0)∈(HH L f t left right).nm:=by
 obtain⟨h0,h,C⟩:=XE L;have h1:=(h0.add (k:=(3,0,0)) (by decide)).mov (Drw.mem_add_ h _) (Drw.add_mem _ _) E ht;unfold HH;split
 ·exact⟨h1.acc (Drw.add_mem _ _),Drw.mem_add_ h _,Drw.add_mem _ _,Drw.mem_add_ C _⟩
 ·exact⟨h1,Drw.mem_add_ h _,Drw.add_mem _ _,Drw.mem_add_ C _⟩
theorem X7 {d:Drw} (C:d.Good L):∀i,i<=2->(MR d left i).Good L/\∀k∈d.nm,k∈(MR d left i).nm
 | 0,_=>⟨C,fun _ h=>h⟩
 | i+1,hi=>by
  obtain⟨h1,E⟩:=X7 C i (by omega);exact⟨(h1.add (k:=(4,i,0)) ⟨by show 4<9;omega,by show i<2;omega,by show 0<2;omega⟩).kp (Drw.add_mem _ _) (X8 (left:=left)),fun k F=>Drw.mem_kp (Drw.mem_add_ (E k F) _)⟩
theorem aAm {d:Drw} (U:d.Good L) (F:(0,0,0)∈d.nm) (O:(3,0,0)∈d.nm) (I:(5,0,0)∈d.nm):(Wk d left right).Good L/\(5,0,0)∈(Wk d left right).nm/\(0,0,0)∈(Wk d left right).nm:=by
 unfold Wk;obtain⟨h1,h⟩:=X7 (left:=left) (U.kp O (aAq (left:=left) (right:=right))) 2 (by omega);have J:=h _ (Drw.mem_kp I);have G:=h _ (Drw.mem_kp F);clear h;generalize MR (d.kp (3,0,0) (Q1 left right)) left 2=dx at*;have E:=(h1.add (k:=(4,1,0)) (by decide)).acc (k:=(4,1,0)) (Drw.add_mem _ _);have C:(0,0,0)∈((dx.add (4,1,0)).acc (4,1,0)).nm:=Drw.mem_add_ G _;have M:(5,0,0)∈((dx.add (4,1,0)).acc (4,1,0)).nm:=Drw.mem_add_ J _;exact⟨E.kp C aAo,Drw.mem_kp M,Drw.mem_kp C⟩
theorem X5 {d:Drw} {r:Nat} (C:r<2) (E:d.Good L):∀i,i<=2->(Lb d left r i).Good L/\∀k∈d.nm,k∈(Lb d left r i).nm
 | 0,_=>⟨E,fun _ h=>h⟩
 | i+1,hi=>by
  obtain⟨h1,F⟩:=X5 C E i (by omega);exact⟨(h1.add (k:=(1,i,r)) ⟨by show 1<9;omega,by show i<2;omega,C⟩).kp (Drw.add_mem _ _) (aAn (left:=left) C),fun k G=>Drw.mem_kp (Drw.mem_add_ (F k G) _)⟩
theorem aAr {d:Drw} {r:Nat} (C:r<2) (J:d.Good L) (G:(5,0,0)∈d.nm) (M:inN (L:Int) f=true) (ht:inN (L:Int) t=true):(rnM d f t left r).Good L/\(5,0,0)∈(rnM d f t left r).nm/\(2,r,0)∈(rnM d f t left r).nm:=by
 obtain⟨h1,h⟩:=X5 (left:=left) C J 2 (by omega);have I:=h _ G;clear h;unfold rnM;generalize Lb d left r 2=dx at*;have h:=h1.add (k:=(2,r,0)) ⟨by show 2<9;omega,C,by show 0<2;omega⟩;have F:=h.add (k:=(1,1,r)) ⟨by show 1<9;omega,by show 1<2;omega,C⟩;have E:(2,r,0)∈((dx.add (2,r,0)).add (1,1,r)).nm:=Drw.mem_add_ (Drw.add_mem _ _) _;exact⟨F.mov (Drw.add_mem _ _) E M ht,Drw.mem_add_ (Drw.mem_add_ I _) _,E⟩
theorem aAs {d:Drw} {r:Nat} (J:r<2) (G:d.Good L) (F:(5,0,0)∈d.nm) (I:inN (L:Int) f=true) (ht:inN (L:Int) t=true):(La d f t left right r).Good L/\(5,0,0)∈(La d f t left right r).nm:=by
 obtain⟨C,E,h⟩:=aAr (left:=left) J G F I ht;unfold La;generalize rnM d f t left r=dm at*;split
 ·exact⟨(C.acc h).kp h Xq,Drw.mem_kp E⟩
 ·exact⟨C.kp h Xq,Drw.mem_kp E⟩
theorem Ya {d:Drw} (C:d.Good L) (h:(5,0,0)∈d.nm) (E:inN (L:Int) f=true) (ht:inN (L:Int) t=true):∀r,r<=2->(Sa d f t left right r).Good L/\(5,0,0)∈(Sa d f t left right r).nm
 | 0,_=>⟨C,h⟩
 | r+1,hr=>by
  obtain⟨h1,F⟩:=Ya C h E ht r (by omega);exact aAs (by omega) h1 F E ht
theorem aAp (h:inN (L:Int) f=true) (ht:inN (L:Int) t=true):(Wl L f t left right).Good L:=by
 obtain⟨h0,C,G,E⟩:=aAk (left:=left) (right:=right) h ht;obtain⟨h1,F,-⟩:=aAm (left:=left) (right:=right) h0 C G E;exact(Ya h1 F h ht 2 (by omega)).1
theorem Z5 (L:Nat):(WB L).Good L/\(0,0,0)∈(WB L).nm/\(8,0,0)∈(WB L).nm/\(5,0,0)∈(WB L).nm:=by
 have h0:Drw.Good L (((((⟨L,[],[],[],[]⟩:Drw).add (0,0,0)).add (8,0,0)).add (5,0,0)).beg (0,0,0)):=((((Drw.Good.zero L).add (by decide)).add (by decide)).add (by decide)).beg (Drw.mem_add_ (Drw.mem_add_ (Drw.add_mem _ _) _) _);exact⟨h0.free (Drw.add_mem _ _),Drw.mem_free (Drw.mem_add_ (Drw.mem_add_ (Drw.add_mem _ _) _) _),Drw.mem_free (Drw.mem_add_ (Drw.add_mem _ _) _),Drw.mem_free (Drw.add_mem _ _)⟩
theorem X0 {topo a b x y:Int} (G:inN (L:Int) a=true) (I:inN (L:Int) b=true) (J:inN (L:Int) x=true) (M:inN (L:Int) y=true):(Hg L topo a b x y).Good L:=by
 obtain⟨h0,C,F,E⟩:=Z5 L;have h1:(Wg L a b x y).Good L:=((h0.kp C fun _ j e=>by cases e;decide).mov (Drw.mem_kp C) (Drw.mem_kp F) G I).mov (Drw.mem_kp F) (Drw.mem_kp E) J M;have Z:(5,0,0)∈(Wg L a b x y).nm:=Drw.mem_kp E;unfold Hg;generalize Wg L a b x y=dm at*;split
 ·unfold WP;have V:=((h1.add (k:=(0,1,0)) (by decide)).add (k:=(7,0,0)) (by decide)).add (k:=(6,0,0)) (by decide);have O:=Drw.mem_add_ (Drw.mem_add_ (Drw.add_mem dm (0,1,0)) (7,0,0)) (6,0,0);have h:=Drw.mem_add_ (Drw.add_mem (dm.add (0,1,0)) (7,0,0)) (6,0,0);have U:=Drw.add_mem ((dm.add (0,1,0)).add (7,0,0)) (6,0,0);generalize ((dm.add (0,1,0)).add (7,0,0)).add (6,0,0)=dn at*;have W:=((V.beg O).mov O h J M).kp (f:=(7,0,0)) (κ:=fun _=>some (7,0,0)) h fun _ j e=>by cases e;decide
  exact(W.mov (Drw.mem_kp h) (Drw.mem_kp U) G I).acc (Drw.mem_kp U)
 ·exact h1
end
end Go.Proofs.YtjejejmeddkciaaGreatDoor
namespace Go.Proofs.YtjejejmeddkciaaGreatDoor
end Go.Proofs.YtjejejmeddkciaaGreatDoor
namespace Go.Proofs.YtjejejmeddkciaaGreatDoor
open K (Am AB orE Ad)
theorem AY {a b:Int}:orE a b=0↔a=0/\b=0:=by
 unfold orE;by_cases h:a=0 <;> simp [h]
theorem Gg {b:Bool} {e:Int} (h:e≠0):Ad b e=0↔b=false:=by
 unfold Ad;cases b <;> simp [h]
end Go.Proofs.YtjejejmeddkciaaGreatDoor
