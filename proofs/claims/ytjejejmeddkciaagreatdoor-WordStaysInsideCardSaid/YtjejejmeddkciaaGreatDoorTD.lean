/-
  Part TD of a proof.
-/
import Derived.Test.YtjejejmeddkciaaGreatDoorPA
import Derived.Test.YtjejejmeddkciaaGreatDoorSB
set_option maxHeartbeats 16000000
set_option maxRecDepth 100000
set_option linter.unusedVariables false
set_option linter.unusedSimpArgs false
namespace Go.Proofs.YtjejejmeddkciaaGreatDoor
def Drw.At (d:Drw) (u v:List Int):Nat->Nme->Prop
 | 0,q=>q∈d.st
 | k+1,q=>∃m∈d.mv,d.At u v k m.1/\u[k]?=some m.2.1/\v[k]?=some m.2.2.1/\m.2.2.2=q
section
variable {d:Drw} {u v:List Int}
theorem Drw.At.mem (h:d.Ok):∀{k:Nat} {q:Nme},d.At u v k q->q∈d.nm
 | 0,q,hq=>h.st q hq
 | k+1,q,⟨m,hm,_,_,_,e⟩=>e ▸ (h.mv m hm).2
theorem Drw.at_tr (h:d.Ok):∀{k:Nat} {x:Int},d.tr.At u v k x↔∃q,x=(d.num q:Int)/\d.At u v k q
 | 0,x=>by
  show x∈d.st.map _↔∃q,x=(d.num q:Int)/\q∈d.st
  rw [List.mem_map];exact⟨fun⟨q,C,e⟩=>⟨q,e.symm,C⟩,fun⟨q,e,C⟩=>⟨q,C,e.symm⟩⟩
 | k+1,x=>by
  constructor
  ·rintro⟨e,M,h1,G,I,J⟩;obtain⟨m,F,rfl⟩:=List.mem_map.1 M;obtain⟨q,C,E⟩:=(Drw.at_tr h).1 h1;have O:m.1=q:=Drw.num_inj (h.mv m F).1 (E.mem h) (by have:((d.num m.1:Nat):Int)=(d.num q:Int):=C;omega);exact⟨m.2.2.2,J.symm,m,F,O ▸ E,G,I,rfl⟩
  ·rintro⟨q,rfl,m,F,E,G,I,rfl⟩;exact⟨d.enc m,List.mem_map.2 ⟨m,F,rfl⟩,(Drw.at_tr h).2 ⟨m.1,rfl,E⟩,G,I,rfl⟩
theorem Drw.rel_iff {L:Nat} (h:d.Good L) (G:u.length=v.length):d.tr.rel u v=true↔∃q∈d.ac,d.At u v u.length q:=by
 rw [TR.rel_at h.tr_in G];constructor
 ·rintro⟨s,I,E⟩;obtain⟨q,C,rfl⟩:=List.mem_map.1 I;obtain⟨J,e,F⟩:=(Drw.at_tr h.ok).1 E;have:=Drw.num_inj (h.ok.ac q C) (F.mem h.ok) (by omega);subst this;exact⟨q,C,F⟩
 ·rintro⟨q,C,E⟩;exact⟨(d.num q:Int),List.mem_map.2 ⟨q,C,rfl⟩,(Drw.at_tr h.ok).2 ⟨q,rfl,E⟩⟩
end
def Agr (u v:List Int) (i j:Nat):Prop:=∀m,i<=m->m<j->u[m]?=v[m]?
section
variable {u v:List Int} {i j:Nat}
theorem Agr.nil (u v:List Int) (i:Nat):Agr u v i i:=fun m h1 h=>absurd h (by omega)
theorem Agr.snoc (h:Agr u v i j) (E:u[j]?=v[j]?):Agr u v i (j+1):=fun m h1 F=>by
 rcases Nat.lt_or_ge m j with C|C
 ·exact h m h1 C
 ·obtain rfl:m=j:=by omega
  exact E
theorem Agr.pre (h:Agr u v i (j+1)):Agr u v i j:=fun m h1 C=>h m h1 (by omega)
theorem Agr.last (h:Agr u v i (j+1)) (C:i<=j):u[j]?=v[j]?:=h j C (by omega)
end
def Let (L:Nat) (u:List Int):Prop:=∀x∈u,inN (L:Int) x=true
theorem Let.nat {L:Nat} {u:List Int} (h:Let L u) {k:Nat} (C:k<u.length):∃x:Nat,x<L/\u[k]?=some (x:Int):=by
 have E:=D3.1 (h _ (List.getElem_mem C));exact⟨u[k].toNat,by omega,by rw [List.getElem?_eq_getElem C];congr 1;omega⟩
def Xu (L:Nat) (ring:Bool) (a b x y:Int) (m:Nme×Int×Int×Nme):Prop:=
 (∃z:Nat,z<L/\m=((5,0,0),(z:Int),(z:Int),(5,0,0)))\/(∃z:Nat,z<L/\m=((0,0,0),(z:Int),(z:Int),(0,0,0)))\/m=((0,0,0),a,b,(8,0,0))\/m=((8,0,0),x,y,(5,0,0))\/
 (ring=true/\(m=((0,1,0),x,y,(7,0,0))\/(∃z:Nat,z<L/\m=((7,0,0),(z:Int),(z:Int),(7,0,0)))\/m=((7,0,0),a,b,(6,0,0))))
theorem WF {L:Nat} {topo a b x y:Int} {m:Nme×Int×Int×Nme}:m∈(Hg L topo a b x y).mv↔Xu L (decide (topo=3)) a b x y m:=by
 have C:m∈(Wg L a b x y).mv↔(∃z:Nat,z<L/\m=((5,0,0),(z:Int),(z:Int),(5,0,0)))\/(∃z:Nat,z<L/\m=((0,0,0),(z:Int),(z:Int),(0,0,0)))\/m=((0,0,0),a,b,(8,0,0))\/m=((8,0,0),x,y,(5,0,0)):=by
  unfold Wg WB Drw.free;simp only [Drw.mov,List.mem_append,List.mem_singleton,Drw.kp_mv,Drw.acc,Drw.beg,Drw.add_mv,Drw.add_L,Drw.kp_L,Option.some.injEq,exists_eq_left',List.not_mem_nil,false_or];constructor
  ·rintro(((h|h)|h)|h)
   ·exact .inl h
   ·exact .inr (.inl h)
   ·exact .inr (.inr (.inl h))
   ·exact .inr (.inr (.inr h))
  ·rintro(h|h|h|h)
   ·exact .inl (.inl (.inl h))
   ·exact .inl (.inl (.inr h))
   ·exact .inl (.inr h)
   ·exact .inr h
 have E:(Wg L a b x y).L=L:=by
  unfold Wg WB Drw.free;simp only [Drw.mov,Drw.acc,Drw.beg,Drw.add_L,Drw.kp_L]
 unfold Hg Xu;split
 ·rename_i h3;unfold WP;simp only [Drw.mov,List.mem_append,List.mem_singleton,Drw.kp_mv,Drw.acc,Drw.beg,Drw.add_mv,Drw.add_L,Drw.kp_L,Option.some.injEq,exists_eq_left',C,E,h3,decide_true,true_and];constructor
  ·rintro((((h|h|h|h)|h)|h)|h)
   ·exact .inl h
   ·exact .inr (.inl h)
   ·exact .inr (.inr (.inl h))
   ·exact .inr (.inr (.inr (.inl h)))
   ·exact .inr (.inr (.inr (.inr (.inl h))))
   ·exact .inr (.inr (.inr (.inr (.inr (.inl h)))))
   ·exact .inr (.inr (.inr (.inr (.inr (.inr h)))))
  ·rintro(h|h|h|h|h|h|h)
   ·exact .inl (.inl (.inl (.inl h)))
   ·exact .inl (.inl (.inl (.inr (.inl h))))
   ·exact .inl (.inl (.inl (.inr (.inr (.inl h)))))
   ·exact .inl (.inl (.inl (.inr (.inr (.inr h)))))
   ·exact .inl (.inl (.inr h))
   ·exact .inl (.inr h)
   ·exact .inr h
 ·rename_i h3;rw [C];simp only [h3,decide_false,Bool.false_eq_true,false_and,or_false]
theorem Z7 {L:Nat} {topo a b x y:Int} {k:Nme}:k∈(Hg L topo a b x y).st↔k=(0,0,0)\/(topo=3/\k=(0,1,0)):=by
 have h:(Wg L a b x y).st=[(0,0,0)]:=by
  unfold Wg WB Drw.free;simp only [Drw.mov,Drw.acc,Drw.beg,Drw.add_st,Drw.kp_st,List.nil_append]
 unfold Hg;split
 ·rename_i h3;unfold WP;simp only [Drw.mov,Drw.acc,Drw.beg,Drw.add_st,Drw.kp_st,h,List.mem_append,List.mem_singleton,h3,true_and]
 ·rename_i h3;simp [h,h3]
theorem Xl {L:Nat} {topo a b x y:Int} {k:Nme}:k∈(Hg L topo a b x y).ac↔k=(5,0,0)\/(topo=3/\k=(6,0,0)):=by
 have h:(Wg L a b x y).ac=[(5,0,0)]:=by
  unfold Wg WB Drw.free;have e:∀(d:Drw) (k:Nme),(d.add k).ac=d.ac:=fun d k=>d.add_ac k;simp only [Drw.mov,Drw.acc,Drw.beg,e,Drw.kp_ac,List.nil_append]
 unfold Hg;split
 ·rename_i h3;unfold WP;have e:∀(d:Drw) (k:Nme),(d.add k).ac=d.ac:=fun d k=>d.add_ac k;simp only [Drw.mov,Drw.acc,Drw.beg,e,Drw.kp_ac,h,List.mem_append,List.mem_singleton,h3,true_and]
 ·rename_i h3;simp [h,h3]
def WM (ring:Bool) (u v:List Int) (a b x y:Int) (k:Nat) (q:Nme):Prop:=
 (q=(0,0,0)/\Agr u v 0 k)\/
 (q=(8,0,0)/\∃j,k=j+1/\Agr u v 0 j/\u[j]?=some a/\v[j]?=some b)\/
 (q=(5,0,0)/\∃j,j+2<=k/\Agr u v 0 j/\u[j]?=some a/\v[j]?=some b/\u[j+1]?=some x/\v[j+1]?=some y/\Agr u v (j+2) k)\/
 (ring=true/\q=(0,1,0)/\k=0)\/
 (ring=true/\q=(7,0,0)/\1<=k/\u[0]?=some x/\v[0]?=some y/\Agr u v 1 k)\/
 (ring=true/\q=(6,0,0)/\∃j,k=j+1/\1<=j/\u[0]?=some x/\v[0]?=some y/\Agr u v 1 j/\u[j]?=some a/\v[j]?=some b)
theorem Xa {L:Nat} {topo a b x y:Int} {u v:List Int} (hu:Let L u):∀{k:Nat} {q:Nme},k<=u.length->((Hg L topo a b x y).At u v k q↔WM (decide (topo=3)) u v a b x y k q)
 | 0,q,_=>by
  show q∈(Hg L topo a b x y).st↔_
  rw [Z7];unfold WM;constructor
  ·rintro(h|⟨C,h⟩)
   ·exact .inl ⟨h,Agr.nil u v 0⟩
   ·exact .inr (.inr (.inr (.inl ⟨by simp [C],h,rfl⟩)))
  ·rintro(⟨h,-⟩|⟨-,j,M,-⟩|⟨-,j,M,-⟩|⟨C,h,-⟩|⟨-,-,h1,-⟩|⟨-,-,j,M,-⟩)
   ·exact .inl h
   ·omega
   ·omega
   ·exact .inr ⟨by simpa using C,h⟩
   ·omega
   ·omega
 | k+1,q,hk=>by
  have F:=fun q=>Xa (topo:=topo) (a:=a) (b:=b) (x:=x) (y:=y) (v:=v) hu (k:=k) (q:=q) (by omega);show(∃m∈(Hg L topo a b x y).mv,(Hg L topo a b x y).At u v k m.1/\u[k]?=some m.2.1/\v[k]?=some m.2.2.1/\m.2.2.2=q)↔_
  constructor
  ·rintro⟨m,Z,E,h1,G,rfl⟩;rw [F] at E;rw [WF] at Z;unfold WM at E;unfold WM;rcases Z with⟨z,O,rfl⟩|⟨z,O,rfl⟩|rfl|rfl|⟨C,rfl|⟨z,O,rfl⟩|rfl⟩
   ·simp+decide only [Prod.mk.injEq,false_and,and_false,or_false,false_or,true_and,and_self] at E ⊢;obtain⟨j,M,c1,c2,c3,I,J,V⟩:=E;exact⟨j,by omega,c1,c2,c3,I,J,V.snoc (h1.trans G.symm)⟩
   ·simp+decide only [Prod.mk.injEq,false_and,and_false,or_false,false_or,true_and,and_self] at E ⊢;exact E.snoc (h1.trans G.symm)
   ·simp+decide only [Prod.mk.injEq,false_and,and_false,or_false,false_or,true_and,and_self] at E ⊢;exact⟨k,rfl,E,h1,G⟩
   ·simp+decide only [Prod.mk.injEq,false_and,and_false,or_false,false_or,true_and,and_self] at E ⊢;obtain⟨j,rfl,c1,c2,c3⟩:=E;exact⟨j,by omega,c1,c2,c3,h1,G,Agr.nil u v _⟩
   ·simp+decide only [Prod.mk.injEq,false_and,and_false,or_false,false_or,true_and,and_self,and_true,C] at E ⊢;subst E;exact⟨by omega,h1,G,Agr.nil u v 1⟩
   ·simp+decide only [Prod.mk.injEq,false_and,and_false,or_false,false_or,true_and,and_self,C] at E ⊢;obtain⟨W,c1,c2,c3⟩:=E;exact⟨by omega,c1,c2,c3.snoc (h1.trans G.symm)⟩
   ·simp+decide only [Prod.mk.injEq,false_and,and_false,or_false,false_or,true_and,and_self,C] at E ⊢;obtain⟨W,c1,c2,c3⟩:=E;exact⟨k,rfl,W,c1,c2,c3,h1,G⟩
  ·obtain⟨z,O,U⟩:=hu.nat (k:=k) (by omega);unfold WM;rintro(⟨rfl,h⟩|⟨rfl,j,M,c1,c2,c3⟩|⟨rfl,j,M,c1,c2,c3,I,J,V⟩|⟨C,rfl,h⟩|⟨C,rfl,h1,c1,c2,c3⟩|⟨C,rfl,j,M,h1,c1,c2,c3,I,J⟩)
   ·exact⟨((0,0,0),(z:Int),(z:Int),(0,0,0)),WF.2 (.inr (.inl ⟨z,O,rfl⟩)),(F _).2 (.inl ⟨rfl,h.pre⟩),U,(h.last (by omega)).symm.trans U,rfl⟩
   ·obtain rfl:k=j:=by omega
    exact⟨((0,0,0),a,b,(8,0,0)),WF.2 (.inr (.inr (.inl rfl))),(F _).2 (.inl ⟨rfl,c1⟩),c2,c3,rfl⟩
   ·by_cases a4:j+2=k+1
    ·obtain rfl:k=j+1:=by omega
     exact⟨((8,0,0),x,y,(5,0,0)),WF.2 (.inr (.inr (.inr (.inl rfl)))),(F _).2 (.inr (.inl ⟨rfl,j,rfl,c1,c2,c3⟩)),I,J,rfl⟩
    ·exact⟨((5,0,0),(z:Int),(z:Int),(5,0,0)),WF.2 (.inl ⟨z,O,rfl⟩),(F _).2 (.inr (.inr (.inl ⟨rfl,j,by omega,c1,c2,c3,I,J,V.pre⟩))),U,(V.last (by omega)).symm.trans U,rfl⟩
   ·omega
   ·by_cases a3:k=0
    ·subst a3;exact⟨((0,1,0),x,y,(7,0,0)),WF.2 (.inr (.inr (.inr (.inr ⟨C,.inl rfl⟩)))),(F _).2 (.inr (.inr (.inr (.inl ⟨C,rfl,rfl⟩)))),c1,c2,rfl⟩
    ·exact⟨((7,0,0),(z:Int),(z:Int),(7,0,0)),WF.2 (.inr (.inr (.inr (.inr ⟨C,.inr (.inl ⟨z,O,rfl⟩)⟩)))),(F _).2 (.inr (.inr (.inr (.inr (.inl ⟨C,rfl,by omega,c1,c2,c3.pre⟩))))),U,(c3.last (by omega)).symm.trans U,rfl⟩
   ·obtain rfl:k=j:=by omega
    exact⟨((7,0,0),a,b,(6,0,0)),WF.2 (.inr (.inr (.inr (.inr ⟨C,.inr (.inr rfl)⟩)))),(F _).2 (.inr (.inr (.inr (.inr (.inl ⟨C,rfl,h1,c1,c2,c3⟩))))),I,J,rfl⟩
structure WL (u v:List Int) (a b x y:Int) (i j:Nat):Prop where
 ne:i≠j
 ui:u[i]?=some a
 vi:v[i]?=some b
 uj:u[j]?=some x
 vj:v[j]?=some y
 rest:∀m,m≠i->m≠j->u[m]?=v[m]?
theorem X1 {L:Nat} {topo a b x y:Int} {u v:List Int} (V:(Hg L topo a b x y).Good L) (J:Let L u) (hl:u.length=v.length):
  (Hg L topo a b x y).tr.rel u v=true↔∃i j,WL u v a b x y i j/\(j=i+1\/topo=3/\j=0/\i+1=u.length):=by
 have M:∀m,u.length<=m->u[m]?=v[m]?:=fun m hm=>by rw [List.getElem?_eq_none hm,List.getElem?_eq_none (by omega)]
 have a4:∀{m:Nat} {z:Int},u[m]?=some z->m<u.length:=fun h=>(List.getElem?_eq_some_iff.1 h).1;rw [Drw.rel_iff V hl];constructor
 ·rintro⟨q,hq,G⟩;rw [Xa J (Nat.le_refl _)] at G;unfold WM at G;rcases Xl.1 hq with rfl|⟨C,rfl⟩
  ·simp+decide only [Prod.mk.injEq,false_and,and_false,or_false,false_or,true_and,and_self] at G;obtain⟨j,hj,c1,c2,c3,F,E,O⟩:=G;refine⟨j,j+1,⟨by omega,c2,c3,F,E,fun m h1 U=>?_⟩,.inl rfl⟩;rcases Nat.lt_or_ge m j with C|C
   ·exact c1 m (by omega) C
   ·rcases Nat.lt_or_ge m u.length with I|I
    ·exact O m (by omega) I
    ·exact M m I
  ·simp+decide only [Prod.mk.injEq,false_and,and_false,or_false,false_or,true_and,and_self] at G;obtain⟨-,j,hj,h1,c1,c2,c3,F,E⟩:=G;refine⟨j,0,⟨by omega,F,E,c1,c2,fun m h1 U=>?_⟩,.inr ⟨C,rfl,by omega⟩⟩;rcases Nat.lt_or_ge m j with C|C
   ·exact c3 m (by omega) C
   ·exact M m (by omega)
 ·rintro⟨i,j,⟨c0,c1,c2,c3,F,E⟩,Z⟩;rcases Z with rfl|⟨C,rfl,W⟩
  ·have:=a4 c3;exact⟨(5,0,0),Xl.2 (.inl rfl),(Xa J (Nat.le_refl _)).2 (.inr (.inr (.inl ⟨rfl,i,by omega,fun m _ h=>E m (by omega) (by omega),c1,c2,c3,F,fun m h _=>E m (by omega) (by omega)⟩)))⟩
  ·exact⟨(6,0,0),Xl.2 (.inr ⟨C,rfl⟩),(Xa J (Nat.le_refl _)).2 (.inr (.inr (.inr (.inr (.inr ⟨by simp [C],rfl,i,W.symm,by omega,c3,F,fun m h h'=>E m (by omega) (by omega),c1,c2⟩)))))⟩
end Go.Proofs.YtjejejmeddkciaaGreatDoor
namespace Go.Proofs.YtjejejmeddkciaaGreatDoor
theorem W6 {b:Bool}:Ab b=1↔b=true:=by cases b <;> simp [Ab]
theorem Wx {l:List Int} {x:Int}:alw l x=true↔l.length=0\/x∈l:=by simp [alw]
def lnS (at_:Int) (right:List Int):Nme:=if at_=2 then (6,0,0) else if 0<right.length then (2,0,0) else (5,0,0)
def Xt (L:Nat) (at_ f t:Int) (left right:List Int) (m:Nme×Int×Int×Nme):Prop:=
 (∃z:Nat,z<L/\m=((5,0,0),(z:Int),(z:Int),(5,0,0)))\/(at_≠2/\0<right.length/\∃z:Nat,z<L/\alw right z=true/\m=((2,0,0),(z:Int),(z:Int),(5,0,0)))\/
 (left.length=0/\m=((0,0,0),f,t,lnS at_ right))\/(at_≠1/\∃z:Nat,z<L/\m=((0,0,0),(z:Int),(z:Int),(1,Ab (alw left z),0)))\/
 (at_≠1/\∃i z:Nat,i<2/\z<L/\m=((1,i,0),(z:Int),(z:Int),(1,Ab (alw left z),0)))\/(at_≠1/\m=((1,1,0),f,t,lnS at_ right))
section
variable {L:Nat} {at_ f t:Int} {left right:List Int} {m:Nme×Int×Int×Nme}
theorem XD (L:Nat):(dr0 L).L=L/\(dr0 L).st=[(0,0,0)]/\(dr0 L).ac=[(5,0,0)]/\∀m,m∈(dr0 L).mv↔∃z:Nat,z<L/\m=((5,0,0),(z:Int),(z:Int),(5,0,0)):=by
 unfold dr0 Drw.free;refine⟨?_,?_,?_,fun m=>?_⟩
 ·simp only [Drw.acc,Drw.beg,Drw.add_L,Drw.kp_L]
 ·simp only [Drw.acc,Drw.beg,Drw.add_st,Drw.kp_st,List.nil_append]
 ·simp only [Drw.acc,Drw.beg,Drw.add_ac,Drw.kp_ac,List.nil_append]
 ·simp only [Drw.acc,Drw.beg,Drw.add_mv,Drw.add_L,Drw.kp_mv,List.not_mem_nil,false_or,Option.some.injEq,exists_eq_left']
theorem XN:(Ao L at_ right).2=lnS at_ right/\(Ao L at_ right).1.L=L/\(Ao L at_ right).1.st=[(0,0,0)]/\
  (∀k,k∈(Ao L at_ right).1.ac↔k=(5,0,0)\/(at_=2/\right.length=0/\k=(6,0,0)))/\
  ∀m,m∈(Ao L at_ right).1.mv↔(∃z:Nat,z<L/\m=((5,0,0),(z:Int),(z:Int),(5,0,0)))\/(at_≠2/\0<right.length/\∃z:Nat,z<L/\alw right z=true/\m=((2,0,0),(z:Int),(z:Int),(5,0,0))):=by
 obtain⟨E,F,G,I⟩:=XD L;unfold Ao lnS;by_cases h:at_=2
 ·by_cases C:right.length=0
  ·simp [h,C,Drw.acc,Drw.add_L,Drw.add_st,Drw.add_ac,Drw.add_mv,E,F,G,I]
  ·simp [h,C,Drw.acc,Drw.add_L,Drw.add_st,Drw.add_ac,Drw.add_mv,E,F,G,I]
 ·by_cases C:0<right.length
  ·have O:¬right.length=0:=by omega
   refine⟨by simp [h,C],?_,?_,fun k=>?_,fun m=>?_⟩
   ·rw [if_neg h,if_pos C];simp only [Drw.kp_L,Drw.add_L,E]
   ·rw [if_neg h,if_pos C];simp only [Drw.kp_st,Drw.add_st,F]
   ·rw [if_neg h,if_pos C];simp [Drw.kp_ac,Drw.add_ac,G,h]
   ·rw [if_neg h,if_pos C];show m∈(((dr0 L).add (2,0,0)).kp (2,0,0) (B4 right)).mv↔_
    rw [Drw.kp_mv,Drw.add_mv,I,Drw.add_L,E];refine or_congr Iff.rfl ⟨?_,?_⟩
    ·rintro⟨z,M,k,J,rfl⟩;unfold B4 at J;split at J
     ·cases J;exact⟨h,C,z,M,‹_›,rfl⟩
     ·cases J
    ·rintro⟨-,-,z,M,U,rfl⟩;exact⟨z,M,_,by unfold B4;rw [if_pos U],rfl⟩
  ·have O:right.length=0:=by omega
   simp [h,O,E,F,G,I]
theorem XO (d:Drw) (left:List Int):∀n,(Qg d left n).L=d.L/\(Qg d left n).st=d.st/\(Qg d left n).ac=d.ac/\∀m,m∈(Qg d left n).mv↔m∈d.mv\/∃i z:Nat,i<n/\z<d.L/\m=((1,i,0),(z:Int),(z:Int),(1,Ab (alw left z),0))
 | 0=>⟨rfl,rfl,rfl,fun m=>by simp [Qg]⟩
 | n+1=>by
  obtain⟨h1,F,G,I⟩:=XO d left n;unfold Qg;refine⟨by rw [Drw.kp_L,Drw.add_L,h1],by rw [Drw.kp_st,Drw.add_st,F],by rw [Drw.kp_ac,Drw.add_ac,G],fun m=>?_⟩;rw [Drw.kp_mv,Drw.add_mv,I,Drw.add_L,h1];unfold Wh;simp only [Option.some.injEq,exists_eq_left'];constructor
  ·rintro((h|⟨i,z,J,C,e⟩)|⟨z,C,e⟩)
   ·exact .inl h
   ·exact .inr ⟨i,z,by omega,C,e⟩
   ·exact .inr ⟨n,z,by omega,C,e⟩
  ·rintro(h|⟨i,z,J,C,e⟩)
   ·exact .inl (.inl h)
   ·rcases Nat.lt_or_ge i n with E|E
    ·exact .inl (.inr ⟨i,z,E,C,e⟩)
    ·obtain rfl:i=n:=by omega
     exact .inr ⟨z,C,e⟩
theorem ZH:(K3 L at_ f t left right).L=L/\(K3 L at_ f t left right).st=[(0,0,0)]/\
  (∀k,k∈(K3 L at_ f t left right).ac↔k=(5,0,0)\/(at_=2/\right.length=0/\k=(6,0,0)))/\
  ∀m,m∈(K3 L at_ f t left right).mv↔(∃z:Nat,z<L/\m=((5,0,0),(z:Int),(z:Int),(5,0,0)))\/(at_≠2/\0<right.length/\∃z:Nat,z<L/\alw right z=true/\m=((2,0,0),(z:Int),(z:Int),(5,0,0)))\/(left.length=0/\m=((0,0,0),f,t,lnS at_ right)):=by
 obtain⟨e,h1,C,E,F⟩:=XN (L:=L) (at_:=at_) (right:=right);unfold K3;by_cases h:left.length=0
 ·rw [if_pos h];refine⟨h1,C,E,fun m=>?_⟩;show m∈(Ao L at_ right).1.mv++[_]↔_
  rw [List.mem_append,List.mem_singleton,F,e,or_assoc];simp only [h,true_and]
 ·rw [if_neg h];refine⟨h1,C,E,fun m=>?_⟩;rw [F];simp only [h,false_and,or_false]
theorem WD:(Q6 L at_ f t left right).st=[(0,0,0)]/\(∀k,k∈(Q6 L at_ f t left right).ac↔k=(5,0,0)\/(at_=2/\right.length=0/\k=(6,0,0)))/\
  ∀m,m∈(Q6 L at_ f t left right).mv↔Xt L at_ f t left right m:=by
 obtain⟨h1,I,J,M⟩:=ZH (L:=L) (at_:=at_) (f:=f) (t:=t) (left:=left) (right:=right);unfold Q6 Xt;by_cases C:at_=1
 ·rw [if_pos C];refine⟨I,J,fun m=>?_⟩;rw [M];simp only [C,ne_eq,not_true_eq_false,false_and,or_false]
 ·rw [if_neg C];obtain⟨O,E,F,G⟩:=XO ((K3 L at_ f t left right).kp (0,0,0) (Wh left)) left 2;rw [Drw.kp_L,h1] at O G;rw [Drw.kp_st,I] at E;rw [Drw.kp_ac] at F;unfold WZ;generalize Qg ((K3 L at_ f t left right).kp (0,0,0) (Wh left)) left 2=D at O E F G ⊢;refine⟨?_,fun k=>?_,fun m=>?_⟩
  ·show(D.add (1,1,0)).st=_
   rw [Drw.add_st,E]
  ·show k∈(D.add (1,1,0)).ac↔_
   rw [Drw.add_ac,F,J]
  ·show m∈(D.add (1,1,0)).mv++[_]↔_
   rw [List.mem_append,List.mem_singleton,Drw.add_mv,G,Drw.kp_mv,M,h1,XN.1];unfold Wh;simp only [Option.some.injEq,exists_eq_left',C,ne_eq,not_false_eq_true,true_and];constructor
   ·rintro((((h|h|h)|h)|h)|h)
    ·exact .inl h
    ·exact .inr (.inl h)
    ·exact .inr (.inr (.inl h))
    ·exact .inr (.inr (.inr (.inl h)))
    ·exact .inr (.inr (.inr (.inr (.inl h))))
    ·exact .inr (.inr (.inr (.inr (.inr h))))
   ·rintro(h|h|h|h|h|h)
    ·exact .inl (.inl (.inl (.inl h)))
    ·exact .inl (.inl (.inl (.inr (.inl h))))
    ·exact .inl (.inl (.inl (.inr (.inr h))))
    ·exact .inl (.inl (.inr h))
    ·exact .inl (.inr h)
    ·exact .inr h
end
structure W4 (u v:List Int) (at_ f t:Int) (left:List Int) (j:Nat):Prop where
 pre:Agr u v 0 j
 uj:u[j]?=some f
 vj:v[j]?=some t
 fst:at_=1->j=0
 lft:left.length=0\/∃z:Int,1<=j/\u[j - 1]?=some z/\alw left z=true
def WS (u v:List Int) (at_ f t:Int) (left right:List Int) (k:Nat) (q:Nme):Prop:=
 (q=(0,0,0)/\k=0)\/
 (∃z:Int,at_≠1/\1<=k/\u[k - 1]?=some z/\q=(1,Ab (alw left z),0)/\Agr u v 0 k)\/
 (∃j,k=j+1/\W4 u v at_ f t left j/\q=lnS at_ right)\/
 (∃j,at_≠2/\j+2<=k/\W4 u v at_ f t left j/\(right.length=0\/∃z:Int,u[j+1]?=some z/\alw right z=true)/\Agr u v (j+1) k/\q=(5,0,0))
theorem W0 (at_:Int) (right:List Int):(at_=2/\lnS at_ right=(6,0,0))\/(at_≠2/\0<right.length/\lnS at_ right=(2,0,0))\/(at_≠2/\right.length=0/\lnS at_ right=(5,0,0)):=by
 unfold lnS;by_cases h:at_=2
 ·exact .inl ⟨h,if_pos h⟩
 ·by_cases C:0<right.length
  ·exact .inr (.inl ⟨h,C,by rw [if_neg h,if_pos C]⟩)
  ·exact .inr (.inr ⟨h,by omega,by rw [if_neg h,if_neg C]⟩)
theorem W9 {at_:Int} {right:List Int} {a b c:Nat} (h:a≠6/\a≠2/\a≠5):((a,b,c):Nme)≠lnS at_ right:=fun e=>by
 rcases W0 at_ right with⟨-,C⟩|⟨-,-,C⟩|⟨-,-,C⟩ <;> rw [C] at e <;> injection e with e <;> omega
theorem WN {L:Nat} {at_ f t:Int} {left right:List Int} {u v:List Int} (hu:Let L u):∀{k:Nat} {q:Nme},k<=u.length->((Q6 L at_ f t left right).At u v k q↔WS u v at_ f t left right k q)
 | 0,q,_=>by
  show q∈(Q6 L at_ f t left right).st↔_
  rw [WD.1,List.mem_singleton];unfold WS;constructor
  ·exact fun h=>.inl ⟨h,rfl⟩
  ·rintro(⟨h,-⟩|⟨z,-,h,-⟩|⟨j,h,-⟩|⟨j,-,h,-⟩)
   ·exact h
   ·omega
   ·omega
   ·omega
 | k+1,q,hk=>by
  have O:=fun q=>WN (at_:=at_) (f:=f) (t:=t) (left:=left) (right:=right) (v:=v) hu (k:=k) (q:=q) (by omega);show(∃m∈(Q6 L at_ f t left right).mv,(Q6 L at_ f t left right).At u v k m.1/\u[k]?=some m.2.1/\v[k]?=some m.2.2.1/\m.2.2.2=q)↔_
  constructor
  ·rintro⟨m,hm,C,h1,M,rfl⟩;rw [O] at C;rw [WD.2.2] at hm;unfold WS at C;rcases hm with⟨z,I,rfl⟩|⟨G,V,z,I,ha,rfl⟩|⟨hl,rfl⟩|⟨F,z,I,rfl⟩|⟨F,i,z,hi,I,rfl⟩|⟨F,rfl⟩
   ·-- at the end
    rcases C with⟨e,-⟩|⟨y,-,-,-,e,-⟩|⟨j,rfl,E,e⟩|⟨j,G,hj,E,V,C,-⟩
    ·simp at e
    ·simp at e
    ·rcases W0 at_ right with⟨-,Z⟩|⟨-,-,Z⟩|⟨G,V,-⟩
     ·rw [Z] at e;simp at e
     ·rw [Z] at e;simp at e
     ·exact .inr (.inr (.inr ⟨j,G,by omega,E,.inl V,(Agr.nil u v _).snoc (h1.trans M.symm),rfl⟩))
    ·exact .inr (.inr (.inr ⟨j,G,by omega,E,V,C.snoc (h1.trans M.symm),rfl⟩))
   ·-- the right neighbor
    rcases C with⟨e,-⟩|⟨y,-,-,-,e,-⟩|⟨j,rfl,E,e⟩|⟨j,-,hj,E,-,C,e⟩
    ·simp at e
    ·simp at e
    ·exact .inr (.inr (.inr ⟨j,G,by omega,E,.inr ⟨_,h1,ha⟩,(Agr.nil u v _).snoc (h1.trans M.symm),rfl⟩))
    ·simp at e
   ·-- the first process steps
    rcases C with⟨-,rfl⟩|⟨y,-,-,-,e,-⟩|⟨j,-,-,e⟩|⟨j,-,-,-,-,-,e⟩
    ·exact .inr (.inr (.inl ⟨0,rfl,⟨Agr.nil u v 0,h1,M,fun _=>rfl,.inl hl⟩,rfl⟩))
    ·simp at e
    ·exact absurd e (W9 (by decide))
    ·simp at e
   ·rcases C with⟨-,rfl⟩|⟨y,-,-,-,e,-⟩|⟨j,-,-,e⟩|⟨j,-,-,-,-,-,e⟩
    ·exact .inr (.inl ⟨_,F,by omega,h1,rfl,(Agr.nil u v 0).snoc (h1.trans M.symm)⟩)
    ·simp at e
    ·exact absurd e (W9 (by decide))
    ·simp at e
   ·rcases C with⟨e,-⟩|⟨y,-,ab,W,e,C⟩|⟨j,-,-,e⟩|⟨j,-,-,-,-,-,e⟩
    ·simp at e
    ·exact .inr (.inl ⟨_,F,by omega,h1,rfl,C.snoc (h1.trans M.symm)⟩)
    ·exact absurd e (W9 (by decide))
    ·simp at e
   ·rcases C with⟨e,-⟩|⟨y,-,ab,W,e,C⟩|⟨j,-,-,e⟩|⟨j,-,-,-,-,-,e⟩
    ·simp at e
    ·have hb:alw left y=true:=W6.1 (by injection e with _ e;injection e with e _;exact e.symm);exact .inr (.inr (.inl ⟨k,rfl,⟨C,h1,M,fun h=>absurd h F,.inr ⟨y,ab,W,hb⟩⟩,rfl⟩))
    ·exact absurd e (W9 (by decide))
    ·simp at e
  ·obtain⟨z,I,J⟩:=hu.nat (k:=k) (by omega);unfold WS;have U:=fun m=>(WD (L:=L) (at_:=at_) (f:=f) (t:=t) (left:=left) (right:=right)).2.2 m;rintro(⟨-,h⟩|⟨y,F,-,W,rfl,C⟩|⟨j,hj,E,rfl⟩|⟨j,G,hj,E,V,C,rfl⟩)
   ·omega
   ·have ag:y=(z:Int):=Option.some.inj (W.symm.trans (by simpa using J));subst ag;have a2:=(C.last (by omega)).symm.trans J;by_cases a5:k=0
    ·subst a5;exact⟨((0,0,0),(z:Int),(z:Int),(1,Ab (alw left z),0)),(U _).2 (.inr (.inr (.inr (.inl ⟨F,z,I,rfl⟩)))),(O _).2 (.inl ⟨rfl,rfl⟩),J,a2,rfl⟩
    ·obtain⟨x,hx,a7⟩:=hu.nat (k:=k - 1) (by omega);exact⟨((1,Ab (alw left x),0),(z:Int),(z:Int),(1,Ab (alw left z),0)),(U _).2 (.inr (.inr (.inr (.inr (.inl ⟨F,_,z,Wp _,I,rfl⟩))))),(O _).2 (.inr (.inl ⟨x,F,by omega,a7,rfl,C.pre⟩)),J,a2,rfl⟩
   ·obtain rfl:k=j:=by omega
    by_cases a5:k=0
    ·subst a5;have hl:left.length=0:=E.lft.elim id fun⟨_,h,_⟩=>absurd h (by omega)
     exact⟨((0,0,0),f,t,lnS at_ right),(U _).2 (.inr (.inr (.inl ⟨hl,rfl⟩))),(O _).2 (.inl ⟨rfl,rfl⟩),E.uj,E.vj,rfl⟩
    ·have F:at_≠1:=fun h=>a5 (E.fst h);obtain⟨x,hx,a7⟩:=hu.nat (k:=k - 1) (by omega);have ha:alw left x=true:=E.lft.elim (fun h=>Wx.2 (.inl h)) fun⟨y,_,W,hb⟩=>by
      have:=Option.some.inj (W.symm.trans a7);rw [<-this];exact hb
     exact⟨((1,1,0),f,t,lnS at_ right),(U _).2 (.inr (.inr (.inr (.inr (.inr ⟨F,rfl⟩))))),(O _).2 (.inr (.inl ⟨x,F,by omega,a7,by rw [ha];rfl,E.pre⟩)),E.uj,E.vj,rfl⟩
   ·have a2:=(C.last (by omega)).symm.trans J;rcases W0 at_ right with⟨M,-⟩|⟨-,ae,Z⟩|⟨-,ae,Z⟩
    ·exact absurd M G
    ·by_cases a9:k=j+1
     ·subst a9;have ha:alw right z=true:=V.elim (fun h=>absurd h (by omega)) fun⟨y,W,hb⟩=>by
       have:=Option.some.inj (W.symm.trans J);rw [<-this];exact hb
      exact⟨((2,0,0),(z:Int),(z:Int),(5,0,0)),(U _).2 (.inr (.inl ⟨G,ae,z,I,ha,rfl⟩)),(O _).2 (.inr (.inr (.inl ⟨j,rfl,E,Z.symm⟩))),J,a2,rfl⟩
     ·exact⟨((5,0,0),(z:Int),(z:Int),(5,0,0)),(U _).2 (.inl ⟨z,I,rfl⟩),(O _).2 (.inr (.inr (.inr ⟨j,G,by omega,E,V,C.pre,rfl⟩))),J,a2,rfl⟩
    ·by_cases a9:k=j+1
     ·subst a9;exact⟨((5,0,0),(z:Int),(z:Int),(5,0,0)),(U _).2 (.inl ⟨z,I,rfl⟩),(O _).2 (.inr (.inr (.inl ⟨j,rfl,E,Z.symm⟩))),J,a2,rfl⟩
     ·exact⟨((5,0,0),(z:Int),(z:Int),(5,0,0)),(U _).2 (.inl ⟨z,I,rfl⟩),(O _).2 (.inr (.inr (.inr ⟨j,G,by omega,E,V,C.pre,rfl⟩))),J,a2,rfl⟩
structure Xs (u v:List Int) (at_ f t:Int) (left right:List Int) (i:Nat):Prop where
 ui:u[i]?=some f
 vi:v[i]?=some t
 rest:∀m,m≠i->u[m]?=v[m]?
 fst:at_=1->i=0
 lst:at_=2->i+1=u.length
 lft:left.length=0\/∃z:Int,1<=i/\u[i - 1]?=some z/\z∈left
 rgt:right.length=0\/∃z:Int,u[i+1]?=some z/\z∈right
theorem ZK {L:Nat} {at_ f t:Int} {left right:List Int} {u v:List Int} (hG:(Q6 L at_ f t left right).Good L) (O:Let L u) (hl:u.length=v.length):
  (Q6 L at_ f t left right).tr.rel u v=true↔∃i,Xs u v at_ f t left right i:=by
 have Z:∀m,u.length<=m->u[m]?=v[m]?:=fun m M=>by rw [List.getElem?_eq_none M,List.getElem?_eq_none (by omega)]
 have W:∀{m:Nat} {z:Int},u[m]?=some z->m<u.length:=fun h=>(List.getElem?_eq_some_iff.1 h).1;have lf:∀{l:List Int} {P:Int->Prop},(l.length=0\/∃z,P z/\alw l z=true)↔(l.length=0\/∃z,P z/\z∈l):=fun {l P}=>by
  constructor
  ·rintro(h|⟨z,hp,V⟩)
   ·exact .inl h
   ·exact(Wx.1 V).elim .inl fun h=>.inr ⟨z,hp,h⟩
  ·rintro(h|⟨z,hp,V⟩)
   ·exact .inl h
   ·exact .inr ⟨z,hp,Wx.2 (.inr V)⟩
 have a7:∀{i:Nat},(left.length=0\/∃z:Int,1<=i/\u[i - 1]?=some z/\alw left z=true)↔(left.length=0\/∃z:Int,1<=i/\u[i - 1]?=some z/\z∈left):=fun {i}=>by
  have:=lf (l:=left) (P:=fun z=>1<=i/\u[i - 1]?=some z);simpa only [and_assoc] using this
 rw [Drw.rel_iff hG hl];constructor
 ·rintro⟨q,hq,I⟩;rw [WN O (Nat.le_refl _)] at I;unfold WS at I;have mk:∀j,W4 u v at_ f t left j->(∀m,j<m->u[m]?=v[m]?)->(at_=2->j+1=u.length)->(right.length=0\/∃z:Int,u[j+1]?=some z/\z∈right)->∃i,Xs u v at_ f t left right i:=fun j C E J ae=>
   ⟨j,C.uj,C.vj,fun m M=>by
    rcases Nat.lt_or_ge m j with h|h
    ·exact C.pre m (by omega) h
    ·exact E m (by omega),C.fst,J,a7.1 C.lft,ae⟩
  rcases WD.2.1 _ |>.1 hq with rfl|⟨J,E,rfl⟩
  ·rcases I with⟨e,-⟩|⟨y,-,-,-,e,-⟩|⟨j,U,C,e⟩|⟨j,G,U,C,E,I,-⟩
   ·simp at e
   ·simp at e
   ·rcases W0 at_ right with⟨-,F⟩|⟨-,-,F⟩|⟨G,E,-⟩
    ·rw [F] at e;simp at e
    ·rw [F] at e;simp at e
    ·exact mk j C (fun m M=>Z m (by omega)) (fun h=>absurd h G) (.inl E)
   ·refine mk j C (fun m M=>?_) (fun h=>absurd h G) (lf.1 E);rcases Nat.lt_or_ge m u.length with h|h
    ·exact I m (by omega) h
    ·exact Z m h
  ·rcases I with⟨e,-⟩|⟨y,-,-,-,e,-⟩|⟨j,U,C,e⟩|⟨j,G,U,C,E,I,e⟩
   ·simp at e
   ·simp at e
   ·exact mk j C (fun m M=>Z m (by omega)) (fun _=>U.symm) (.inl E)
   ·simp at e
 ·rintro⟨i,c1,c2,c3,c4,c5,c6,c7⟩;have hi:=W c1;have C:W4 u v at_ f t left i:=⟨fun m _ h=>c3 m (by omega),c1,c2,c4,a7.2 c6⟩;rcases W0 at_ right with⟨J,F⟩|⟨G,a6,F⟩|⟨G,a6,F⟩
  ·have E:right.length=0:=c7.elim id fun⟨z,hz,_⟩=>absurd (W hz) (by have:=c5 J;omega)
   exact⟨(6,0,0),(WD.2.1 _).2 (.inr ⟨J,E,rfl⟩),(WN O (Nat.le_refl _)).2 (.inr (.inr (.inl ⟨i,(c5 J).symm,C,F.symm⟩)))⟩
  ·have h1:i+1<u.length:=c7.elim (fun h=>absurd h (by omega)) fun⟨z,hz,_⟩=>W hz
   exact⟨(5,0,0),(WD.2.1 _).2 (.inl rfl),(WN O (Nat.le_refl _)).2 (.inr (.inr (.inr ⟨i,G,by omega,C,lf.2 c7,fun m h _=>c3 m (by omega),rfl⟩)))⟩
  ·by_cases h1:i+1=u.length
   ·exact⟨(5,0,0),(WD.2.1 _).2 (.inl rfl),(WN O (Nat.le_refl _)).2 (.inr (.inr (.inl ⟨i,h1.symm,C,F.symm⟩)))⟩
   ·exact⟨(5,0,0),(WD.2.1 _).2 (.inl rfl),(WN O (Nat.le_refl _)).2 (.inr (.inr (.inr ⟨i,G,by omega,C,.inl a6,fun m h _=>c3 m (by omega),rfl⟩)))⟩
end Go.Proofs.YtjejejmeddkciaaGreatDoor
