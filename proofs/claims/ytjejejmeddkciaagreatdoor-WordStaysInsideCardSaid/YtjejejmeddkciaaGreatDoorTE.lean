/-
  Part TE of a proof.
-/
import Derived.Test.YtjejejmeddkciaaGreatDoorPA
import Derived.Test.YtjejejmeddkciaaGreatDoorTD
import Derived.Test.YtjejejmeddkciaaGreatDoorSK
set_option maxHeartbeats 16000000
set_option maxRecDepth 100000
set_option linter.unusedVariables false
set_option linter.unusedSimpArgs false
namespace Go.Proofs.YtjejejmeddkciaaGreatDoor
section
variable {L:Nat} {f t:Int} {left right:List Int}
theorem aAj:(HH L f t left right).L=L/\(HH L f t left right).st=[(0,0,0)]/\(∀k,k∈(HH L f t left right).ac↔k=(5,0,0)\/(alw left f=true/\alw right f=true/\k=(3,0,0)))/\
  ∀m,m∈(HH L f t left right).mv↔(∃z:Nat,z<L/\m=((5,0,0),(z:Int),(z:Int),(5,0,0)))\/m=((0,0,0),f,t,(3,0,0)):=by
 obtain⟨C,E,F,G⟩:=XD L;unfold HH;by_cases h:(alw left f&&alw right f)=true
 ·rw [if_pos h];rw [Bool.and_eq_true] at h;refine⟨?_,?_,fun k=>?_,fun m=>?_⟩
  ·simp only [Drw.acc,Drw.mov,Drw.add_L,C]
  ·simp only [Drw.acc,Drw.mov,Drw.add_st,E]
  ·simp only [Drw.acc,Drw.mov,Drw.add_ac,F,List.mem_append,List.mem_singleton,h.1,h.2,true_and]
  ·simp only [Drw.acc,Drw.mov,Drw.add_mv,List.mem_append,List.mem_singleton,G]
 ·rw [if_neg h];rw [Bool.and_eq_true] at h;refine⟨?_,?_,fun k=>?_,fun m=>?_⟩
  ·simp only [Drw.mov,Drw.add_L,C]
  ·simp only [Drw.mov,Drw.add_st,E]
  ·simp only [Drw.mov,Drw.add_ac,F,List.mem_singleton];exact⟨.inl,fun I=>I.elim id fun⟨a,b,_⟩=>absurd ⟨a,b⟩ h⟩
  ·simp only [Drw.mov,Drw.add_mv,List.mem_append,List.mem_singleton,G]
theorem X6 (d:Drw) (left:List Int):∀n,(MR d left n).L=d.L/\(MR d left n).st=d.st/\(MR d left n).ac=d.ac/\∀m,m∈(MR d left n).mv↔m∈d.mv\/∃i z:Nat,i<n/\z<d.L/\m=((4,i,0),(z:Int),(z:Int),(4,Ab (alw left z),0))
 | 0=>⟨rfl,rfl,rfl,fun m=>by simp [MR]⟩
 | n+1=>by
  obtain⟨h1,F,G,I⟩:=X6 d left n;unfold MR;refine⟨by rw [Drw.kp_L,Drw.add_L,h1],by rw [Drw.kp_st,Drw.add_st,F],by rw [Drw.kp_ac,Drw.add_ac,G],fun m=>?_⟩;rw [Drw.kp_mv,Drw.add_mv,I,Drw.add_L,h1];unfold Wt;simp only [Option.some.injEq,exists_eq_left'];constructor
  ·rintro((h|⟨i,z,J,C,e⟩)|⟨z,C,e⟩)
   ·exact .inl h
   ·exact .inr ⟨i,z,by omega,C,e⟩
   ·exact .inr ⟨n,z,by omega,C,e⟩
  ·rintro(h|⟨i,z,J,C,e⟩)
   ·exact .inl (.inl h)
   ·rcases Nat.lt_or_ge i n with E|E
    ·exact .inl (.inr ⟨i,z,E,C,e⟩)
    ·obtain rfl:i=n:=by omega
     exact .inr ⟨z,C,e⟩
theorem aAl (d:Drw) (left right:List Int):(Wk d left right).L=d.L/\(Wk d left right).st=d.st/\(∀k,k∈(Wk d left right).ac↔k∈d.ac\/k=(4,1,0))/\
  ∀m,m∈(Wk d left right).mv↔m∈d.mv\/(∃z:Nat,z<d.L/\alw right z=true/\m=((3,0,0),(z:Int),(z:Int),(4,Ab (alw left z),0)))\/(∃i z:Nat,i<2/\z<d.L/\m=((4,i,0),(z:Int),(z:Int),(4,Ab (alw left z),0)))\/
   (∃z:Nat,z<d.L/\m=((0,0,0),(z:Int),(z:Int),(1,Ab (alw left z),Ab (alw right z)))):=by
 obtain⟨C,F,G,I⟩:=X6 (d.kp (3,0,0) (Q1 left right)) left 2;rw [Drw.kp_L] at C I;rw [Drw.kp_st] at F;rw [Drw.kp_ac] at G;unfold Wk;have M:∀m,m∈(d.kp (3,0,0) (Q1 left right)).mv↔m∈d.mv\/(∃z:Nat,z<d.L/\alw right z=true/\m=((3,0,0),(z:Int),(z:Int),(4,Ab (alw left z),0))):=fun m=>by
  rw [Drw.kp_mv];refine or_congr Iff.rfl ⟨?_,?_⟩
  ·rintro⟨z,E,k,h,rfl⟩;unfold Q1 at h;split at h
   ·cases h;exact⟨z,E,‹_›,rfl⟩
   ·cases h
  ·rintro⟨z,E,J,rfl⟩;exact⟨z,E,_,by unfold Q1;rw [if_pos J];rfl,rfl⟩
 generalize MR (d.kp (3,0,0) (Q1 left right)) left 2=D at C F G I ⊢;refine⟨?_,?_,fun k=>?_,fun m=>?_⟩
 ·simp only [Drw.kp_L,Drw.acc,Drw.add_L,C]
 ·simp only [Drw.kp_st,Drw.acc,Drw.add_st,F]
 ·simp only [Drw.kp_ac,Drw.acc,Drw.add_ac,G,List.mem_append,List.mem_singleton]
 ·rw [Drw.kp_mv];unfold WH;simp only [Drw.acc,Drw.add_mv,Drw.add_L,I,C,M,Option.some.injEq,exists_eq_left',or_assoc]
theorem X4 (d:Drw) (left:List Int) (r:Nat):∀n,(Lb d left r n).L=d.L/\(Lb d left r n).st=d.st/\(Lb d left r n).ac=d.ac/\∀m,m∈(Lb d left r n).mv↔m∈d.mv\/∃i z:Nat,i<n/\z<d.L/\m=((1,i,r),(z:Int),(z:Int),(1,Ab (alw left z),r))
 | 0=>⟨rfl,rfl,rfl,fun m=>by simp [Lb]⟩
 | n+1=>by
  obtain⟨h1,F,G,I⟩:=X4 d left r n;unfold Lb;refine⟨by rw [Drw.kp_L,Drw.add_L,h1],by rw [Drw.kp_st,Drw.add_st,F],by rw [Drw.kp_ac,Drw.add_ac,G],fun m=>?_⟩;rw [Drw.kp_mv,Drw.add_mv,I,Drw.add_L,h1];unfold WG;simp only [Option.some.injEq,exists_eq_left'];constructor
  ·rintro((h|⟨i,z,J,C,e⟩)|⟨z,C,e⟩)
   ·exact .inl h
   ·exact .inr ⟨i,z,by omega,C,e⟩
   ·exact .inr ⟨n,z,by omega,C,e⟩
  ·rintro(h|⟨i,z,J,C,e⟩)
   ·exact .inl (.inl h)
   ·rcases Nat.lt_or_ge i n with E|E
    ·exact .inl (.inr ⟨i,z,E,C,e⟩)
    ·obtain rfl:i=n:=by omega
     exact .inr ⟨z,C,e⟩
def Xg (L:Nat) (f t:Int) (left right:List Int) (r:Nat) (m:Nme×Int×Int×Nme):Prop:=
 (∃i z:Nat,i<2/\z<L/\m=((1,i,r),(z:Int),(z:Int),(1,Ab (alw left z),r)))\/m=((1,1,r),f,t,(2,r,0))\/(∃z:Nat,z<L/\alw right z=true/\m=((2,r,0),(z:Int),(z:Int),(5,0,0)))
theorem X9 (d:Drw) (f t:Int) (left right:List Int) (r:Nat):(La d f t left right r).L=d.L/\(La d f t left right r).st=d.st/\(∀k,k∈(La d f t left right r).ac↔k∈d.ac\/(r=1/\k=(2,r,0)))/\
  ∀m,m∈(La d f t left right r).mv↔m∈d.mv\/Xg d.L f t left right r m:=by
 obtain⟨U,V,W,Z⟩:=X4 d left r 2;have hM:(rnM d f t left r).L=d.L/\(rnM d f t left r).st=d.st/\(rnM d f t left r).ac=d.ac/\∀m,m∈(rnM d f t left r).mv↔m∈d.mv\/(∃i z:Nat,i<2/\z<d.L/\m=((1,i,r),(z:Int),(z:Int),(1,Ab (alw left z),r)))\/m=((1,1,r),f,t,(2,r,0)):=by
  unfold rnM;generalize Lb d left r 2=D at U V W Z ⊢;refine⟨?_,?_,?_,fun m=>?_⟩
  ·simp only [Drw.mov,Drw.add_L,U]
  ·simp only [Drw.mov,Drw.add_st,V]
  ·simp only [Drw.mov,Drw.add_ac,W]
  ·simp only [Drw.mov,Drw.add_mv,List.mem_append,List.mem_singleton,Z,or_assoc]
 obtain⟨h,I,J,M⟩:=hM;unfold La Xg;generalize rnM d f t left r=D at h I J M ⊢;have O:∀(E:Drw) m,E.L=d.L->(m∈(E.kp (2,r,0) (B4 right)).mv↔m∈E.mv\/∃z:Nat,z<d.L/\alw right z=true/\m=((2,r,0),(z:Int),(z:Int),(5,0,0))):=fun E m hE=>by
  rw [Drw.kp_mv,hE];refine or_congr Iff.rfl ⟨?_,?_⟩
  ·rintro⟨z,G,k,C,rfl⟩;unfold B4 at C;split at C
   ·cases C;exact⟨z,G,‹_›,rfl⟩
   ·cases C
  ·rintro⟨z,G,ha,rfl⟩;exact⟨z,G,_,by unfold B4;rw [if_pos ha],rfl⟩
 by_cases F:r=1
 ·rw [if_pos F];refine⟨?_,?_,fun k=>?_,fun m=>?_⟩
  ·rw [Drw.kp_L];exact h
  ·rw [Drw.kp_st];exact I
  ·rw [Drw.kp_ac];simp only [Drw.acc,List.mem_append,List.mem_singleton,J,F,true_and]
  ·rw [O (D.acc (2,r,0)) m h];simp only [Drw.acc,M,or_assoc]
 ·rw [if_neg F];refine⟨?_,?_,fun k=>?_,fun m=>?_⟩
  ·rw [Drw.kp_L];exact h
  ·rw [Drw.kp_st];exact I
  ·rw [Drw.kp_ac,J];simp only [F,false_and,or_false]
  ·rw [O D m h,M];simp only [or_assoc]
def Xv (L:Nat) (f t:Int) (left right:List Int) (m:Nme×Int×Int×Nme):Prop:=
 (∃z:Nat,z<L/\m=((5,0,0),(z:Int),(z:Int),(5,0,0)))\/m=((0,0,0),f,t,(3,0,0))\/(∃z:Nat,z<L/\alw right z=true/\m=((3,0,0),(z:Int),(z:Int),(4,Ab (alw left z),0)))\/
 (∃i z:Nat,i<2/\z<L/\m=((4,i,0),(z:Int),(z:Int),(4,Ab (alw left z),0)))\/(∃z:Nat,z<L/\m=((0,0,0),(z:Int),(z:Int),(1,Ab (alw left z),Ab (alw right z))))\/(∃r,r<2/\Xg L f t left right r m)
theorem WI:(Wl L f t left right).st=[(0,0,0)]/\(∀k,k∈(Wl L f t left right).ac↔k=(5,0,0)\/(alw left f=true/\alw right f=true/\k=(3,0,0))\/k=(4,1,0)\/k=(2,1,0))/\
  ∀m,m∈(Wl L f t left right).mv↔Xv L f t left right m:=by
 obtain⟨a1,C,E,F⟩:=aAj (L:=L) (f:=f) (t:=t) (left:=left) (right:=right);unfold Wl;generalize HH L f t left right=d0 at a1 C E F ⊢;obtain⟨b1,b2,b3,b4⟩:=aAl d0 left right;generalize Wk d0 left right=d1 at b1 b2 b3 b4 ⊢;obtain⟨c1,c2,c3,G⟩:=X9 d1 f t left right 0;show(La (La d1 f t left right 0) f t left right 1).st=_/\(∀k,k∈(La (La d1 f t left right 0) f t left right 1).ac↔_)/\∀m,m∈(La (La d1 f t left right 0) f t left right 1).mv↔_
 generalize La d1 f t left right 0=d2 at c1 c2 c3 G ⊢;obtain⟨O,I,J,M⟩:=X9 d2 f t left right 1;generalize La d2 f t left right 1=d3 at O I J M ⊢;refine⟨by rw [I,c2,b2,C],fun k=>?_,fun m=>?_⟩
 ·rw [J,c3,b3,E];simp [or_assoc]
 ·rw [M,G,b4,F,c1,b1,a1];unfold Xv;constructor
  ·rintro((((h|h)|h|h|h)|h)|h)
   ·exact .inl h
   ·exact .inr (.inl h)
   ·exact .inr (.inr (.inl h))
   ·exact .inr (.inr (.inr (.inl h)))
   ·exact .inr (.inr (.inr (.inr (.inl h))))
   ·exact .inr (.inr (.inr (.inr (.inr ⟨0,by omega,h⟩))))
   ·exact .inr (.inr (.inr (.inr (.inr ⟨1,by omega,h⟩))))
  ·rintro(h|h|h|h|h|⟨r,U,h⟩)
   ·exact .inl (.inl (.inl (.inl h)))
   ·exact .inl (.inl (.inl (.inr h)))
   ·exact .inl (.inl (.inr (.inl h)))
   ·exact .inl (.inl (.inr (.inr (.inl h))))
   ·exact .inl (.inl (.inr (.inr (.inr h))))
   ·match r,U with
    | 0,_=>exact .inl (.inr h)
    | 1,_=>exact .inr h
end
structure Xe (u v:List Int) (f t:Int) (left:List Int) (j:Nat):Prop where
 pre:Agr u v 0 j
 uj:u[j]?=some f
 vj:v[j]?=some t
 pos:1<=j
 lft:∃z:Int,u[j - 1]?=some z/\alw left z=true
def WV (u v:List Int) (f t:Int) (left right:List Int) (k:Nat) (q:Nme):Prop:=
 (q=(0,0,0)/\k=0)\/(q=(3,0,0)/\k=1/\u[0]?=some f/\v[0]?=some t)\/
 (∃z:Int,2<=k/\u[k - 1]?=some z/\q=(4,Ab (alw left z),0)/\u[0]?=some f/\v[0]?=some t/\(∃y:Int,u[1]?=some y/\alw right y=true)/\Agr u v 1 k)\/
 (∃z y:Int,1<=k/\u[k - 1]?=some z/\u[0]?=some y/\q=(1,Ab (alw left z),Ab (alw right y))/\Agr u v 0 k)\/
 (∃(j:Nat) (y:Int),k=j+1/\Xe u v f t left j/\u[0]?=some y/\q=(2,Ab (alw right y),0))\/
 (∃j:Nat,j+2<=k/\Xe u v f t left j/\(∃y:Int,u[j+1]?=some y/\alw right y=true)/\Agr u v (j+1) k/\q=(5,0,0))
theorem nm2 {a b c d e f:Nat} (h:((a,b,c):Nme)=(d,e,f)):a=d/\b=e/\c=f:=by
 injection h with h1 h
 injection h with C E
 exact⟨h1,C,E⟩
theorem WQ {L:Nat} {f t:Int} {left right:List Int} {u v:List Int} (hu:Let L u):∀{k:Nat} {q:Nme},k<=u.length->((Wl L f t left right).At u v k q↔WV u v f t left right k q)
 | 0,q,_=>by
  show q∈(Wl L f t left right).st↔_
  rw [WI.1,List.mem_singleton];unfold WV;constructor
  ·exact fun h=>.inl ⟨h,rfl⟩
  ·rintro(⟨h,-⟩|⟨-,h,-⟩|⟨z,h,-⟩|⟨z,y,h,-⟩|⟨j,y,h,-⟩|⟨j,h,-⟩)
   ·exact h
   all_goals omega
 | k+1,q,hk=>by
  have M:=fun q=>WQ (f:=f) (t:=t) (left:=left) (right:=right) (v:=v) hu (k:=k) (q:=q) (by omega);show(∃m∈(Wl L f t left right).mv,(Wl L f t left right).At u v k m.1/\u[k]?=some m.2.1/\v[k]?=some m.2.2.1/\m.2.2.2=q)↔_
  constructor
  ·rintro⟨m,hm,hA,h1,O,rfl⟩;rw [M] at hA;rw [WI.2.2] at hm;unfold WV at hA;rcases hm with⟨z,J,rfl⟩|rfl|⟨z,J,ha,rfl⟩|⟨i,z,hi,J,rfl⟩|⟨z,J,rfl⟩|⟨r,hr,⟨i,z,hi,J,rfl⟩|rfl|⟨z,J,ha,rfl⟩⟩
   all_goals
    rcases hA with⟨e,E⟩|⟨e,E,c1,c2⟩|⟨x,E,W,e,c1,c2,c3,C⟩|⟨x,y,E,W,I,e,C⟩|⟨j,y,E,G,I,e⟩|⟨j,E,G,c3,C,e⟩
    all_goals
     obtain⟨e1,e2,e3⟩:=nm2 e;first
     | (exfalso;omega)
     | skip
   ·exact .inr (.inr (.inr (.inr (.inr ⟨j,by omega,G,c3,C.snoc (h1.trans O.symm),rfl⟩))))
   ·subst E;exact .inr (.inl ⟨rfl,rfl,h1,O⟩)
   ·subst E;exact .inr (.inr (.inl ⟨_,by omega,h1,rfl,c1,c2,⟨_,h1,ha⟩,(Agr.nil u v 1).snoc (h1.trans O.symm)⟩))
   ·exact .inr (.inr (.inl ⟨_,by omega,h1,rfl,c1,c2,c3,C.snoc (h1.trans O.symm)⟩))
   ·subst E;exact .inr (.inr (.inr (.inl ⟨_,_,by omega,h1,h1,rfl,(Agr.nil u v 0).snoc (h1.trans O.symm)⟩)))
   ·subst e3;exact .inr (.inr (.inr (.inl ⟨_,y,by omega,h1,I,rfl,C.snoc (h1.trans O.symm)⟩)))
   ·subst e3;exact .inr (.inr (.inr (.inr (.inl ⟨k,y,rfl,⟨C,h1,O,E,x,W,W6.1 e2.symm⟩,I,rfl⟩))))
   ·subst E;exact .inr (.inr (.inr (.inr (.inr ⟨j,by omega,G,⟨_,h1,ha⟩,(Agr.nil u v _).snoc (h1.trans O.symm),rfl⟩))))
  ·obtain⟨z,J,F⟩:=hu.nat (k:=k) (by omega);have U:=fun m=>(WI (L:=L) (f:=f) (t:=t) (left:=left) (right:=right)).2.2 m;unfold WV;rintro(⟨-,h⟩|⟨rfl,E,c1,c2⟩|⟨x,E,W,rfl,c1,c2,c3,C⟩|⟨x,y,E,W,I,rfl,C⟩|⟨j,y,E,G,I,rfl⟩|⟨j,E,G,c3,C,rfl⟩)
   ·omega
   ·obtain rfl:k=0:=by omega
    exact⟨((0,0,0),f,t,(3,0,0)),(U _).2 (.inr (.inl rfl)),(M _).2 (.inl ⟨rfl,rfl⟩),c1,c2,rfl⟩
   ·have a8:x=(z:Int):=Option.some.inj (W.symm.trans (by simpa using F));subst a8;have V:=(C.last (by omega)).symm.trans F;by_cases Z:k=1
    ·subst Z;obtain⟨y,I,a6⟩:=c3;have a3:y=(z:Int):=Option.some.inj (I.symm.trans F);subst a3;exact⟨((3,0,0),(z:Int),(z:Int),(4,Ab (alw left z),0)),(U _).2 (.inr (.inr (.inl ⟨z,J,a6,rfl⟩))),(M _).2 (.inr (.inl ⟨rfl,rfl,c1,c2⟩)),F,V,rfl⟩
    ·obtain⟨x,ag,a7⟩:=hu.nat (k:=k - 1) (by omega);exact⟨((4,Ab (alw left x),0),(z:Int),(z:Int),(4,Ab (alw left z),0)),(U _).2 (.inr (.inr (.inr (.inl ⟨_,z,Wp _,J,rfl⟩)))),(M _).2 (.inr (.inr (.inl ⟨x,by omega,a7,rfl,c1,c2,c3,C.pre⟩))),F,V,rfl⟩
   ·have a8:x=(z:Int):=Option.some.inj (W.symm.trans (by simpa using F));subst a8;have V:=(C.last (by omega)).symm.trans F;by_cases Z:k=0
    ·subst Z;have a3:y=(z:Int):=Option.some.inj (I.symm.trans F);subst a3;exact⟨((0,0,0),(z:Int),(z:Int),(1,Ab (alw left z),Ab (alw right z))),(U _).2 (.inr (.inr (.inr (.inr (.inl ⟨z,J,rfl⟩))))),(M _).2 (.inl ⟨rfl,rfl⟩),F,V,rfl⟩
    ·obtain⟨x,ag,a7⟩:=hu.nat (k:=k - 1) (by omega);exact⟨((1,Ab (alw left x),Ab (alw right y)),(z:Int),(z:Int),(1,Ab (alw left z),Ab (alw right y))),(U _).2 (.inr (.inr (.inr (.inr (.inr ⟨_,Wp _,.inl ⟨_,z,Wp _,J,rfl⟩⟩))))),(M _).2 (.inr (.inr (.inr (.inl ⟨x,y,by omega,a7,I,rfl,C.pre⟩)))),F,V,rfl⟩
   ·obtain rfl:k=j:=by omega
    obtain⟨x,W,ad⟩:=G.lft;exact⟨((1,1,Ab (alw right y)),f,t,(2,Ab (alw right y),0)),(U _).2 (.inr (.inr (.inr (.inr (.inr ⟨_,Wp _,.inr (.inl rfl)⟩))))),(M _).2 (.inr (.inr (.inr (.inl ⟨x,y,G.pos,W,I,by rw [ad];rfl,G.pre⟩)))),G.uj,G.vj,rfl⟩
   ·have V:=(C.last (by omega)).symm.trans F;by_cases Z:k=j+1
    ·subst Z;obtain⟨y,I,a6⟩:=c3;have a3:y=(z:Int):=Option.some.inj (I.symm.trans F);subst a3;obtain⟨w0,aj,af⟩:=hu.nat (k:=0) (by omega);exact⟨((2,Ab (alw right w0),0),(z:Int),(z:Int),(5,0,0)),(U _).2 (.inr (.inr (.inr (.inr (.inr ⟨_,Wp _,.inr (.inr ⟨z,J,a6,rfl⟩)⟩))))),(M _).2 (.inr (.inr (.inr (.inr (.inl ⟨j,w0,rfl,G,af,rfl⟩))))),F,V,rfl⟩
    ·exact⟨((5,0,0),(z:Int),(z:Int),(5,0,0)),(U _).2 (.inl ⟨z,J,rfl⟩),(M _).2 (.inr (.inr (.inr (.inr (.inr ⟨j,by omega,G,c3,C.pre,rfl⟩))))),F,V,rfl⟩
structure Ym (u v:List Int) (f t:Int) (left right:List Int) (i:Nat):Prop where
 ui:u[i]?=some f
 vi:v[i]?=some t
 rest:∀m,m≠i->u[m]?=v[m]?
 lft:∃z:Int,u[if i=0 then u.length - 1 else i - 1]?=some z/\alw left z=true
 rgt:∃z:Int,u[if i+1=u.length then 0 else i+1]?=some z/\alw right z=true
theorem aAu {L:Nat} {f t:Int} {left right:List Int} {u v:List Int} (hG:(Wl L f t left right).Good L) (J:Let L u) (hl:u.length=v.length):
  (Wl L f t left right).tr.rel u v=true↔∃i,Ym u v f t left right i:=by
 have W:∀m,u.length<=m->u[m]?=v[m]?:=fun m I=>by rw [List.getElem?_eq_none I,List.getElem?_eq_none (by omega)]
 have a9:∀{m:Nat} {z:Int},u[m]?=some z->m<u.length:=fun h=>(List.getElem?_eq_some_iff.1 h).1;rw [Drw.rel_iff hG hl];constructor
 ·rintro⟨q,hq,Z⟩;rw [WQ J (Nat.le_refl _)] at Z;unfold WV at Z;rcases WI.2.1 _ |>.1 hq with rfl|⟨a6,a7,rfl⟩|rfl|rfl
  all_goals
   rcases Z with⟨e,F⟩|⟨e,F,c1,c2⟩|⟨x,F,M,e,c1,c2,c3,O⟩|⟨x,y,F,M,G,e,O⟩|⟨j,y,F,C,G,e⟩|⟨j,F,C,c3,O,e⟩
   all_goals
    obtain⟨e1,e2,e3⟩:=nm2 e;first
    | (exfalso;omega)
    | skip
  ·refine⟨j,C.uj,C.vj,fun m I=>?_,?_,?_⟩
   ·rcases Nat.lt_or_ge m j with h|h
    ·exact C.pre m (by omega) h
    ·rcases Nat.lt_or_ge m u.length with E|E
     ·exact O m (by omega) E
     ·exact W m E
   ·rw [if_neg (by have:=C.pos;omega)];exact C.lft
   ·rw [if_neg (by omega)];exact c3
  ·refine⟨0,c1,c2,fun m I=>W m (by omega),?_,?_⟩
   ·rw [if_pos rfl,F];exact⟨f,c1,a6⟩
   ·rw [if_pos (by omega)];exact⟨f,c1,a7⟩
  ·refine⟨0,c1,c2,fun m I=>?_,?_,?_⟩
   ·rcases Nat.lt_or_ge m u.length with E|E
    ·exact O m (by omega) E
    ·exact W m E
   ·rw [if_pos rfl];exact⟨x,M,W6.1 e2.symm⟩
   ·rw [if_neg (by omega)];exact c3
  ·refine⟨j,C.uj,C.vj,fun m I=>?_,?_,?_⟩
   ·rcases Nat.lt_or_ge m j with h|h
    ·exact C.pre m (by omega) h
    ·exact W m (by omega)
   ·rw [if_neg (by have:=C.pos;omega)];exact C.lft
   ·rw [if_pos (by omega)];exact⟨y,G,W6.1 e2.symm⟩
 ·rintro⟨i,c1,c2,c3,U,c7⟩;have hi:=a9 c1;by_cases a4:i=0
  ·subst a4;rw [if_pos rfl] at U;obtain⟨x,M,a2⟩:=U;by_cases h1:0+1=u.length
   ·rw [if_pos h1] at c7;obtain⟨y,G,V⟩:=c7;have ad:y=f:=Option.some.inj (G.symm.trans c1);have ab:x=f:=Option.some.inj (M.symm.trans (by rw [show u.length - 1=0 by omega];exact c1));rw [ad] at V;rw [ab] at a2;exact⟨(3,0,0),(WI.2.1 _).2 (.inr (.inl ⟨a2,V,rfl⟩)),(WQ J (Nat.le_refl _)).2 (.inr (.inl ⟨rfl,h1.symm,c1,c2⟩))⟩
   ·rw [if_neg h1] at c7;exact⟨(4,1,0),(WI.2.1 _).2 (.inr (.inr (.inl rfl))),(WQ J (Nat.le_refl _)).2 (.inr (.inr (.inl ⟨x,by omega,M,by rw [a2];rfl,c1,c2,c7,fun m h _=>c3 m (by omega)⟩)))⟩
  ·rw [if_neg a4] at U;have C:Xe u v f t left i:=⟨fun m _ h=>c3 m (by omega),c1,c2,by omega,U⟩;by_cases h1:i+1=u.length
   ·rw [if_pos h1] at c7;obtain⟨y,G,V⟩:=c7;exact⟨(2,1,0),(WI.2.1 _).2 (.inr (.inr (.inr rfl))),(WQ J (Nat.le_refl _)).2 (.inr (.inr (.inr (.inr (.inl ⟨i,y,h1.symm,C,G,by rw [V];rfl⟩)))))⟩
   ·rw [if_neg h1] at c7;exact⟨(5,0,0),(WI.2.1 _).2 (.inl rfl),(WQ J (Nat.le_refl _)).2 (.inr (.inr (.inr (.inr (.inr ⟨i,by omega,C,c7,fun m h _=>c3 m (by omega),rfl⟩)))))⟩
end Go.Proofs.YtjejejmeddkciaaGreatDoor
namespace Go.Proofs.YtjejejmeddkciaaGreatDoor
open K (Am Az nameOK protE Ad orE BC BB inE)
def AN (ring:Bool) (n i:Nat):Int:=if i=0 then (if ring then (n:Int) - 1 else -1) else (i:Int) - 1
def Ar (ring:Bool) (n i:Nat):Int:=if i+1=n then (if ring then 0 else -1) else (i:Int)+1
def Sb (l d:List Int) (who:Int):Bool:=decide (d.length=0)||(decide (0<=who)&&match l[who.toNat]? with|some z=>decide (z∈d)|none=>false)
structure WU (topo:Int) (L:Nat) (r:Az):Prop where
 kind:r.kind=4\/r.kind=5
 rd:r.rd= -1
 wr:r.wr= -1
 send:r.send=[]
 parent:r.parent=[]
 at_:r.kind=4->topo=3->r.at_=0
 dir:r.kind=5->r.dir=1\/r.dir=2
theorem Xm {p:Am} (h:AC p=0) {i:Nat} {r:Az} (F:p.rules[i]?=some r):WU p.topo p.states.length r:=by
 obtain⟨h1,ht⟩:=Xb h;unfold protE at h1;simp only [AY] at h1;obtain⟨-,-,a3,a4,-,-,-,-,-,-,I,-⟩:=h1;have Z:=AP F;have c:=Xy.1 I i (List.mem_range.2 Z);unfold BB at c;rw [F] at c;unfold BC at c;simp only [AY] at c;obtain⟨-,J,-,-,-,-,-,-,-,-,-,-,-,M,-,O⟩:=c;have E:=(Gg (by decide)).1 J;have U:=(Gg (by decide)).1 M;have V:=(Gg (by decide)).1 O;have a2:p.topo≠1:=by omega
 have G:p.topo≠4:=by omega
 simp only [Bool.or_eq_false_iff] at E;obtain⟨⟨b1,b2⟩,b3⟩:=E;simp only [Bool.not_eq_false',Bool.and_eq_true,decide_eq_true_eq] at b1;have a7:¬r.kind<=3:=fun W=>by simp [a2,W] at b2
 have C:r.kind=4\/r.kind=5:=by omega
 unfold K.B9 at b3;rcases C with C|C
 ·simp [C,G] at b3 U;obtain⟨⟨⟨⟨⟨f1,f2,aa⟩,f3⟩,f4⟩,f5⟩,f7⟩:=b3;exact⟨.inl C,by simp_all,by simp_all,by simp_all,by simp_all,fun _ h3=>by simp_all,fun h=>by omega⟩
 ·simp [C,G] at b3 V;exact⟨.inr C,by simp_all,by simp_all,by simp_all,by simp_all,fun h=>by omega,fun _=>by omega⟩
structure EnR (topo:Int) (r:Az) (l:List Int) (i:Nat) (k:Int):Prop where
 lt:i<l.length
 fr:l[i]?=some r.fr
 pass:r.kind=5->0<=k/\k.toNat≠i/\l[k.toNat]?=some r.pf/\(r.dir=1->k=Ar (decide (topo=3)) l.length i)/\(r.dir=2->k=AN (decide (topo=3)) l.length i)
 loc:r.kind≠5->k= -1/\(r.at_=1->i=0)/\(r.at_=2->topo=2->Ar (decide (topo=3)) l.length i= -1)/\Sb l r.left (AN (decide (topo=3)) l.length i)=true/\Sb l r.right (Ar (decide (topo=3)) l.length i)=true
def AE (r:Az) (l:List Int) (i:Nat) (k:Int):List Int:=if r.kind=5 then (l.set k.toNat r.pt).set i r.to else l.set i r.to
theorem W5 {l d:List Int} {who:Int}:Sb l d who=true↔d.length=0\/(0<=who/\∃z:Int,l[who.toNat]?=some z/\z∈d):=by
 unfold Sb;rw [Bool.or_eq_true,Bool.and_eq_true,decide_eq_true_eq,decide_eq_true_eq];refine or_congr Iff.rfl (and_congr_right fun _=>?_);cases l[who.toNat]? <;> simp
theorem Xc {u v:List Int} {i:Nat} {b:Int} (C:i<u.length):(u.length=v.length/\v[i]?=some b/\∀m,m≠i->u[m]?=v[m]?)↔v=u.set i b:=by
 constructor
 ·rintro⟨G,h1,E⟩;refine List.ext_getElem? fun m=>?_;rw [List.getElem?_set];by_cases h:i=m
  ·subst h;rw [if_pos rfl,if_pos C,h1]
  ·rw [if_neg h,E m (fun e=>h e.symm)]
 ·rintro rfl;refine⟨by simp,by rw [List.getElem?_set,if_pos rfl,if_pos C],fun m F=>?_⟩;rw [List.getElem?_set,if_neg (fun e=>F e.symm)]
theorem Ye {u v:List Int} {i j:Nat} {b y:Int} (O:i≠j) (E:i<u.length) (F:j<u.length):(u.length=v.length/\v[i]?=some b/\v[j]?=some y/\∀m,m≠i->m≠j->u[m]?=v[m]?)↔v=(u.set j y).set i b:=by
 constructor
 ·rintro⟨U,h1,G,I⟩;refine List.ext_getElem? fun m=>?_;rw [List.getElem?_set,List.getElem?_set,List.length_set];by_cases h:i=m
  ·subst h;rw [if_pos rfl,if_pos E,h1]
  ·rw [if_neg h];by_cases C:j=m
   ·subst C;rw [if_pos rfl,if_pos F,G]
   ·rw [if_neg C,I m (fun e=>h e.symm) (fun e=>C e.symm)]
 ·rintro rfl;refine⟨by simp,by rw [List.getElem?_set,if_pos rfl,List.length_set,if_pos E],?_,fun m J M=>?_⟩
  ·rw [List.getElem?_set,if_neg O,List.getElem?_set,if_pos rfl,if_pos F]
  ·rw [List.getElem?_set,if_neg (fun e=>J e.symm),List.getElem?_set,if_neg (fun e=>M e.symm)]
theorem WL.iff {u v:List Int} {a b x y:Int} {i j:Nat} (M:u.length=v.length):WL u v a b x y i j↔i≠j/\u[i]?=some a/\u[j]?=some x/\v=(u.set j y).set i b:=by
 have F:∀{m:Nat} {z:Int},u[m]?=some z->m<u.length:=fun h=>(List.getElem?_eq_some_iff.1 h).1;constructor
 ·rintro⟨h1,C,G,E,I,J⟩;exact⟨h1,C,E,(Ye h1 (F C) (F E)).1 ⟨M,G,I,J⟩⟩
 ·rintro⟨h1,C,E,h⟩;obtain⟨-,G,I,J⟩:=(Ye h1 (F C) (F E)).2 h;exact⟨h1,C,G,E,I,J⟩
theorem Yd {u:List Int} {i j:Nat} {b y:Int} (h:i≠j):(u.set j y).set i b=(u.set i b).set j y:=List.set_comm _ _ (fun e=>h e.symm)
theorem Yc {p:Am} (h:AC p=0) {i:Nat} {r:Az} (hr:p.rules[i]?=some r) {u v:List Int} (hu:Let p.states.length u) (Z:u.length=v.length):
    (A0 p r).tr.rel u v=true↔∃(n:Nat) (k:Int),EnR p.topo r u n k/\v=AE r u n k:=by
  have U:=X3 h r (List.mem_of_getElem? hr);have hR:=Xm h hr;have ht:=(W2 h).topo;have a6:∀{m:Nat} {z:Int},u[m]?=some z->m<u.length:=fun h=>(List.getElem?_eq_some_iff.1 h).1;unfold A0 at U ⊢;by_cases F:r.kind=5
  · rw [if_pos F] at U ⊢
    have hd:=hR.dir F;by_cases h2:r.dir=2
    · rw [if_pos h2] at U ⊢
      rw [X1 U hu Z];constructor
      · rintro⟨a,b,hP,ai⟩
        obtain⟨c1,c2,c3,c4⟩:=(WL.iff Z).1 hP;refine⟨b,(a:Int),⟨a6 c3,c3,fun _=>⟨by omega,by simpa using c1,by simpa using c2,fun h=>by omega,fun _=>?_⟩,fun h=>absurd F h⟩,?_⟩
        · unfold AN
          rcases ai with rfl|⟨C,rfl,G⟩
          · rw [if_neg (by omega)];omega
          · rw [if_pos rfl,C];simp;omega
        · unfold AE
          rw [if_pos F,c4,Yd c1];simp
      · rintro⟨b,k,E,O⟩
        obtain⟨e0,e1,e2,-,M⟩:=E.pass F;have M:=M h2;unfold AE at O;rw [if_pos F] at O;refine⟨k.toNat,b,(WL.iff Z).2 ⟨e1,e2,E.fr,by rw [O,Yd e1]⟩,?_⟩;unfold AN at M;by_cases hb:b=0
        · rw [if_pos hb] at M
          by_cases C:p.topo=3
          · simp only [C,decide_true,if_true] at M
            exact .inr ⟨C,hb,by omega⟩
          · simp only [C,decide_false,Bool.false_eq_true,if_false] at M
            omega
        · rw [if_neg hb] at M
          exact .inl (by omega)
    · rw [if_neg h2] at U ⊢
      have h1:r.dir=1:=by omega
      rw [X1 U hu Z];constructor
      · rintro⟨a,b,hP,ai⟩
        obtain⟨c1,c2,c3,c4⟩:=(WL.iff Z).1 hP;have ha:=a6 c2;have hb:=a6 c3;refine⟨a,(b:Int),⟨a6 c2,c2,fun _=>⟨by omega,by simpa using fun e:b=a=>c1 e.symm,by simpa using c3,fun _=>?_,fun h=>by omega⟩,fun h=>absurd F h⟩,?_⟩
        · unfold Ar
          rcases ai with rfl|⟨C,rfl,G⟩
          · rw [if_neg (by omega)];omega
          · rw [if_pos G,C];simp
        · unfold AE
          rw [if_pos F,c4];simp
      · rintro⟨a,k,E,O⟩
        obtain⟨e0,e1,e2,J,-⟩:=E.pass F;have J:=J h1;unfold AE at O;rw [if_pos F] at O;refine⟨a,k.toNat,(WL.iff Z).2 ⟨fun e=>e1 e.symm,E.fr,e2,O⟩,?_⟩;unfold Ar at J;by_cases hb:a+1=u.length
        · rw [if_pos hb] at J
          by_cases C:p.topo=3
          · simp only [C,decide_true,if_true] at J
            exact .inr ⟨C,by omega,hb⟩
          · simp only [C,decide_false,Bool.false_eq_true,if_false] at J
            omega
        · rw [if_neg hb] at J
          exact .inl (by omega)
  · rw [if_neg F] at U ⊢
    have ho:∀n k,AE r u n k=u.set n r.to:=fun n k=>if_neg F;by_cases C:p.topo=3
    · rw [if_pos C] at U ⊢
      have al:=hR.at_ (by have:=hR.kind;omega) C;rw [aAu U hu Z];have aa:∀{n:Nat} {d:List Int},n<u.length->((∃z:Int,u[if n=0 then u.length - 1 else n - 1]?=some z/\alw d z=true)↔Sb u d (AN true u.length n)=true):=fun {n d} G=>by
        rw [W5];have e:(AN true u.length n).toNat=if n=0 then u.length - 1 else n - 1:=by unfold AN;split <;> simp <;> omega
        have e0:0<=AN true u.length n:=by unfold AN;split <;> simp <;> omega
        rw [e];have W:(if n=0 then u.length - 1 else n - 1)<u.length:=by split <;> omega
        constructor
        · rintro⟨z,I,ha⟩
          exact(Wx.1 ha).elim .inl fun V=>.inr ⟨e0,z,I,V⟩
        · rintro(V|⟨-,z,I,V⟩)
          · exact⟨_,List.getElem?_eq_getElem W,Wx.2 (.inl V)⟩
          · exact⟨z,I,Wx.2 (.inr V)⟩
      have ab:∀{n:Nat} {d:List Int},n<u.length->((∃z:Int,u[if n+1=u.length then 0 else n+1]?=some z/\alw d z=true)↔Sb u d (Ar true u.length n)=true):=fun {n d} G=>by
        rw [W5];have e:(Ar true u.length n).toNat=if n+1=u.length then 0 else n+1:=by
          unfold Ar;split
          · rfl
          · omega
        have e0:0<=Ar true u.length n:=by unfold Ar;split <;> (first|omega|simp)
        rw [e];have W:(if n+1=u.length then 0 else n+1)<u.length:=by split <;> omega
        constructor
        · rintro⟨z,I,ha⟩
          exact(Wx.1 ha).elim .inl fun V=>.inr ⟨e0,z,I,V⟩
        · rintro(V|⟨-,z,I,V⟩)
          · exact⟨_,List.getElem?_eq_getElem W,Wx.2 (.inl V)⟩
          · exact⟨z,I,Wx.2 (.inr V)⟩
      constructor
      · rintro⟨n,c1,c2,c3,c4,c5⟩
        have G:=a6 c1;refine⟨n,-1,⟨G,c1,fun h=>absurd h F,fun _=>⟨rfl,fun h=>by omega,fun h=>by omega,?_,?_⟩⟩,by rw [ho];exact(Xc G).1 ⟨Z,c2,c3⟩⟩
        · rw [C];exact(aa G).1 c4
        · rw [C];exact(ab G).1 c5
      · rintro⟨n,k,E,O⟩
        rw [ho] at O;obtain⟨-,-,-,J,M⟩:=E.loc F;rw [C] at J M;obtain⟨-,c2,c3⟩:=(Xc E.lt).2 O;exact⟨n,E.fr,c2,c3,(aa E.lt).2 J,(ab E.lt).2 M⟩
    · rw [if_neg C] at U ⊢
      have h2:p.topo=2:=by omega
      rw [ZK U hu Z];have aa:∀{n:Nat} {d:List Int},n<u.length->((d.length=0\/∃z:Int,1<=n/\u[n - 1]?=some z/\z∈d)↔Sb u d (AN false u.length n)=true):=fun {n d} G=>by
        rw [W5];refine or_congr Iff.rfl ?_;unfold AN;by_cases h0:n=0
        · rw [if_pos h0]
          simp [h0]
        · rw [if_neg h0,show((n:Int) - 1).toNat=n - 1 by omega]
          constructor
          · rintro⟨z,h1,I,W⟩
            exact⟨by omega,z,I,W⟩
          · rintro⟨h1,z,I,W⟩
            exact⟨z,by omega,I,W⟩
      have ab:∀{n:Nat} {d:List Int},n<u.length->((d.length=0\/∃z:Int,u[n+1]?=some z/\z∈d)↔Sb u d (Ar false u.length n)=true):=fun {n d} G=>by
        rw [W5];refine or_congr Iff.rfl ?_;unfold Ar;by_cases h0:n+1=u.length
        · rw [if_pos h0]
          simp [h0]
        · rw [if_neg h0,show((n:Int)+1).toNat=n+1 by omega]
          constructor
          · rintro⟨z,I,W⟩
            exact⟨by omega,z,I,W⟩
          · rintro⟨h1,z,I,W⟩
            exact⟨z,I,W⟩
      have hd:decide (p.topo=3)=false:=by simp [C]
      constructor
      · rintro⟨n,c1,c2,c3,c4,c5,c6,c7⟩
        have G:=a6 c1;refine⟨n,-1,⟨G,c1,fun h=>absurd h F,fun _=>⟨rfl,c4,fun h _=>?_,?_,?_⟩⟩,by rw [ho];exact(Xc G).1 ⟨Z,c2,c3⟩⟩
        · rw [hd];unfold Ar;rw [if_pos (c5 h)];rfl
        · rw [hd];exact(aa G).1 c6
        · rw [hd];exact(ab G).1 c7
      · rintro⟨n,k,E,O⟩
        rw [ho] at O;obtain⟨-,e1,e2,J,M⟩:=E.loc F;rw [hd] at e2 J M;obtain⟨-,c2,c3⟩:=(Xc E.lt).2 O;refine⟨n,E.fr,c2,c3,e1,fun h=>?_,(aa E.lt).2 J,(ab E.lt).2 M⟩;have:=e2 h h2;unfold Ar at this;by_cases h0:n+1=u.length
        · exact h0
        · rw [if_neg h0] at this;omega
end Go.Proofs.YtjejejmeddkciaaGreatDoor
