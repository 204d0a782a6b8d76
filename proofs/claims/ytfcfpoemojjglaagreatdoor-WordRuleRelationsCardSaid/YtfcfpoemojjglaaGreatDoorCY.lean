/-
  Part CY of a proof.
-/
import Derived.ProofKit
import Derived.Deep.Slices
import Derived.Deep.Fields
import Derived.ChangeArms
import Derived.Test.YtfcfpoemojjglaaGreatDoorPA
import Derived.Test.YtfcfpoemojjglaaGreatDoorCX
set_option maxHeartbeats 16000000
set_option maxRecDepth 100000
set_option linter.unusedVariables false
set_option linter.unusedSimpArgs false
namespace Go.Proofs.YtfcfpoemojjglaaGreatDoor.K
open Go.RowKit Go.ChangeShapes Go.WideShapes Go.Deep
section
variable {H:Type} {enc:TypeId×Value→H} {P:Program} {w:World} {base:Nat} {spare:Nat→Bool} {held:Bool}
theorem MP {w:World} {a:Addr} {v:Value} (h:w.cell? a=some v):a.block<w.heap.size:=by
 unfold World.cell? at h
 split at h
 ·rename_i hh
  exact(Array.getElem?_eq_some_iff.1 hh).1
 ·cases h
theorem IO (b off i:Nat):(⟨b,off,none⟩:Addr).add i=⟨b,off+i,none⟩:=by
 unfold Addr.add
 split <;> simp_all
theorem I7 {D:Type} {p:Nat→D→Prop}:∀n:Nat,(∀i,i<n→∃d,p i d)→∃l:List D,l.length=n∧∀(i:Nat) (d:D),l[i]?=some d→p i d
 | 0,_=>⟨[],rfl,fun i d h=>by simp at h⟩
 | n+1,h=>by
  obtain⟨l,E,F⟩:=I7 n fun i C=>h i (by omega)
  obtain⟨d,hd⟩:=h n (by omega)
  refine⟨l++[d],by simp [E],fun i x y=>?_⟩
  by_cases C:i<l.length
  ·rw [List.getElem?_append_left C] at y
   exact F i x y
  ·have h1:=AP y
   simp at h1
   obtain rfl:i=l.length:=by omega
   simp at y
   subst y
   rw [E]
   exact hd
theorem Sx {D:Type} {k:Nat} {R:List Value→D→Prop} {a:Addr} {len:Nat} (hk:0<k) (a3:len≤9223372036854775807)
  (h:∀i,i<len→∃d:D,∃cs:List Value,cs.length=k∧(∀(j:Nat) (u:Value),cs[j]?=some u→w.cell? (a.add (i*k+j))=some u)∧R cs d):
  ∃ds:List D,ds.length=len∧BR w w.heap.size k R (some a) ds:=by
 obtain⟨ds,M,hd⟩:=I7 len h
 refine⟨ds,M,by omega,fun O=>?_⟩
 obtain⟨b,off,Z⟩:=a
 have I:ds[0]?=some (ds[0]'(by cases ds; exact absurd rfl O; simp)):=List.getElem?_eq_getElem _
 obtain⟨x,a2,F,-⟩:=hd 0 _ I
 have C:x[0]?=some (x[0]'(by omega)):=List.getElem?_eq_getElem _
 have h0:=F 0 _ C
 have V:Z=none:=by simpa [Addr.add] using World.cell?_spot h0
 subst V
 have y:=MP h0
 rw [IO] at y
 refine⟨b,off,rfl,y,fun i d J=>?_⟩
 obtain⟨cs,G,E,U⟩:=hd i d J
 refine⟨cs,G,fun j u W=>?_,U⟩
 have:=E j u W
 rw [IO] at this
 rw [Nat.add_assoc]
 exact this
theorem GX {D:Type} {k:Nat} {en:D→Nat→Value} {A:Option Addr} {ds:List D} (h:BR w w.heap.size k (fun cs d=>∀j,j<k→cs[j]?=some (en d j)) A ds):Sl w w.heap.size k en A ds:=
 ⟨h.1,fun F=>by
  obtain⟨b,off,e,x,y⟩:=h.2 F
  refine⟨b,off,e,x,fun i d hd j E=>?_⟩
  obtain⟨cs,I,C,G⟩:=y i d hd
  exact C j _ (G j E)⟩
theorem Fr {t e k:Nat} (ht:P.underlying t=some (.slice e)) (F:P.cellsOf e=k) (hk:0<k) {D:Type} {R:List Value→D→Prop}
  (G:∀(n:Nat) (cs:List Value) (x:DataW H×List MemPlace),cs.length=k→DataW.trod enc P w base spare held n e cs=some x→∃d,R cs d)
  {fuel:Nat} {v:Value} {x:DataW H×List MemPlace} (h:DataW.trod enc P w base spare held fuel t [v]=some x):
  ∃A c,∃ds:List D,v=.slice A ds.length c∧BR w w.heap.size k R A ds∧ds.length≤c:=by
 rcases open_slice ht h with⟨h1,-⟩ | ⟨a,len,cap,m,n,D',Pl,h1,-,a5,M,V,-,C⟩
 ·injection h1 with h1 _
  subst h1
  exact⟨none,0,[],rfl,BR.nil rfl,Nat.le_refl _⟩
 ·injection h1 with h1 _
  subst h1
  rw [F] at C
  have a6:len≤m:=by rw [V]; split <;> omega
  obtain⟨ds,U,W⟩:=Sx (w:=w) (R:=R) (a:=a) (len:=len) (k:=k) hk (by unfold maxLen at M; omega) (fun i hi=>by
   obtain⟨cs,O,Z⟩:=C i (by omega)
   obtain⟨_,y,J⟩:=World.cells?_some O
   obtain⟨d,hd⟩:=G n cs _ y Z
   refine⟨d,cs,y,fun j u E=>?_,hd⟩
   have g:=J j (by rw [←y]; exact AP E)
   have I:(a.add (i*k)).add j=a.add (i*k+j):=Go.Deep.add_add ..
   rw [I] at g
   rw [g]
   exact E)
  exact⟨some a,cap,ds,by rw [U],W,by omega⟩
end
section
variable {H:Type} {enc:TypeId×Value→H} {w:World} {base:Nat} {spare:Nat→Bool} {held:Bool}
theorem JI {n:Nat} {cs:List Value} {x:DataW H×List MemPlace} (h:DataW.trod enc Tryz.prog w base spare held n 3 cs=some x):∃z:Int,cs=[.int .i64 z]:=by
 obtain⟨z,y,_⟩:=DataW.trod_int Tryz.underlying3 h
 exact⟨z,y⟩
theorem JJ {fuel:Nat} {v:Value} {x:DataW H×List MemPlace} (h:DataW.trod enc Tryz.prog w base spare held fuel 24 [v]=some x):∃A c,∃xs:List Int,v=.slice A xs.length c∧Sl w w.heap.size 1 Ai A xs:=by
 obtain⟨A,c,ds,C,y,_⟩:=Fr (D:=Int) (R:=fun cs z=>∀j,j<1→cs[j]?=some (Ai z j)) Tryz.underlying24 (k:=1) (by kernel_rfl) (by omega) (fun n cs x F ht=>by
  obtain⟨z,rfl⟩:=JI ht
  exact⟨z,fun j E=>by
   have:j=0:=by omega
   subst this
   rfl⟩) h
 exact⟨A,c,ds,C,GX y⟩
theorem Tq {fuel:Nat} {v:Value} {x:DataW H×List MemPlace} (h:DataW.trod enc Tryz.prog w base spare held fuel 22 [v]=some x):∃A c,∃xs:List ByteArray,v=.slice A xs.length c∧Sl w w.heap.size 1 BE A xs∧∀s∈xs,s.size≤9223372036854775807:=by
 obtain⟨A,c,ds,M,I,_⟩:=Fr (D:={ s:ByteArray // s.size≤9223372036854775807 }) (R:=fun cs z=>∀j,j<1→cs[j]?=some (BE z.1 j)) Tryz.underlying22 (k:=1) (by kernel_rfl) (by omega) (fun n cs x O ht=>by
  obtain⟨z,rfl,_,y⟩:=DataW.trod_string Tryz.underlying9 ht
  exact⟨⟨z,by unfold maxLen at y; omega⟩,fun j C=>by
   have:j=0:=by omega
   subst this
   rfl⟩) h
 refine⟨A,c,ds.map (·.1),by rw [List.length_map]; exact M,?_,fun s J=>?_⟩
 ·have h1:=GX (en:=fun(z:{ s:ByteArray // s.size≤9223372036854775807 }) j=>BE z.1 j) I
  refine⟨by rw [List.length_map]; exact h1.1,fun E=>?_⟩
  obtain⟨b,off,e,F,G⟩:=h1.2 (by intro e; rw [e] at E; exact E rfl)
  refine⟨b,off,e,F,fun k d hd j C=>?_⟩
  rw [List.getElem?_map] at hd
  cases y:ds[k]? with
  | none=>rw [y] at hd; cases hd
  | some z=>
   rw [y] at hd
   obtain rfl:=Option.some.inj hd
   exact G k z y j C
 ·obtain⟨z,_,rfl⟩:=List.mem_map.1 J
  exact z.2
theorem Cv {cs:List Value} {n i:Nat} {x:Option (DataW H×List MemPlace)} (h:DataW.trod enc Tryz.prog w base spare held n 3 ((cs.drop i).take 1)=x) (C:x.isSome=true):∃z:Int,cs[i]?=some (.int .i64 z):=by
 obtain⟨y,rfl⟩:=Option.isSome_iff_exists.1 C
 obtain⟨z,E⟩:=JI h
 refine⟨z,?_⟩
 have h1:((cs.drop i).take 1)[0]?=some (.int .i64 z):=by rw [E]; rfl
 rw [List.getElem?_take] at h1
 simpa using h1
theorem Fm {cs:List Value} {i:Nat} (h:i<cs.length):∃v,cs[i]?=some v∧(cs.drop i).take 1=[v]:=by
 refine⟨cs[i],List.getElem?_eq_getElem h,?_⟩
 rw [List.drop_eq_getElem_cons h]
 rfl
theorem Bh {A:Type} {xs:List A} {n k:Nat} (h:xs.length=n) (hk:k<n):(xs[k]?).isSome=true:=by
 rw [List.getElem?_eq_getElem (by omega)]
 rfl
theorem JV {n:Nat} {cs:List Value} {x:DataW H×List MemPlace} (h:DataW.trod enc Tryz.prog w base spare held n 202 cs=some x):∃l:Lin,∀j,j<4→cs[j]?=some (EG l j):=by
 obtain⟨xs,E,_,_,_,a2,y⟩:=DataW.trod_struct Tryz.underlying202 h
 have C:xs.length=4:=a2
 have W:Tryz.prog.cellsOf 3=1:=by kernel_rfl
 have F:DataW.trod enc Tryz.prog w base spare held E 3 ((cs.drop 0).take (Tryz.prog.cellsOf 3))=xs[0]?:=y 0 _ rfl
 have G:DataW.trod enc Tryz.prog w base spare held E 3 ((cs.drop 1).take (Tryz.prog.cellsOf 3))=xs[1]?:=y 1 _ rfl
 have I:DataW.trod enc Tryz.prog w base spare held E 3 ((cs.drop 2).take (Tryz.prog.cellsOf 3))=xs[2]?:=y 2 _ rfl
 have J:DataW.trod enc Tryz.prog w base spare held E 3 ((cs.drop 3).take (Tryz.prog.cellsOf 3))=xs[3]?:=y 3 _ rfl
 rw [W] at F G I J
 obtain⟨z0,M⟩:=Cv F (Bh C (by omega))
 obtain⟨z1,O⟩:=Cv G (Bh C (by omega))
 obtain⟨z2,U⟩:=Cv I (Bh C (by omega))
 obtain⟨z3,V⟩:=Cv J (Bh C (by omega))
 refine⟨⟨z0,z1,z2,z3⟩,fun j Z=>?_⟩
 match j,Z with
 | 0,_=>exact M
 | 1,_=>exact O
 | 2,_=>exact U
 | 3,_=>exact V
theorem QS {fuel:Nat} {v:Value} {x:DataW H×List MemPlace} (h:DataW.trod enc Tryz.prog w base spare held fuel 23 [v]=some x):∃A c,∃xs:List Lin,v=.slice A xs.length c∧Sl w w.heap.size 4 EG A xs:=by
 obtain⟨A,c,ds,C,y,_⟩:=Fr (D:=Lin) (R:=fun cs l=>∀j,j<4→cs[j]?=some (EG l j)) Tryz.underlying23 (k:=4) (by kernel_rfl) (by omega) (fun n cs x E ht=>JV ht) h
 exact⟨A,c,ds,C,GX y⟩
theorem TK {n:Nat} {cs:List Value} {x:DataW H×List MemPlace} (h:DataW.trod enc Tryz.prog w base spare held n 217 cs=some x):∃g:Thr,∀j,j<6→cs[j]?=some (CS g j):=by
 obtain⟨xs,I,_,_,_,a2,F⟩:=DataW.trod_struct Tryz.underlying217 h
 have G:xs.length=3:=a2
 have V:Tryz.prog.cellsOf 3=1:=by kernel_rfl
 have W:Tryz.prog.cellsOf 202=4:=by kernel_rfl
 have J:DataW.trod enc Tryz.prog w base spare held I 3 ((cs.drop 0).take (Tryz.prog.cellsOf 3))=xs[0]?:=F 0 _ rfl
 have M:DataW.trod enc Tryz.prog w base spare held I 3 ((cs.drop 1).take (Tryz.prog.cellsOf 3))=xs[1]?:=F 1 _ rfl
 have E:DataW.trod enc Tryz.prog w base spare held I 202 ((cs.drop 2).take (Tryz.prog.cellsOf 202))=xs[2]?:=F 2 _ rfl
 rw [V] at J M
 rw [W] at E
 obtain⟨z0,O⟩:=Cv J (Bh G (by omega))
 obtain⟨z1,U⟩:=Cv M (Bh G (by omega))
 obtain⟨y2,a3⟩:=Option.isSome_iff_exists.1 (Bh G (show 2<3 by omega))
 rw [a3] at E
 obtain⟨l,Z⟩:=JV E
 have y:∀j,j<4→cs[2+j]?=some (EG l j):=fun j C=>by
  have h1:=Z j C
  rw [List.getElem?_take,if_pos C,List.getElem?_drop] at h1
  exact h1
 refine⟨⟨z0,z1,l⟩,fun j C=>?_⟩
 match j,C with
 | 0,_=>exact O
 | 1,_=>exact U
 | 2,_=>exact y 0 (by omega)
 | 3,_=>exact y 1 (by omega)
 | 4,_=>exact y 2 (by omega)
 | 5,_=>exact y 3 (by omega)
theorem TM {fuel:Nat} {v:Value} {x:DataW H×List MemPlace} (h:DataW.trod enc Tryz.prog w base spare held fuel 97 [v]=some x):∃A c,∃xs:List Thr,v=.slice A xs.length c∧Sl w w.heap.size 6 CS A xs:=by
 obtain⟨A,c,ds,C,y,_⟩:=Fr (D:=Thr) (R:=fun cs l=>∀j,j<6→cs[j]?=some (CS l j)) Tryz.underlying97 (k:=6) (by kernel_rfl) (by omega) (fun n cs x E ht=>TK ht) h
 exact⟨A,c,ds,C,GX y⟩
theorem Dz {cs:List Value} {n i:Nat} {x:Option (DataW H×List MemPlace)} (h:DataW.trod enc Tryz.prog w base spare held n 24 ((cs.drop i).take 1)=x) (G:x.isSome=true) (C:i<cs.length):∃A c,∃xs:List Int,cs[i]?=some (.slice A xs.length c)∧Sl w w.heap.size 1 Ai A xs:=by
 obtain⟨y,rfl⟩:=Option.isSome_iff_exists.1 G
 obtain⟨v,F,h1⟩:=Fm C
 rw [h1] at h
 obtain⟨A,c,xs,rfl,E⟩:=JJ h
 exact⟨A,c,xs,F,E⟩
theorem TL {cs:List Value} {n i:Nat} {x:Option (DataW H×List MemPlace)} (h:DataW.trod enc Tryz.prog w base spare held n 97 ((cs.drop i).take 1)=x) (G:x.isSome=true) (C:i<cs.length):∃A c,∃xs:List Thr,cs[i]?=some (.slice A xs.length c)∧Sl w w.heap.size 6 CS A xs:=by
 obtain⟨y,rfl⟩:=Option.isSome_iff_exists.1 G
 obtain⟨v,F,h1⟩:=Fm C
 rw [h1] at h
 obtain⟨A,c,xs,rfl,E⟩:=TM h
 exact⟨A,c,xs,F,E⟩
theorem QR {cs:List Value} {n i:Nat} {x:Option (DataW H×List MemPlace)} (h:DataW.trod enc Tryz.prog w base spare held n 23 ((cs.drop i).take 1)=x) (G:x.isSome=true) (C:i<cs.length):∃A c,∃xs:List Lin,cs[i]?=some (.slice A xs.length c)∧Sl w w.heap.size 4 EG A xs:=by
 obtain⟨y,rfl⟩:=Option.isSome_iff_exists.1 G
 obtain⟨v,F,h1⟩:=Fm C
 rw [h1] at h
 obtain⟨A,c,xs,rfl,E⟩:=QS h
 exact⟨A,c,xs,F,E⟩
theorem Is {cs:List Value} {n i:Nat} {x:Option (DataW H×List MemPlace)} (h:DataW.trod enc Tryz.prog w base spare held n 22 ((cs.drop i).take 1)=x) (I:x.isSome=true) (E:i<cs.length):∃A c,∃xs:List ByteArray,cs[i]?=some (.slice A xs.length c)∧Sl w w.heap.size 1 BE A xs∧∀s∈xs,s.size≤9223372036854775807:=by
 obtain⟨y,rfl⟩:=Option.isSome_iff_exists.1 I
 obtain⟨v,G,h1⟩:=Fm E
 rw [h1] at h
 obtain⟨A,c,xs,rfl,F,C⟩:=Tq h
 exact⟨A,c,xs,G,F,C⟩
theorem Ir {cs:List Value} {n i:Nat} {x:Option (DataW H×List MemPlace)} (h:DataW.trod enc Tryz.prog w base spare held n 9 ((cs.drop i).take 1)=x) (E:x.isSome=true):∃z:ByteArray,cs[i]?=some (.string z)∧z.size≤9223372036854775807:=by
 obtain⟨y,rfl⟩:=Option.isSome_iff_exists.1 E
 obtain⟨z,F,_,C⟩:=DataW.trod_string Tryz.underlying9 h
 refine⟨z,?_,by unfold maxLen at C; omega⟩
 have h1:((cs.drop i).take 1)[0]?=some (.string z):=by rw [F]; rfl
 rw [List.getElem?_take] at h1
 simpa using h1
theorem SI {n:Nat} {cs:List Value} {x:DataW H×List MemPlace} (bh:cs.length=18) (h:DataW.trod enc Tryz.prog w base spare held n 99 cs=some x):∃r:Az,AW w w.heap.size cs r∧r.name.size≤9223372036854775807:=by
 obtain⟨xs,E,_,_,_,b8,y⟩:=DataW.trod_struct Tryz.underlying99 h
 have C:xs.length=18:=b8
 have F:Tryz.prog.cellsOf 3=1:=by kernel_rfl
 have b6:Tryz.prog.cellsOf 9=1:=by kernel_rfl
 have G:Tryz.prog.cellsOf 24=1:=by kernel_rfl
 have b5:Tryz.prog.cellsOf 97=1:=by kernel_rfl
 have f0:DataW.trod enc Tryz.prog w base spare held E 9 ((cs.drop 0).take (Tryz.prog.cellsOf 9))=xs[0]?:=y 0 _ rfl
 rw [b6] at f0
 obtain⟨z0,e0,b0⟩:=Ir f0 (Bh C (by omega))
 have f1:DataW.trod enc Tryz.prog w base spare held E 3 ((cs.drop 1).take (Tryz.prog.cellsOf 3))=xs[1]?:=y 1 _ rfl
 rw [F] at f1
 obtain⟨z1,e1⟩:=Cv f1 (Bh C (by omega))
 have f2:DataW.trod enc Tryz.prog w base spare held E 3 ((cs.drop 2).take (Tryz.prog.cellsOf 3))=xs[2]?:=y 2 _ rfl
 rw [F] at f2
 obtain⟨z2,e2⟩:=Cv f2 (Bh C (by omega))
 have f3:DataW.trod enc Tryz.prog w base spare held E 3 ((cs.drop 3).take (Tryz.prog.cellsOf 3))=xs[3]?:=y 3 _ rfl
 rw [F] at f3
 obtain⟨z3,e3⟩:=Cv f3 (Bh C (by omega))
 have f4:DataW.trod enc Tryz.prog w base spare held E 3 ((cs.drop 4).take (Tryz.prog.cellsOf 3))=xs[4]?:=y 4 _ rfl
 rw [F] at f4
 obtain⟨z4,e4⟩:=Cv f4 (Bh C (by omega))
 have f5:DataW.trod enc Tryz.prog w base spare held E 3 ((cs.drop 5).take (Tryz.prog.cellsOf 3))=xs[5]?:=y 5 _ rfl
 rw [F] at f5
 obtain⟨z5,e5⟩:=Cv f5 (Bh C (by omega))
 have f6:DataW.trod enc Tryz.prog w base spare held E 24 ((cs.drop 6).take (Tryz.prog.cellsOf 24))=xs[6]?:=y 6 _ rfl
 rw [G] at f6
 obtain⟨V,c6,z6,e6,s6⟩:=Dz f6 (Bh C (by omega)) (by omega)
 have f7:DataW.trod enc Tryz.prog w base spare held E 97 ((cs.drop 7).take (Tryz.prog.cellsOf 97))=xs[7]?:=y 7 _ rfl
 rw [b5] at f7
 obtain⟨A7,c7,z7,e7,s7⟩:=TL f7 (Bh C (by omega)) (by omega)
 have f8:DataW.trod enc Tryz.prog w base spare held E 24 ((cs.drop 8).take (Tryz.prog.cellsOf 24))=xs[8]?:=y 8 _ rfl
 rw [G] at f8
 obtain⟨W,c8,z8,e8,s8⟩:=Dz f8 (Bh C (by omega)) (by omega)
 have f9:DataW.trod enc Tryz.prog w base spare held E 24 ((cs.drop 9).take (Tryz.prog.cellsOf 24))=xs[9]?:=y 9 _ rfl
 rw [G] at f9
 obtain⟨Z,c9,z9,e9,s9⟩:=Dz f9 (Bh C (by omega)) (by omega)
 have ab:DataW.trod enc Tryz.prog w base spare held E 3 ((cs.drop 10).take (Tryz.prog.cellsOf 3))=xs[10]?:=y 10 _ rfl
 rw [F] at ab
 obtain⟨au,aO⟩:=Cv ab (Bh C (by omega))
 have ac:DataW.trod enc Tryz.prog w base spare held E 3 ((cs.drop 11).take (Tryz.prog.cellsOf 3))=xs[11]?:=y 11 _ rfl
 rw [F] at ac
 obtain⟨av,aP⟩:=Cv ac (Bh C (by omega))
 have ad:DataW.trod enc Tryz.prog w base spare held E 24 ((cs.drop 12).take (Tryz.prog.cellsOf 24))=xs[12]?:=y 12 _ rfl
 rw [G] at ad
 obtain⟨J,a2,aw,aQ,b9⟩:=Dz ad (Bh C (by omega)) (by omega)
 have ae:DataW.trod enc Tryz.prog w base spare held E 3 ((cs.drop 13).take (Tryz.prog.cellsOf 3))=xs[13]?:=y 13 _ rfl
 rw [F] at ae
 obtain⟨ax,aR⟩:=Cv ae (Bh C (by omega))
 have af:DataW.trod enc Tryz.prog w base spare held E 24 ((cs.drop 14).take (Tryz.prog.cellsOf 24))=xs[14]?:=y 14 _ rfl
 rw [G] at af
 obtain⟨M,a3,ay,aS,ba⟩:=Dz af (Bh C (by omega)) (by omega)
 have ag:DataW.trod enc Tryz.prog w base spare held E 24 ((cs.drop 15).take (Tryz.prog.cellsOf 24))=xs[15]?:=y 15 _ rfl
 rw [G] at ag
 obtain⟨O,a4,az,aT,bb⟩:=Dz ag (Bh C (by omega)) (by omega)
 have ah:DataW.trod enc Tryz.prog w base spare held E 24 ((cs.drop 16).take (Tryz.prog.cellsOf 24))=xs[16]?:=y 16 _ rfl
 rw [G] at ah
 obtain⟨U,a5,aA,aU,bc⟩:=Dz ah (Bh C (by omega)) (by omega)
 have ai:DataW.trod enc Tryz.prog w base spare held E 3 ((cs.drop 17).take (Tryz.prog.cellsOf 3))=xs[17]?:=y 17 _ rfl
 rw [F] at ai
 obtain⟨aB,aV⟩:=Cv ai (Bh C (by omega))
 have b7:cs=[.string z0,.int .i64 z1,.int .i64 z2,.int .i64 z3,.int .i64 z4,.int .i64 z5,.slice V z6.length c6,.slice A7 z7.length c7,.slice W z8.length c8,.slice Z z9.length c9,.int .i64 au,.int .i64 av,.slice J aw.length a2,.int .i64 ax,.slice M ay.length a3,.slice O az.length a4,.slice U aA.length a5,.int .i64 aB]:=by
  apply List.ext_getElem?
  intro j
  by_cases I:j<18
  ·match j,I with
   | 0,_=>exact e0
   | 1,_=>exact e1
   | 2,_=>exact e2
   | 3,_=>exact e3
   | 4,_=>exact e4
   | 5,_=>exact e5
   | 6,_=>exact e6
   | 7,_=>exact e7
   | 8,_=>exact e8
   | 9,_=>exact e9
   | 10,_=>exact aO
   | 11,_=>exact aP
   | 12,_=>exact aQ
   | 13,_=>exact aR
   | 14,_=>exact aS
   | 15,_=>exact aT
   | 16,_=>exact aU
   | 17,_=>exact aV
   | k+18,I=>exact absurd I (by omega)
  ·rw [List.getElem?_eq_none (by omega),List.getElem?_eq_none (by simp; omega)]
 exact⟨⟨z0,z1,z2,z3,z4,z5,z6,z7,z8,z9,au,av,aw,ax,ay,az,aA,aB⟩,⟨V,c6,A7,c7,W,c8,Z,c9,J,a2,M,a3,O,a4,U,a5,b7,s6,s7,s8,s9,b9,ba,bb,bc⟩,b0⟩
theorem SK {fuel:Nat} {v:Value} {x:DataW H×List MemPlace} (h:DataW.trod enc Tryz.prog w base spare held fuel 25 [v]=some x):∃A c,∃xs:List Az,v=.slice A xs.length c∧BR w w.heap.size 18 (AW w w.heap.size) A xs∧xs.length≤c∧∀r∈xs,r.name.size≤9223372036854775807:=by
 obtain⟨A,c,ds,U,E,I⟩:=Fr (D:={ r:Az // r.name.size≤9223372036854775807 }) (R:=fun cs l=>AW w w.heap.size cs l.1) Tryz.underlying25 (k:=18) (by kernel_rfl) (by omega) (fun n cs x M ht=>by
  obtain⟨r,h1,F⟩:=SI M ht
  exact⟨⟨r,F⟩,h1⟩) h
 refine⟨A,c,ds.map (·.1),by rw [List.length_map]; exact U,⟨by rw [List.length_map]; exact E.1,fun C=>?_⟩,by rw [List.length_map]; exact I,fun r O=>?_⟩
 ·obtain⟨b,off,e,G,J⟩:=E.2 (by intro e; rw [e] at C; exact C rfl)
  refine⟨b,off,e,G,fun i d hd=>?_⟩
  rw [List.getElem?_map] at hd
  cases y:ds[i]? with
  | none=>rw [y] at hd; cases hd
  | some z=>
   rw [y] at hd
   obtain rfl:=Option.some.inj hd
   exact J i z y
 ·obtain⟨z,_,rfl⟩:=List.mem_map.1 O
  exact z.2
theorem SJ {cs:List Value} {n i:Nat} {x:Option (DataW H×List MemPlace)} (h:DataW.trod enc Tryz.prog w base spare held n 25 ((cs.drop i).take 1)=x) (I:x.isSome=true) (E:i<cs.length):∃A c,∃xs:List Az,cs[i]?=some (.slice A xs.length c)∧BR w w.heap.size 18 (AW w w.heap.size) A xs∧xs.length≤c∧∀r∈xs,r.name.size≤9223372036854775807:=by
 obtain⟨y,rfl⟩:=Option.isSome_iff_exists.1 I
 obtain⟨v,G,h1⟩:=Fm E
 rw [h1] at h
 obtain⟨A,c,xs,rfl,F,C⟩:=SK h
 exact⟨A,c,xs,G,F,C⟩
theorem RF {n:Nat} {cs:List Value} {x:DataW H×List MemPlace} (aN:cs.length=10) (h:DataW.trod enc Tryz.prog w base spare held n 27 cs=some x):∃p:Am,At w w.heap.size cs p∧p.Fits:=by
 obtain⟨xs,E,_,_,_,aE,y⟩:=DataW.trod_struct Tryz.underlying27 h
 have C:xs.length=10:=aE
 have ae:Tryz.prog.cellsOf 3=1:=by kernel_rfl
 have aC:Tryz.prog.cellsOf 9=1:=by kernel_rfl
 have G:Tryz.prog.cellsOf 22=1:=by kernel_rfl
 have aA:Tryz.prog.cellsOf 23=1:=by kernel_rfl
 have ad:Tryz.prog.cellsOf 24=1:=by kernel_rfl
 have aB:Tryz.prog.cellsOf 25=1:=by kernel_rfl
 have f0:DataW.trod enc Tryz.prog w base spare held E 9 ((cs.drop 0).take (Tryz.prog.cellsOf 9))=xs[0]?:=y 0 _ rfl
 rw [aC] at f0
 obtain⟨z0,e0,b0⟩:=Ir f0 (Bh C (by omega))
 have f1:DataW.trod enc Tryz.prog w base spare held E 3 ((cs.drop 1).take (Tryz.prog.cellsOf 3))=xs[1]?:=y 1 _ rfl
 rw [ae] at f1
 obtain⟨z1,e1⟩:=Cv f1 (Bh C (by omega))
 have f2:DataW.trod enc Tryz.prog w base spare held E 22 ((cs.drop 2).take (Tryz.prog.cellsOf 22))=xs[2]?:=y 2 _ rfl
 rw [G] at f2
 obtain⟨A2,c2,z2,e2,s2,b2⟩:=Is f2 (Bh C (by omega)) (by omega)
 have f3:DataW.trod enc Tryz.prog w base spare held E 22 ((cs.drop 3).take (Tryz.prog.cellsOf 22))=xs[3]?:=y 3 _ rfl
 rw [G] at f3
 obtain⟨A3,c3,z3,e3,s3,b3⟩:=Is f3 (Bh C (by omega)) (by omega)
 have f4:DataW.trod enc Tryz.prog w base spare held E 22 ((cs.drop 4).take (Tryz.prog.cellsOf 22))=xs[4]?:=y 4 _ rfl
 rw [G] at f4
 obtain⟨J,W,z4,e4,s4,b4⟩:=Is f4 (Bh C (by omega)) (by omega)
 have f5:DataW.trod enc Tryz.prog w base spare held E 3 ((cs.drop 5).take (Tryz.prog.cellsOf 3))=xs[5]?:=y 5 _ rfl
 rw [ae] at f5
 obtain⟨z5,e5⟩:=Cv f5 (Bh C (by omega))
 have f6:DataW.trod enc Tryz.prog w base spare held E 23 ((cs.drop 6).take (Tryz.prog.cellsOf 23))=xs[6]?:=y 6 _ rfl
 rw [aA] at f6
 obtain⟨M,Z,z6,e6,s6⟩:=QR f6 (Bh C (by omega)) (by omega)
 have f7:DataW.trod enc Tryz.prog w base spare held E 24 ((cs.drop 7).take (Tryz.prog.cellsOf 24))=xs[7]?:=y 7 _ rfl
 rw [ad] at f7
 obtain⟨A7,c7,z7,e7,s7⟩:=Dz f7 (Bh C (by omega)) (by omega)
 have f8:DataW.trod enc Tryz.prog w base spare held E 24 ((cs.drop 8).take (Tryz.prog.cellsOf 24))=xs[8]?:=y 8 _ rfl
 rw [ad] at f8
 obtain⟨O,c8,z8,e8,s8⟩:=Dz f8 (Bh C (by omega)) (by omega)
 have f9:DataW.trod enc Tryz.prog w base spare held E 25 ((cs.drop 9).take (Tryz.prog.cellsOf 25))=xs[9]?:=y 9 _ rfl
 rw [aB] at f9
 obtain⟨U,c9,z9,e9,s9,V⟩:=SJ f9 (Bh C (by omega)) (by omega)
 have aD:cs=[.string z0,.int .i64 z1,.slice A2 z2.length c2,.slice A3 z3.length c3,.slice J z4.length W,.int .i64 z5,.slice M z6.length Z,.slice A7 z7.length c7,.slice O z8.length c8,.slice U z9.length c9]:=by
  apply List.ext_getElem?
  intro j
  by_cases I:j<10
  ·match j,I with
   | 0,_=>exact e0
   | 1,_=>exact e1
   | 2,_=>exact e2
   | 3,_=>exact e3
   | 4,_=>exact e4
   | 5,_=>exact e5
   | 6,_=>exact e6
   | 7,_=>exact e7
   | 8,_=>exact e8
   | 9,_=>exact e9
   | k+10,I=>exact absurd I (by omega)
  ·rw [List.getElem?_eq_none (by omega),List.getElem?_eq_none (by simp; omega)]
 refine⟨⟨z0,z1,z2,z3,z4,z5,z6,z7,z8,z9⟩,⟨A2,c2,A3,c3,J,W,M,Z,A7,c7,O,c8,U,c9,aD,s2,s3,s4,s6,s7,s8,s9,V.1⟩,⟨b0,fun x F=>?_,V.2⟩⟩
 simp only [Bd,List.mem_append] at F
 rcases F with(F | F) | F
 ·exact b2 x F
 ·exact b3 x F
 ·exact b4 x F
end
end Go.Proofs.YtfcfpoemojjglaaGreatDoor.K
