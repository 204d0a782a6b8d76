/-
  Part CY of a proof.
-/
import Derived.ProofKit
import Derived.Deep.Slices
import Derived.Deep.Fields
import Derived.ChangeArms
import Derived.Test.YtjejejmeddkciaaGreatDoorPA
import Derived.Test.YtjejejmeddkciaaGreatDoorCX
set_option maxHeartbeats 16000000
set_option maxRecDepth 100000
set_option linter.unusedVariables false
set_option linter.unusedSimpArgs false
namespace Go.Proofs.YtjejejmeddkciaaGreatDoor.K
open Go.RowKit Go.ChangeShapes Go.WideShapes Go.Deep
section
variable {H:Type} {enc:TypeId×Value->H} {P:Program} {w:World} {base:Nat} {spare:Nat->Bool} {held:Bool}
theorem MP {w:World} {a:Addr} {v:Value} (h:w.cell? a=some v):a.block<w.heap.size:=by
 unfold World.cell? at h;split at h
 ·rename_i hh;exact(Array.getElem?_eq_some_iff.1 hh).1
 ·cases h
theorem IO (b off i:Nat):(⟨b,off,none⟩:Addr).add i=⟨b,off+i,none⟩:=by
 unfold Addr.add;split <;> simp_all
theorem I7 {D:Type} {p:Nat->D->Prop}:∀n:Nat,(∀i,i<n->∃d,p i d)->∃l:List D,l.length=n/\∀(i:Nat) (d:D),l[i]?=some d->p i d
 | 0,_=>⟨[],rfl,fun i d h=>by simp at h⟩
 | n+1,h=>by
  obtain⟨l,F,I⟩:=I7 n fun i E=>h i (by omega);obtain⟨d,G⟩:=h n (by omega);refine⟨l++[d],by simp [F],fun i x C=>?_⟩;by_cases E:i<l.length
  ·rw [List.getElem?_append_left E] at C;exact I i x C
  ·have h1:=AP C;simp at h1;obtain rfl:i=l.length:=by omega
   simp at C;subst C;rw [F];exact G
theorem Sx {D:Type} {k:Nat} {R:List Value->D->Prop} {a:Addr} {len:Nat} (hk:0<k) (a7:len<=9223372036854775807)
  (h:∀i,i<len->∃d:D,∃cs:List Value,cs.length=k/\(∀(j:Nat) (u:Value),cs[j]?=some u->w.cell? (a.add (i*k+j))=some u)/\R cs d):
  ∃ds:List D,ds.length=len/\BR w w.heap.size k R (some a) ds:=by
 obtain⟨ds,V,F⟩:=I7 len h;refine⟨ds,V,by omega,fun W=>?_⟩;obtain⟨b,off,a4⟩:=a;have O:ds[0]?=some (ds[0]'(by cases ds;exact absurd rfl W;simp)):=List.getElem?_eq_getElem _;obtain⟨C,a5,J,-⟩:=F 0 _ O;have G:C[0]?=some (C[0]'(by omega)):=List.getElem?_eq_getElem _;have h0:=J 0 _ G;have a2:a4=none:=by simpa [Addr.add] using World.cell?_spot h0
 subst a2;have E:=MP h0;rw [IO] at E;refine⟨b,off,rfl,E,fun i d U=>?_⟩;obtain⟨cs,M,I,Z⟩:=F i d U;refine⟨cs,M,fun j u hu=>?_,Z⟩;have:=I j u hu;rw [IO] at this;rw [Nat.add_assoc];exact this
theorem GX {D:Type} {k:Nat} {en:D->Nat->Value} {A:Option Addr} {ds:List D} (h:BR w w.heap.size k (fun cs d=>∀j,j<k->cs[j]?=some (en d j)) A ds):Sl w w.heap.size k en A ds:=
 ⟨h.1,fun J=>by
  obtain⟨b,off,e,C,E⟩:=h.2 J;refine⟨b,off,e,C,fun i d G j I=>?_⟩;obtain⟨cs,O,F,M⟩:=E i d G;exact F j _ (M j I)⟩
theorem Fr {t e k:Nat} (ht:P.underlying t=some (.slice e)) (G:P.cellsOf e=k) (W:0<k) {D:Type} {R:List Value->D->Prop}
  (I:∀(n:Nat) (cs:List Value) (x:DataW H×List MemPlace),cs.length=k->DataW.trod enc P w base spare held n e cs=some x->∃d,R cs d)
  {fuel:Nat} {v:Value} {x:DataW H×List MemPlace} (h:DataW.trod enc P w base spare held fuel t [v]=some x):
  ∃A c,∃ds:List D,v=.slice A ds.length c/\BR w w.heap.size k R A ds/\ds.length<=c:=by
 rcases open_slice ht h with⟨h1,-⟩|⟨a,len,cap,m,n,D',Pl,h1,-,a8,O,hm,-,E⟩
 ·injection h1 with h1 _
  subst h1;exact⟨none,0,[],rfl,BR.nil rfl,Nat.le_refl _⟩
 ·injection h1 with h1 _
  subst h1;rw [G] at E;have a9:len<=m:=by rw [hm];split <;> omega
  obtain⟨ds,Z,hs⟩:=Sx (w:=w) (R:=R) (a:=a) (len:=len) (k:=k) W (by unfold maxLen at O;omega) (fun i hi=>by
   obtain⟨cs,U,a4⟩:=E i (by omega);obtain⟨_,C,M⟩:=World.cells?_some U;obtain⟨d,V⟩:=I n cs _ C a4;refine⟨d,cs,C,fun j u F=>?_,V⟩;have g:=M j (by rw [<-C];exact AP F);have J:(a.add (i*k)).add j=a.add (i*k+j):=Go.Deep.add_add ..;rw [J] at g;rw [g];exact F)
  exact⟨some a,cap,ds,by rw [Z],hs,by omega⟩
end
section
variable {H:Type} {enc:TypeId×Value->H} {w:World} {base:Nat} {spare:Nat->Bool} {held:Bool}
theorem JI {n:Nat} {cs:List Value} {x:DataW H×List MemPlace} (h:DataW.trod enc Tryz.prog w base spare held n 3 cs=some x):∃z:Int,cs=[.int .i64 z]:=by
 obtain⟨z,C,_⟩:=DataW.trod_int Tryz.underlying3 h;exact⟨z,C⟩
theorem JJ {fuel:Nat} {v:Value} {x:DataW H×List MemPlace} (h:DataW.trod enc Tryz.prog w base spare held fuel 24 [v]=some x):∃A c,∃xs:List Int,v=.slice A xs.length c/\Sl w w.heap.size 1 Ai A xs:=by
 obtain⟨A,c,ds,E,C,_⟩:=Fr (D:=Int) (R:=fun cs z=>∀j,j<1->cs[j]?=some (Ai z j)) Tryz.underlying24 (k:=1) (by kernel_rfl) (by omega) (fun n cs x G ht=>by
  obtain⟨z,rfl⟩:=JI ht;exact⟨z,fun j F=>by
   have:j=0:=by omega
   subst this;rfl⟩) h
 exact⟨A,c,ds,E,GX C⟩
theorem Tq {fuel:Nat} {v:Value} {x:DataW H×List MemPlace} (h:DataW.trod enc Tryz.prog w base spare held fuel 22 [v]=some x):∃A c,∃xs:List ByteArray,v=.slice A xs.length c/\Sl w w.heap.size 1 BE A xs/\∀s∈xs,s.size<=9223372036854775807:=by
 obtain⟨A,c,ds,U,M,_⟩:=Fr (D:={ s:ByteArray // s.size<=9223372036854775807 }) (R:=fun cs z=>∀j,j<1->cs[j]?=some (BE z.1 j)) Tryz.underlying22 (k:=1) (by kernel_rfl) (by omega) (fun n cs x V ht=>by
  obtain⟨z,rfl,_,E⟩:=DataW.trod_string Tryz.underlying9 ht;exact⟨⟨z,by unfold maxLen at E;omega⟩,fun j F=>by
   have:j=0:=by omega
   subst this;rfl⟩) h
 refine⟨A,c,ds.map (·.1),by rw [List.length_map];exact U,?_,fun s O=>?_⟩
 ·have h1:=GX (en:=fun(z:{ s:ByteArray // s.size<=9223372036854775807 }) j=>BE z.1 j) M;refine⟨by rw [List.length_map];exact h1.1,fun G=>?_⟩;obtain⟨b,off,e,I,J⟩:=h1.2 (by intro e;rw [e] at G;exact G rfl);refine⟨b,off,e,I,fun k d C j F=>?_⟩;rw [List.getElem?_map] at C;cases E:ds[k]? with
  | none=>rw [E] at C;cases C
  | some z=>
   rw [E] at C;obtain rfl:=Option.some.inj C;exact J k z E j F
 ·obtain⟨z,_,rfl⟩:=List.mem_map.1 O;exact z.2
theorem Cv {cs:List Value} {n i:Nat} {x:Option (DataW H×List MemPlace)} (h:DataW.trod enc Tryz.prog w base spare held n 3 ((cs.drop i).take 1)=x) (C:x.isSome=true):∃z:Int,cs[i]?=some (.int .i64 z):=by
 obtain⟨y,rfl⟩:=Option.isSome_iff_exists.1 C;obtain⟨z,E⟩:=JI h;refine⟨z,?_⟩;have h1:((cs.drop i).take 1)[0]?=some (.int .i64 z):=by rw [E];rfl
 rw [List.getElem?_take] at h1;simpa using h1
theorem Fm {cs:List Value} {i:Nat} (h:i<cs.length):∃v,cs[i]?=some v/\(cs.drop i).take 1=[v]:=by
 refine⟨cs[i],List.getElem?_eq_getElem h,?_⟩;rw [List.drop_eq_getElem_cons h];rfl
theorem Bh {A:Type} {xs:List A} {n k:Nat} (h:xs.length=n) (C:k<n):(xs[k]?).isSome=true:=by
 rw [List.getElem?_eq_getElem (by omega)];rfl
theorem JV {n:Nat} {cs:List Value} {x:DataW H×List MemPlace} (h:DataW.trod enc Tryz.prog w base spare held n 206 cs=some x):∃l:Lin,∀j,j<4->cs[j]?=some (EG l j):=by
 obtain⟨xs,F,_,_,_,a2,C⟩:=DataW.trod_struct Tryz.underlying206 h;have E:xs.length=4:=a2;have W:Tryz.prog.cellsOf 3=1:=by kernel_rfl
 have G:DataW.trod enc Tryz.prog w base spare held F 3 ((cs.drop 0).take (Tryz.prog.cellsOf 3))=xs[0]?:=C 0 _ rfl;have I:DataW.trod enc Tryz.prog w base spare held F 3 ((cs.drop 1).take (Tryz.prog.cellsOf 3))=xs[1]?:=C 1 _ rfl;have J:DataW.trod enc Tryz.prog w base spare held F 3 ((cs.drop 2).take (Tryz.prog.cellsOf 3))=xs[2]?:=C 2 _ rfl;have f3:DataW.trod enc Tryz.prog w base spare held F 3 ((cs.drop 3).take (Tryz.prog.cellsOf 3))=xs[3]?:=C 3 _ rfl;rw [W] at G I J f3;obtain⟨z0,M⟩:=Cv G (Bh E (by omega));obtain⟨z1,O⟩:=Cv I (Bh E (by omega));obtain⟨z2,U⟩:=Cv J (Bh E (by omega));obtain⟨z3,V⟩:=Cv f3 (Bh E (by omega));refine⟨⟨z0,z1,z2,z3⟩,fun j Z=>?_⟩
 match j,Z with
 | 0,_=>exact M
 | 1,_=>exact O
 | 2,_=>exact U
 | 3,_=>exact V
theorem QS {fuel:Nat} {v:Value} {x:DataW H×List MemPlace} (h:DataW.trod enc Tryz.prog w base spare held fuel 23 [v]=some x):∃A c,∃xs:List Lin,v=.slice A xs.length c/\Sl w w.heap.size 4 EG A xs:=by
 obtain⟨A,c,ds,E,C,_⟩:=Fr (D:=Lin) (R:=fun cs l=>∀j,j<4->cs[j]?=some (EG l j)) Tryz.underlying23 (k:=4) (by kernel_rfl) (by omega) (fun n cs x F ht=>JV ht) h;exact⟨A,c,ds,E,GX C⟩
theorem TK {n:Nat} {cs:List Value} {x:DataW H×List MemPlace} (h:DataW.trod enc Tryz.prog w base spare held n 208 cs=some x):∃g:Thr,∀j,j<6->cs[j]?=some (CS g j):=by
 obtain⟨xs,J,_,_,_,a3,G⟩:=DataW.trod_struct Tryz.underlying208 h;have I:xs.length=3:=a3;have W:Tryz.prog.cellsOf 3=1:=by kernel_rfl
 have Z:Tryz.prog.cellsOf 206=4:=by kernel_rfl
 have M:DataW.trod enc Tryz.prog w base spare held J 3 ((cs.drop 0).take (Tryz.prog.cellsOf 3))=xs[0]?:=G 0 _ rfl;have O:DataW.trod enc Tryz.prog w base spare held J 3 ((cs.drop 1).take (Tryz.prog.cellsOf 3))=xs[1]?:=G 1 _ rfl;have F:DataW.trod enc Tryz.prog w base spare held J 206 ((cs.drop 2).take (Tryz.prog.cellsOf 206))=xs[2]?:=G 2 _ rfl;rw [W] at M O;rw [Z] at F;obtain⟨z0,U⟩:=Cv M (Bh I (by omega));obtain⟨z1,V⟩:=Cv O (Bh I (by omega));obtain⟨y2,a4⟩:=Option.isSome_iff_exists.1 (Bh I (show 2<3 by omega));rw [a4] at F;obtain⟨l,a2⟩:=JV F;have C:∀j,j<4->cs[2+j]?=some (EG l j):=fun j E=>by
  have h1:=a2 j E;rw [List.getElem?_take,if_pos E,List.getElem?_drop] at h1;exact h1
 refine⟨⟨z0,z1,l⟩,fun j E=>?_⟩
 match j,E with
 | 0,_=>exact U
 | 1,_=>exact V
 | 2,_=>exact C 0 (by omega)
 | 3,_=>exact C 1 (by omega)
 | 4,_=>exact C 2 (by omega)
 | 5,_=>exact C 3 (by omega)
theorem TM {fuel:Nat} {v:Value} {x:DataW H×List MemPlace} (h:DataW.trod enc Tryz.prog w base spare held fuel 107 [v]=some x):∃A c,∃xs:List Thr,v=.slice A xs.length c/\Sl w w.heap.size 6 CS A xs:=by
 obtain⟨A,c,ds,E,C,_⟩:=Fr (D:=Thr) (R:=fun cs l=>∀j,j<6->cs[j]?=some (CS l j)) Tryz.underlying107 (k:=6) (by kernel_rfl) (by omega) (fun n cs x F ht=>TK ht) h;exact⟨A,c,ds,E,GX C⟩
theorem Dz {cs:List Value} {n i:Nat} {x:Option (DataW H×List MemPlace)} (h:DataW.trod enc Tryz.prog w base spare held n 24 ((cs.drop i).take 1)=x) (G:x.isSome=true) (C:i<cs.length):∃A c,∃xs:List Int,cs[i]?=some (.slice A xs.length c)/\Sl w w.heap.size 1 Ai A xs:=by
 obtain⟨y,rfl⟩:=Option.isSome_iff_exists.1 G;obtain⟨v,F,h1⟩:=Fm C;rw [h1] at h;obtain⟨A,c,xs,rfl,E⟩:=JJ h;exact⟨A,c,xs,F,E⟩
theorem TL {cs:List Value} {n i:Nat} {x:Option (DataW H×List MemPlace)} (h:DataW.trod enc Tryz.prog w base spare held n 107 ((cs.drop i).take 1)=x) (G:x.isSome=true) (C:i<cs.length):∃A c,∃xs:List Thr,cs[i]?=some (.slice A xs.length c)/\Sl w w.heap.size 6 CS A xs:=by
 obtain⟨y,rfl⟩:=Option.isSome_iff_exists.1 G;obtain⟨v,F,h1⟩:=Fm C;rw [h1] at h;obtain⟨A,c,xs,rfl,E⟩:=TM h;exact⟨A,c,xs,F,E⟩
theorem QR {cs:List Value} {n i:Nat} {x:Option (DataW H×List MemPlace)} (h:DataW.trod enc Tryz.prog w base spare held n 23 ((cs.drop i).take 1)=x) (G:x.isSome=true) (C:i<cs.length):∃A c,∃xs:List Lin,cs[i]?=some (.slice A xs.length c)/\Sl w w.heap.size 4 EG A xs:=by
 obtain⟨y,rfl⟩:=Option.isSome_iff_exists.1 G;obtain⟨v,F,h1⟩:=Fm C;rw [h1] at h;obtain⟨A,c,xs,rfl,E⟩:=QS h;exact⟨A,c,xs,F,E⟩
theorem Is {cs:List Value} {n i:Nat} {x:Option (DataW H×List MemPlace)} (h:DataW.trod enc Tryz.prog w base spare held n 22 ((cs.drop i).take 1)=x) (I:x.isSome=true) (E:i<cs.length):∃A c,∃xs:List ByteArray,cs[i]?=some (.slice A xs.length c)/\Sl w w.heap.size 1 BE A xs/\∀s∈xs,s.size<=9223372036854775807:=by
 obtain⟨y,rfl⟩:=Option.isSome_iff_exists.1 I;obtain⟨v,G,h1⟩:=Fm E;rw [h1] at h;obtain⟨A,c,xs,rfl,F,C⟩:=Tq h;exact⟨A,c,xs,G,F,C⟩
theorem Ir {cs:List Value} {n i:Nat} {x:Option (DataW H×List MemPlace)} (h:DataW.trod enc Tryz.prog w base spare held n 9 ((cs.drop i).take 1)=x) (E:x.isSome=true):∃z:ByteArray,cs[i]?=some (.string z)/\z.size<=9223372036854775807:=by
 obtain⟨y,rfl⟩:=Option.isSome_iff_exists.1 E;obtain⟨z,F,_,C⟩:=DataW.trod_string Tryz.underlying9 h;refine⟨z,?_,by unfold maxLen at C;omega⟩;have h1:((cs.drop i).take 1)[0]?=some (.string z):=by rw [F];rfl
 rw [List.getElem?_take] at h1;simpa using h1
theorem SI {n:Nat} {cs:List Value} {x:DataW H×List MemPlace} (bi:cs.length=18) (h:DataW.trod enc Tryz.prog w base spare held n 109 cs=some x):∃r:Az,AW w w.heap.size cs r/\r.name.size<=9223372036854775807:=by
 obtain⟨xs,F,_,_,_,b9,C⟩:=DataW.trod_struct Tryz.underlying109 h;have E:xs.length=18:=b9;have G:Tryz.prog.cellsOf 3=1:=by kernel_rfl
 have b7:Tryz.prog.cellsOf 9=1:=by kernel_rfl
 have I:Tryz.prog.cellsOf 24=1:=by kernel_rfl
 have b6:Tryz.prog.cellsOf 107=1:=by kernel_rfl
 have f0:DataW.trod enc Tryz.prog w base spare held F 9 ((cs.drop 0).take (Tryz.prog.cellsOf 9))=xs[0]?:=C 0 _ rfl;rw [b7] at f0;obtain⟨z0,e0,b0⟩:=Ir f0 (Bh E (by omega));have f1:DataW.trod enc Tryz.prog w base spare held F 3 ((cs.drop 1).take (Tryz.prog.cellsOf 3))=xs[1]?:=C 1 _ rfl;rw [G] at f1;obtain⟨z1,e1⟩:=Cv f1 (Bh E (by omega));have f2:DataW.trod enc Tryz.prog w base spare held F 3 ((cs.drop 2).take (Tryz.prog.cellsOf 3))=xs[2]?:=C 2 _ rfl;rw [G] at f2;obtain⟨z2,e2⟩:=Cv f2 (Bh E (by omega));have f3:DataW.trod enc Tryz.prog w base spare held F 3 ((cs.drop 3).take (Tryz.prog.cellsOf 3))=xs[3]?:=C 3 _ rfl;rw [G] at f3;obtain⟨z3,e3⟩:=Cv f3 (Bh E (by omega));have f4:DataW.trod enc Tryz.prog w base spare held F 3 ((cs.drop 4).take (Tryz.prog.cellsOf 3))=xs[4]?:=C 4 _ rfl;rw [G] at f4;obtain⟨z4,e4⟩:=Cv f4 (Bh E (by omega));have f5:DataW.trod enc Tryz.prog w base spare held F 3 ((cs.drop 5).take (Tryz.prog.cellsOf 3))=xs[5]?:=C 5 _ rfl;rw [G] at f5;obtain⟨z5,e5⟩:=Cv f5 (Bh E (by omega));have f6:DataW.trod enc Tryz.prog w base spare held F 24 ((cs.drop 6).take (Tryz.prog.cellsOf 24))=xs[6]?:=C 6 _ rfl;rw [I] at f6;obtain⟨W,c6,z6,e6,s6⟩:=Dz f6 (Bh E (by omega)) (by omega);have f7:DataW.trod enc Tryz.prog w base spare held F 107 ((cs.drop 7).take (Tryz.prog.cellsOf 107))=xs[7]?:=C 7 _ rfl;rw [b6] at f7;obtain⟨A7,c7,z7,e7,s7⟩:=TL f7 (Bh E (by omega)) (by omega);have f8:DataW.trod enc Tryz.prog w base spare held F 24 ((cs.drop 8).take (Tryz.prog.cellsOf 24))=xs[8]?:=C 8 _ rfl;rw [I] at f8;obtain⟨Z,c8,z8,e8,s8⟩:=Dz f8 (Bh E (by omega)) (by omega);have f9:DataW.trod enc Tryz.prog w base spare held F 24 ((cs.drop 9).take (Tryz.prog.cellsOf 24))=xs[9]?:=C 9 _ rfl;rw [I] at f9;obtain⟨A9,c9,z9,e9,s9⟩:=Dz f9 (Bh E (by omega)) (by omega);have ad:DataW.trod enc Tryz.prog w base spare held F 3 ((cs.drop 10).take (Tryz.prog.cellsOf 3))=xs[10]?:=C 10 _ rfl;rw [G] at ad;obtain⟨av,aN⟩:=Cv ad (Bh E (by omega));have ae:DataW.trod enc Tryz.prog w base spare held F 3 ((cs.drop 11).take (Tryz.prog.cellsOf 3))=xs[11]?:=C 11 _ rfl;rw [G] at ae;obtain⟨aw,aO⟩:=Cv ae (Bh E (by omega));have af:DataW.trod enc Tryz.prog w base spare held F 24 ((cs.drop 12).take (Tryz.prog.cellsOf 24))=xs[12]?:=C 12 _ rfl;rw [I] at af;obtain⟨M,a3,ax,aP,ba⟩:=Dz af (Bh E (by omega)) (by omega);have ag:DataW.trod enc Tryz.prog w base spare held F 3 ((cs.drop 13).take (Tryz.prog.cellsOf 3))=xs[13]?:=C 13 _ rfl;rw [G] at ag;obtain⟨ay,aQ⟩:=Cv ag (Bh E (by omega));have ah:DataW.trod enc Tryz.prog w base spare held F 24 ((cs.drop 14).take (Tryz.prog.cellsOf 24))=xs[14]?:=C 14 _ rfl;rw [I] at ah;obtain⟨O,a4,az,aR,bb⟩:=Dz ah (Bh E (by omega)) (by omega);have ai:DataW.trod enc Tryz.prog w base spare held F 24 ((cs.drop 15).take (Tryz.prog.cellsOf 24))=xs[15]?:=C 15 _ rfl;rw [I] at ai;obtain⟨U,a5,aA,aS,bc⟩:=Dz ai (Bh E (by omega)) (by omega);have aj:DataW.trod enc Tryz.prog w base spare held F 24 ((cs.drop 16).take (Tryz.prog.cellsOf 24))=xs[16]?:=C 16 _ rfl;rw [I] at aj;obtain⟨V,a6,aB,aT,bd⟩:=Dz aj (Bh E (by omega)) (by omega);have ak:DataW.trod enc Tryz.prog w base spare held F 3 ((cs.drop 17).take (Tryz.prog.cellsOf 3))=xs[17]?:=C 17 _ rfl;rw [G] at ak;obtain⟨aC,aU⟩:=Cv ak (Bh E (by omega));have b8:cs=[.string z0,.int .i64 z1,.int .i64 z2,.int .i64 z3,.int .i64 z4,.int .i64 z5,.slice W z6.length c6,.slice A7 z7.length c7,.slice Z z8.length c8,.slice A9 z9.length c9,.int .i64 av,.int .i64 aw,.slice M ax.length a3,.int .i64 ay,.slice O az.length a4,.slice U aA.length a5,.slice V aB.length a6,.int .i64 aC]:=by
  apply List.ext_getElem?;intro j;by_cases J:j<18
  ·match j,J with
   | 0,_=>exact e0
   | 1,_=>exact e1
   | 2,_=>exact e2
   | 3,_=>exact e3
   | 4,_=>exact e4
   | 5,_=>exact e5
   | 6,_=>exact e6
   | 7,_=>exact e7
   | 8,_=>exact e8
   | 9,_=>exact e9
   | 10,_=>exact aN
   | 11,_=>exact aO
   | 12,_=>exact aP
   | 13,_=>exact aQ
   | 14,_=>exact aR
   | 15,_=>exact aS
   | 16,_=>exact aT
   | 17,_=>exact aU
   | k+18,J=>exact absurd J (by omega)
  ·rw [List.getElem?_eq_none (by omega),List.getElem?_eq_none (by simp;omega)]
 exact⟨⟨z0,z1,z2,z3,z4,z5,z6,z7,z8,z9,av,aw,ax,ay,az,aA,aB,aC⟩,⟨W,c6,A7,c7,Z,c8,A9,c9,M,a3,O,a4,U,a5,V,a6,b8,s6,s7,s8,s9,ba,bb,bc,bd⟩,b0⟩
theorem SK {fuel:Nat} {v:Value} {x:DataW H×List MemPlace} (h:DataW.trod enc Tryz.prog w base spare held fuel 25 [v]=some x):∃A c,∃xs:List Az,v=.slice A xs.length c/\BR w w.heap.size 18 (AW w w.heap.size) A xs/\xs.length<=c/\∀r∈xs,r.name.size<=9223372036854775807:=by
 obtain⟨A,c,ds,W,G,M⟩:=Fr (D:={ r:Az // r.name.size<=9223372036854775807 }) (R:=fun cs l=>AW w w.heap.size cs l.1) Tryz.underlying25 (k:=18) (by kernel_rfl) (by omega) (fun n cs x U ht=>by
  obtain⟨r,h1,I⟩:=SI U ht;exact⟨⟨r,I⟩,h1⟩) h
 refine⟨A,c,ds.map (·.1),by rw [List.length_map];exact W,⟨by rw [List.length_map];exact G.1,fun F=>?_⟩,by rw [List.length_map];exact M,fun r V=>?_⟩
 ·obtain⟨b,off,e,J,O⟩:=G.2 (by intro e;rw [e] at F;exact F rfl);refine⟨b,off,e,J,fun i d C=>?_⟩;rw [List.getElem?_map] at C;cases E:ds[i]? with
  | none=>rw [E] at C;cases C
  | some z=>
   rw [E] at C;obtain rfl:=Option.some.inj C;exact O i z E
 ·obtain⟨z,_,rfl⟩:=List.mem_map.1 V;exact z.2
theorem M9 {n:Nat} {cs:List Value} {x:DataW H×List MemPlace} (a5:cs.length=2) (h:DataW.trod enc Tryz.prog w base spare held n 112 cs=some x):∃c:D9,Db w w.heap.size cs c:=by
 obtain⟨xs,O,_,_,_,a4,J⟩:=DataW.trod_struct Tryz.underlying112 h;have M:xs.length=2:=a4;have a2:Tryz.prog.cellsOf 3=1:=by kernel_rfl
 have Z:Tryz.prog.cellsOf 24=1:=by kernel_rfl
 have G:DataW.trod enc Tryz.prog w base spare held O 24 ((cs.drop 0).take (Tryz.prog.cellsOf 24))=xs[0]?:=J 0 _ rfl;rw [Z] at G;obtain⟨E,F,z0,V,s0⟩:=Dz G (Bh M (by omega)) (by omega);have I:DataW.trod enc Tryz.prog w base spare held O 3 ((cs.drop 1).take (Tryz.prog.cellsOf 3))=xs[1]?:=J 1 _ rfl;rw [a2] at I;obtain⟨U,W⟩:=Cv I (Bh M (by omega));have a3:cs=[.slice E z0.length F,.int .i64 U]:=by
  apply List.ext_getElem?;intro j;by_cases C:j<2
  ·match j,C with
   | 0,_=>exact V
   | 1,_=>exact W
   | k+2,C=>exact absurd C (by omega)
  ·rw [List.getElem?_eq_none (by omega),List.getElem?_eq_none (by simp;omega)]
 exact⟨⟨z0,U⟩,⟨E,F,a3,s0⟩⟩
theorem Nc {fuel:Nat} {v:Value} {x:DataW H×List MemPlace} (h:DataW.trod enc Tryz.prog w base spare held fuel 28 [v]=some x):∃A c,∃xs:List D9,v=.slice A xs.length c/\BR w w.heap.size 2 (Db w w.heap.size) A xs/\True:=by
 obtain⟨A,c,ds,F,E,_⟩:=Fr (D:=D9) (R:=Db w w.heap.size) Tryz.underlying28 (k:=2) (by kernel_rfl) (by omega) (fun n cs x C ht=>M9 C ht) h;exact⟨A,c,ds,F,E,trivial⟩
theorem SJ {cs:List Value} {n i:Nat} {x:Option (DataW H×List MemPlace)} (h:DataW.trod enc Tryz.prog w base spare held n 25 ((cs.drop i).take 1)=x) (I:x.isSome=true) (E:i<cs.length):∃A c,∃xs:List Az,cs[i]?=some (.slice A xs.length c)/\BR w w.heap.size 18 (AW w w.heap.size) A xs/\xs.length<=c/\∀r∈xs,r.name.size<=9223372036854775807:=by
 obtain⟨y,rfl⟩:=Option.isSome_iff_exists.1 I;obtain⟨v,G,h1⟩:=Fm E;rw [h1] at h;obtain⟨A,c,xs,rfl,F,C⟩:=SK h;exact⟨A,c,xs,G,F,C⟩
theorem Na {cs:List Value} {n i:Nat} {x:Option (DataW H×List MemPlace)} (h:DataW.trod enc Tryz.prog w base spare held n 28 ((cs.drop i).take 1)=x) (I:x.isSome=true) (E:i<cs.length):∃A c,∃xs:List D9,cs[i]?=some (.slice A xs.length c)/\BR w w.heap.size 2 (Db w w.heap.size) A xs/\True:=by
 obtain⟨y,rfl⟩:=Option.isSome_iff_exists.1 I;obtain⟨v,G,h1⟩:=Fm E;rw [h1] at h;obtain⟨A,c,xs,rfl,F,C⟩:=Nc h;exact⟨A,c,xs,G,F,C⟩
theorem RF {n:Nat} {cs:List Value} {x:DataW H×List MemPlace} (aP:cs.length=10) (h:DataW.trod enc Tryz.prog w base spare held n 27 cs=some x):∃p:Am,At w w.heap.size cs p/\p.Fits:=by
 obtain⟨xs,F,_,_,_,aG,C⟩:=DataW.trod_struct Tryz.underlying27 h;have E:xs.length=10:=aG;have ai:Tryz.prog.cellsOf 3=1:=by kernel_rfl
 have aE:Tryz.prog.cellsOf 9=1:=by kernel_rfl
 have I:Tryz.prog.cellsOf 22=1:=by kernel_rfl
 have aC:Tryz.prog.cellsOf 23=1:=by kernel_rfl
 have ah:Tryz.prog.cellsOf 24=1:=by kernel_rfl
 have aD:Tryz.prog.cellsOf 25=1:=by kernel_rfl
 have f0:DataW.trod enc Tryz.prog w base spare held F 9 ((cs.drop 0).take (Tryz.prog.cellsOf 9))=xs[0]?:=C 0 _ rfl;rw [aE] at f0;obtain⟨z0,e0,b0⟩:=Ir f0 (Bh E (by omega));have f1:DataW.trod enc Tryz.prog w base spare held F 3 ((cs.drop 1).take (Tryz.prog.cellsOf 3))=xs[1]?:=C 1 _ rfl;rw [ai] at f1;obtain⟨z1,e1⟩:=Cv f1 (Bh E (by omega));have f2:DataW.trod enc Tryz.prog w base spare held F 22 ((cs.drop 2).take (Tryz.prog.cellsOf 22))=xs[2]?:=C 2 _ rfl;rw [I] at f2;obtain⟨M,c2,z2,e2,s2,b2⟩:=Is f2 (Bh E (by omega)) (by omega);have f3:DataW.trod enc Tryz.prog w base spare held F 22 ((cs.drop 3).take (Tryz.prog.cellsOf 22))=xs[3]?:=C 3 _ rfl;rw [I] at f3;obtain⟨O,c3,z3,e3,s3,b3⟩:=Is f3 (Bh E (by omega)) (by omega);have f4:DataW.trod enc Tryz.prog w base spare held F 22 ((cs.drop 4).take (Tryz.prog.cellsOf 22))=xs[4]?:=C 4 _ rfl;rw [I] at f4;obtain⟨U,c4,z4,e4,s4,b4⟩:=Is f4 (Bh E (by omega)) (by omega);have f5:DataW.trod enc Tryz.prog w base spare held F 3 ((cs.drop 5).take (Tryz.prog.cellsOf 3))=xs[5]?:=C 5 _ rfl;rw [ai] at f5;obtain⟨z5,e5⟩:=Cv f5 (Bh E (by omega));have f6:DataW.trod enc Tryz.prog w base spare held F 23 ((cs.drop 6).take (Tryz.prog.cellsOf 23))=xs[6]?:=C 6 _ rfl;rw [aC] at f6;obtain⟨V,c6,z6,e6,s6⟩:=QR f6 (Bh E (by omega)) (by omega);have f7:DataW.trod enc Tryz.prog w base spare held F 24 ((cs.drop 7).take (Tryz.prog.cellsOf 24))=xs[7]?:=C 7 _ rfl;rw [ah] at f7;obtain⟨A7,c7,z7,e7,s7⟩:=Dz f7 (Bh E (by omega)) (by omega);have f8:DataW.trod enc Tryz.prog w base spare held F 24 ((cs.drop 8).take (Tryz.prog.cellsOf 24))=xs[8]?:=C 8 _ rfl;rw [ah] at f8;obtain⟨W,c8,z8,e8,s8⟩:=Dz f8 (Bh E (by omega)) (by omega);have f9:DataW.trod enc Tryz.prog w base spare held F 25 ((cs.drop 9).take (Tryz.prog.cellsOf 25))=xs[9]?:=C 9 _ rfl;rw [aD] at f9;obtain⟨Z,c9,z9,e9,s9,b9⟩:=SJ f9 (Bh E (by omega)) (by omega);have aF:cs=[.string z0,.int .i64 z1,.slice M z2.length c2,.slice O z3.length c3,.slice U z4.length c4,.int .i64 z5,.slice V z6.length c6,.slice A7 z7.length c7,.slice W z8.length c8,.slice Z z9.length c9]:=by
  apply List.ext_getElem?;intro j;by_cases J:j<10
  ·match j,J with
   | 0,_=>exact e0
   | 1,_=>exact e1
   | 2,_=>exact e2
   | 3,_=>exact e3
   | 4,_=>exact e4
   | 5,_=>exact e5
   | 6,_=>exact e6
   | 7,_=>exact e7
   | 8,_=>exact e8
   | 9,_=>exact e9
   | k+10,J=>exact absurd J (by omega)
  ·rw [List.getElem?_eq_none (by omega),List.getElem?_eq_none (by simp;omega)]
 refine⟨⟨z0,z1,z2,z3,z4,z5,z6,z7,z8,z9⟩,⟨M,c2,O,c3,U,c4,V,c6,A7,c7,W,c8,Z,c9,aF,s2,s3,s4,s6,s7,s8,s9,b9.1⟩,⟨b0,fun x G=>?_,b9.2⟩⟩;simp only [Bd,List.mem_append] at G;rcases G with(G|G)|G
 ·exact b2 x G
 ·exact b3 x G
 ·exact b4 x G
theorem RB {n:Nat} {cs:List Value} {x:DataW H×List MemPlace} (aq:cs.length=6) (h:DataW.trod enc Tryz.prog w base spare held n 30 cs=some x):∃q:AB,Ba w w.heap.size cs q/\q.Fits:=by
 obtain⟨xs,F,_,_,_,al,C⟩:=DataW.trod_struct Tryz.underlying30 h;have E:xs.length=6:=al;have ai:Tryz.prog.cellsOf 3=1:=by kernel_rfl
 have aj:Tryz.prog.cellsOf 9=1:=by kernel_rfl
 have G:Tryz.prog.cellsOf 24=1:=by kernel_rfl
 have ah:Tryz.prog.cellsOf 28=1:=by kernel_rfl
 have Z:DataW.trod enc Tryz.prog w base spare held F 9 ((cs.drop 0).take (Tryz.prog.cellsOf 9))=xs[0]?:=C 0 _ rfl;rw [aj] at Z;obtain⟨z0,e0,b0⟩:=Ir Z (Bh E (by omega));have f1:DataW.trod enc Tryz.prog w base spare held F 3 ((cs.drop 1).take (Tryz.prog.cellsOf 3))=xs[1]?:=C 1 _ rfl;rw [ai] at f1;obtain⟨z1,e1⟩:=Cv f1 (Bh E (by omega));have f2:DataW.trod enc Tryz.prog w base spare held F 24 ((cs.drop 2).take (Tryz.prog.cellsOf 24))=xs[2]?:=C 2 _ rfl;rw [G] at f2;obtain⟨J,c2,z2,e2,s2⟩:=Dz f2 (Bh E (by omega)) (by omega);have f3:DataW.trod enc Tryz.prog w base spare held F 28 ((cs.drop 3).take (Tryz.prog.cellsOf 28))=xs[3]?:=C 3 _ rfl;rw [ah] at f3;obtain⟨M,c3,z3,e3,s3,b3⟩:=Na f3 (Bh E (by omega)) (by omega);have f4:DataW.trod enc Tryz.prog w base spare held F 24 ((cs.drop 4).take (Tryz.prog.cellsOf 24))=xs[4]?:=C 4 _ rfl;rw [G] at f4;obtain⟨O,V,z4,e4,s4⟩:=Dz f4 (Bh E (by omega)) (by omega);have f5:DataW.trod enc Tryz.prog w base spare held F 24 ((cs.drop 5).take (Tryz.prog.cellsOf 24))=xs[5]?:=C 5 _ rfl;rw [G] at f5;obtain⟨U,W,z5,e5,s5⟩:=Dz f5 (Bh E (by omega)) (by omega);have ak:cs=[.string z0,.int .i64 z1,.slice J z2.length c2,.slice M z3.length c3,.slice O z4.length V,.slice U z5.length W]:=by
  apply List.ext_getElem?;intro j;by_cases I:j<6
  ·match j,I with
   | 0,_=>exact e0
   | 1,_=>exact e1
   | 2,_=>exact e2
   | 3,_=>exact e3
   | 4,_=>exact e4
   | 5,_=>exact e5
   | k+6,I=>exact absurd I (by omega)
  ·rw [List.getElem?_eq_none (by omega),List.getElem?_eq_none (by simp;omega)]
 exact⟨⟨z0,z1,z2,z3,z4,z5⟩,⟨J,c2,M,c3,O,V,U,W,ak,s2,s3,s4,s5⟩,b0⟩
end
end Go.Proofs.YtjejejmeddkciaaGreatDoor.K
