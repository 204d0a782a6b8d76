/-
  Part CY of a proof.
-/
import Derived.ProofKit
import Derived.Deep.Slices
import Derived.Deep.Fields
import Derived.ChangeArms
import Derived.Test.YtfcfpoemojjglaaGreatDoorPA
import Derived.Test.YtfcfpoemojjglaaGreatDoorCS
import Derived.Test.YtfcfpoemojjglaaGreatDoorCW
import Derived.Test.YtfcfpoemojjglaaGreatDoorCX
set_option maxHeartbeats 16000000
set_option maxRecDepth 100000
set_option linter.unusedVariables false
set_option linter.unusedSimpArgs false
namespace Go.Proofs.YtfcfpoemojjglaaGreatDoor.K
open Go.RowKit
attribute [-go_sem] loadCellsFrom storeCells
theorem aCf {w:World} {cs ds:List Value} {p:Am} {q:AB} (h:At w w.heap.size cs p) (d:Ba w w.heap.size ds q) (y:p.Small) (C:q.Small) (l:SpOK w):
  Calls Tryz.prog 48 #[.agg cs.toArray,.agg ds.toArray] w (Ret fun v w'=>v=.int .i64 (propE nameOK p q)/\Below w.heap.size w w'):=by
 by_cases j:protE nameOK p=0
 case neg=>exact SA h d y C l (hide rfl) (by simpa using j)
 cases E:nameOK q.name with
 | false=>exact SB h d y C l j E
 | true=>
  by_cases k1:q.kind=1
  ·exact Sy h d y C l j E k1
  ·by_cases k2:q.kind=2
   ·exact Sz h d y C l j E k2
   ·exact SC h d y C l j E k1 k2
end Go.Proofs.YtfcfpoemojjglaaGreatDoor.K
namespace Go.Proofs.YtfcfpoemojjglaaGreatDoor.K
open Go.RowKit
attribute [-go_sem] loadCellsFrom storeCells
theorem refCheck_any {w:World} {cs ds:List Value} {p:Am} {q:AB} (h:At w w.heap.size cs p) (M:Ba w w.heap.size ds q) (ag:p.Small) (ah:q.Small) (hT:SpOK w):
  Calls Tryz.prog 35 #[.agg cs.toArray,.agg ds.toArray] w (Ret fun v w'=>v=.int .i64 (checkW nameOK p q)/\Below w.heap.size w w'):=by
 obtain⟨B1,d1,B2,d2,B3,d3,B4,d4,af,ap,aq,ar,au,av,a5,k1,k2,k3,k4⟩:=M.cells;obtain⟨A1,c1,A2,c2,A3,c3,A4,c4,A5,c5,A6,c6,A7,c7,ae,am,an,-⟩:=EU h;obtain⟨w1,aU,O,a7,ak⟩:=Ae w cs.toArray 27;obtain⟨w2,aV,U,a8,al⟩:=Ae w1 ds.toArray 30;have j:=hide (O.trans (U.mono O.size));have E:=hide (show PQX w2 w.heap.size w1.heap.size cs.toArray ds.toArray p q from⟨h.keep (fun _ hp=>j.out.cell hp) j.out.size,M.keep (fun _ hp=>j.out.cell hp) j.out.size,a7.below U,a8,hT.below j.out⟩);generalize ao:cs.toArray=pc at*;generalize aw:ds.toArray=qc at*;obtain⟨C,ad⟩:∃e,Hid (propE nameOK p q=e):=⟨_,rfl⟩;have ai:∀wx,Hid (PQX wx w.heap.size w1.heap.size pc qc p q)->Calls Tryz.prog 48 #[.agg pc,.agg qc] wx (Ret fun v w'=>v=.int .i64 C/\Below wx.heap.size wx w'):=fun wx hx=>by
  rw [<-ad.out];exact aCf hx.out.pr hx.out.qr ag ah hx.out.tab
 have ax:=hide ai;have aS:=Ah E.out.b2 ae;have aT:=Ah E.out.b3 af;obtain⟨J,a2⟩:∃n,n=q.kind:=⟨_,rfl⟩;obtain⟨kt,a3⟩:∃n,n=p.topo:=⟨_,rfl⟩;rw [<-a2] at aq;rw [<-a3] at an;have ab:=hide (show checkW nameOK p q=orE C (Ad (!(kt==2||kt==3)||J != 1) 7) from by
  unfold checkW;rw [ad.out,a3,a2])
 clear k1 k2 k3 k4 h M ag ah O U a7 a8 ak al ao aw hT ae af ai ap ar au av a5 a2 a3 am;go_enter Tryz.func35,Tryz.ntmps35;go_wp2_with fail;refine Calls.ret (ax.out _ E) ?_;rintro v w3 ⟨rfl,V⟩;have aa:=hide (E.out.at V);have aP:=aa.out.b2.cell;have aQ:=aa.out.b3.cell;have G:=hide (j.out.trans (V.mono j.out.size));clear V;by_cases y:C=0
 case neg=>
  have a5:(C != 0)=true:=by simp [y]
  have aj:=hide y;clear y;go_wp2_with fail;go_ret;exact⟨congrArg (Value.int .i64) (ab.out.trans (BF aj.out)).symm,G.out⟩
 have a5:(C != 0)=false:=by simp [y]
 have I:=hide (show checkW nameOK p q=Ad (!(kt==2||kt==3)||J != 1) 7 from ab.out.trans (by rw [y];rfl));clear y;have aR:=I;by_cases d:kt=2
 ·have g1:(kt != 2)=false:=by simp [d]
  have g2:Hid ((kt==2||kt==3)=true):=hide (by simp [d]);clear d;cases W:(J != 1)
  all_goals
   have Z:=hide W;go_wp2_with fail;go_ret;exact⟨congrArg (Value.int .i64) (I.out.trans (by rw [Z.out,g2.out];rfl)).symm,G.out⟩
 ·have g1:(kt != 2)=true:=by simp [d]
  by_cases l:kt=3
  ·have g3:(kt != 3)=false:=by simp [l]
   have g2:Hid ((kt==2||kt==3)=true):=hide (by simp [l]);clear d l;cases W:(J != 1)
   all_goals
    have Z:=hide W;go_wp2_with fail;go_ret;exact⟨congrArg (Value.int .i64) (I.out.trans (by rw [Z.out,g2.out];rfl)).symm,G.out⟩
  ·have g3:(kt != 3)=true:=by simp [l]
   have g2:Hid ((kt==2||kt==3)=false):=hide (by simp [d,l]);clear d l;go_wp2_with fail;go_ret;exact⟨congrArg (Value.int .i64) (I.out.trans (by rw [g2.out];rfl)).symm,G.out⟩
end Go.Proofs.YtfcfpoemojjglaaGreatDoor.K
namespace Go.Proofs.YtfcfpoemojjglaaGreatDoor.K
open Go.RowKit Go.ChangeShapes Go.WideShapes Go.Deep
section
variable {H:Type} {enc:TypeId×Value->H} {P:Program} {w:World} {base:Nat} {spare:Nat->Bool} {held:Bool}
theorem MP {w:World} {a:Addr} {v:Value} (h:w.cell? a=some v):a.block<w.heap.size:=by
 unfold World.cell? at h;split at h
 ·rename_i hh;exact(Array.getElem?_eq_some_iff.1 hh).1
 ·cases h
theorem IO (b d i:Nat):(⟨b,d,none⟩:Addr).add i=⟨b,d+i,none⟩:=by
 unfold Addr.add;split <;> simp_all
theorem I7 {D:Type} {p:Nat->D->Prop}:∀n:Nat,(∀i,i<n->∃d,p i d)->∃l:List D,l.length=n/\∀(i:Nat) (d:D),l[i]?=some d->p i d
 | 0,_=>⟨[],rfl,fun i d h=>by simp at h⟩
 | n+1,h=>by
  obtain⟨l,C,I⟩:=I7 n fun i y=>h i (by omega);obtain⟨d,G⟩:=h n (by omega);refine⟨l++[d],by simp [C],fun i x j=>?_⟩;by_cases y:i<l.length
  ·rw [List.getElem?_append_left y] at j;exact I i x j
  ·have E:=AP j;simp at E;obtain rfl:i=l.length:=by omega
   simp at j;subst j;rw [C];exact G
theorem Sx {D:Type} {k:Nat} {R:List Value->D->Prop} {a:Addr} {len:Nat} (hk:0<k) (a8:len<=9223372036854775807)
  (h:∀i,i<len->∃d:D,∃cs:List Value,cs.length=k/\(∀(j:Nat) (u:Value),cs[j]?=some u->w.cell? (a.add (i*k+j))=some u)/\R cs d):
  ∃ds:List D,ds.length=len/\BR w w.heap.size k R (some a) ds:=by
 obtain⟨ds,V,E⟩:=I7 len h;refine⟨ds,V,by omega,fun W=>?_⟩;obtain⟨b,a4,a5⟩:=a;have O:ds[0]?=some (ds[0]'(by cases ds;exact absurd rfl W;simp)):=List.getElem?_eq_getElem _;obtain⟨l,a6,J,-⟩:=E 0 _ O;have G:l[0]?=some (l[0]'(by omega)):=List.getElem?_eq_getElem _;have y:=J 0 _ G;have a2:a5=none:=by simpa [Addr.add] using World.cell?_spot y
 subst a2;have C:=MP y;rw [IO] at C;refine⟨b,a4,rfl,C,fun i d U=>?_⟩;obtain⟨cs,M,I,Z⟩:=E i d U;refine⟨cs,M,fun j u hu=>?_,Z⟩;have:=I j u hu;rw [IO] at this;rw [Nat.add_assoc];exact this
theorem GX {D:Type} {k:Nat} {en:D->Nat->Value} {A:Option Addr} {ds:List D} (h:BR w w.heap.size k (fun cs d=>∀j,j<k->cs[j]?=some (en d j)) A ds):Sl w w.heap.size k en A ds:=
 ⟨h.1,fun I=>by
  obtain⟨b,M,e,l,y⟩:=h.2 I;refine⟨b,M,e,l,fun i d E j G=>?_⟩;obtain⟨cs,O,C,J⟩:=y i d E;exact C j _ (J j G)⟩
theorem Fr {t e k:Nat} (ht:P.underlying t=some (.slice e)) (I:P.cellsOf e=k) (Z:0<k) {D:Type} {R:List Value->D->Prop}
  (J:∀(n:Nat) (cs:List Value) (x:DataW H×List MemPlace),cs.length=k->DataW.trod enc P w base spare held n e cs=some x->∃d,R cs d)
  {fuel:Nat} {v:Value} {x:DataW H×List MemPlace} (h:DataW.trod enc P w base spare held fuel t [v]=some x):
  ∃A c,∃ds:List D,v=.slice A ds.length c/\BR w w.heap.size k R A ds/\ds.length<=c:=by
 rcases open_slice ht h with⟨l,-⟩|⟨a,len,G,m,n,D',Pl,l,-,a9,U,hm,-,C⟩
 ·injection l with l _
  subst l;exact⟨none,0,[],rfl,BR.nil rfl,Nat.le_refl _⟩
 ·injection l with l _
  subst l;rw [I] at C;have aa:len<=m:=by rw [hm];split <;> omega
  obtain⟨ds,hl,hs⟩:=Sx (w:=w) (R:=R) (a:=a) (len:=len) (k:=k) Z (by unfold maxLen at U;omega) (fun i hi=>by
   obtain⟨cs,V,a5⟩:=C i (by omega);obtain⟨_,y,O⟩:=World.cells?_some V;obtain⟨d,W⟩:=J n cs _ y a5;refine⟨d,cs,y,fun j u E=>?_,W⟩;have g:=O j (by rw [<-y];exact AP E);have M:(a.add (i*k)).add j=a.add (i*k+j):=Go.Deep.add_add ..;rw [M] at g;rw [g];exact E)
  exact⟨some a,G,ds,by rw [hl],hs,by omega⟩
end
section
variable {H:Type} {enc:TypeId×Value->H} {w:World} {base:Nat} {spare:Nat->Bool} {held:Bool}
theorem JI {n:Nat} {cs:List Value} {x:DataW H×List MemPlace} (h:DataW.trod enc Tryz.prog w base spare held n 3 cs=some x):∃z:Int,cs=[.int .i64 z]:=by
 obtain⟨z,d,_⟩:=DataW.trod_int Tryz.underlying3 h;exact⟨z,d⟩
theorem JJ {fuel:Nat} {v:Value} {x:DataW H×List MemPlace} (h:DataW.trod enc Tryz.prog w base spare held fuel 24 [v]=some x):∃A c,∃xs:List Int,v=.slice A xs.length c/\Sl w w.heap.size 1 Ai A xs:=by
 obtain⟨A,c,ds,l,d,_⟩:=Fr (D:=Int) (R:=fun cs z=>∀j,j<1->cs[j]?=some (Ai z j)) Tryz.underlying24 (k:=1) (by kernel_rfl) (by omega) (fun n cs x C ht=>by
  obtain⟨z,rfl⟩:=JI ht;exact⟨z,fun j y=>by
   have:j=0:=by omega
   subst this;rfl⟩) h
 exact⟨A,c,ds,l,GX d⟩
theorem Tq {fuel:Nat} {v:Value} {x:DataW H×List MemPlace} (h:DataW.trod enc Tryz.prog w base spare held fuel 22 [v]=some x):∃A c,∃xs:List ByteArray,v=.slice A xs.length c/\Sl w w.heap.size 1 BE A xs/\∀s∈xs,s.size<=9223372036854775807:=by
 obtain⟨A,c,ds,U,M,_⟩:=Fr (D:={ s:ByteArray // s.size<=9223372036854775807 }) (R:=fun cs z=>∀j,j<1->cs[j]?=some (BE z.1 j)) Tryz.underlying22 (k:=1) (by kernel_rfl) (by omega) (fun n cs x W ht=>by
  obtain⟨z,rfl,_,y⟩:=DataW.trod_string Tryz.underlying9 ht;exact⟨⟨z,by unfold maxLen at y;omega⟩,fun j E=>by
   have:j=0:=by omega
   subst this;rfl⟩) h
 refine⟨A,c,ds.map (·.1),by rw [List.length_map];exact U,?_,fun s O=>?_⟩
 ·have C:=GX (en:=fun(z:{ s:ByteArray // s.size<=9223372036854775807 }) j=>BE z.1 j) M;refine⟨by rw [List.length_map];exact C.1,fun G=>?_⟩;obtain⟨b,V,e,I,J⟩:=C.2 (by intro e;rw [e] at G;exact G rfl);refine⟨b,V,e,I,fun k d l j E=>?_⟩;rw [List.getElem?_map] at l;cases y:ds[k]? with
  | none=>rw [y] at l;cases l
  | some z=>
   rw [y] at l;obtain rfl:=Option.some.inj l;exact J k z y j E
 ·obtain⟨z,_,rfl⟩:=List.mem_map.1 O;exact z.2
theorem Cv {cs:List Value} {n i:Nat} {x:Option (DataW H×List MemPlace)} (h:DataW.trod enc Tryz.prog w base spare held n 3 ((cs.drop i).take 1)=x) (j:x.isSome=true):∃z:Int,cs[i]?=some (.int .i64 z):=by
 obtain⟨y,rfl⟩:=Option.isSome_iff_exists.1 j;obtain⟨z,l⟩:=JI h;refine⟨z,?_⟩;have d:((cs.drop i).take 1)[0]?=some (.int .i64 z):=by rw [l];rfl
 rw [List.getElem?_take] at d;simpa using d
theorem Fm {cs:List Value} {i:Nat} (h:i<cs.length):∃v,cs[i]?=some v/\(cs.drop i).take 1=[v]:=by
 refine⟨cs[i],List.getElem?_eq_getElem h,?_⟩;rw [List.drop_eq_getElem_cons h];rfl
theorem Bh {A:Type} {xs:List A} {n k:Nat} (h:xs.length=n) (d:k<n):(xs[k]?).isSome=true:=by
 rw [List.getElem?_eq_getElem (by omega)];rfl
theorem JV {n:Nat} {cs:List Value} {x:DataW H×List MemPlace} (h:DataW.trod enc Tryz.prog w base spare held n 202 cs=some x):∃l:Lin,∀j,j<4->cs[j]?=some (EG l j):=by
 obtain⟨xs,C,_,_,_,a2,d⟩:=DataW.trod_struct Tryz.underlying202 h;have y:xs.length=4:=a2;have W:Tryz.prog.cellsOf 3=1:=by kernel_rfl
 have E:DataW.trod enc Tryz.prog w base spare held C 3 ((cs.drop 0).take (Tryz.prog.cellsOf 3))=xs[0]?:=d 0 _ rfl;have G:DataW.trod enc Tryz.prog w base spare held C 3 ((cs.drop 1).take (Tryz.prog.cellsOf 3))=xs[1]?:=d 1 _ rfl;have I:DataW.trod enc Tryz.prog w base spare held C 3 ((cs.drop 2).take (Tryz.prog.cellsOf 3))=xs[2]?:=d 2 _ rfl;have J:DataW.trod enc Tryz.prog w base spare held C 3 ((cs.drop 3).take (Tryz.prog.cellsOf 3))=xs[3]?:=d 3 _ rfl;rw [W] at E G I J;obtain⟨z0,M⟩:=Cv E (Bh y (by omega));obtain⟨z1,O⟩:=Cv G (Bh y (by omega));obtain⟨z2,U⟩:=Cv I (Bh y (by omega));obtain⟨z3,V⟩:=Cv J (Bh y (by omega));refine⟨⟨z0,z1,z2,z3⟩,fun j Z=>?_⟩
 match j,Z with
 | 0,_=>exact M
 | 1,_=>exact O
 | 2,_=>exact U
 | 3,_=>exact V
theorem QS {fuel:Nat} {v:Value} {x:DataW H×List MemPlace} (h:DataW.trod enc Tryz.prog w base spare held fuel 23 [v]=some x):∃A c,∃xs:List Lin,v=.slice A xs.length c/\Sl w w.heap.size 4 EG A xs:=by
 obtain⟨A,c,ds,y,d,_⟩:=Fr (D:=Lin) (R:=fun cs l=>∀j,j<4->cs[j]?=some (EG l j)) Tryz.underlying23 (k:=4) (by kernel_rfl) (by omega) (fun n cs x C ht=>JV ht) h;exact⟨A,c,ds,y,GX d⟩
theorem TK {n:Nat} {cs:List Value} {x:DataW H×List MemPlace} (h:DataW.trod enc Tryz.prog w base spare held n 217 cs=some x):∃g:Thr,∀j,j<6->cs[j]?=some (CS g j):=by
 obtain⟨xs,I,_,_,_,a3,E⟩:=DataW.trod_struct Tryz.underlying217 h;have G:xs.length=3:=a3;have W:Tryz.prog.cellsOf 3=1:=by kernel_rfl
 have Z:Tryz.prog.cellsOf 202=4:=by kernel_rfl
 have J:DataW.trod enc Tryz.prog w base spare held I 3 ((cs.drop 0).take (Tryz.prog.cellsOf 3))=xs[0]?:=E 0 _ rfl;have M:DataW.trod enc Tryz.prog w base spare held I 3 ((cs.drop 1).take (Tryz.prog.cellsOf 3))=xs[1]?:=E 1 _ rfl;have C:DataW.trod enc Tryz.prog w base spare held I 202 ((cs.drop 2).take (Tryz.prog.cellsOf 202))=xs[2]?:=E 2 _ rfl;rw [W] at J M;rw [Z] at C;obtain⟨z0,U⟩:=Cv J (Bh G (by omega));obtain⟨z1,V⟩:=Cv M (Bh G (by omega));obtain⟨y2,a4⟩:=Option.isSome_iff_exists.1 (Bh G (show 2<3 by omega));rw [a4] at C;obtain⟨l,a2⟩:=JV C;have d:∀j,j<4->cs[2+j]?=some (EG l j):=fun j y=>by
  have O:=a2 j y;rw [List.getElem?_take,if_pos y,List.getElem?_drop] at O;exact O
 refine⟨⟨z0,z1,l⟩,fun j y=>?_⟩
 match j,y with
 | 0,_=>exact U
 | 1,_=>exact V
 | 2,_=>exact d 0 (by omega)
 | 3,_=>exact d 1 (by omega)
 | 4,_=>exact d 2 (by omega)
 | 5,_=>exact d 3 (by omega)
theorem TM {fuel:Nat} {v:Value} {x:DataW H×List MemPlace} (h:DataW.trod enc Tryz.prog w base spare held fuel 97 [v]=some x):∃A c,∃xs:List Thr,v=.slice A xs.length c/\Sl w w.heap.size 6 CS A xs:=by
 obtain⟨A,c,ds,y,d,_⟩:=Fr (D:=Thr) (R:=fun cs l=>∀j,j<6->cs[j]?=some (CS l j)) Tryz.underlying97 (k:=6) (by kernel_rfl) (by omega) (fun n cs x C ht=>TK ht) h;exact⟨A,c,ds,y,GX d⟩
theorem Dz {cs:List Value} {n i:Nat} {x:Option (DataW H×List MemPlace)} (h:DataW.trod enc Tryz.prog w base spare held n 24 ((cs.drop i).take 1)=x) (E:x.isSome=true) (j:i<cs.length):∃A c,∃xs:List Int,cs[i]?=some (.slice A xs.length c)/\Sl w w.heap.size 1 Ai A xs:=by
 obtain⟨y,rfl⟩:=Option.isSome_iff_exists.1 E;obtain⟨v,C,d⟩:=Fm j;rw [d] at h;obtain⟨A,c,xs,rfl,l⟩:=JJ h;exact⟨A,c,xs,C,l⟩
theorem TL {cs:List Value} {n i:Nat} {x:Option (DataW H×List MemPlace)} (h:DataW.trod enc Tryz.prog w base spare held n 97 ((cs.drop i).take 1)=x) (E:x.isSome=true) (j:i<cs.length):∃A c,∃xs:List Thr,cs[i]?=some (.slice A xs.length c)/\Sl w w.heap.size 6 CS A xs:=by
 obtain⟨y,rfl⟩:=Option.isSome_iff_exists.1 E;obtain⟨v,C,d⟩:=Fm j;rw [d] at h;obtain⟨A,c,xs,rfl,l⟩:=TM h;exact⟨A,c,xs,C,l⟩
theorem QR {cs:List Value} {n i:Nat} {x:Option (DataW H×List MemPlace)} (h:DataW.trod enc Tryz.prog w base spare held n 23 ((cs.drop i).take 1)=x) (E:x.isSome=true) (j:i<cs.length):∃A c,∃xs:List Lin,cs[i]?=some (.slice A xs.length c)/\Sl w w.heap.size 4 EG A xs:=by
 obtain⟨y,rfl⟩:=Option.isSome_iff_exists.1 E;obtain⟨v,C,d⟩:=Fm j;rw [d] at h;obtain⟨A,c,xs,rfl,l⟩:=QS h;exact⟨A,c,xs,C,l⟩
theorem Is {cs:List Value} {n i:Nat} {x:Option (DataW H×List MemPlace)} (h:DataW.trod enc Tryz.prog w base spare held n 22 ((cs.drop i).take 1)=x) (G:x.isSome=true) (l:i<cs.length):∃A c,∃xs:List ByteArray,cs[i]?=some (.slice A xs.length c)/\Sl w w.heap.size 1 BE A xs/\∀s∈xs,s.size<=9223372036854775807:=by
 obtain⟨y,rfl⟩:=Option.isSome_iff_exists.1 G;obtain⟨v,E,d⟩:=Fm l;rw [d] at h;obtain⟨A,c,xs,rfl,C,j⟩:=Tq h;exact⟨A,c,xs,E,C,j⟩
theorem Ir {cs:List Value} {n i:Nat} {x:Option (DataW H×List MemPlace)} (h:DataW.trod enc Tryz.prog w base spare held n 9 ((cs.drop i).take 1)=x) (l:x.isSome=true):∃z:ByteArray,cs[i]?=some (.string z)/\z.size<=9223372036854775807:=by
 obtain⟨y,rfl⟩:=Option.isSome_iff_exists.1 l;obtain⟨z,C,_,j⟩:=DataW.trod_string Tryz.underlying9 h;refine⟨z,?_,by unfold maxLen at j;omega⟩;have d:((cs.drop i).take 1)[0]?=some (.string z):=by rw [C];rfl
 rw [List.getElem?_take] at d;simpa using d
theorem SI {n:Nat} {cs:List Value} {x:DataW H×List MemPlace} (bo:cs.length=18) (h:DataW.trod enc Tryz.prog w base spare held n 99 cs=some x):∃r:Az,AW w w.heap.size cs r/\r.name.size<=9223372036854775807:=by
 obtain⟨xs,y,_,_,_,bf,d⟩:=DataW.trod_struct Tryz.underlying99 h;have l:xs.length=18:=bf;have C:Tryz.prog.cellsOf 3=1:=by kernel_rfl
 have bd:Tryz.prog.cellsOf 9=1:=by kernel_rfl
 have E:Tryz.prog.cellsOf 24=1:=by kernel_rfl
 have ba:Tryz.prog.cellsOf 97=1:=by kernel_rfl
 have f0:DataW.trod enc Tryz.prog w base spare held y 9 ((cs.drop 0).take (Tryz.prog.cellsOf 9))=xs[0]?:=d 0 _ rfl;rw [bd] at f0;obtain⟨z0,e0,b0⟩:=Ir f0 (Bh l (by omega));have f1:DataW.trod enc Tryz.prog w base spare held y 3 ((cs.drop 1).take (Tryz.prog.cellsOf 3))=xs[1]?:=d 1 _ rfl;rw [C] at f1;obtain⟨z1,e1⟩:=Cv f1 (Bh l (by omega));have f2:DataW.trod enc Tryz.prog w base spare held y 3 ((cs.drop 2).take (Tryz.prog.cellsOf 3))=xs[2]?:=d 2 _ rfl;rw [C] at f2;obtain⟨z2,e2⟩:=Cv f2 (Bh l (by omega));have f3:DataW.trod enc Tryz.prog w base spare held y 3 ((cs.drop 3).take (Tryz.prog.cellsOf 3))=xs[3]?:=d 3 _ rfl;rw [C] at f3;obtain⟨z3,e3⟩:=Cv f3 (Bh l (by omega));have f4:DataW.trod enc Tryz.prog w base spare held y 3 ((cs.drop 4).take (Tryz.prog.cellsOf 3))=xs[4]?:=d 4 _ rfl;rw [C] at f4;obtain⟨z4,e4⟩:=Cv f4 (Bh l (by omega));have f5:DataW.trod enc Tryz.prog w base spare held y 3 ((cs.drop 5).take (Tryz.prog.cellsOf 3))=xs[5]?:=d 5 _ rfl;rw [C] at f5;obtain⟨z5,e5⟩:=Cv f5 (Bh l (by omega));have f6:DataW.trod enc Tryz.prog w base spare held y 24 ((cs.drop 6).take (Tryz.prog.cellsOf 24))=xs[6]?:=d 6 _ rfl;rw [E] at f6;obtain⟨U,c6,z6,e6,s6⟩:=Dz f6 (Bh l (by omega)) (by omega);have f7:DataW.trod enc Tryz.prog w base spare held y 97 ((cs.drop 7).take (Tryz.prog.cellsOf 97))=xs[7]?:=d 7 _ rfl;rw [ba] at f7;obtain⟨V,c7,z7,e7,s7⟩:=TL f7 (Bh l (by omega)) (by omega);have f8:DataW.trod enc Tryz.prog w base spare held y 24 ((cs.drop 8).take (Tryz.prog.cellsOf 24))=xs[8]?:=d 8 _ rfl;rw [E] at f8;obtain⟨W,c8,z8,e8,s8⟩:=Dz f8 (Bh l (by omega)) (by omega);have f9:DataW.trod enc Tryz.prog w base spare held y 24 ((cs.drop 9).take (Tryz.prog.cellsOf 24))=xs[9]?:=d 9 _ rfl;rw [E] at f9;obtain⟨Z,c9,z9,e9,s9⟩:=Dz f9 (Bh l (by omega)) (by omega);have ad:DataW.trod enc Tryz.prog w base spare held y 3 ((cs.drop 10).take (Tryz.prog.cellsOf 3))=xs[10]?:=d 10 _ rfl;rw [C] at ad;obtain⟨aw,aQ⟩:=Cv ad (Bh l (by omega));have ae:DataW.trod enc Tryz.prog w base spare held y 3 ((cs.drop 11).take (Tryz.prog.cellsOf 3))=xs[11]?:=d 11 _ rfl;rw [C] at ae;obtain⟨ax,aR⟩:=Cv ae (Bh l (by omega));have af:DataW.trod enc Tryz.prog w base spare held y 24 ((cs.drop 12).take (Tryz.prog.cellsOf 24))=xs[12]?:=d 12 _ rfl;rw [E] at af;obtain⟨I,a2,ay,aS,bg⟩:=Dz af (Bh l (by omega)) (by omega);have ag:DataW.trod enc Tryz.prog w base spare held y 3 ((cs.drop 13).take (Tryz.prog.cellsOf 3))=xs[13]?:=d 13 _ rfl;rw [C] at ag;obtain⟨az,aT⟩:=Cv ag (Bh l (by omega));have ah:DataW.trod enc Tryz.prog w base spare held y 24 ((cs.drop 14).take (Tryz.prog.cellsOf 24))=xs[14]?:=d 14 _ rfl;rw [E] at ah;obtain⟨J,a3,aA,aU,bh⟩:=Dz ah (Bh l (by omega)) (by omega);have ai:DataW.trod enc Tryz.prog w base spare held y 24 ((cs.drop 15).take (Tryz.prog.cellsOf 24))=xs[15]?:=d 15 _ rfl;rw [E] at ai;obtain⟨M,a4,aB,aV,bi⟩:=Dz ai (Bh l (by omega)) (by omega);have aj:DataW.trod enc Tryz.prog w base spare held y 24 ((cs.drop 16).take (Tryz.prog.cellsOf 24))=xs[16]?:=d 16 _ rfl;rw [E] at aj;obtain⟨O,a5,aC,aW,bj⟩:=Dz aj (Bh l (by omega)) (by omega);have ak:DataW.trod enc Tryz.prog w base spare held y 3 ((cs.drop 17).take (Tryz.prog.cellsOf 3))=xs[17]?:=d 17 _ rfl;rw [C] at ak;obtain⟨aD,aX⟩:=Cv ak (Bh l (by omega));have be:cs=[.string z0,.int .i64 z1,.int .i64 z2,.int .i64 z3,.int .i64 z4,.int .i64 z5,.slice U z6.length c6,.slice V z7.length c7,.slice W z8.length c8,.slice Z z9.length c9,.int .i64 aw,.int .i64 ax,.slice I ay.length a2,.int .i64 az,.slice J aA.length a3,.slice M aB.length a4,.slice O aC.length a5,.int .i64 aD]:=by
  apply List.ext_getElem?;intro j;by_cases G:j<18
  ·match j,G with
   | 0,_=>exact e0
   | 1,_=>exact e1
   | 2,_=>exact e2
   | 3,_=>exact e3
   | 4,_=>exact e4
   | 5,_=>exact e5
   | 6,_=>exact e6
   | 7,_=>exact e7
   | 8,_=>exact e8
   | 9,_=>exact e9
   | 10,_=>exact aQ
   | 11,_=>exact aR
   | 12,_=>exact aS
   | 13,_=>exact aT
   | 14,_=>exact aU
   | 15,_=>exact aV
   | 16,_=>exact aW
   | 17,_=>exact aX
   | k+18,G=>exact absurd G (by omega)
  ·rw [List.getElem?_eq_none (by omega),List.getElem?_eq_none (by simp;omega)]
 exact⟨⟨z0,z1,z2,z3,z4,z5,z6,z7,z8,z9,aw,ax,ay,az,aA,aB,aC,aD⟩,⟨U,c6,V,c7,W,c8,Z,c9,I,a2,J,a3,M,a4,O,a5,be,s6,s7,s8,s9,bg,bh,bi,bj⟩,b0⟩
theorem SK {fuel:Nat} {v:Value} {x:DataW H×List MemPlace} (h:DataW.trod enc Tryz.prog w base spare held fuel 25 [v]=some x):∃A c,∃xs:List Az,v=.slice A xs.length c/\BR w w.heap.size 18 (AW w w.heap.size) A xs/\xs.length<=c/\∀r∈xs,r.name.size<=9223372036854775807:=by
 obtain⟨A,c,ds,W,E,M⟩:=Fr (D:={ r:Az // r.name.size<=9223372036854775807 }) (R:=fun cs l=>AW w w.heap.size cs l.1) Tryz.underlying25 (k:=18) (by kernel_rfl) (by omega) (fun n cs x U ht=>by
  obtain⟨r,G,I⟩:=SI U ht;exact⟨⟨r,I⟩,G⟩) h
 refine⟨A,c,ds.map (·.1),by rw [List.length_map];exact W,⟨by rw [List.length_map];exact E.1,fun C=>?_⟩,by rw [List.length_map];exact M,fun r V=>?_⟩
 ·obtain⟨b,Z,e,J,O⟩:=E.2 (by intro e;rw [e] at C;exact C rfl);refine⟨b,Z,e,J,fun i d j=>?_⟩;rw [List.getElem?_map] at j;cases y:ds[i]? with
  | none=>rw [y] at j;cases j
  | some z=>
   rw [y] at j;obtain rfl:=Option.some.inj j;exact O i z y
 ·obtain⟨z,_,rfl⟩:=List.mem_map.1 V;exact z.2
theorem M9 {n:Nat} {cs:List Value} {x:DataW H×List MemPlace} (a3:cs.length=2) (h:DataW.trod enc Tryz.prog w base spare held n 119 cs=some x):∃c:D9,Db w w.heap.size cs c:=by
 obtain⟨xs,I,_,_,_,a2,E⟩:=DataW.trod_struct Tryz.underlying119 h;have G:xs.length=2:=a2;have W:Tryz.prog.cellsOf 3=1:=by kernel_rfl
 have V:Tryz.prog.cellsOf 24=1:=by kernel_rfl
 have y:DataW.trod enc Tryz.prog w base spare held I 24 ((cs.drop 0).take (Tryz.prog.cellsOf 24))=xs[0]?:=E 0 _ rfl;rw [V] at y;obtain⟨l,c0,J,O,s0⟩:=Dz y (Bh G (by omega)) (by omega);have C:DataW.trod enc Tryz.prog w base spare held I 3 ((cs.drop 1).take (Tryz.prog.cellsOf 3))=xs[1]?:=E 1 _ rfl;rw [W] at C;obtain⟨M,U⟩:=Cv C (Bh G (by omega));have Z:cs=[.slice l J.length c0,.int .i64 M]:=by
  apply List.ext_getElem?;intro j;by_cases d:j<2
  ·match j,d with
   | 0,_=>exact O
   | 1,_=>exact U
   | k+2,d=>exact absurd d (by omega)
  ·rw [List.getElem?_eq_none (by omega),List.getElem?_eq_none (by simp;omega)]
 exact⟨⟨J,M⟩,⟨l,c0,Z,s0⟩⟩
theorem Nc {fuel:Nat} {v:Value} {x:DataW H×List MemPlace} (h:DataW.trod enc Tryz.prog w base spare held fuel 28 [v]=some x):∃A c,∃xs:List D9,v=.slice A xs.length c/\BR w w.heap.size 2 (Db w w.heap.size) A xs/\True:=by
 obtain⟨A,c,ds,l,j,_⟩:=Fr (D:=D9) (R:=Db w w.heap.size) Tryz.underlying28 (k:=2) (by kernel_rfl) (by omega) (fun n cs x d ht=>M9 d ht) h;exact⟨A,c,ds,l,j,trivial⟩
theorem SJ {cs:List Value} {n i:Nat} {x:Option (DataW H×List MemPlace)} (h:DataW.trod enc Tryz.prog w base spare held n 25 ((cs.drop i).take 1)=x) (G:x.isSome=true) (l:i<cs.length):∃A c,∃xs:List Az,cs[i]?=some (.slice A xs.length c)/\BR w w.heap.size 18 (AW w w.heap.size) A xs/\xs.length<=c/\∀r∈xs,r.name.size<=9223372036854775807:=by
 obtain⟨y,rfl⟩:=Option.isSome_iff_exists.1 G;obtain⟨v,E,d⟩:=Fm l;rw [d] at h;obtain⟨A,c,xs,rfl,C,j⟩:=SK h;exact⟨A,c,xs,E,C,j⟩
theorem Na {cs:List Value} {n i:Nat} {x:Option (DataW H×List MemPlace)} (h:DataW.trod enc Tryz.prog w base spare held n 28 ((cs.drop i).take 1)=x) (G:x.isSome=true) (l:i<cs.length):∃A c,∃xs:List D9,cs[i]?=some (.slice A xs.length c)/\BR w w.heap.size 2 (Db w w.heap.size) A xs/\True:=by
 obtain⟨y,rfl⟩:=Option.isSome_iff_exists.1 G;obtain⟨v,E,d⟩:=Fm l;rw [d] at h;obtain⟨A,c,xs,rfl,C,j⟩:=Nc h;exact⟨A,c,xs,E,C,j⟩
theorem RF {n:Nat} {cs:List Value} {x:DataW H×List MemPlace} (aP:cs.length=10) (h:DataW.trod enc Tryz.prog w base spare held n 27 cs=some x):∃p:Am,At w w.heap.size cs p/\p.Fits:=by
 obtain⟨xs,y,_,_,_,aG,d⟩:=DataW.trod_struct Tryz.underlying27 h;have l:xs.length=10:=aG;have ae:Tryz.prog.cellsOf 3=1:=by kernel_rfl
 have aE:Tryz.prog.cellsOf 9=1:=by kernel_rfl
 have E:Tryz.prog.cellsOf 22=1:=by kernel_rfl
 have aC:Tryz.prog.cellsOf 23=1:=by kernel_rfl
 have ad:Tryz.prog.cellsOf 24=1:=by kernel_rfl
 have aD:Tryz.prog.cellsOf 25=1:=by kernel_rfl
 have f0:DataW.trod enc Tryz.prog w base spare held y 9 ((cs.drop 0).take (Tryz.prog.cellsOf 9))=xs[0]?:=d 0 _ rfl;rw [aE] at f0;obtain⟨z0,e0,b0⟩:=Ir f0 (Bh l (by omega));have f1:DataW.trod enc Tryz.prog w base spare held y 3 ((cs.drop 1).take (Tryz.prog.cellsOf 3))=xs[1]?:=d 1 _ rfl;rw [ae] at f1;obtain⟨z1,e1⟩:=Cv f1 (Bh l (by omega));have f2:DataW.trod enc Tryz.prog w base spare held y 22 ((cs.drop 2).take (Tryz.prog.cellsOf 22))=xs[2]?:=d 2 _ rfl;rw [E] at f2;obtain⟨A2,c2,z2,e2,s2,b2⟩:=Is f2 (Bh l (by omega)) (by omega);have f3:DataW.trod enc Tryz.prog w base spare held y 22 ((cs.drop 3).take (Tryz.prog.cellsOf 22))=xs[3]?:=d 3 _ rfl;rw [E] at f3;obtain⟨A3,c3,z3,e3,s3,b3⟩:=Is f3 (Bh l (by omega)) (by omega);have f4:DataW.trod enc Tryz.prog w base spare held y 22 ((cs.drop 4).take (Tryz.prog.cellsOf 22))=xs[4]?:=d 4 _ rfl;rw [E] at f4;obtain⟨I,c4,z4,e4,s4,b4⟩:=Is f4 (Bh l (by omega)) (by omega);have f5:DataW.trod enc Tryz.prog w base spare held y 3 ((cs.drop 5).take (Tryz.prog.cellsOf 3))=xs[5]?:=d 5 _ rfl;rw [ae] at f5;obtain⟨z5,e5⟩:=Cv f5 (Bh l (by omega));have f6:DataW.trod enc Tryz.prog w base spare held y 23 ((cs.drop 6).take (Tryz.prog.cellsOf 23))=xs[6]?:=d 6 _ rfl;rw [aC] at f6;obtain⟨J,V,z6,e6,s6⟩:=QR f6 (Bh l (by omega)) (by omega);have f7:DataW.trod enc Tryz.prog w base spare held y 24 ((cs.drop 7).take (Tryz.prog.cellsOf 24))=xs[7]?:=d 7 _ rfl;rw [ad] at f7;obtain⟨M,W,z7,e7,s7⟩:=Dz f7 (Bh l (by omega)) (by omega);have f8:DataW.trod enc Tryz.prog w base spare held y 24 ((cs.drop 8).take (Tryz.prog.cellsOf 24))=xs[8]?:=d 8 _ rfl;rw [ad] at f8;obtain⟨O,Z,z8,e8,s8⟩:=Dz f8 (Bh l (by omega)) (by omega);have f9:DataW.trod enc Tryz.prog w base spare held y 25 ((cs.drop 9).take (Tryz.prog.cellsOf 25))=xs[9]?:=d 9 _ rfl;rw [aD] at f9;obtain⟨U,c9,z9,e9,s9,b9⟩:=SJ f9 (Bh l (by omega)) (by omega);have aF:cs=[.string z0,.int .i64 z1,.slice A2 z2.length c2,.slice A3 z3.length c3,.slice I z4.length c4,.int .i64 z5,.slice J z6.length V,.slice M z7.length W,.slice O z8.length Z,.slice U z9.length c9]:=by
  apply List.ext_getElem?;intro j;by_cases G:j<10
  ·match j,G with
   | 0,_=>exact e0
   | 1,_=>exact e1
   | 2,_=>exact e2
   | 3,_=>exact e3
   | 4,_=>exact e4
   | 5,_=>exact e5
   | 6,_=>exact e6
   | 7,_=>exact e7
   | 8,_=>exact e8
   | 9,_=>exact e9
   | k+10,G=>exact absurd G (by omega)
  ·rw [List.getElem?_eq_none (by omega),List.getElem?_eq_none (by simp;omega)]
 refine⟨⟨z0,z1,z2,z3,z4,z5,z6,z7,z8,z9⟩,⟨A2,c2,A3,c3,I,c4,J,V,M,W,O,Z,U,c9,aF,s2,s3,s4,s6,s7,s8,s9,b9.1⟩,⟨b0,fun x C=>?_,b9.2⟩⟩;simp only [Bd,List.mem_append] at C;rcases C with(C|C)|C
 ·exact b2 x C
 ·exact b3 x C
 ·exact b4 x C
theorem RB {n:Nat} {cs:List Value} {x:DataW H×List MemPlace} (ao:cs.length=6) (h:DataW.trod enc Tryz.prog w base spare held n 30 cs=some x):∃q:AB,Ba w w.heap.size cs q/\q.Fits:=by
 obtain⟨xs,y,_,_,_,aj,d⟩:=DataW.trod_struct Tryz.underlying30 h;have l:xs.length=6:=aj;have ag:Tryz.prog.cellsOf 3=1:=by kernel_rfl
 have ah:Tryz.prog.cellsOf 9=1:=by kernel_rfl
 have C:Tryz.prog.cellsOf 24=1:=by kernel_rfl
 have af:Tryz.prog.cellsOf 28=1:=by kernel_rfl
 have M:DataW.trod enc Tryz.prog w base spare held y 9 ((cs.drop 0).take (Tryz.prog.cellsOf 9))=xs[0]?:=d 0 _ rfl;rw [ah] at M;obtain⟨Z,e0,b0⟩:=Ir M (Bh l (by omega));have O:DataW.trod enc Tryz.prog w base spare held y 3 ((cs.drop 1).take (Tryz.prog.cellsOf 3))=xs[1]?:=d 1 _ rfl;rw [ag] at O;obtain⟨z1,e1⟩:=Cv O (Bh l (by omega));have U:DataW.trod enc Tryz.prog w base spare held y 24 ((cs.drop 2).take (Tryz.prog.cellsOf 24))=xs[2]?:=d 2 _ rfl;rw [C] at U;obtain⟨A2,c2,z2,e2,s2⟩:=Dz U (Bh l (by omega)) (by omega);have V:DataW.trod enc Tryz.prog w base spare held y 28 ((cs.drop 3).take (Tryz.prog.cellsOf 28))=xs[3]?:=d 3 _ rfl;rw [af] at V;obtain⟨A3,c3,z3,e3,s3,b3⟩:=Na V (Bh l (by omega)) (by omega);have f4:DataW.trod enc Tryz.prog w base spare held y 24 ((cs.drop 4).take (Tryz.prog.cellsOf 24))=xs[4]?:=d 4 _ rfl;rw [C] at f4;obtain⟨G,c4,z4,e4,s4⟩:=Dz f4 (Bh l (by omega)) (by omega);have W:DataW.trod enc Tryz.prog w base spare held y 24 ((cs.drop 5).take (Tryz.prog.cellsOf 24))=xs[5]?:=d 5 _ rfl;rw [C] at W;obtain⟨I,J,z5,e5,s5⟩:=Dz W (Bh l (by omega)) (by omega);have ai:cs=[.string Z,.int .i64 z1,.slice A2 z2.length c2,.slice A3 z3.length c3,.slice G z4.length c4,.slice I z5.length J]:=by
  apply List.ext_getElem?;intro j;by_cases E:j<6
  ·match j,E with
   | 0,_=>exact e0
   | 1,_=>exact e1
   | 2,_=>exact e2
   | 3,_=>exact e3
   | 4,_=>exact e4
   | 5,_=>exact e5
   | k+6,E=>exact absurd E (by omega)
  ·rw [List.getElem?_eq_none (by omega),List.getElem?_eq_none (by simp;omega)]
 exact⟨⟨Z,z1,z2,z3,z4,z5⟩,⟨A2,c2,A3,c3,G,c4,I,J,ai,s2,s3,s4,s5⟩,b0⟩
end
end Go.Proofs.YtfcfpoemojjglaaGreatDoor.K
