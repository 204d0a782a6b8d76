/-
  Part CY of a proof.
-/
import Derived.ProofKit
import Derived.Deep.Slices
import Derived.Deep.Fields
import Derived.ChangeArms
import Derived.Test.YtfcfpoemojjglaaGreatDoorPA
import Derived.Test.YtfcfpoemojjglaaGreatDoorCS
import Derived.Test.YtfcfpoemojjglaaGreatDoorCT
import Derived.Test.YtfcfpoemojjglaaGreatDoorCW
import Derived.Test.YtfcfpoemojjglaaGreatDoorCX
set_option maxHeartbeats 16000000
set_option maxRecDepth 100000
set_option linter.unusedVariables false
set_option linter.unusedSimpArgs false
namespace Go.Proofs.YtfcfpoemojjglaaGreatDoor.K
open Go.RowKit
attribute [-go_sem] loadCellsFrom storeCells
theorem refPropValidate_any {w:World} {cs ds:List Value} {p:Am} {q:AB} (h:At w w.heap.size cs p) (y:Ba w w.heap.size ds q) (E:p.Small) (G:q.Small) (C:SpOK w):
  Calls Tryz.prog 48 #[.agg cs.toArray,.agg ds.toArray] w (Ret fun v w'=>v=.int .i64 (propE nameOK p q)∧Below w.heap.size w w'):=by
 by_cases z:protE nameOK p=0
 case neg=>exact SA h y E G C (hide rfl) (by simpa using z)
 cases I:nameOK q.name with
 | false=>exact SB h y E G C z I
 | true=>
  by_cases J:q.kind=1
  ·exact Sy h y E G C z I J
  ·by_cases M:q.kind=2
   ·exact Sz h y E G C z I M
   ·exact SC h y E G C z I J M
end Go.Proofs.YtfcfpoemojjglaaGreatDoor.K
namespace Go.Proofs.YtfcfpoemojjglaaGreatDoor.K
open Go.RowKit
attribute [-go_sem] loadCellsFrom storeCells
theorem refCheck_any {w:World} {cs ds:List Value} {p:Am} {q:AB} (h:At w w.heap.size cs p) (V:Ba w w.heap.size ds q) (aj:p.Small) (ak:q.Small) (hT:SpOK w):
  Calls Tryz.prog 35 #[.agg cs.toArray,.agg ds.toArray] w (Ret fun v w'=>v=.int .i64 (checkW nameOK p q)∧Below w.heap.size w w'):=by
 obtain⟨B1,d1,B2,d2,B3,d3,B4,d4,ai,aw,ax,ay,az,aA,a8,k1,k2,k3,k4⟩:=V.cells
 obtain⟨A1,c1,A2,c2,A3,c3,A4,c4,A5,c5,A6,c6,A7,c7,ah,ar,au,-⟩:=EU h
 obtain⟨w1,b9,W,aa,ap⟩:=Ae w cs.toArray 27
 obtain⟨w2,ba,Z,ab,aq⟩:=Ae w1 ds.toArray 30
 have z:=hide (W.trans (Z.mono W.size))
 have J:=hide (show PQX w2 w.heap.size w1.heap.size cs.toArray ds.toArray p q from⟨h.keep (fun _ hp=>z.out.cell hp) z.out.size,V.keep (fun _ hp=>z.out.cell hp) z.out.size,aa.below Z,ab,hT.below z.out⟩)
 generalize av:cs.toArray=pc at*
 generalize aB:ds.toArray=qc at*
 obtain⟨G,ag⟩:∃e,Hid (propE nameOK p q=e):=⟨_,rfl⟩
 have al:∀I,Hid (PQX I w.heap.size w1.heap.size pc qc p q)→Calls Tryz.prog 48 #[.agg pc,.agg qc] I (Ret fun v w'=>v=.int .i64 G∧Below I.heap.size I w'):=fun I hx=>by
  rw [←ag.out]
  exact refPropValidate_any hx.out.pr hx.out.qr aj ak hx.out.tab
 have aC:=hide al
 have b7:=Ah J.out.b2 ah
 have b8:=Ah J.out.b3 ai
 obtain⟨U,a5⟩:∃n,n=q.kind:=⟨_,rfl⟩
 obtain⟨kt,a6⟩:∃n,n=p.topo:=⟨_,rfl⟩
 rw [←a5] at ax
 rw [←a6] at au
 have af:=hide (show checkW nameOK p q=orE G (Ad (!(kt==2||kt==3)||U != 1) 7) from by
  unfold checkW
  rw [ag.out,a6,a5])
 clear k1 k2 k3 k4 h V aj ak W Z aa ab ap aq av aB hT ah ai al aw ay az aA a8 a5 a6 ar
 go_enter Tryz.func35,Tryz.ntmps35
 go_wp2_with fail
 refine Calls.ret (aC.out _ J) ?_
 rintro v w3 ⟨rfl,a2⟩
 have ae:=hide (J.out.at a2)
 have b4:=ae.out.b2.cell
 have b5:=ae.out.b3.cell
 have M:=hide (z.out.trans (a2.mono z.out.size))
 clear a2
 by_cases E:G=0
 case neg=>
  have a8:(G != 0)=true:=by simp [E]
  have ao:=hide E
  clear E
  go_wp2_with fail
  go_ret
  exact⟨congrArg (Value.int .i64) (af.out.trans (BF ao.out)).symm,M.out⟩
 have a8:(G != 0)=false:=by simp [E]
 have O:=hide (show checkW nameOK p q=Ad (!(kt==2||kt==3)||U != 1) 7 from af.out.trans (by rw [E]; rfl))
 clear E
 have b6:=O
 by_cases y:kt=2
 ·have g1:(kt != 2)=false:=by simp [y]
  have g2:Hid ((kt==2||kt==3)=true):=hide (by simp [y])
  clear y
  cases a3:(U != 1)
  all_goals
   have a4:=hide a3
   go_wp2_with fail
   go_ret
   exact⟨congrArg (Value.int .i64) (O.out.trans (by rw [a4.out,g2.out]; rfl)).symm,M.out⟩
 ·have g1:(kt != 2)=true:=by simp [y]
  by_cases C:kt=3
  ·have g3:(kt != 3)=false:=by simp [C]
   have g2:Hid ((kt==2||kt==3)=true):=hide (by simp [C])
   clear y C
   cases a3:(U != 1)
   all_goals
    have a4:=hide a3
    go_wp2_with fail
    go_ret
    exact⟨congrArg (Value.int .i64) (O.out.trans (by rw [a4.out,g2.out]; rfl)).symm,M.out⟩
  ·have g3:(kt != 3)=true:=by simp [C]
   have g2:Hid ((kt==2||kt==3)=false):=hide (by simp [y,C])
   clear y C
   go_wp2_with fail
   go_ret
   exact⟨congrArg (Value.int .i64) (O.out.trans (by rw [g2.out]; rfl)).symm,M.out⟩
end Go.Proofs.YtfcfpoemojjglaaGreatDoor.K
namespace Go.Proofs.YtfcfpoemojjglaaGreatDoor.K
open Go.RowKit Go.ChangeShapes Go.WideShapes Go.Deep
section
variable {H:Type} {enc:TypeId×Value→H} {P:Program} {w:World} {base:Nat} {spare:Nat→Bool} {held:Bool}
theorem MP {w:World} {a:Addr} {v:Value} (h:w.cell? a=some v):a.block<w.heap.size:=by
 unfold World.cell? at h
 split at h
 ·rename_i hh
  exact(Array.getElem?_eq_some_iff.1 hh).1
 ·cases h
theorem IO (b h i:Nat):(⟨b,h,none⟩:Addr).add i=⟨b,h+i,none⟩:=by
 unfold Addr.add
 split <;> simp_all
theorem I7 {D:Type} {p:Nat→D→Prop}:∀n:Nat,(∀i,i<n→∃d,p i d)→∃l:List D,l.length=n∧∀(i:Nat) (d:D),l[i]?=some d→p i d
 | 0,_=>⟨[],rfl,fun i d h=>by simp at h⟩
 | n+1,h=>by
  obtain⟨l,C,G⟩:=I7 n fun i z=>h i (by omega)
  obtain⟨d,hd⟩:=h n (by omega)
  refine⟨l++[d],by simp [C],fun i x y=>?_⟩
  by_cases z:i<l.length
  ·rw [List.getElem?_append_left z] at y
   exact G i x y
  ·have E:=AP y
   simp at E
   obtain rfl:i=l.length:=by omega
   simp at y
   subst y
   rw [C]
   exact hd
theorem Sx {D:Type} {k:Nat} {R:List Value→D→Prop} {a:Addr} {len:Nat} (hk:0<k) (a6:len≤9223372036854775807)
  (h:∀i,i<len→∃d:D,∃cs:List Value,cs.length=k∧(∀(j:Nat) (u:Value),cs[j]?=some u→w.cell? (a.add (i*k+j))=some u)∧R cs d):
  ∃ds:List D,ds.length=len∧BR w w.heap.size k R (some a) ds:=by
 obtain⟨ds,U,hd⟩:=I7 len h
 refine⟨ds,U,by omega,fun V=>?_⟩
 obtain⟨b,a3,a4⟩:=a
 have M:ds[0]?=some (ds[0]'(by cases ds; exact absurd rfl V; simp)):=List.getElem?_eq_getElem _
 obtain⟨y,a5,I,-⟩:=hd 0 _ M
 have E:y[0]?=some (y[0]'(by omega)):=List.getElem?_eq_getElem _
 have z:=I 0 _ E
 have Z:a4=none:=by simpa [Addr.add] using World.cell?_spot z
 subst Z
 have C:=MP z
 rw [IO] at C
 refine⟨b,a3,rfl,C,fun i d O=>?_⟩
 obtain⟨cs,J,G,W⟩:=hd i d O
 refine⟨cs,J,fun j u hu=>?_,W⟩
 have:=G j u hu
 rw [IO] at this
 rw [Nat.add_assoc]
 exact this
theorem GX {D:Type} {k:Nat} {en:D→Nat→Value} {A:Option Addr} {ds:List D} (h:BR w w.heap.size k (fun cs d=>∀j,j<k→cs[j]?=some (en d j)) A ds):Sl w w.heap.size k en A ds:=
 ⟨h.1,fun G=>by
  obtain⟨b,J,e,y,z⟩:=h.2 G
  refine⟨b,J,e,y,fun i d hd j E=>?_⟩
  obtain⟨cs,M,C,I⟩:=z i d hd
  exact C j _ (I j E)⟩
theorem Fr {t e k:Nat} (ht:P.underlying t=some (.slice e)) (I:P.cellsOf e=k) (hk:0<k) {D:Type} {R:List Value→D→Prop}
  (J:∀(n:Nat) (cs:List Value) (x:DataW H×List MemPlace),cs.length=k→DataW.trod enc P w base spare held n e cs=some x→∃d,R cs d)
  {fuel:Nat} {v:Value} {x:DataW H×List MemPlace} (h:DataW.trod enc P w base spare held fuel t [v]=some x):
  ∃A c,∃ds:List D,v=.slice A ds.length c∧BR w w.heap.size k R A ds∧ds.length≤c:=by
 rcases open_slice ht h with⟨y,-⟩ | ⟨a,len,G,m,n,D',Pl,y,-,a7,U,Z,-,C⟩
 ·injection y with y _
  subst y
  exact⟨none,0,[],rfl,BR.nil rfl,Nat.le_refl _⟩
 ·injection y with y _
  subst y
  rw [I] at C
  have a8:len≤m:=by rw [Z]; split <;> omega
  obtain⟨ds,W,hs⟩:=Sx (w:=w) (R:=R) (a:=a) (len:=len) (k:=k) hk (by unfold maxLen at U; omega) (fun i hi=>by
   obtain⟨cs,V,a3⟩:=C i (by omega)
   obtain⟨_,z,O⟩:=World.cells?_some V
   obtain⟨d,hd⟩:=J n cs _ z a3
   refine⟨d,cs,z,fun j u E=>?_,hd⟩
   have g:=O j (by rw [←z]; exact AP E)
   have M:(a.add (i*k)).add j=a.add (i*k+j):=Go.Deep.add_add ..
   rw [M] at g
   rw [g]
   exact E)
  exact⟨some a,G,ds,by rw [W],hs,by omega⟩
end
section
variable {H:Type} {enc:TypeId×Value→H} {w:World} {base:Nat} {spare:Nat→Bool} {held:Bool}
theorem JI {n:Nat} {cs:List Value} {x:DataW H×List MemPlace} (h:DataW.trod enc Tryz.prog w base spare held n 3 cs=some x):∃z:Int,cs=[.int .i64 z]:=by
 obtain⟨z,y,_⟩:=DataW.trod_int Tryz.underlying3 h
 exact⟨z,y⟩
theorem JJ {fuel:Nat} {v:Value} {x:DataW H×List MemPlace} (h:DataW.trod enc Tryz.prog w base spare held fuel 24 [v]=some x):∃A c,∃xs:List Int,v=.slice A xs.length c∧Sl w w.heap.size 1 Ai A xs:=by
 obtain⟨A,c,ds,C,y,_⟩:=Fr (D:=Int) (R:=fun cs z=>∀j,j<1→cs[j]?=some (Ai z j)) Tryz.underlying24 (k:=1) (by kernel_rfl) (by omega) (fun n cs x G ht=>by
  obtain⟨z,rfl⟩:=JI ht
  exact⟨z,fun j E=>by
   have:j=0:=by omega
   subst this
   rfl⟩) h
 exact⟨A,c,ds,C,GX y⟩
theorem Tq {fuel:Nat} {v:Value} {x:DataW H×List MemPlace} (h:DataW.trod enc Tryz.prog w base spare held fuel 22 [v]=some x):∃A c,∃xs:List ByteArray,v=.slice A xs.length c∧Sl w w.heap.size 1 BE A xs∧∀s∈xs,s.size≤9223372036854775807:=by
 obtain⟨A,c,ds,U,M,_⟩:=Fr (D:={ s:ByteArray // s.size≤9223372036854775807 }) (R:=fun cs z=>∀j,j<1→cs[j]?=some (BE z.1 j)) Tryz.underlying22 (k:=1) (by kernel_rfl) (by omega) (fun n cs x W ht=>by
  obtain⟨z,rfl,_,y⟩:=DataW.trod_string Tryz.underlying9 ht
  exact⟨⟨z,by unfold maxLen at y; omega⟩,fun j E=>by
   have:j=0:=by omega
   subst this
   rfl⟩) h
 refine⟨A,c,ds.map (·.1),by rw [List.length_map]; exact U,?_,fun s O=>?_⟩
 ·have C:=GX (en:=fun(z:{ s:ByteArray // s.size≤9223372036854775807 }) j=>BE z.1 j) M
  refine⟨by rw [List.length_map]; exact C.1,fun G=>?_⟩
  obtain⟨b,V,e,I,J⟩:=C.2 (by intro e; rw [e] at G; exact G rfl)
  refine⟨b,V,e,I,fun k d hd j E=>?_⟩
  rw [List.getElem?_map] at hd
  cases y:ds[k]? with
  | none=>rw [y] at hd; cases hd
  | some z=>
   rw [y] at hd
   obtain rfl:=Option.some.inj hd
   exact J k z y j E
 ·obtain⟨z,_,rfl⟩:=List.mem_map.1 O
  exact z.2
theorem Cv {cs:List Value} {n i:Nat} {x:Option (DataW H×List MemPlace)} (h:DataW.trod enc Tryz.prog w base spare held n 3 ((cs.drop i).take 1)=x) (E:x.isSome=true):∃z:Int,cs[i]?=some (.int .i64 z):=by
 obtain⟨y,rfl⟩:=Option.isSome_iff_exists.1 E
 obtain⟨z,G⟩:=JI h
 refine⟨z,?_⟩
 have C:((cs.drop i).take 1)[0]?=some (.int .i64 z):=by rw [G]; rfl
 rw [List.getElem?_take] at C
 simpa using C
theorem Fm {cs:List Value} {i:Nat} (h:i<cs.length):∃v,cs[i]?=some v∧(cs.drop i).take 1=[v]:=by
 refine⟨cs[i],List.getElem?_eq_getElem h,?_⟩
 rw [List.drop_eq_getElem_cons h]
 rfl
theorem Bh {A:Type} {xs:List A} {n k:Nat} (h:xs.length=n) (hk:k<n):(xs[k]?).isSome=true:=by
 rw [List.getElem?_eq_getElem (by omega)]
 rfl
theorem JV {n:Nat} {cs:List Value} {x:DataW H×List MemPlace} (h:DataW.trod enc Tryz.prog w base spare held n 202 cs=some x):∃l:Lin,∀j,j<4→cs[j]?=some (EG l j):=by
 obtain⟨xs,C,_,_,_,W,y⟩:=DataW.trod_struct Tryz.underlying202 h
 have z:xs.length=4:=W
 have U:Tryz.prog.cellsOf 3=1:=by kernel_rfl
 have E:DataW.trod enc Tryz.prog w base spare held C 3 ((cs.drop 0).take (Tryz.prog.cellsOf 3))=xs[0]?:=y 0 _ rfl
 have G:DataW.trod enc Tryz.prog w base spare held C 3 ((cs.drop 1).take (Tryz.prog.cellsOf 3))=xs[1]?:=y 1 _ rfl
 have I:DataW.trod enc Tryz.prog w base spare held C 3 ((cs.drop 2).take (Tryz.prog.cellsOf 3))=xs[2]?:=y 2 _ rfl
 have f3:DataW.trod enc Tryz.prog w base spare held C 3 ((cs.drop 3).take (Tryz.prog.cellsOf 3))=xs[3]?:=y 3 _ rfl
 rw [U] at E G I f3
 obtain⟨Z,e0⟩:=Cv E (Bh z (by omega))
 obtain⟨z1,J⟩:=Cv G (Bh z (by omega))
 obtain⟨z2,M⟩:=Cv I (Bh z (by omega))
 obtain⟨z3,O⟩:=Cv f3 (Bh z (by omega))
 refine⟨⟨Z,z1,z2,z3⟩,fun j V=>?_⟩
 match j,V with
 | 0,_=>exact e0
 | 1,_=>exact J
 | 2,_=>exact M
 | 3,_=>exact O
theorem QS {fuel:Nat} {v:Value} {x:DataW H×List MemPlace} (h:DataW.trod enc Tryz.prog w base spare held fuel 23 [v]=some x):∃A c,∃xs:List Lin,v=.slice A xs.length c∧Sl w w.heap.size 4 EG A xs:=by
 obtain⟨A,c,ds,z,y,_⟩:=Fr (D:=Lin) (R:=fun cs l=>∀j,j<4→cs[j]?=some (EG l j)) Tryz.underlying23 (k:=4) (by kernel_rfl) (by omega) (fun n cs x C ht=>JV ht) h
 exact⟨A,c,ds,z,GX y⟩
theorem TK {n:Nat} {cs:List Value} {x:DataW H×List MemPlace} (h:DataW.trod enc Tryz.prog w base spare held n 217 cs=some x):∃g:Thr,∀j,j<6→cs[j]?=some (CS g j):=by
 obtain⟨xs,I,_,_,_,a2,E⟩:=DataW.trod_struct Tryz.underlying217 h
 have G:xs.length=3:=a2
 have V:Tryz.prog.cellsOf 3=1:=by kernel_rfl
 have W:Tryz.prog.cellsOf 202=4:=by kernel_rfl
 have J:DataW.trod enc Tryz.prog w base spare held I 3 ((cs.drop 0).take (Tryz.prog.cellsOf 3))=xs[0]?:=E 0 _ rfl
 have M:DataW.trod enc Tryz.prog w base spare held I 3 ((cs.drop 1).take (Tryz.prog.cellsOf 3))=xs[1]?:=E 1 _ rfl
 have C:DataW.trod enc Tryz.prog w base spare held I 202 ((cs.drop 2).take (Tryz.prog.cellsOf 202))=xs[2]?:=E 2 _ rfl
 rw [V] at J M
 rw [W] at C
 obtain⟨z0,e0⟩:=Cv J (Bh G (by omega))
 obtain⟨z1,U⟩:=Cv M (Bh G (by omega))
 obtain⟨y2,a3⟩:=Option.isSome_iff_exists.1 (Bh G (show 2<3 by omega))
 rw [a3] at C
 obtain⟨l,Z⟩:=JV C
 have y:∀j,j<4→cs[2+j]?=some (EG l j):=fun j z=>by
  have O:=Z j z
  rw [List.getElem?_take,if_pos z,List.getElem?_drop] at O
  exact O
 refine⟨⟨z0,z1,l⟩,fun j z=>?_⟩
 match j,z with
 | 0,_=>exact e0
 | 1,_=>exact U
 | 2,_=>exact y 0 (by omega)
 | 3,_=>exact y 1 (by omega)
 | 4,_=>exact y 2 (by omega)
 | 5,_=>exact y 3 (by omega)
theorem TM {fuel:Nat} {v:Value} {x:DataW H×List MemPlace} (h:DataW.trod enc Tryz.prog w base spare held fuel 97 [v]=some x):∃A c,∃xs:List Thr,v=.slice A xs.length c∧Sl w w.heap.size 6 CS A xs:=by
 obtain⟨A,c,ds,z,y,_⟩:=Fr (D:=Thr) (R:=fun cs l=>∀j,j<6→cs[j]?=some (CS l j)) Tryz.underlying97 (k:=6) (by kernel_rfl) (by omega) (fun n cs x C ht=>TK ht) h
 exact⟨A,c,ds,z,GX y⟩
theorem Dz {cs:List Value} {n i:Nat} {x:Option (DataW H×List MemPlace)} (h:DataW.trod enc Tryz.prog w base spare held n 24 ((cs.drop i).take 1)=x) (I:x.isSome=true) (C:i<cs.length):∃A c,∃xs:List Int,cs[i]?=some (.slice A xs.length c)∧Sl w w.heap.size 1 Ai A xs:=by
 obtain⟨y,rfl⟩:=Option.isSome_iff_exists.1 I
 obtain⟨v,G,z⟩:=Fm C
 rw [z] at h
 obtain⟨A,c,xs,rfl,E⟩:=JJ h
 exact⟨A,c,xs,G,E⟩
theorem TL {cs:List Value} {n i:Nat} {x:Option (DataW H×List MemPlace)} (h:DataW.trod enc Tryz.prog w base spare held n 97 ((cs.drop i).take 1)=x) (I:x.isSome=true) (C:i<cs.length):∃A c,∃xs:List Thr,cs[i]?=some (.slice A xs.length c)∧Sl w w.heap.size 6 CS A xs:=by
 obtain⟨y,rfl⟩:=Option.isSome_iff_exists.1 I
 obtain⟨v,G,z⟩:=Fm C
 rw [z] at h
 obtain⟨A,c,xs,rfl,E⟩:=TM h
 exact⟨A,c,xs,G,E⟩
theorem QR {cs:List Value} {n i:Nat} {x:Option (DataW H×List MemPlace)} (h:DataW.trod enc Tryz.prog w base spare held n 23 ((cs.drop i).take 1)=x) (I:x.isSome=true) (C:i<cs.length):∃A c,∃xs:List Lin,cs[i]?=some (.slice A xs.length c)∧Sl w w.heap.size 4 EG A xs:=by
 obtain⟨y,rfl⟩:=Option.isSome_iff_exists.1 I
 obtain⟨v,G,z⟩:=Fm C
 rw [z] at h
 obtain⟨A,c,xs,rfl,E⟩:=QS h
 exact⟨A,c,xs,G,E⟩
theorem Is {cs:List Value} {n i:Nat} {x:Option (DataW H×List MemPlace)} (h:DataW.trod enc Tryz.prog w base spare held n 22 ((cs.drop i).take 1)=x) (J:x.isSome=true) (E:i<cs.length):∃A c,∃xs:List ByteArray,cs[i]?=some (.slice A xs.length c)∧Sl w w.heap.size 1 BE A xs∧∀s∈xs,s.size≤9223372036854775807:=by
 obtain⟨y,rfl⟩:=Option.isSome_iff_exists.1 J
 obtain⟨v,I,z⟩:=Fm E
 rw [z] at h
 obtain⟨A,c,xs,rfl,G,C⟩:=Tq h
 exact⟨A,c,xs,I,G,C⟩
theorem Ir {cs:List Value} {n i:Nat} {x:Option (DataW H×List MemPlace)} (h:DataW.trod enc Tryz.prog w base spare held n 9 ((cs.drop i).take 1)=x) (G:x.isSome=true):∃z:ByteArray,cs[i]?=some (.string z)∧z.size≤9223372036854775807:=by
 obtain⟨y,rfl⟩:=Option.isSome_iff_exists.1 G
 obtain⟨z,I,_,E⟩:=DataW.trod_string Tryz.underlying9 h
 refine⟨z,?_,by unfold maxLen at E; omega⟩
 have C:((cs.drop i).take 1)[0]?=some (.string z):=by rw [I]; rfl
 rw [List.getElem?_take] at C
 simpa using C
theorem SI {n:Nat} {cs:List Value} {x:DataW H×List MemPlace} (bj:cs.length=18) (h:DataW.trod enc Tryz.prog w base spare held n 99 cs=some x):∃r:Az,AW w w.heap.size cs r∧r.name.size≤9223372036854775807:=by
 obtain⟨xs,C,_,_,_,b9,y⟩:=DataW.trod_struct Tryz.underlying99 h
 have z:xs.length=18:=b9
 have E:Tryz.prog.cellsOf 3=1:=by kernel_rfl
 have b7:Tryz.prog.cellsOf 9=1:=by kernel_rfl
 have G:Tryz.prog.cellsOf 24=1:=by kernel_rfl
 have b6:Tryz.prog.cellsOf 97=1:=by kernel_rfl
 have f0:DataW.trod enc Tryz.prog w base spare held C 9 ((cs.drop 0).take (Tryz.prog.cellsOf 9))=xs[0]?:=y 0 _ rfl
 rw [b7] at f0
 obtain⟨z0,e0,b0⟩:=Ir f0 (Bh z (by omega))
 have f1:DataW.trod enc Tryz.prog w base spare held C 3 ((cs.drop 1).take (Tryz.prog.cellsOf 3))=xs[1]?:=y 1 _ rfl
 rw [E] at f1
 obtain⟨z1,e1⟩:=Cv f1 (Bh z (by omega))
 have f2:DataW.trod enc Tryz.prog w base spare held C 3 ((cs.drop 2).take (Tryz.prog.cellsOf 3))=xs[2]?:=y 2 _ rfl
 rw [E] at f2
 obtain⟨z2,e2⟩:=Cv f2 (Bh z (by omega))
 have f3:DataW.trod enc Tryz.prog w base spare held C 3 ((cs.drop 3).take (Tryz.prog.cellsOf 3))=xs[3]?:=y 3 _ rfl
 rw [E] at f3
 obtain⟨z3,e3⟩:=Cv f3 (Bh z (by omega))
 have f4:DataW.trod enc Tryz.prog w base spare held C 3 ((cs.drop 4).take (Tryz.prog.cellsOf 3))=xs[4]?:=y 4 _ rfl
 rw [E] at f4
 obtain⟨z4,e4⟩:=Cv f4 (Bh z (by omega))
 have f5:DataW.trod enc Tryz.prog w base spare held C 3 ((cs.drop 5).take (Tryz.prog.cellsOf 3))=xs[5]?:=y 5 _ rfl
 rw [E] at f5
 obtain⟨z5,e5⟩:=Cv f5 (Bh z (by omega))
 have f6:DataW.trod enc Tryz.prog w base spare held C 24 ((cs.drop 6).take (Tryz.prog.cellsOf 24))=xs[6]?:=y 6 _ rfl
 rw [G] at f6
 obtain⟨V,c6,z6,e6,s6⟩:=Dz f6 (Bh z (by omega)) (by omega)
 have f7:DataW.trod enc Tryz.prog w base spare held C 97 ((cs.drop 7).take (Tryz.prog.cellsOf 97))=xs[7]?:=y 7 _ rfl
 rw [b6] at f7
 obtain⟨W,c7,z7,e7,s7⟩:=TL f7 (Bh z (by omega)) (by omega)
 have f8:DataW.trod enc Tryz.prog w base spare held C 24 ((cs.drop 8).take (Tryz.prog.cellsOf 24))=xs[8]?:=y 8 _ rfl
 rw [G] at f8
 obtain⟨Z,c8,z8,e8,s8⟩:=Dz f8 (Bh z (by omega)) (by omega)
 have f9:DataW.trod enc Tryz.prog w base spare held C 24 ((cs.drop 9).take (Tryz.prog.cellsOf 24))=xs[9]?:=y 9 _ rfl
 rw [G] at f9
 obtain⟨A9,c9,z9,e9,s9⟩:=Dz f9 (Bh z (by omega)) (by omega)
 have ae:DataW.trod enc Tryz.prog w base spare held C 3 ((cs.drop 10).take (Tryz.prog.cellsOf 3))=xs[10]?:=y 10 _ rfl
 rw [E] at ae
 obtain⟨aw,aP⟩:=Cv ae (Bh z (by omega))
 have af:DataW.trod enc Tryz.prog w base spare held C 3 ((cs.drop 11).take (Tryz.prog.cellsOf 3))=xs[11]?:=y 11 _ rfl
 rw [E] at af
 obtain⟨ax,aQ⟩:=Cv af (Bh z (by omega))
 have ag:DataW.trod enc Tryz.prog w base spare held C 24 ((cs.drop 12).take (Tryz.prog.cellsOf 24))=xs[12]?:=y 12 _ rfl
 rw [G] at ag
 obtain⟨J,a3,ay,aR,ba⟩:=Dz ag (Bh z (by omega)) (by omega)
 have ah:DataW.trod enc Tryz.prog w base spare held C 3 ((cs.drop 13).take (Tryz.prog.cellsOf 3))=xs[13]?:=y 13 _ rfl
 rw [E] at ah
 obtain⟨az,aS⟩:=Cv ah (Bh z (by omega))
 have ai:DataW.trod enc Tryz.prog w base spare held C 24 ((cs.drop 14).take (Tryz.prog.cellsOf 24))=xs[14]?:=y 14 _ rfl
 rw [G] at ai
 obtain⟨M,a4,aA,aT,bb⟩:=Dz ai (Bh z (by omega)) (by omega)
 have aj:DataW.trod enc Tryz.prog w base spare held C 24 ((cs.drop 15).take (Tryz.prog.cellsOf 24))=xs[15]?:=y 15 _ rfl
 rw [G] at aj
 obtain⟨O,a5,aB,aU,bd⟩:=Dz aj (Bh z (by omega)) (by omega)
 have ak:DataW.trod enc Tryz.prog w base spare held C 24 ((cs.drop 16).take (Tryz.prog.cellsOf 24))=xs[16]?:=y 16 _ rfl
 rw [G] at ak
 obtain⟨U,a6,aC,aV,be⟩:=Dz ak (Bh z (by omega)) (by omega)
 have al:DataW.trod enc Tryz.prog w base spare held C 3 ((cs.drop 17).take (Tryz.prog.cellsOf 3))=xs[17]?:=y 17 _ rfl
 rw [E] at al
 obtain⟨aD,aW⟩:=Cv al (Bh z (by omega))
 have b8:cs=[.string z0,.int .i64 z1,.int .i64 z2,.int .i64 z3,.int .i64 z4,.int .i64 z5,.slice V z6.length c6,.slice W z7.length c7,.slice Z z8.length c8,.slice A9 z9.length c9,.int .i64 aw,.int .i64 ax,.slice J ay.length a3,.int .i64 az,.slice M aA.length a4,.slice O aB.length a5,.slice U aC.length a6,.int .i64 aD]:=by
  apply List.ext_getElem?
  intro j
  by_cases I:j<18
  ·match j,I with
   | 0,_=>exact e0
   | 1,_=>exact e1
   | 2,_=>exact e2
   | 3,_=>exact e3
   | 4,_=>exact e4
   | 5,_=>exact e5
   | 6,_=>exact e6
   | 7,_=>exact e7
   | 8,_=>exact e8
   | 9,_=>exact e9
   | 10,_=>exact aP
   | 11,_=>exact aQ
   | 12,_=>exact aR
   | 13,_=>exact aS
   | 14,_=>exact aT
   | 15,_=>exact aU
   | 16,_=>exact aV
   | 17,_=>exact aW
   | k+18,I=>exact absurd I (by omega)
  ·rw [List.getElem?_eq_none (by omega),List.getElem?_eq_none (by simp; omega)]
 exact⟨⟨z0,z1,z2,z3,z4,z5,z6,z7,z8,z9,aw,ax,ay,az,aA,aB,aC,aD⟩,⟨V,c6,W,c7,Z,c8,A9,c9,J,a3,M,a4,O,a5,U,a6,b8,s6,s7,s8,s9,ba,bb,bd,be⟩,b0⟩
theorem SK {fuel:Nat} {v:Value} {x:DataW H×List MemPlace} (h:DataW.trod enc Tryz.prog w base spare held fuel 25 [v]=some x):∃A c,∃xs:List Az,v=.slice A xs.length c∧BR w w.heap.size 18 (AW w w.heap.size) A xs∧xs.length≤c∧∀r∈xs,r.name.size≤9223372036854775807:=by
 obtain⟨A,c,ds,W,E,M⟩:=Fr (D:={ r:Az // r.name.size≤9223372036854775807 }) (R:=fun cs l=>AW w w.heap.size cs l.1) Tryz.underlying25 (k:=18) (by kernel_rfl) (by omega) (fun n cs x U ht=>by
  obtain⟨r,G,I⟩:=SI U ht
  exact⟨⟨r,I⟩,G⟩) h
 refine⟨A,c,ds.map (·.1),by rw [List.length_map]; exact W,⟨by rw [List.length_map]; exact E.1,fun C=>?_⟩,by rw [List.length_map]; exact M,fun r V=>?_⟩
 ·obtain⟨b,Z,e,J,O⟩:=E.2 (by intro e; rw [e] at C; exact C rfl)
  refine⟨b,Z,e,J,fun i d hd=>?_⟩
  rw [List.getElem?_map] at hd
  cases y:ds[i]? with
  | none=>rw [y] at hd; cases hd
  | some z=>
   rw [y] at hd
   obtain rfl:=Option.some.inj hd
   exact O i z y
 ·obtain⟨z,_,rfl⟩:=List.mem_map.1 V
  exact z.2
theorem M9 {n:Nat} {cs:List Value} {x:DataW H×List MemPlace} (a4:cs.length=2) (h:DataW.trod enc Tryz.prog w base spare held n 119 cs=some x):∃c:D9,Db w w.heap.size cs c:=by
 obtain⟨xs,M,_,_,_,a3,I⟩:=DataW.trod_struct Tryz.underlying119 h
 have J:xs.length=2:=a3
 have Z:Tryz.prog.cellsOf 3=1:=by kernel_rfl
 have W:Tryz.prog.cellsOf 24=1:=by kernel_rfl
 have E:DataW.trod enc Tryz.prog w base spare held M 24 ((cs.drop 0).take (Tryz.prog.cellsOf 24))=xs[0]?:=I 0 _ rfl
 rw [W] at E
 obtain⟨z,C,O,e0,s0⟩:=Dz E (Bh J (by omega)) (by omega)
 have G:DataW.trod enc Tryz.prog w base spare held M 3 ((cs.drop 1).take (Tryz.prog.cellsOf 3))=xs[1]?:=I 1 _ rfl
 rw [Z] at G
 obtain⟨U,V⟩:=Cv G (Bh J (by omega))
 have a2:cs=[.slice z O.length C,.int .i64 U]:=by
  apply List.ext_getElem?
  intro j
  by_cases y:j<2
  ·match j,y with
   | 0,_=>exact e0
   | 1,_=>exact V
   | k+2,y=>exact absurd y (by omega)
  ·rw [List.getElem?_eq_none (by omega),List.getElem?_eq_none (by simp; omega)]
 exact⟨⟨O,U⟩,⟨z,C,a2,s0⟩⟩
theorem Nc {fuel:Nat} {v:Value} {x:DataW H×List MemPlace} (h:DataW.trod enc Tryz.prog w base spare held fuel 28 [v]=some x):∃A c,∃xs:List D9,v=.slice A xs.length c∧BR w w.heap.size 2 (Db w w.heap.size) A xs∧True:=by
 obtain⟨A,c,ds,C,z,_⟩:=Fr (D:=D9) (R:=Db w w.heap.size) Tryz.underlying28 (k:=2) (by kernel_rfl) (by omega) (fun n cs x y ht=>M9 y ht) h
 exact⟨A,c,ds,C,z,trivial⟩
theorem SJ {cs:List Value} {n i:Nat} {x:Option (DataW H×List MemPlace)} (h:DataW.trod enc Tryz.prog w base spare held n 25 ((cs.drop i).take 1)=x) (J:x.isSome=true) (E:i<cs.length):∃A c,∃xs:List Az,cs[i]?=some (.slice A xs.length c)∧BR w w.heap.size 18 (AW w w.heap.size) A xs∧xs.length≤c∧∀r∈xs,r.name.size≤9223372036854775807:=by
 obtain⟨y,rfl⟩:=Option.isSome_iff_exists.1 J
 obtain⟨v,I,z⟩:=Fm E
 rw [z] at h
 obtain⟨A,c,xs,rfl,G,C⟩:=SK h
 exact⟨A,c,xs,I,G,C⟩
theorem Na {cs:List Value} {n i:Nat} {x:Option (DataW H×List MemPlace)} (h:DataW.trod enc Tryz.prog w base spare held n 28 ((cs.drop i).take 1)=x) (J:x.isSome=true) (E:i<cs.length):∃A c,∃xs:List D9,cs[i]?=some (.slice A xs.length c)∧BR w w.heap.size 2 (Db w w.heap.size) A xs∧True:=by
 obtain⟨y,rfl⟩:=Option.isSome_iff_exists.1 J
 obtain⟨v,I,z⟩:=Fm E
 rw [z] at h
 obtain⟨A,c,xs,rfl,G,C⟩:=Nc h
 exact⟨A,c,xs,I,G,C⟩
theorem RF {n:Nat} {cs:List Value} {x:DataW H×List MemPlace} (aT:cs.length=10) (h:DataW.trod enc Tryz.prog w base spare held n 27 cs=some x):∃p:Am,At w w.heap.size cs p∧p.Fits:=by
 obtain⟨xs,C,_,_,_,aL,y⟩:=DataW.trod_struct Tryz.underlying27 h
 have z:xs.length=10:=aL
 have aj:Tryz.prog.cellsOf 3=1:=by kernel_rfl
 have aJ:Tryz.prog.cellsOf 9=1:=by kernel_rfl
 have G:Tryz.prog.cellsOf 22=1:=by kernel_rfl
 have aG:Tryz.prog.cellsOf 23=1:=by kernel_rfl
 have ai:Tryz.prog.cellsOf 24=1:=by kernel_rfl
 have aH:Tryz.prog.cellsOf 25=1:=by kernel_rfl
 have f0:DataW.trod enc Tryz.prog w base spare held C 9 ((cs.drop 0).take (Tryz.prog.cellsOf 9))=xs[0]?:=y 0 _ rfl
 rw [aJ] at f0
 obtain⟨z0,e0,b0⟩:=Ir f0 (Bh z (by omega))
 have f1:DataW.trod enc Tryz.prog w base spare held C 3 ((cs.drop 1).take (Tryz.prog.cellsOf 3))=xs[1]?:=y 1 _ rfl
 rw [aj] at f1
 obtain⟨z1,e1⟩:=Cv f1 (Bh z (by omega))
 have f2:DataW.trod enc Tryz.prog w base spare held C 22 ((cs.drop 2).take (Tryz.prog.cellsOf 22))=xs[2]?:=y 2 _ rfl
 rw [G] at f2
 obtain⟨J,c2,z2,e2,s2,b2⟩:=Is f2 (Bh z (by omega)) (by omega)
 have f3:DataW.trod enc Tryz.prog w base spare held C 22 ((cs.drop 3).take (Tryz.prog.cellsOf 22))=xs[3]?:=y 3 _ rfl
 rw [G] at f3
 obtain⟨M,c3,z3,e3,s3,b3⟩:=Is f3 (Bh z (by omega)) (by omega)
 have f4:DataW.trod enc Tryz.prog w base spare held C 22 ((cs.drop 4).take (Tryz.prog.cellsOf 22))=xs[4]?:=y 4 _ rfl
 rw [G] at f4
 obtain⟨O,c4,z4,e4,s4,b4⟩:=Is f4 (Bh z (by omega)) (by omega)
 have f5:DataW.trod enc Tryz.prog w base spare held C 3 ((cs.drop 5).take (Tryz.prog.cellsOf 3))=xs[5]?:=y 5 _ rfl
 rw [aj] at f5
 obtain⟨z5,e5⟩:=Cv f5 (Bh z (by omega))
 have f6:DataW.trod enc Tryz.prog w base spare held C 23 ((cs.drop 6).take (Tryz.prog.cellsOf 23))=xs[6]?:=y 6 _ rfl
 rw [aG] at f6
 obtain⟨U,c6,z6,e6,s6⟩:=QR f6 (Bh z (by omega)) (by omega)
 have f7:DataW.trod enc Tryz.prog w base spare held C 24 ((cs.drop 7).take (Tryz.prog.cellsOf 24))=xs[7]?:=y 7 _ rfl
 rw [ai] at f7
 obtain⟨V,c7,z7,e7,s7⟩:=Dz f7 (Bh z (by omega)) (by omega)
 have f8:DataW.trod enc Tryz.prog w base spare held C 24 ((cs.drop 8).take (Tryz.prog.cellsOf 24))=xs[8]?:=y 8 _ rfl
 rw [ai] at f8
 obtain⟨W,c8,z8,e8,s8⟩:=Dz f8 (Bh z (by omega)) (by omega)
 have f9:DataW.trod enc Tryz.prog w base spare held C 25 ((cs.drop 9).take (Tryz.prog.cellsOf 25))=xs[9]?:=y 9 _ rfl
 rw [aH] at f9
 obtain⟨Z,c9,z9,e9,s9,b9⟩:=SJ f9 (Bh z (by omega)) (by omega)
 have aK:cs=[.string z0,.int .i64 z1,.slice J z2.length c2,.slice M z3.length c3,.slice O z4.length c4,.int .i64 z5,.slice U z6.length c6,.slice V z7.length c7,.slice W z8.length c8,.slice Z z9.length c9]:=by
  apply List.ext_getElem?
  intro j
  by_cases I:j<10
  ·match j,I with
   | 0,_=>exact e0
   | 1,_=>exact e1
   | 2,_=>exact e2
   | 3,_=>exact e3
   | 4,_=>exact e4
   | 5,_=>exact e5
   | 6,_=>exact e6
   | 7,_=>exact e7
   | 8,_=>exact e8
   | 9,_=>exact e9
   | k+10,I=>exact absurd I (by omega)
  ·rw [List.getElem?_eq_none (by omega),List.getElem?_eq_none (by simp; omega)]
 refine⟨⟨z0,z1,z2,z3,z4,z5,z6,z7,z8,z9⟩,⟨J,c2,M,c3,O,c4,U,c6,V,c7,W,c8,Z,c9,aK,s2,s3,s4,s6,s7,s8,s9,b9.1⟩,⟨b0,fun x E=>?_,b9.2⟩⟩
 simp only [Bd,List.mem_append] at E
 rcases E with(E | E) | E
 ·exact b2 x E
 ·exact b3 x E
 ·exact b4 x E
theorem RB {n:Nat} {cs:List Value} {x:DataW H×List MemPlace} (ar:cs.length=6) (h:DataW.trod enc Tryz.prog w base spare held n 30 cs=some x):∃q:AB,Ba w w.heap.size cs q∧q.Fits:=by
 obtain⟨xs,C,_,_,_,am,y⟩:=DataW.trod_struct Tryz.underlying30 h
 have z:xs.length=6:=am
 have aj:Tryz.prog.cellsOf 3=1:=by kernel_rfl
 have ak:Tryz.prog.cellsOf 9=1:=by kernel_rfl
 have E:Tryz.prog.cellsOf 24=1:=by kernel_rfl
 have ai:Tryz.prog.cellsOf 28=1:=by kernel_rfl
 have Z:DataW.trod enc Tryz.prog w base spare held C 9 ((cs.drop 0).take (Tryz.prog.cellsOf 9))=xs[0]?:=y 0 _ rfl
 rw [ak] at Z
 obtain⟨z0,e0,b0⟩:=Ir Z (Bh z (by omega))
 have f1:DataW.trod enc Tryz.prog w base spare held C 3 ((cs.drop 1).take (Tryz.prog.cellsOf 3))=xs[1]?:=y 1 _ rfl
 rw [aj] at f1
 obtain⟨z1,e1⟩:=Cv f1 (Bh z (by omega))
 have f2:DataW.trod enc Tryz.prog w base spare held C 24 ((cs.drop 2).take (Tryz.prog.cellsOf 24))=xs[2]?:=y 2 _ rfl
 rw [E] at f2
 obtain⟨I,c2,z2,e2,s2⟩:=Dz f2 (Bh z (by omega)) (by omega)
 have f3:DataW.trod enc Tryz.prog w base spare held C 28 ((cs.drop 3).take (Tryz.prog.cellsOf 28))=xs[3]?:=y 3 _ rfl
 rw [ai] at f3
 obtain⟨J,U,z3,e3,s3,b3⟩:=Na f3 (Bh z (by omega)) (by omega)
 have f4:DataW.trod enc Tryz.prog w base spare held C 24 ((cs.drop 4).take (Tryz.prog.cellsOf 24))=xs[4]?:=y 4 _ rfl
 rw [E] at f4
 obtain⟨M,V,z4,e4,s4⟩:=Dz f4 (Bh z (by omega)) (by omega)
 have f5:DataW.trod enc Tryz.prog w base spare held C 24 ((cs.drop 5).take (Tryz.prog.cellsOf 24))=xs[5]?:=y 5 _ rfl
 rw [E] at f5
 obtain⟨O,W,z5,e5,s5⟩:=Dz f5 (Bh z (by omega)) (by omega)
 have al:cs=[.string z0,.int .i64 z1,.slice I z2.length c2,.slice J z3.length U,.slice M z4.length V,.slice O z5.length W]:=by
  apply List.ext_getElem?
  intro j
  by_cases G:j<6
  ·match j,G with
   | 0,_=>exact e0
   | 1,_=>exact e1
   | 2,_=>exact e2
   | 3,_=>exact e3
   | 4,_=>exact e4
   | 5,_=>exact e5
   | k+6,G=>exact absurd G (by omega)
  ·rw [List.getElem?_eq_none (by omega),List.getElem?_eq_none (by simp; omega)]
 exact⟨⟨z0,z1,z2,z3,z4,z5⟩,⟨I,c2,J,U,M,V,O,W,al,s2,s3,s4,s5⟩,b0⟩
end
end Go.Proofs.YtfcfpoemojjglaaGreatDoor.K
