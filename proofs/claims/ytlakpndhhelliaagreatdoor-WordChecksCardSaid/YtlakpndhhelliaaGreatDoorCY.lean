/-
  Part CY of a proof.
-/
import Derived.ProofKit
import Derived.Deep.Slices
import Derived.Deep.Fields
import Derived.ChangeArms
import Derived.Test.YtlakpndhhelliaaGreatDoorPA
import Derived.Test.YtlakpndhhelliaaGreatDoorCS
import Derived.Test.YtlakpndhhelliaaGreatDoorCT
import Derived.Test.YtlakpndhhelliaaGreatDoorCW
import Derived.Test.YtlakpndhhelliaaGreatDoorCX
set_option maxHeartbeats 16000000
set_option maxRecDepth 100000
set_option linter.unusedVariables false
set_option linter.unusedSimpArgs false
namespace Go.Proofs.YtlakpndhhelliaaGreatDoor.K
open Go.RowKit
attribute [-go_sem] loadCellsFrom storeCells
theorem Md {w:World} {cs ds:List Value} {p:Ao} {q:Bd} (h:Ax w w.heap.size cs p) (f:BE w w.heap.size ds q) (y:p.Small) (z:q.Small) (C:AL w):
  Calls Tryz.prog 14 #[.agg cs.toArray,.agg ds.toArray] w (Ret fun v w'=>v=.int .i64 (AJ Ab p q)∧Below w.heap.size w w'):=by
 by_cases E:At Ab p=0
 case neg=>exact LW h f y z C (hide rfl) (by simpa using E)
 cases F:Ab q.name with
 | false=>exact Mp h f y z C E F
 | true=>
  by_cases G:q.kind=1
  ·exact Rj h f y z C E F G
  ·by_cases I:q.kind=2
   ·exact MX h f y z C E F I
   ·exact Px h f y z C E F G I
end Go.Proofs.YtlakpndhhelliaaGreatDoor.K
namespace Go.Proofs.YtlakpndhhelliaaGreatDoor.K
open Go.RowKit
attribute [-go_sem] loadCellsFrom storeCells
theorem L9 {w:World} {cs ds:List Value} {p:Ao} {q:Bd} (h:Ax w w.heap.size cs p) (O:BE w w.heap.size ds q) (a8:p.Small) (a9:q.Small) (hT:AL w):
  Calls Tryz.prog 7 #[.agg cs.toArray,.agg ds.toArray] w (Ret fun v w'=>v=.int .i64 (Dp Ab p q)∧Below w.heap.size w w'):=by
 obtain⟨B1,d1,B2,d2,B3,d3,B4,d4,ab,ak,al,am,an,ao,U,k1,k2,k3,k4⟩:=O.cells
 obtain⟨A1,c1,A2,c2,A3,c3,A4,c4,A5,c5,A6,c6,A7,c7,ad,av,aw,-⟩:=Ef h
 obtain⟨w1,b1,V,ae,ax⟩:=Ag w cs.toArray 27
 obtain⟨w2,b4,W,af,ay⟩:=Ag w1 ds.toArray 30
 have f:=hide (V.trans (W.mono V.size))
 have G:=hide (show PQX w2 w.heap.size w1.heap.size cs.toArray ds.toArray p q from⟨h.keep (fun _ Z=>f.out.cell Z) f.out.size,O.keep (fun _ Z=>f.out.cell Z) f.out.size,ae.below W,af,hT.below f.out⟩)
 generalize az:cs.toArray=pc at*
 generalize aA:ds.toArray=qc at*
 obtain⟨E,ag⟩:∃e,Hid (AJ Ab p q=e):=⟨_,rfl⟩
 have ah:∀F,Hid (PQX F w.heap.size w1.heap.size pc qc p q)→Calls Tryz.prog 14 #[.agg pc,.agg qc] F (Ret fun v w'=>v=.int .i64 E∧Below F.heap.size F w'):=fun F hx=>by
  rw [←ag.out]
  exact Md hx.out.pr hx.out.qr a8 a9 hx.out.tab
 have aB:=hide ah
 have b5:=Am G.out.b2 ad
 have b6:=Am G.out.b3 ab
 obtain⟨I,a3⟩:∃n,n=q.kind:=⟨_,rfl⟩
 obtain⟨kt,a4⟩:∃n,n=p.topo:=⟨_,rfl⟩
 rw [←a3] at al
 rw [←a4] at aw
 have ai:=hide (show Dp Ab p q=orE E (Ac (!(kt==2||kt==3)||I != 1) 7) from by
  unfold Dp
  rw [ag.out,a4,a3])
 clear k1 k2 k3 k4 h O a8 a9 V W ae af ax ay az aA hT ad ab ah ak am an ao U a3 a4 av
 go_enter Tryz.func7,Tryz.ntmps7
 go_wp2_with fail
 refine Calls.ret (aB.out _ G) ?_
 rintro v w3 ⟨rfl,a5⟩
 have aj:=hide (G.out.at a5)
 have b8:=aj.out.b2.cell
 have b9:=aj.out.b3.cell
 have J:=hide (f.out.trans (a5.mono f.out.size))
 clear a5
 by_cases z:E=0
 case neg=>
  have U:(E != 0)=true:=by simp [z]
  have aC:=hide z
  clear z
  go_wp2_with fail
  go_ret
  exact⟨congrArg (Value.int .i64) (ai.out.trans (Bz aC.out)).symm,J.out⟩
 have U:(E != 0)=false:=by simp [z]
 have M:=hide (show Dp Ab p q=Ac (!(kt==2||kt==3)||I != 1) 7 from ai.out.trans (by rw [z]; rfl))
 clear z
 have ba:=M
 by_cases y:kt=2
 ·have g1:(kt != 2)=false:=by simp [y]
  have g2:Hid ((kt==2||kt==3)=true):=hide (by simp [y])
  clear y
  cases a6:(I != 1)
  all_goals
   have a7:=hide a6
   go_wp2_with fail
   go_ret
   exact⟨congrArg (Value.int .i64) (M.out.trans (by rw [a7.out,g2.out]; rfl)).symm,J.out⟩
 ·have g1:(kt != 2)=true:=by simp [y]
  by_cases C:kt=3
  ·have g3:(kt != 3)=false:=by simp [C]
   have g2:Hid ((kt==2||kt==3)=true):=hide (by simp [C])
   clear y C
   cases a6:(I != 1)
   all_goals
    have a7:=hide a6
    go_wp2_with fail
    go_ret
    exact⟨congrArg (Value.int .i64) (M.out.trans (by rw [a7.out,g2.out]; rfl)).symm,J.out⟩
  ·have g3:(kt != 3)=true:=by simp [C]
   have g2:Hid ((kt==2||kt==3)=false):=hide (by simp [y,C])
   clear y C
   go_wp2_with fail
   go_ret
   exact⟨congrArg (Value.int .i64) (M.out.trans (by rw [g2.out]; rfl)).symm,J.out⟩
end Go.Proofs.YtlakpndhhelliaaGreatDoor.K
namespace Go.Proofs.YtlakpndhhelliaaGreatDoor.K
open Go.RowKit Go.ChangeShapes Go.WideShapes Go.Deep
section
variable {H:Type} {enc:TypeId×Value→H} {P:Program} {w:World} {base:Nat} {spare:Nat→Bool} {held:Bool}
theorem Lp {w:World} {a:Addr} {v:Value} (h:w.cell? a=some v):a.block<w.heap.size:=by
 unfold World.cell? at h
 split at h
 ·rename_i hh
  exact(Array.getElem?_eq_some_iff.1 hh).1
 ·cases h
theorem JM (b f i:Nat):(⟨b,f,none⟩:Addr).add i=⟨b,f+i,none⟩:=by
 unfold Addr.add
 split <;> simp_all
theorem JB {D:Type} {p:Nat→D→Prop}:∀n:Nat,(∀i,i<n→∃d,p i d)→∃l:List D,l.length=n∧∀(i:Nat) (d:D),l[i]?=some d→p i d
 | 0,_=>⟨[],rfl,fun i d h=>by simp at h⟩
 | n+1,h=>by
  obtain⟨l,y,C⟩:=JB n fun i z=>h i (by omega)
  obtain⟨d,hd⟩:=h n (by omega)
  refine⟨l++[d],by simp [y],fun i x f=>?_⟩
  by_cases z:i<l.length
  ·rw [List.getElem?_append_left z] at f
   exact C i x f
  ·have E:=AO f
   simp at E
   obtain rfl:i=l.length:=by omega
   simp at f
   subst f
   rw [y]
   exact hd
theorem OJ {D:Type} {k:Nat} {R:List Value→D→Prop} {a:Addr} {len:Nat} (hk:0<k) (a3:len≤9223372036854775807)
  (h:∀i,i<len→∃d:D,∃cs:List Value,cs.length=k∧(∀(j:Nat) (u:Value),cs[j]?=some u→w.cell? (a.add (i*k+j))=some u)∧R cs d):
  ∃ds:List D,ds.length=len∧BJ w w.heap.size k R (some a) ds:=by
 obtain⟨ds,C,hd⟩:=JB len h
 refine⟨ds,C,by omega,fun E=>?_⟩
 obtain⟨b,F,G⟩:=a
 have I:ds[0]?=some (ds[0]'(by cases ds; exact absurd rfl E; simp)):=List.getElem?_eq_getElem _
 obtain⟨f,a4,J,-⟩:=hd 0 _ I
 have M:f[0]?=some (f[0]'(by omega)):=List.getElem?_eq_getElem _
 have y:=J 0 _ M
 have O:G=none:=by simpa [Addr.add] using World.cell?_spot y
 subst O
 have z:=Lp y
 rw [JM] at z
 refine⟨b,F,rfl,z,fun i d U=>?_⟩
 obtain⟨cs,V,W,Z⟩:=hd i d U
 refine⟨cs,V,fun j u hu=>?_,Z⟩
 have:=W j u hu
 rw [JM] at this
 rw [Nat.add_assoc]
 exact this
theorem FK {D:Type} {k:Nat} {en:D→Nat→Value} {A:Option Addr} {ds:List D} (h:BJ w w.heap.size k (fun cs d=>∀j,j<k→cs[j]?=some (en d j)) A ds):Sl w w.heap.size k en A ds:=
 ⟨h.1,fun f=>by
  obtain⟨b,y,e,z,C⟩:=h.2 f
  refine⟨b,y,e,z,fun i d hd j E=>?_⟩
  obtain⟨cs,I,F,G⟩:=C i d hd
  exact F j _ (G j E)⟩
theorem Et {t e k:Nat} (ht:P.underlying t=some (.slice e)) (E:P.cellsOf e=k) (hk:0<k) {D:Type} {R:List Value→D→Prop}
  (F:∀(n:Nat) (cs:List Value) (x:DataW H×List MemPlace),cs.length=k→DataW.trod enc P w base spare held n e cs=some x→∃d,R cs d)
  {fuel:Nat} {v:Value} {x:DataW H×List MemPlace} (h:DataW.trod enc P w base spare held fuel t [v]=some x):
  ∃A c,∃ds:List D,v=.slice A ds.length c∧BJ w w.heap.size k R A ds∧ds.length≤c:=by
 rcases open_slice ht h with⟨f,-⟩ | ⟨a,len,G,m,n,D',Pl,f,-,a4,I,J,-,z⟩
 ·injection f with f _
  subst f
  exact⟨none,0,[],rfl,BJ.nil rfl,Nat.le_refl _⟩
 ·injection f with f _
  subst f
  rw [E] at z
  have a5:len≤m:=by rw [J]; split <;> omega
  obtain⟨ds,M,O⟩:=OJ (w:=w) (R:=R) (a:=a) (len:=len) (k:=k) hk (by unfold maxLen at I; omega) (fun i hi=>by
   obtain⟨cs,U,V⟩:=z i (by omega)
   obtain⟨_,y,W⟩:=World.cells?_some U
   obtain⟨d,hd⟩:=F n cs _ y V
   refine⟨d,cs,y,fun j u C=>?_,hd⟩
   have g:=W j (by rw [←y]; exact AO C)
   have Z:(a.add (i*k)).add j=a.add (i*k+j):=Go.Deep.add_add ..
   rw [Z] at g
   rw [g]
   exact C)
  exact⟨some a,G,ds,by rw [M],O,by omega⟩
end
section
variable {H:Type} {enc:TypeId×Value→H} {w:World} {base:Nat} {spare:Nat→Bool} {held:Bool}
theorem IK {n:Nat} {cs:List Value} {x:DataW H×List MemPlace} (h:DataW.trod enc Tryz.prog w base spare held n 3 cs=some x):∃z:Int,cs=[.int .i64 z]:=by
 obtain⟨z,f,_⟩:=DataW.trod_int Tryz.underlying3 h
 exact⟨z,f⟩
theorem K6 {fuel:Nat} {v:Value} {x:DataW H×List MemPlace} (h:DataW.trod enc Tryz.prog w base spare held fuel 24 [v]=some x):∃A c,∃xs:List Int,v=.slice A xs.length c∧Sl w w.heap.size 1 Ai A xs:=by
 obtain⟨A,c,ds,f,y,_⟩:=Et (D:=Int) (R:=fun cs z=>∀j,j<1→cs[j]?=some (Ai z j)) Tryz.underlying24 (k:=1) (by kernel_rfl) (by omega) (fun n cs x C ht=>by
  obtain⟨z,rfl⟩:=IK ht
  exact⟨z,fun j E=>by
   have:j=0:=by omega
   subst this
   rfl⟩) h
 exact⟨A,c,ds,f,FK y⟩
theorem Qh {fuel:Nat} {v:Value} {x:DataW H×List MemPlace} (h:DataW.trod enc Tryz.prog w base spare held fuel 22 [v]=some x):∃A c,∃xs:List ByteArray,v=.slice A xs.length c∧Sl w w.heap.size 1 Bx A xs∧∀s∈xs,s.size≤9223372036854775807:=by
 obtain⟨A,c,ds,F,G,_⟩:=Et (D:={ s:ByteArray // s.size≤9223372036854775807 }) (R:=fun cs z=>∀j,j<1→cs[j]?=some (Bx z.1 j)) Tryz.underlying22 (k:=1) (by kernel_rfl) (by omega) (fun n cs x U ht=>by
  obtain⟨z,rfl,_,f⟩:=DataW.trod_string Tryz.underlying9 ht
  exact⟨⟨z,by unfold maxLen at f; omega⟩,fun j y=>by
   have:j=0:=by omega
   subst this
   rfl⟩) h
 refine⟨A,c,ds.map (·.1),by rw [List.length_map]; exact F,?_,fun s I=>?_⟩
 ·have C:=FK (en:=fun(z:{ s:ByteArray // s.size≤9223372036854775807 }) j=>Bx z.1 j) G
  refine⟨by rw [List.length_map]; exact C.1,fun E=>?_⟩
  obtain⟨b,J,e,M,O⟩:=C.2 (by intro e; rw [e] at E; exact E rfl)
  refine⟨b,J,e,M,fun k d hd j y=>?_⟩
  rw [List.getElem?_map] at hd
  cases f:ds[k]? with
  | none=>rw [f] at hd; cases hd
  | some z=>
   rw [f] at hd
   obtain rfl:=Option.some.inj hd
   exact O k z f j y
 ·obtain⟨z,_,rfl⟩:=List.mem_map.1 I
  exact z.2
theorem Cj {cs:List Value} {n i:Nat} {x:Option (DataW H×List MemPlace)} (h:DataW.trod enc Tryz.prog w base spare held n 3 ((cs.drop i).take 1)=x) (C:x.isSome=true):∃z:Int,cs[i]?=some (.int .i64 z):=by
 obtain⟨y,rfl⟩:=Option.isSome_iff_exists.1 C
 obtain⟨z,E⟩:=IK h
 refine⟨z,?_⟩
 have f:((cs.drop i).take 1)[0]?=some (.int .i64 z):=by rw [E]; rfl
 rw [List.getElem?_take] at f
 simpa using f
theorem EB {cs:List Value} {i:Nat} (h:i<cs.length):∃v,cs[i]?=some v∧(cs.drop i).take 1=[v]:=by
 refine⟨cs[i],List.getElem?_eq_getElem h,?_⟩
 rw [List.drop_eq_getElem_cons h]
 rfl
theorem AY {A:Type} {xs:List A} {n k:Nat} (h:xs.length=n) (hk:k<n):(xs[k]?).isSome=true:=by
 rw [List.getElem?_eq_getElem (by omega)]
 rfl
theorem HY {n:Nat} {cs:List Value} {x:DataW H×List MemPlace} (h:DataW.trod enc Tryz.prog w base spare held n 92 cs=some x):∃l:Lin,∀j,j<4→cs[j]?=some (En l j):=by
 obtain⟨xs,f,_,_,_,G,y⟩:=DataW.trod_struct Tryz.underlying92 h
 have z:xs.length=4:=G
 have I:Tryz.prog.cellsOf 3=1:=by kernel_rfl
 have C:DataW.trod enc Tryz.prog w base spare held f 3 ((cs.drop 0).take (Tryz.prog.cellsOf 3))=xs[0]?:=y 0 _ rfl
 have E:DataW.trod enc Tryz.prog w base spare held f 3 ((cs.drop 1).take (Tryz.prog.cellsOf 3))=xs[1]?:=y 1 _ rfl
 have F:DataW.trod enc Tryz.prog w base spare held f 3 ((cs.drop 2).take (Tryz.prog.cellsOf 3))=xs[2]?:=y 2 _ rfl
 have f3:DataW.trod enc Tryz.prog w base spare held f 3 ((cs.drop 3).take (Tryz.prog.cellsOf 3))=xs[3]?:=y 3 _ rfl
 rw [I] at C E F f3
 obtain⟨J,M⟩:=Cj C (AY z (by omega))
 obtain⟨O,U⟩:=Cj E (AY z (by omega))
 obtain⟨V,W⟩:=Cj F (AY z (by omega))
 obtain⟨Z,e3⟩:=Cj f3 (AY z (by omega))
 refine⟨⟨J,O,V,Z⟩,fun j hj=>?_⟩
 match j,hj with
 | 0,_=>exact M
 | 1,_=>exact U
 | 2,_=>exact W
 | 3,_=>exact e3
theorem Qk {fuel:Nat} {v:Value} {x:DataW H×List MemPlace} (h:DataW.trod enc Tryz.prog w base spare held fuel 23 [v]=some x):∃A c,∃xs:List Lin,v=.slice A xs.length c∧Sl w w.heap.size 4 En A xs:=by
 obtain⟨A,c,ds,f,y,_⟩:=Et (D:=Lin) (R:=fun cs l=>∀j,j<4→cs[j]?=some (En l j)) Tryz.underlying23 (k:=4) (by kernel_rfl) (by omega) (fun n cs x z ht=>HY ht) h
 exact⟨A,c,ds,f,FK y⟩
theorem QF {n:Nat} {cs:List Value} {x:DataW H×List MemPlace} (h:DataW.trod enc Tryz.prog w base spare held n 128 cs=some x):∃g:Thr,∀j,j<6→cs[j]?=some (CC g j):=by
 obtain⟨xs,z,_,_,_,M,C⟩:=DataW.trod_struct Tryz.underlying128 h
 have E:xs.length=3:=M
 have O:Tryz.prog.cellsOf 3=1:=by kernel_rfl
 have U:Tryz.prog.cellsOf 92=4:=by kernel_rfl
 have G:DataW.trod enc Tryz.prog w base spare held z 3 ((cs.drop 0).take (Tryz.prog.cellsOf 3))=xs[0]?:=C 0 _ rfl
 have I:DataW.trod enc Tryz.prog w base spare held z 3 ((cs.drop 1).take (Tryz.prog.cellsOf 3))=xs[1]?:=C 1 _ rfl
 have F:DataW.trod enc Tryz.prog w base spare held z 92 ((cs.drop 2).take (Tryz.prog.cellsOf 92))=xs[2]?:=C 2 _ rfl
 rw [O] at G I
 rw [U] at F
 obtain⟨V,W⟩:=Cj G (AY E (by omega))
 obtain⟨Z,e1⟩:=Cj I (AY E (by omega))
 obtain⟨y2,a3⟩:=Option.isSome_iff_exists.1 (AY E (show 2<3 by omega))
 rw [a3] at F
 obtain⟨l,a4⟩:=HY F
 have f:∀j,j<4→cs[2+j]?=some (En l j):=fun j y=>by
  have J:=a4 j y
  rw [List.getElem?_take,if_pos y,List.getElem?_drop] at J
  exact J
 refine⟨⟨V,Z,l⟩,fun j y=>?_⟩
 match j,y with
 | 0,_=>exact W
 | 1,_=>exact e1
 | 2,_=>exact f 0 (by omega)
 | 3,_=>exact f 1 (by omega)
 | 4,_=>exact f 2 (by omega)
 | 5,_=>exact f 3 (by omega)
theorem Pg {fuel:Nat} {v:Value} {x:DataW H×List MemPlace} (h:DataW.trod enc Tryz.prog w base spare held fuel 46 [v]=some x):∃A c,∃xs:List Thr,v=.slice A xs.length c∧Sl w w.heap.size 6 CC A xs:=by
 obtain⟨A,c,ds,f,y,_⟩:=Et (D:=Thr) (R:=fun cs l=>∀j,j<6→cs[j]?=some (CC l j)) Tryz.underlying46 (k:=6) (by kernel_rfl) (by omega) (fun n cs x z ht=>QF ht) h
 exact⟨A,c,ds,f,FK y⟩
theorem Dd {cs:List Value} {n i:Nat} {x:Option (DataW H×List MemPlace)} (h:DataW.trod enc Tryz.prog w base spare held n 24 ((cs.drop i).take 1)=x) (f:x.isSome=true) (z:i<cs.length):∃A c,∃xs:List Int,cs[i]?=some (.slice A xs.length c)∧Sl w w.heap.size 1 Ai A xs:=by
 obtain⟨y,rfl⟩:=Option.isSome_iff_exists.1 f
 obtain⟨v,C,E⟩:=EB z
 rw [E] at h
 obtain⟨A,c,xs,rfl,F⟩:=K6 h
 exact⟨A,c,xs,C,F⟩
theorem Pq {cs:List Value} {n i:Nat} {x:Option (DataW H×List MemPlace)} (h:DataW.trod enc Tryz.prog w base spare held n 46 ((cs.drop i).take 1)=x) (f:x.isSome=true) (z:i<cs.length):∃A c,∃xs:List Thr,cs[i]?=some (.slice A xs.length c)∧Sl w w.heap.size 6 CC A xs:=by
 obtain⟨y,rfl⟩:=Option.isSome_iff_exists.1 f
 obtain⟨v,C,E⟩:=EB z
 rw [E] at h
 obtain⟨A,c,xs,rfl,F⟩:=Pg h
 exact⟨A,c,xs,C,F⟩
theorem QT {cs:List Value} {n i:Nat} {x:Option (DataW H×List MemPlace)} (h:DataW.trod enc Tryz.prog w base spare held n 23 ((cs.drop i).take 1)=x) (f:x.isSome=true) (z:i<cs.length):∃A c,∃xs:List Lin,cs[i]?=some (.slice A xs.length c)∧Sl w w.heap.size 4 En A xs:=by
 obtain⟨y,rfl⟩:=Option.isSome_iff_exists.1 f
 obtain⟨v,C,E⟩:=EB z
 rw [E] at h
 obtain⟨A,c,xs,rfl,F⟩:=Qk h
 exact⟨A,c,xs,C,F⟩
theorem Gj {cs:List Value} {n i:Nat} {x:Option (DataW H×List MemPlace)} (h:DataW.trod enc Tryz.prog w base spare held n 22 ((cs.drop i).take 1)=x) (f:x.isSome=true) (z:i<cs.length):∃A c,∃xs:List ByteArray,cs[i]?=some (.slice A xs.length c)∧Sl w w.heap.size 1 Bx A xs∧∀s∈xs,s.size≤9223372036854775807:=by
 obtain⟨y,rfl⟩:=Option.isSome_iff_exists.1 f
 obtain⟨v,C,E⟩:=EB z
 rw [E] at h
 obtain⟨A,c,xs,rfl,F,G⟩:=Qh h
 exact⟨A,c,xs,C,F,G⟩
theorem GK {cs:List Value} {n i:Nat} {x:Option (DataW H×List MemPlace)} (h:DataW.trod enc Tryz.prog w base spare held n 9 ((cs.drop i).take 1)=x) (C:x.isSome=true):∃z:ByteArray,cs[i]?=some (.string z)∧z.size≤9223372036854775807:=by
 obtain⟨y,rfl⟩:=Option.isSome_iff_exists.1 C
 obtain⟨z,E,_,F⟩:=DataW.trod_string Tryz.underlying9 h
 refine⟨z,?_,by unfold maxLen at F; omega⟩
 have f:((cs.drop i).take 1)[0]?=some (.string z):=by rw [E]; rfl
 rw [List.getElem?_take] at f
 simpa using f
theorem KD {n:Nat} {cs:List Value} {x:DataW H×List MemPlace} (bi:cs.length=18) (h:DataW.trod enc Tryz.prog w base spare held n 48 cs=some x):∃r:As,AB w w.heap.size cs r∧r.name.size≤9223372036854775807:=by
 obtain⟨xs,f,_,_,_,aM,y⟩:=DataW.trod_struct Tryz.underlying48 h
 have z:xs.length=18:=aM
 have C:Tryz.prog.cellsOf 3=1:=by kernel_rfl
 have aN:Tryz.prog.cellsOf 9=1:=by kernel_rfl
 have E:Tryz.prog.cellsOf 24=1:=by kernel_rfl
 have aO:Tryz.prog.cellsOf 46=1:=by kernel_rfl
 have G:DataW.trod enc Tryz.prog w base spare held f 9 ((cs.drop 0).take (Tryz.prog.cellsOf 9))=xs[0]?:=y 0 _ rfl
 rw [aN] at G
 obtain⟨I,e0,b0⟩:=GK G (AY z (by omega))
 have J:DataW.trod enc Tryz.prog w base spare held f 3 ((cs.drop 1).take (Tryz.prog.cellsOf 3))=xs[1]?:=y 1 _ rfl
 rw [C] at J
 obtain⟨M,e1⟩:=Cj J (AY z (by omega))
 have O:DataW.trod enc Tryz.prog w base spare held f 3 ((cs.drop 2).take (Tryz.prog.cellsOf 3))=xs[2]?:=y 2 _ rfl
 rw [C] at O
 obtain⟨U,e2⟩:=Cj O (AY z (by omega))
 have f3:DataW.trod enc Tryz.prog w base spare held f 3 ((cs.drop 3).take (Tryz.prog.cellsOf 3))=xs[3]?:=y 3 _ rfl
 rw [C] at f3
 obtain⟨V,e3⟩:=Cj f3 (AY z (by omega))
 have W:DataW.trod enc Tryz.prog w base spare held f 3 ((cs.drop 4).take (Tryz.prog.cellsOf 3))=xs[4]?:=y 4 _ rfl
 rw [C] at W
 obtain⟨Z,e4⟩:=Cj W (AY z (by omega))
 have f5:DataW.trod enc Tryz.prog w base spare held f 3 ((cs.drop 5).take (Tryz.prog.cellsOf 3))=xs[5]?:=y 5 _ rfl
 rw [C] at f5
 obtain⟨z5,e5⟩:=Cj f5 (AY z (by omega))
 have f6:DataW.trod enc Tryz.prog w base spare held f 24 ((cs.drop 6).take (Tryz.prog.cellsOf 24))=xs[6]?:=y 6 _ rfl
 rw [E] at f6
 obtain⟨A6,c6,z6,e6,s6⟩:=Dd f6 (AY z (by omega)) (by omega)
 have f7:DataW.trod enc Tryz.prog w base spare held f 46 ((cs.drop 7).take (Tryz.prog.cellsOf 46))=xs[7]?:=y 7 _ rfl
 rw [aO] at f7
 obtain⟨A7,c7,z7,e7,s7⟩:=Pq f7 (AY z (by omega)) (by omega)
 have f8:DataW.trod enc Tryz.prog w base spare held f 24 ((cs.drop 8).take (Tryz.prog.cellsOf 24))=xs[8]?:=y 8 _ rfl
 rw [E] at f8
 obtain⟨A8,c8,z8,e8,s8⟩:=Dd f8 (AY z (by omega)) (by omega)
 have f9:DataW.trod enc Tryz.prog w base spare held f 24 ((cs.drop 9).take (Tryz.prog.cellsOf 24))=xs[9]?:=y 9 _ rfl
 rw [E] at f9
 obtain⟨A9,c9,z9,e9,s9⟩:=Dd f9 (AY z (by omega)) (by omega)
 have al:DataW.trod enc Tryz.prog w base spare held f 3 ((cs.drop 10).take (Tryz.prog.cellsOf 3))=xs[10]?:=y 10 _ rfl
 rw [C] at al
 obtain⟨am,b5⟩:=Cj al (AY z (by omega))
 have an:DataW.trod enc Tryz.prog w base spare held f 3 ((cs.drop 11).take (Tryz.prog.cellsOf 3))=xs[11]?:=y 11 _ rfl
 rw [C] at an
 obtain⟨ao,b6⟩:=Cj an (AY z (by omega))
 have ap:DataW.trod enc Tryz.prog w base spare held f 24 ((cs.drop 12).take (Tryz.prog.cellsOf 24))=xs[12]?:=y 12 _ rfl
 rw [E] at ap
 obtain⟨aq,ar,au,b7,b8⟩:=Dd ap (AY z (by omega)) (by omega)
 have av:DataW.trod enc Tryz.prog w base spare held f 3 ((cs.drop 13).take (Tryz.prog.cellsOf 3))=xs[13]?:=y 13 _ rfl
 rw [C] at av
 obtain⟨aw,b9⟩:=Cj av (AY z (by omega))
 have ax:DataW.trod enc Tryz.prog w base spare held f 24 ((cs.drop 14).take (Tryz.prog.cellsOf 24))=xs[14]?:=y 14 _ rfl
 rw [E] at ax
 obtain⟨ay,az,aA,ba,bb⟩:=Dd ax (AY z (by omega)) (by omega)
 have aB:DataW.trod enc Tryz.prog w base spare held f 24 ((cs.drop 15).take (Tryz.prog.cellsOf 24))=xs[15]?:=y 15 _ rfl
 rw [E] at aB
 obtain⟨aC,aD,aE,bc,bd⟩:=Dd aB (AY z (by omega)) (by omega)
 have aF:DataW.trod enc Tryz.prog w base spare held f 24 ((cs.drop 16).take (Tryz.prog.cellsOf 24))=xs[16]?:=y 16 _ rfl
 rw [E] at aF
 obtain⟨aG,aH,aJ,be,bf⟩:=Dd aF (AY z (by omega)) (by omega)
 have aK:DataW.trod enc Tryz.prog w base spare held f 3 ((cs.drop 17).take (Tryz.prog.cellsOf 3))=xs[17]?:=y 17 _ rfl
 rw [C] at aK
 obtain⟨aL,bg⟩:=Cj aK (AY z (by omega))
 have bh:cs=[.string I,.int .i64 M,.int .i64 U,.int .i64 V,.int .i64 Z,.int .i64 z5,.slice A6 z6.length c6,.slice A7 z7.length c7,.slice A8 z8.length c8,.slice A9 z9.length c9,.int .i64 am,.int .i64 ao,.slice aq au.length ar,.int .i64 aw,.slice ay aA.length az,.slice aC aE.length aD,.slice aG aJ.length aH,.int .i64 aL]:=by
  apply List.ext_getElem?
  intro j
  by_cases F:j<18
  ·match j,F with
   | 0,_=>exact e0
   | 1,_=>exact e1
   | 2,_=>exact e2
   | 3,_=>exact e3
   | 4,_=>exact e4
   | 5,_=>exact e5
   | 6,_=>exact e6
   | 7,_=>exact e7
   | 8,_=>exact e8
   | 9,_=>exact e9
   | 10,_=>exact b5
   | 11,_=>exact b6
   | 12,_=>exact b7
   | 13,_=>exact b9
   | 14,_=>exact ba
   | 15,_=>exact bc
   | 16,_=>exact be
   | 17,_=>exact bg
   | k+18,F=>exact absurd F (by omega)
  ·rw [List.getElem?_eq_none (by omega),List.getElem?_eq_none (by simp; omega)]
 exact⟨⟨I,M,U,V,Z,z5,z6,z7,z8,z9,am,ao,au,aw,aA,aE,aJ,aL⟩,⟨A6,c6,A7,c7,A8,c8,A9,c9,aq,ar,ay,az,aC,aD,aG,aH,bh,s6,s7,s8,s9,b8,bb,bd,bf⟩,b0⟩
theorem MM {fuel:Nat} {v:Value} {x:DataW H×List MemPlace} (h:DataW.trod enc Tryz.prog w base spare held fuel 25 [v]=some x):∃A c,∃xs:List As,v=.slice A xs.length c∧BJ w w.heap.size 18 (AB w w.heap.size) A xs∧xs.length≤c∧∀r∈xs,r.name.size≤9223372036854775807:=by
 obtain⟨A,c,ds,E,y,F⟩:=Et (D:={ r:As // r.name.size≤9223372036854775807 }) (R:=fun cs l=>AB w w.heap.size cs l.1) Tryz.underlying25 (k:=18) (by kernel_rfl) (by omega) (fun n cs x G ht=>by
  obtain⟨r,I,J⟩:=KD G ht
  exact⟨⟨r,J⟩,I⟩) h
 refine⟨A,c,ds.map (·.1),by rw [List.length_map]; exact E,⟨by rw [List.length_map]; exact y.1,fun C=>?_⟩,by rw [List.length_map]; exact F,fun r M=>?_⟩
 ·obtain⟨b,O,e,U,V⟩:=y.2 (by intro e; rw [e] at C; exact C rfl)
  refine⟨b,O,e,U,fun i d hd=>?_⟩
  rw [List.getElem?_map] at hd
  cases f:ds[i]? with
  | none=>rw [f] at hd; cases hd
  | some z=>
   rw [f] at hd
   obtain rfl:=Option.some.inj hd
   exact V i z f
 ·obtain⟨z,_,rfl⟩:=List.mem_map.1 M
  exact z.2
theorem Mh {n:Nat} {cs:List Value} {x:DataW H×List MemPlace} (a3:cs.length=2) (h:DataW.trod enc Tryz.prog w base spare held n 51 cs=some x):∃c:DI,CY w w.heap.size cs c:=by
 obtain⟨xs,y,_,_,_,O,z⟩:=DataW.trod_struct Tryz.underlying51 h
 have C:xs.length=2:=O
 have U:Tryz.prog.cellsOf 3=1:=by kernel_rfl
 have V:Tryz.prog.cellsOf 24=1:=by kernel_rfl
 have E:DataW.trod enc Tryz.prog w base spare held y 24 ((cs.drop 0).take (Tryz.prog.cellsOf 24))=xs[0]?:=z 0 _ rfl
 rw [V] at E
 obtain⟨F,G,I,W,s0⟩:=Dd E (AY C (by omega)) (by omega)
 have J:DataW.trod enc Tryz.prog w base spare held y 3 ((cs.drop 1).take (Tryz.prog.cellsOf 3))=xs[1]?:=z 1 _ rfl
 rw [U] at J
 obtain⟨M,Z⟩:=Cj J (AY C (by omega))
 have a2:cs=[.slice F I.length G,.int .i64 M]:=by
  apply List.ext_getElem?
  intro j
  by_cases f:j<2
  ·match j,f with
   | 0,_=>exact W
   | 1,_=>exact Z
   | k+2,f=>exact absurd f (by omega)
  ·rw [List.getElem?_eq_none (by omega),List.getElem?_eq_none (by simp; omega)]
 exact⟨⟨I,M⟩,⟨F,G,a2,s0⟩⟩
theorem Nf {fuel:Nat} {v:Value} {x:DataW H×List MemPlace} (h:DataW.trod enc Tryz.prog w base spare held fuel 28 [v]=some x):∃A c,∃xs:List DI,v=.slice A xs.length c∧BJ w w.heap.size 2 (CY w w.heap.size) A xs∧True:=by
 obtain⟨A,c,ds,f,y,_⟩:=Et (D:=DI) (R:=CY w w.heap.size) Tryz.underlying28 (k:=2) (by kernel_rfl) (by omega) (fun n cs x z ht=>Mh z ht) h
 exact⟨A,c,ds,f,y,trivial⟩
theorem Qe {cs:List Value} {n i:Nat} {x:Option (DataW H×List MemPlace)} (h:DataW.trod enc Tryz.prog w base spare held n 25 ((cs.drop i).take 1)=x) (f:x.isSome=true) (z:i<cs.length):∃A c,∃xs:List As,cs[i]?=some (.slice A xs.length c)∧BJ w w.heap.size 18 (AB w w.heap.size) A xs∧xs.length≤c∧∀r∈xs,r.name.size≤9223372036854775807:=by
 obtain⟨y,rfl⟩:=Option.isSome_iff_exists.1 f
 obtain⟨v,C,E⟩:=EB z
 rw [E] at h
 obtain⟨A,c,xs,rfl,F,G⟩:=MM h
 exact⟨A,c,xs,C,F,G⟩
theorem Oe {cs:List Value} {n i:Nat} {x:Option (DataW H×List MemPlace)} (h:DataW.trod enc Tryz.prog w base spare held n 28 ((cs.drop i).take 1)=x) (f:x.isSome=true) (z:i<cs.length):∃A c,∃xs:List DI,cs[i]?=some (.slice A xs.length c)∧BJ w w.heap.size 2 (CY w w.heap.size) A xs∧True:=by
 obtain⟨y,rfl⟩:=Option.isSome_iff_exists.1 f
 obtain⟨v,C,E⟩:=EB z
 rw [E] at h
 obtain⟨A,c,xs,rfl,F,G⟩:=Nf h
 exact⟨A,c,xs,C,F,G⟩
theorem OS {n:Nat} {cs:List Value} {x:DataW H×List MemPlace} (aT:cs.length=10) (h:DataW.trod enc Tryz.prog w base spare held n 27 cs=some x):∃p:Ao,Ax w w.heap.size cs p∧p.Fits:=by
 obtain⟨xs,f,_,_,_,av,y⟩:=DataW.trod_struct Tryz.underlying27 h
 have z:xs.length=10:=av
 have G:Tryz.prog.cellsOf 3=1:=by kernel_rfl
 have aw:Tryz.prog.cellsOf 9=1:=by kernel_rfl
 have E:Tryz.prog.cellsOf 22=1:=by kernel_rfl
 have ax:Tryz.prog.cellsOf 23=1:=by kernel_rfl
 have I:Tryz.prog.cellsOf 24=1:=by kernel_rfl
 have ay:Tryz.prog.cellsOf 25=1:=by kernel_rfl
 have J:DataW.trod enc Tryz.prog w base spare held f 9 ((cs.drop 0).take (Tryz.prog.cellsOf 9))=xs[0]?:=y 0 _ rfl
 rw [aw] at J
 obtain⟨M,e0,b0⟩:=GK J (AY z (by omega))
 have O:DataW.trod enc Tryz.prog w base spare held f 3 ((cs.drop 1).take (Tryz.prog.cellsOf 3))=xs[1]?:=y 1 _ rfl
 rw [G] at O
 obtain⟨U,e1⟩:=Cj O (AY z (by omega))
 have V:DataW.trod enc Tryz.prog w base spare held f 22 ((cs.drop 2).take (Tryz.prog.cellsOf 22))=xs[2]?:=y 2 _ rfl
 rw [E] at V
 obtain⟨W,c2,Z,e2,s2,b2⟩:=Gj V (AY z (by omega)) (by omega)
 have f3:DataW.trod enc Tryz.prog w base spare held f 22 ((cs.drop 3).take (Tryz.prog.cellsOf 22))=xs[3]?:=y 3 _ rfl
 rw [E] at f3
 obtain⟨A3,c3,z3,e3,s3,b3⟩:=Gj f3 (AY z (by omega)) (by omega)
 have f4:DataW.trod enc Tryz.prog w base spare held f 22 ((cs.drop 4).take (Tryz.prog.cellsOf 22))=xs[4]?:=y 4 _ rfl
 rw [E] at f4
 obtain⟨A4,c4,z4,e4,s4,b4⟩:=Gj f4 (AY z (by omega)) (by omega)
 have f5:DataW.trod enc Tryz.prog w base spare held f 3 ((cs.drop 5).take (Tryz.prog.cellsOf 3))=xs[5]?:=y 5 _ rfl
 rw [G] at f5
 obtain⟨z5,e5⟩:=Cj f5 (AY z (by omega))
 have f6:DataW.trod enc Tryz.prog w base spare held f 23 ((cs.drop 6).take (Tryz.prog.cellsOf 23))=xs[6]?:=y 6 _ rfl
 rw [ax] at f6
 obtain⟨A6,c6,z6,e6,s6⟩:=QT f6 (AY z (by omega)) (by omega)
 have f7:DataW.trod enc Tryz.prog w base spare held f 24 ((cs.drop 7).take (Tryz.prog.cellsOf 24))=xs[7]?:=y 7 _ rfl
 rw [I] at f7
 obtain⟨A7,c7,z7,e7,s7⟩:=Dd f7 (AY z (by omega)) (by omega)
 have f8:DataW.trod enc Tryz.prog w base spare held f 24 ((cs.drop 8).take (Tryz.prog.cellsOf 24))=xs[8]?:=y 8 _ rfl
 rw [I] at f8
 obtain⟨A8,c8,z8,e8,s8⟩:=Dd f8 (AY z (by omega)) (by omega)
 have f9:DataW.trod enc Tryz.prog w base spare held f 25 ((cs.drop 9).take (Tryz.prog.cellsOf 25))=xs[9]?:=y 9 _ rfl
 rw [ay] at f9
 obtain⟨A9,c9,z9,e9,s9,b9⟩:=Qe f9 (AY z (by omega)) (by omega)
 have aS:cs=[.string M,.int .i64 U,.slice W Z.length c2,.slice A3 z3.length c3,.slice A4 z4.length c4,.int .i64 z5,.slice A6 z6.length c6,.slice A7 z7.length c7,.slice A8 z8.length c8,.slice A9 z9.length c9]:=by
  apply List.ext_getElem?
  intro j
  by_cases F:j<10
  ·match j,F with
   | 0,_=>exact e0
   | 1,_=>exact e1
   | 2,_=>exact e2
   | 3,_=>exact e3
   | 4,_=>exact e4
   | 5,_=>exact e5
   | 6,_=>exact e6
   | 7,_=>exact e7
   | 8,_=>exact e8
   | 9,_=>exact e9
   | k+10,F=>exact absurd F (by omega)
  ·rw [List.getElem?_eq_none (by omega),List.getElem?_eq_none (by simp; omega)]
 refine⟨⟨M,U,Z,z3,z4,z5,z6,z7,z8,z9⟩,⟨W,c2,A3,c3,A4,c4,A6,c6,A7,c7,A8,c8,A9,c9,aS,s2,s3,s4,s6,s7,s8,s9,b9.1⟩,⟨b0,fun x C=>?_,b9.2⟩⟩
 simp only [AP,List.mem_append] at C
 rcases C with(C | C) | C
 ·exact b2 x C
 ·exact b3 x C
 ·exact b4 x C
theorem KN {n:Nat} {cs:List Value} {x:DataW H×List MemPlace} (ar:cs.length=6) (h:DataW.trod enc Tryz.prog w base spare held n 30 cs=some x):∃q:Bd,BE w w.heap.size cs q∧q.Fits:=by
 obtain⟨xs,f,_,_,_,aa,y⟩:=DataW.trod_struct Tryz.underlying30 h
 have z:xs.length=6:=aa
 have ab:Tryz.prog.cellsOf 3=1:=by kernel_rfl
 have ad:Tryz.prog.cellsOf 9=1:=by kernel_rfl
 have C:Tryz.prog.cellsOf 24=1:=by kernel_rfl
 have ae:Tryz.prog.cellsOf 28=1:=by kernel_rfl
 have F:DataW.trod enc Tryz.prog w base spare held f 9 ((cs.drop 0).take (Tryz.prog.cellsOf 9))=xs[0]?:=y 0 _ rfl
 rw [ad] at F
 obtain⟨G,e0,b0⟩:=GK F (AY z (by omega))
 have I:DataW.trod enc Tryz.prog w base spare held f 3 ((cs.drop 1).take (Tryz.prog.cellsOf 3))=xs[1]?:=y 1 _ rfl
 rw [ab] at I
 obtain⟨J,e1⟩:=Cj I (AY z (by omega))
 have M:DataW.trod enc Tryz.prog w base spare held f 24 ((cs.drop 2).take (Tryz.prog.cellsOf 24))=xs[2]?:=y 2 _ rfl
 rw [C] at M
 obtain⟨O,c2,U,e2,s2⟩:=Dd M (AY z (by omega)) (by omega)
 have f3:DataW.trod enc Tryz.prog w base spare held f 28 ((cs.drop 3).take (Tryz.prog.cellsOf 28))=xs[3]?:=y 3 _ rfl
 rw [ae] at f3
 obtain⟨V,W,Z,e3,s3,b3⟩:=Oe f3 (AY z (by omega)) (by omega)
 have f4:DataW.trod enc Tryz.prog w base spare held f 24 ((cs.drop 4).take (Tryz.prog.cellsOf 24))=xs[4]?:=y 4 _ rfl
 rw [C] at f4
 obtain⟨A4,c4,z4,e4,s4⟩:=Dd f4 (AY z (by omega)) (by omega)
 have f5:DataW.trod enc Tryz.prog w base spare held f 24 ((cs.drop 5).take (Tryz.prog.cellsOf 24))=xs[5]?:=y 5 _ rfl
 rw [C] at f5
 obtain⟨A5,c5,z5,e5,s5⟩:=Dd f5 (AY z (by omega)) (by omega)
 have aq:cs=[.string G,.int .i64 J,.slice O U.length c2,.slice V Z.length W,.slice A4 z4.length c4,.slice A5 z5.length c5]:=by
  apply List.ext_getElem?
  intro j
  by_cases E:j<6
  ·match j,E with
   | 0,_=>exact e0
   | 1,_=>exact e1
   | 2,_=>exact e2
   | 3,_=>exact e3
   | 4,_=>exact e4
   | 5,_=>exact e5
   | k+6,E=>exact absurd E (by omega)
  ·rw [List.getElem?_eq_none (by omega),List.getElem?_eq_none (by simp; omega)]
 exact⟨⟨G,J,U,Z,z4,z5⟩,⟨O,c2,V,W,A4,c4,A5,c5,aq,s2,s3,s4,s5⟩,b0⟩
end
end Go.Proofs.YtlakpndhhelliaaGreatDoor.K
