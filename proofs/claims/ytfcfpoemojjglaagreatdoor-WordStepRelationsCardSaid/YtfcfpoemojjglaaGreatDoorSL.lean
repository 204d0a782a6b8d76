/-
  Part SL of a proof.
-/
import Derived.Test.YtfcfpoemojjglaaGreatDoorPA
import Derived.Test.YtfcfpoemojjglaaGreatDoorSK
import Derived.Test.YtfcfpoemojjglaaGreatDoorSO
import Derived.Test.YtfcfpoemojjglaaGreatDoorCS
import Derived.Test.YtfcfpoemojjglaaGreatDoorSB
set_option maxHeartbeats 16000000
set_option maxRecDepth 100000
set_option linter.unusedVariables false
set_option linter.unusedSimpArgs false
namespace Go.Proofs.YtfcfpoemojjglaaGreatDoor
open Go.RowKit
open K (Am Az At AW C0 Ah A0 Ab AC Ad orE Dv)
attribute [-go_sem] loadCellsFrom storeCells
set_option maxHeartbeats 16000000
set_option maxRecDepth 100000
def Hg (p:Am):Int:=orE (AC Ab p) (Ad (!(p.topo==2||p.topo==3)) 7)
abbrev Wg:Array Value:=#[.int .i64 0,.int .i64 0,sn0,sn0,sn0]
theorem Wz {w:World} {g:Nat} {t:TypeId} {a b c d e:Value} (O:(Tryz.prog.info? t).map (·.size)=some 5) (h:Blk w g t #[a,b,c,d,e]) (vs:Array Value) (I:vs.size=5) (h1:vs.all (·.oneCell')=true):
  ∃z,(storeCells ⟨g,0,none⟩ vs.toList 0).run Tryz.prog w=.ok () z∧Blk z g t vs∧Ac w z (fun k=>k=g):=by
 obtain⟨v0,v1,v2,v3,y,rfl⟩:∃v0 v1 v2 v3 y,vs=#[v0,v1,v2,v3,y]:=by
  obtain⟨l⟩:=vs
  match l,I with
  | [v0,v1,v2,v3,y],_=>exact⟨v0,v1,v2,v3,y,rfl⟩
 obtain⟨z,M,F,G⟩:=Dn h v0 v1 v2 v3 y
 refine⟨z,?_,F,G⟩
 have E:∀v∈[v0,v1,v2,v3,y],v.oneCell'=true:=fun v E=>by
  have:=Array.all_eq_true'.1 h1 v (by simpa using E)
  exact this
 have J:=run_storeCells_cells (P:=Tryz.prog) g 0 [v0,v1,v2,v3,y] 0 w (fun j C=>by
  rw [h.cell]
  have C:j<5:=by simpa using C
  match j,C with
  | 0,_=>rfl
  | 1,_=>rfl
  | 2,_=>rfl
  | 3,_=>rfl
  | 4,_=>rfl) (fun j _=>h.frozen _) E
 rw [←M]
 exact J
theorem Ym {w:World} {cs:List Value} {p:Am} (h:At w w.heap.size cs p) (Z:p.Small) (U:A0 w) (I:AC Ab p≠0):
  Calls Tryz.prog 102 #[.agg cs.toArray] w (Ret fun v w'=>v=.tuple #[.agg #[.bool false,.bool false,.bool false,.bool false,.bool false],.int .i64 (AC Ab p)]∧Below w.heap.size w w'):=by
 obtain⟨A1,c1,A2,c2,A3,c3,A4,c4,A5,c5,A6,c6,A7,c7,W,a9,aa,-⟩:=h.cells
 obtain⟨w1,av,z,E,a5⟩:=Ae w cs.toArray 27
 obtain⟨w2,aw,G,J,a6⟩:=Ae w1 #[.bool false,.bool false,.bool false,.bool false,.bool false] 155
 have y:=z.trans (G.mono z.size)
 have aq:=Ah (E.below G) W
 have a2:=hide (K.Kt (h.keep (w':=w2) (B':=w2.heap.size) (fun _ hp=>y.cell hp) y.size) Z (U.below y))
 have F:=hide y
 have a3:=hide J
 have ar:=E.lt
 have au:=z.size
 generalize cs.toArray=pc at*
 obtain⟨e,V⟩:∃e,e=AC Ab p:=⟨_,rfl⟩
 rw [←V] at a2 I ⊢
 have ap:(e != 0)=true:=by simp [I]
 clear h Z U z E a5 G J a6 y W a9 aa V I
 go_enter Tryz.func102,Tryz.ntmps102
 go_wp2_with fail
 refine Calls.ret a2.out ?_
 rintro v w3 ⟨rfl,C⟩
 obtain⟨wF,ax,M,O⟩:=Wz (by kernel_rfl) (a3.out.below C) #[.bool false,.bool false,.bool false,.bool false,.bool false] rfl (by simp [Value.oneCell'])
 have a7:=Ah M (n:=5) rfl
 have a4:=hide ((F.out.trans (C.mono F.out.size)).trans (O.below (B:=w.heap.size) (by have:=F.out.size; have:=C.size; omega) (fun b hb (x:b=_)=>by omega)))
 clear M O C
 go_wp2_with fail
 exact bodyPost_ret (v:=.tuple #[.agg #[.bool false,.bool false,.bool false,.bool false,.bool false],.int .i64 e]) (by simp [results,Tryz.results102,go_sem,a7]) rfl ⟨rfl,a4.out⟩
theorem W1 {w:World} {cs:List Value} {p:Am} (h:At w w.heap.size cs p) (G:p.Small) (E:A0 w):
  Calls Tryz.prog 54 #[.agg cs.toArray] w (Ret fun v w'=>v=.int .i64 (Hg p)∧Below w.heap.size w w'):=by
 by_cases y:AC Ab p=0
 ·unfold Hg
  rw [y]
  exact K.P9 h G E y
 ·have M:Hg p=AC Ab p:=by
   unfold Hg orE
   rw [if_neg y]
  rw [M]
  obtain⟨A1,c1,A2,c2,A3,c3,A4,c4,A5,c5,A6,c6,A7,c7,a2,-⟩:=h.cells
  obtain⟨w1,ap,z,I,a5⟩:=Ae w cs.toArray 27
  have ao:=Ah I a2
  have W:=hide (Ym (h.keep (w':=w1) (B':=w1.heap.size) (fun _ hp=>z.cell hp) z.size) G (E.below z) y)
  have U:=hide z
  generalize cs.toArray=pc at*
  obtain⟨e,Z⟩:∃e,e=AC Ab p:=⟨_,rfl⟩
  rw [←Z] at W y ⊢
  have an:(e==0)=false:=by simp [y]
  clear h G E z I a5 a2 Z y M
  go_enter Tryz.func54,Tryz.ntmps54
  go_wp2_with (go_at_call 102; refine Calls.ret W.out ?_; rintro v w4 ⟨rfl,V⟩; have C:=hide (U.out.trans (V.mono U.out.size)); obtain⟨w5,aq,F,J,a6⟩:=Ae w4 #[.bool false,.bool false,.bool false,.bool false,.bool false] 155; obtain⟨wF,ar,a3,O⟩:=Wz (by kernel_rfl) J #[.bool false,.bool false,.bool false,.bool false,.bool false] rfl (by simp [Value.oneCell']); have a4:=hide ((C.out.trans (F.mono C.out.size)).trans (O.below (B:=w.heap.size) (by have:=C.out.size; have:=F.size; omega) (fun b hb (x:b=_)=>by have:=C.out.size; omega))); clear V F J a6 a3 O)
  go_ret
  exact⟨rfl,a4.out⟩
theorem Xn {w:World} {cs:List Value} {p:Am} (h:At w w.heap.size cs p) (a5:p.Small) (hT:A0 w):
  Calls Tryz.prog 56 #[.agg cs.toArray] w (Ret fun v w'=>v=.int .i64 (Hg p)∧Below w.heap.size w w'):=by
 obtain⟨A1,c1,A2,c2,A3,c3,A4,c4,A5,c5,A6,c6,A7,c7,a4,ab,a3,-⟩:=h.cells
 obtain⟨w1,av,E,I,a9⟩:=Ae w cs.toArray 27
 have au:=Ah I a4
 have M:=hide (K.refProtValidate_any (h.keep (w':=w1) (B':=w1.heap.size) (fun _ hp=>E.cell hp) E.size) a5 (hT.below E))
 have F:=hide E
 have a6:=hide I
 generalize cs.toArray=pc at*
 obtain⟨y,U⟩:∃t,t=p.topo:=⟨_,rfl⟩
 obtain⟨e,O⟩:∃e,e=AC Ab p:=⟨_,rfl⟩
 have Z:Hid (Hg p=orE e (Ad (!(y==2||y==3)) 7)):=hide (by unfold Hg; rw [U,O])
 rw [Z.out]
 rw [←O] at M
 rw [←U] at a3
 clear h a5 hT E I a9 a4 O U Z ab
 by_cases G:e=0
 ·subst G
  have a8:((0:Int) != 0)=false:=rfl
  go_enter Tryz.func56,Tryz.ntmps56
  go_wp2_with fail
  refine Calls.ret M.out ?_
  rintro v w4 ⟨rfl,z⟩
  have C:=hide (F.out.trans (z.mono F.out.size))
  have ar:=((a6.out.below z).cell 1).trans a3
  clear z
  have a7:y=2∨y=3∨(y≠2∧y≠3):=by omega
  rcases a7 with rfl | rfl | ⟨V,W⟩
  ·go_wp2_with fail
   go_ret
   exact⟨rfl,C.out⟩
  ·go_wp2_with fail
   go_ret
   exact⟨rfl,C.out⟩
  ·have J:Hid (orE 0 (Ad (!(y==2||y==3)) 7)=7):=hide (by simp [orE,Ad,V,W])
   have b2:(y != 2)=true:=by simp [V]
   have b3:(y != 3)=true:=by simp [W]
   go_wp2_with fail
   go_ret
   exact⟨by rw [J.out]; rfl,C.out⟩
 ·have a8:(e != 0)=true:=by simp [G]
  have J:Hid (orE e (Ad (!(y==2||y==3)) 7)=e):=hide (if_neg G)
  rw [J.out]
  clear G
  go_enter Tryz.func56,Tryz.ntmps56
  go_wp2_with fail
  refine Calls.ret M.out ?_
  rintro v w4 ⟨rfl,z⟩
  have C:=hide (F.out.trans (z.mono F.out.size))
  clear z
  go_wp2_with fail
  go_ret
  exact⟨rfl,C.out⟩
def Wv (w:World) (e:Int) (t:TR) (v:Value) (w':World):Prop:=
 Below w.heap.size w w'∧((e≠0∧v=.tuple #[.agg Wg,.int .i64 e])∨(e=0∧∃d,v=.tuple #[d,.int .i64 0]∧∀wX,Ac w' wX (fun k=>k<w.heap.size)→H6 wX wX.heap.size d t))
theorem YH {w:World} {cs:List Value} {p:Am} (h:At w w.heap.size cs p) (Z:p.Small) (hT:A0 w) (hG:Hg p=0→WB p):
  Calls Tryz.prog 27 #[.agg cs.toArray] w (Ret fun v w'=>Wv w (Hg p) (TR.sum (p.states.length:Int) (AL p)) v w'):=by
 obtain⟨A1,c1,A2,c2,A3,c3,A4,c4,A5,c5,A6,c6,A7,c7,ad,aB,aC,-⟩:=h.cells
 obtain⟨w1,aZ,U,O,ay⟩:=Ae w cs.toArray 27
 obtain⟨w2,b0,V,a6,az⟩:=Ae w1 Wg 55
 have G:=U.trans (V.mono U.size)
 have aV:=Ah (O.below V) ad
 have ar:=hide (O.below V)
 have aD:=hide ad
 have a9:=hide (W1 (h.keep (w':=w2) (B':=w2.heap.size) (fun _ hp=>G.cell hp) G.size) Z (hT.below G))
 have a2:Hg p=0→Hid (∀E,Below w.heap.size w E→Calls Tryz.prog 68 #[.agg cs.toArray] E (Ret fun v w'=>Below E.heap.size E w'∧∀M,Ac w' M (fun k=>k<E.heap.size)→H6 M M.heap.size v (TR.sum (p.states.length:Int) (AL p)))):=
  fun C=>hide fun E hx=>YG (h.keep (fun _ hp=>hx.cell hp) hx.size) Z.states (by have:=Z.rules; omega) (hG C)
 have I:=hide G
 have aj:=hide a6
 have aW:=O.lt
 have aX:=a6.lt
 have aY:=U.size
 generalize cs.toArray=pc at*
 generalize TR.sum (p.states.length:Int) (AL p)=T at*
 obtain⟨e,an⟩:∃e,e=Hg p:=⟨_,rfl⟩
 rw [←an] at a9 a2 ⊢
 clear h Z hT U O ay V a6 az G ad aB aC an hG
 by_cases C:e=0
 ·subst C
  have ao:=a2 rfl
  clear a2
  have ax:((0:Int) != 0)=false:=rfl
  go_enter Tryz.func27,Tryz.ntmps27
  go_wp2_with fail
  refine Calls.ret a9.out ?_
  rintro v w4 ⟨rfl,y⟩
  have J:=hide (I.out.trans (y.mono I.out.size))
  have aA:=Ah (ar.out.below y) aD.out
  have ai:=hide (aj.out.below y)
  clear y
  go_wp2_with fail
  refine Calls.ret (ao.out _ J.out) ?_
  rintro d w5 ⟨W,hD⟩
  have hd:=hD w5 (Ac.refl _ _)
  obtain⟨E1,k1,E2,k2,E3,k3,rfl,-⟩:=hd
  have ak:=hide hD
  obtain⟨wF,aE,F,z⟩:=Wz (by kernel_rfl) (ai.out.below W) #[.int .i64 T.letters,.int .i64 T.states,.slice E1 T.start.length k1,.slice E2 T.accept.length k2,.slice E3 T.moves.length k3] rfl (by simp [Value.oneCell'])
  have aa:=Ah F (n:=5) rfl
  have aU:w1.heap.size<w4.heap.size:=ai.out.lt
  have a8:=hide ((J.out.trans (W.mono J.out.size)).trans (z.below (B:=w.heap.size) (by have:=J.out.size; have:=W.size; omega) (fun b hb (x:b=_)=>by omega)))
  have hR:=hide (show Wv w 0 T (.tuple #[.agg #[.int .i64 T.letters,.int .i64 T.states,.slice E1 T.start.length k1,.slice E2 T.accept.length k2,.slice E3 T.moves.length k3],.int .i64 0]) wF from
   ⟨a8.out,.inr ⟨rfl,_,rfl,fun M hX=>ak.out M ((z.mono (Y:=fun k=>k<w4.heap.size) fun b _ (x:b=_)=>by omega).trans hX fun b hb (x:b<_)=>by have:=J.out.size; omega)⟩⟩)
  generalize T.letters=tl at*
  generalize T.states=ts at*
  generalize T.start.length=n1 at*
  generalize T.accept.length=n2 at*
  generalize T.moves.length=n3 at*
  clear F z W hD aA ak ao
  go_wp2_with fail
  exact bodyPost_ret (v:=.tuple #[.agg #[.int .i64 tl,.int .i64 ts,.slice E1 n1 k1,.slice E2 n2 k2,.slice E3 n3 k3],.int .i64 0]) (by simp [results,Tryz.results27,go_sem,aa]) rfl hR.out
 ·have ax:(e != 0)=true:=by simp [C]
  have aw:=hide C
  clear C a2
  go_enter Tryz.func27,Tryz.ntmps27
  go_wp2_with fail
  refine Calls.ret a9.out ?_
  rintro v w4 ⟨rfl,y⟩
  obtain⟨wF,aE,F,z⟩:=Wz (by kernel_rfl) (aj.out.below y) Wg rfl (by simp [Value.oneCell'])
  have aa:=Ah F (n:=5) rfl
  have a8:=hide ((I.out.trans (y.mono I.out.size)).trans (z.below (B:=w.heap.size) (by have:=I.out.size; have:=y.size; omega) (fun b hb (x:b=_)=>by omega)))
  clear F z y
  go_wp2_with fail
  exact bodyPost_ret (v:=.tuple #[.agg Wg,.int .i64 e]) (by simp [results,Tryz.results27,go_sem,aa]) rfl ⟨a8.out,.inl ⟨aw.out,rfl⟩⟩
end Go.Proofs.YtfcfpoemojjglaaGreatDoor
namespace Go.Proofs.YtfcfpoemojjglaaGreatDoor
open K (Am Az Ab AC Ad orE BC BB inE)
theorem Xl {α:Type} {f:α→Int} {l:List α}:K.Aj f l=0↔∀x∈l,f x=0:=by
 induction l with
 | nil=>simp [K.Aj]
 | cons a l ih=>
  unfold K.Aj
  simp only [List.mem_cons,forall_eq_or_imp]
  rw [AY,ih]
theorem Yl {p:Am} (h:Hg p=0):AC Ab p=0∧(p.topo=2∨p.topo=3):=by
 unfold Hg at h
 obtain⟨h1,z⟩:=AY.1 h
 have y:=(Gg (by decide)).1 z
 simp only [Bool.not_eq_false',Bool.or_eq_true,beq_iff_eq] at y
 exact⟨h1,y⟩
structure Xk (p:Am):Prop where
 topo:p.topo=2∨p.topo=3
 ns:1≤p.states.length∧p.states.length≤6
 nr:p.rules.length≤8
 rule:∀(i:Nat) (r:Az),p.rules[i]?=some r→inN (p.states.length:Int) r.fr=true∧inN (p.states.length:Int) r.to=true∧(r.kind=5→inN (p.states.length:Int) r.pf=true∧inN (p.states.length:Int) r.pt=true)
theorem Xa {p:Am} (h:Hg p=0):Xk p:=by
 obtain⟨h1,ht⟩:=Yl h
 unfold AC at h1
 simp only [AY] at h1
 obtain⟨-,-,E,F,-,-,-,-,-,-,C,-⟩:=h1
 have b3:=(Gg (by decide)).1 E
 have b4:=(Gg (by decide)).1 F
 simp only [Bool.or_eq_false_iff,decide_eq_false_iff_not] at b4
 refine⟨ht,⟨?_,by omega⟩,by omega,fun i r z=>?_⟩
 ·cases J:p.states with
  | nil=>rw [J] at b3; cases b3
  | cons x l=>simp
 ·have I:=AP z
  have c:=Xl.1 C i (List.mem_range.2 I)
  unfold BB at c
  rw [z] at c
  unfold BC at c
  simp only [AY] at c
  have d:=(Gg (by decide)).1 c.2.2.1
  have e:∀x n:Int,inE x n=inN n x:=fun x n=>rfl
  simp only [Bool.or_eq_false_iff,Bool.not_eq_false',Bool.and_eq_false_iff,decide_eq_false_iff_not,e] at d
  refine⟨d.1.1,d.1.2,fun G=>?_⟩
  rcases d.2 with y | y
  ·exact absurd G y.2
  ·exact y
theorem Xb {p:Am} (h:Hg p=0):WB p:=by
 intro r G
 obtain⟨i,F⟩:=List.mem_iff_getElem?.1 G
 obtain⟨h1,y,E⟩:=(Xa h).rule i r F
 unfold C1
 split
 ·rename_i h5
  obtain⟨z,C⟩:=E h5
  split
  ·exact W8 z C h1 y
  ·exact W8 h1 y z C
 ·split
  ·exact Yx h1 y
  ·exact X9 h1 y
theorem Yn {p:Am} (h:Hg p=0):(TR.sum (p.states.length:Int) (AL p)).ok=true∧(TR.sum (p.states.length:Int) (AL p)).letters=(p.states.length:Int)∧(TR.sum (p.states.length:Int) (AL p)).states≤400∧(∀t∈AL p,t.ok=true∧t.letters=(p.states.length:Int))∧
  ∀u v:List Int,u.length=v.length→(TR.sum (p.states.length:Int) (AL p)).rel u v=(AL p).any fun t=>t.rel u v:=by
 have F:=Xa h
 have y:=(Xb h).at
 obtain⟨a1,G,z,I⟩:=TR.sum_ok (L:=(p.states.length:Int)) (AL p) fun t ht=>⟨(y t ht).1,(y t ht).2.1,(y t ht).2.2.1⟩
 have b:=TR.sum_states (L:=(p.states.length:Int)) (m:=36) (AL p) fun t ht=>(y t ht).2.2.2
 have O:(AL p).length≤8:=by unfold AL; rw [List.length_map]; exact F.nr
 have E:(TR.sum (p.states.length:Int) (AL p)).states≤400:=by omega
 have U:=F.ns
 refine⟨TR.ok_iff.2 ⟨⟨by rw [z]; omega,by rw [z]; omega,G,E⟩,a1⟩,z,E,fun t ht=>?_,I⟩
 obtain⟨J,c2,C,M⟩:=y t ht
 exact⟨TR.ok_iff.2 ⟨⟨by rw [C]; omega,by rw [C]; omega,c2,by omega⟩,J⟩,C⟩
end Go.Proofs.YtfcfpoemojjglaaGreatDoor
namespace Go.Proofs.YtfcfpoemojjglaaGreatDoor
open Go.RowKit
open K (Am Az At AW C0 Ah A0 Ab AC Ad orE Dv)
attribute [-go_sem] loadCellsFrom storeCells
set_option maxHeartbeats 16000000
set_option maxRecDepth 100000
theorem YC {w:World} {cs:List Value} {p:Am} {r:Az} {i:Nat} (h:At w w.heap.size cs p) (a8:p.Small) (hT:A0 w) (he:Hg p=0) (hr:p.rules[i]?=some r):
  Calls Tryz.prog 21 #[.agg cs.toArray,.int .i64 (i:Int)] w (Ret fun v w'=>Wv w 0 (C1 p r).tr v w'):=by
 obtain⟨A1,c1,A2,c2,A3,c3,A4,c4,A5,c5,A6,c6,A7,c7,a6,q0,q1,q2,q3,q4,q5,q6,q7,q8,O,-⟩:=h.cells
 obtain⟨w1,bb,J,z,ax⟩:=Ae w cs.toArray 27
 obtain⟨w2,bc,F,Z,ay⟩:=Ae w1 Wg 55
 have C:=J.trans (F.mono J.size)
 have b7:=Ah (z.below F) a6
 have ae:=hide (z.below F)
 have aC:=hide a6
 have a4:=W1 (h.keep (w':=w2) (B':=w2.heap.size) (fun _ hp=>C.cell hp) C.size) a8 (hT.below C)
 rw [he] at a4
 have aw:=hide a4
 have am:Hid (∀y,Below w.heap.size w y→Calls Tryz.prog 55 #[.agg cs.toArray,.int .i64 (i:Int)] y (Ret fun v w'=>Below y.heap.size y w'∧(C1 p r).size≤10000∧∀I,Ac w' I (fun k=>k<y.heap.size)→H6 I I.heap.size v (C1 p r).tr)):=
  hide fun y hx=>Xh (h.keep (fun _ hp=>hx.cell hp) hx.size) hr a8.states
 have aj:=hide C
 have ap:=hide Z
 have b8:=z.lt
 have b9:=Z.lt
 have ba:=J.size
 have aB:=AP hr
 have h9:=(z.below F).cell 9
 generalize cs.toArray=pc at*
 rw [O] at h9
 generalize ar:(C1 p r).tr=T at*
 obtain⟨nr,al⟩:∃n,n=p.rules.length:=⟨_,rfl⟩
 rw [←al] at aB h9 O
 have aN:=hide O
 have b5:¬(i:Int)<0:=by omega
 have b6:¬(nr:Int)≤(i:Int):=by omega
 clear h a8 hT J z ax F Z ay C a6 q0 q1 q2 q3 q4 q5 q6 q7 q8 O he hr a4 al ar
 go_enter Tryz.func21,Tryz.ntmps21
 go_wp2_with fail
 refine Calls.ret aw.out ?_
 rintro v w4 ⟨rfl,G⟩
 have E:=hide (aj.out.trans (G.mono aj.out.size))
 have az:=Ah (ae.out.below G) aC.out
 have b3:=((ae.out.below G).cell 9).trans aN.out
 have af:=hide (ap.out.below G)
 clear G
 go_wp2_with fail
 refine Calls.ret (am.out _ E.out) ?_
 rintro d w5 ⟨M,-,hD⟩
 have hd:=hD w5 (Ac.refl _ _)
 obtain⟨U,k1,V,k2,W,k3,rfl,-⟩:=hd
 have ah:=hide hD
 obtain⟨wF,bd,ag,a3⟩:=Wz (by kernel_rfl) (af.out.below M) #[.int .i64 T.letters,.int .i64 T.states,.slice U T.start.length k1,.slice V T.accept.length k2,.slice W T.moves.length k3] rfl (by simp [Value.oneCell'])
 have aA:=Ah ag (n:=5) rfl
 have b4:w1.heap.size<w4.heap.size:=af.out.lt
 have av:=hide ((E.out.trans (M.mono E.out.size)).trans (a3.below (B:=w.heap.size) (by have:=E.out.size; have:=M.size; omega) (fun b hb (x:b=_)=>by omega)))
 have hR:=hide (show Wv w 0 T (.tuple #[.agg #[.int .i64 T.letters,.int .i64 T.states,.slice U T.start.length k1,.slice V T.accept.length k2,.slice W T.moves.length k3],.int .i64 0]) wF from
  ⟨av.out,.inr ⟨rfl,_,rfl,fun I hX=>ah.out I ((a3.mono (Y:=fun k=>k<w4.heap.size) fun b _ (x:b=_)=>by omega).trans hX fun b hb (x:b<_)=>by have:=E.out.size; omega)⟩⟩)
 generalize T.letters=tl at*
 generalize T.states=ts at*
 generalize T.start.length=n1 at*
 generalize T.accept.length=n2 at*
 generalize T.moves.length=n3 at*
 clear ag a3 M hD az ah am
 go_wp2_with fail
 exact bodyPost_ret (v:=.tuple #[.agg #[.int .i64 tl,.int .i64 ts,.slice U n1 k1,.slice V n2 k2,.slice W n3 k3],.int .i64 0]) (by simp [results,Tryz.results21,go_sem,aA]) rfl hR.out
theorem Yk {w:World} {cs:List Value} {p:Am} (h:At w w.heap.size cs p) (a2:p.Small) (U:A0 w) (I:Hg p≠0):
  Calls Tryz.prog 28 #[.agg cs.toArray] w (Ret fun v w'=>Below w.heap.size w w'∧v=.tuple #[.agg Wg,.int .i64 (Hg p)]):=by
 obtain⟨A1,c1,A2,c2,A3,c3,A4,c4,A5,c5,A6,c6,A7,c7,Z,-⟩:=h.cells
 obtain⟨w1,ar,z,E,a5⟩:=Ae w cs.toArray 27
 obtain⟨w2,au,G,J,a6⟩:=Ae w1 Wg 55
 have y:=z.trans (G.mono z.size)
 have ao:=Ah (E.below G) Z
 have V:=hide (Xn (h.keep (w':=w2) (B':=w2.heap.size) (fun _ hp=>y.cell hp) y.size) a2 (U.below y))
 have F:=hide y
 have a3:=hide J
 have ap:=E.lt
 have aq:=z.size
 generalize cs.toArray=pc at*
 obtain⟨e,W⟩:∃e,e=Hg p:=⟨_,rfl⟩
 rw [←W] at V I ⊢
 have an:(e != 0)=true:=by simp [I]
 clear h a2 U z E a5 G J a6 y Z W I
 go_enter Tryz.func28,Tryz.ntmps28
 go_wp2_with fail
 refine Calls.ret V.out ?_
 rintro v w4 ⟨rfl,C⟩
 obtain⟨wF,av,M,O⟩:=Wz (by kernel_rfl) (a3.out.below C) Wg rfl (by simp [Value.oneCell'])
 have a7:=Ah M (n:=5) rfl
 have a4:=hide ((F.out.trans (C.mono F.out.size)).trans (O.below (B:=w.heap.size) (by have:=F.out.size; have:=C.size; omega) (fun b hb (x:b=_)=>by omega)))
 clear M O C
 go_wp2_with fail
 exact bodyPost_ret (v:=.tuple #[.agg Wg,.int .i64 e]) (by simp [results,Tryz.results28,go_sem,a7]) rfl ⟨a4.out,rfl⟩
end Go.Proofs.YtfcfpoemojjglaaGreatDoor
