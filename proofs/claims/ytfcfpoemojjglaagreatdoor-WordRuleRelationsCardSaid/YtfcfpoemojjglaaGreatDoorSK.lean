/-
  Part SK of a proof.
-/
import Derived.Test.YtfcfpoemojjglaaGreatDoorPA
import Derived.Test.YtfcfpoemojjglaaGreatDoorSD
import Derived.Test.YtfcfpoemojjglaaGreatDoorSH
import Derived.Test.YtfcfpoemojjglaaGreatDoorSI
import Derived.Test.YtfcfpoemojjglaaGreatDoorPE
import Derived.Test.YtfcfpoemojjglaaGreatDoorCI
import Derived.Test.YtfcfpoemojjglaaGreatDoorAC
import Derived.Test.YtfcfpoemojjglaaGreatDoorSC
import Derived.Test.YtfcfpoemojjglaaGreatDoorSB
import Derived.Test.YtfcfpoemojjglaaGreatDoorSO
import Derived.Test.YtfcfpoemojjglaaGreatDoorCX
set_option maxHeartbeats 16000000
set_option maxRecDepth 100000
set_option linter.unusedVariables false
set_option linter.unusedSimpArgs false
namespace Go.Proofs.YtfcfpoemojjglaaGreatDoor
open Go.RowKit
open K (Am Az At AW Fc BR Ah Du Dv)
attribute [-go_sem] loadCellsFrom
set_option maxHeartbeats 16000000
set_option maxRecDepth 100000
def A0 (p:Am) (r:Az):Drw:=
 if r.kind=5 then (if r.dir=2 then Hg p.states.length p.topo r.pf r.pt r.fr r.to else Hg p.states.length p.topo r.fr r.to r.pf r.pt)
 else if p.topo=3 then Wl p.states.length r.fr r.to r.left r.right else Q6 p.states.length r.at_ r.fr r.to r.left r.right
theorem DrS.finK {w0 wr:World} {gd gm n:Nat} {d:Drw} {ls:Lst} {S:List (Nme×Nat)} (h:DrS w0 wr gd gm d n ls S) (hn:n≤1000000):∃A1 c1 A2 c2 A3 c3,Blk wr gd 160 #[.int .i64 (d.L:Int),.int .i64 (d.nm.length:Int),.slice A1 d.st.length c1,.slice A2 d.ac.length c2,.slice A3 d.mv.length c3,.map (some gm)]∧
  ∀x,Ac wr x (fun k=>k<w0.heap.size)→Wi x x.heap.size (.agg #[.int .i64 (d.L:Int),.int .i64 (d.nm.length:Int),.slice A1 d.st.length c1,.slice A2 d.ac.length c2,.slice A3 d.mv.length c3]) d.tr:=by
 obtain⟨vS,vA,vM,h,-⟩:=h
 obtain⟨A1,c1,rfl⟩:=AH h.st
 obtain⟨A2,c2,rfl⟩:=AH h.ac
 obtain⟨A3,c3,rfl⟩:=AH h.mv
 have W:=h.sz
 unfold Drw.size at W
 refine⟨A1,c1,A2,c2,A3,c3,h.bd,fun x hk=>?_⟩
 have key:∀{e m s:Nat} {v:Value} {xs:List Value},wr.ownsRow w0.heap.size e s v m xs→x.ownsRow w0.heap.size e s v m xs:=fun ho=>hk.ownsRow ho fun g V a4=>by have:=Bb ho V; omega
 have O:∀l:List Nme,l.map (Af d)=(l.map fun k=>(d.num k:Int)).map (Value.int .i64):=fun l=>by rw [List.map_map]; rfl
 have G:=key h.st
 have F:=key h.ac
 rw [O] at G F
 obtain⟨Z,k1,y,r1⟩:=B8 (B:=x.heap.size) G (by simp) (Nat.le_refl _) (by omega)
 obtain⟨B2,k2,C,r2⟩:=B8 (B:=x.heap.size) F (by simp) (Nat.le_refl _) (by omega)
 obtain⟨B3,k3,E,r3⟩:=XZ (B:=x.heap.size) (key h.mv) (by simp) (Nat.le_refl _) (by omega)
 have U:=XY h.st _ _ _ rfl
 simp only [List.length_map] at y C E
 injection y with y _ I
 injection C with C _ J
 injection E with E _ M
 subst y I C J E M
 exact⟨A1,c1,A2,c2,A3,c3,by simp [Drw.tr],r1,r2,r3,by simpa [Drw.tr] using U⟩
theorem load5 {w:World} {g:Nat} {t:TypeId} {a b c d e f:Value} (h:Blk w g t #[a,b,c,d,e,f]):(loadCellsFrom ⟨g,0,none⟩ 0 5 #[]).run Tryz.prog w=.ok #[a,b,c,d,e] w:=by
 have:=run_loadCells_list (P:=Tryz.prog) w ⟨g,0,none⟩ [a,b,c,d,e] (fun j v x=>by
  rw [Addr.add_mid,h.cell]
  match j,x with
  | 0,x=>simpa using x
  | 1,x=>simpa using x
  | 2,x=>simpa using x
  | 3,x=>simpa using x
  | 4,x=>simpa using x)
 simpa [loadCells] using this
theorem aAx {w:World} {cs:List Value} {p:Am} {r:Az} {i:Nat} (h:At w w.heap.size cs p) (hr:p.rules[i]?=some r) (hL:p.states.length≤60):
  Calls Tryz.prog 55 #[.agg cs.toArray,.int .i64 (i:Int)] w (Ret fun v w'=>Below w.heap.size w w'∧(A0 p r).size≤10000∧∀C,Ac w' C (fun k=>k<w.heap.size)→Wi C C.heap.size v (A0 p r).tr):=by
 obtain⟨A1,c1,A2,c2,A3,c3,A4,c4,A5,c5,A6,c6,A7,c7,W,q0,q1,q2,q3,q4,q5,q6,q7,q8,q9,-,-,-,-,-,-,h7,bi⟩:=h.cells
 have bo:=AP hr
 obtain⟨w1,cm,a5,af,-⟩:=Ae w cs.toArray 27
 obtain⟨U,cn,O,aD,-⟩:=Ae w1 #[.int .i64 0,.int .i64 0,sn0,sn0,sn0] 55
 have G:=a5.trans (O.mono a5.size)
 obtain⟨b,off,rc,bc,ca,M,bj,aK⟩:=Du (h7.keep (w':=U) (B':=w.heap.size) (R':=AW U w.heap.size) (fun _ J=>G.cell J) (fun _ _ x=>x.keep (fun _ J=>G.cell J) (Nat.le_refl _)) (Nat.le_refl _)) hr
 obtain⟨F,bs,I,ag,-⟩:=Ae U rc 99
 have bq:=Dv U 99 18 (by kernel_rfl) M.size M.one
 rw [bs] at bq
 have a3:=G.trans (I.mono G.size)
 have ai:=hide (af.below (O.trans (I.mono O.size)))
 have aG:=hide (aD.below I)
 have ce:=Ah ai.out W
 have cf:=Ah ag M.size
 have bh:=(ai.out.cell 1).trans q1
 have aH:=ag.cell
 obtain⟨E1,f1,E2,f2,E3,f3,E4,f4,E5,f5,E6,f6,E7,f7,E8,f8,⟨rz,r0,r1,r2,r3,r4,r5,r6,aY,r8,r9,aT,aU,aV,aw,ax,ay,aW,az⟩,⟨s1,s2,s3,s4,s5,s6,s7,s8⟩⟩:=K.AW.cells M.is
 simp only [Array.toArray_toList] at rz r0 r1 r2 r3 r4 r5 r6 aY r8 r9 aT aU aV aw ax ay aW az
 have aj:K4 F rc r.fr r.to r.left r.right:=⟨r2,r3,⟨E6,f6,ax,s6.keep (fun _ J=>I.cell (Nat.lt_of_lt_of_le J G.size)) (by have:=a3.size; omega)⟩,⟨E7,f7,ay,s7.keep (fun _ J=>I.cell (Nat.lt_of_lt_of_le J G.size)) (by have:=a3.size; omega)⟩⟩
 have bl:=(aH 1).trans r1
 have al:r.kind=5→Hid (Calls Tryz.prog 103 #[.agg cs.toArray,.agg rc] F (Ret fun v w'=>∃gd gm n,v=.pointer (some ⟨gd,0,none⟩)∧n≤10000∧DrS F w' gd gm (A0 p r) n [] [])):=fun y=>by
  unfold A0
  rw [if_pos y]
  exact hide (Z6 W q1 q2 hL r2 r3 r4 r5 az)
 have a9:r.kind≠5→p.topo=3→Hid (Calls Tryz.prog 104 #[.agg cs.toArray,.agg rc] F (Ret fun v w'=>∃gd gm n,v=.pointer (some ⟨gd,0,none⟩)∧n≤10000∧DrS F w' gd gm (A0 p r) n [] [])):=fun y E=>by
  unfold A0
  rw [if_neg y,if_pos E]
  exact hide (aAt W q2 hL aj)
 have a8:r.kind≠5→p.topo≠3→Hid (Calls Tryz.prog 105 #[.agg cs.toArray,.agg rc] F (Ret fun v w'=>∃gd gm n,v=.pointer (some ⟨gd,0,none⟩)∧n≤10000∧DrS F w' gd gm (A0 p r) n [] [])):=fun y E=>by
  unfold A0
  rw [if_neg y,if_neg E]
  exact hide (ZJ W q2 hL aj aw)
 generalize A0 p r=dd at*
 have cd:=aG.out.lt
 have cj:=O.size
 have ck:=I.size
 have ci:=a5.size
 have a4:=hide a3
 have ba:=(ai.out.cell 9).trans q9
 have ch:(loadCellsFrom ⟨b,off+i*18,none⟩ 0 18 #[]).run Tryz.prog U=.ok rc U:=aK
 have bb:=((af.below O).cell 9).trans q9
 obtain⟨nr,aQ⟩:∃n,n=p.rules.length:=⟨_,rfl⟩
 rw [←aQ] at bo ba bb bi
 obtain⟨kd,aJ⟩:∃k,k=r.kind:=⟨_,rfl⟩
 obtain⟨tp,aR⟩:∃k,k=p.topo:=⟨_,rfl⟩
 rw [←aJ] at bl al a9 a8
 rw [←aR] at bh a9 a8
 subst bc
 have cl:=hide M.size
 clear h h7 M bj aK af aD ag a5 O I G a3 aH aj q0 q1 q2 q3 q4 q5 q6 q7 q8 q9 rz r0 r1 r2 r3 r4 r5 r6 aY r8 r9 aT aU aV aw ax ay aW az s1 s2 s3 s4 s5 s6 s7 s8 W hr aQ aJ aR hL
 generalize cs.toArray=pc at*
 by_cases y:kd=5
 case' pos=>have a7:=al y; have bk:(kd==5)=true:=by simp [y]
 case' neg=>
  have bk:(kd==5)=false:=by simp [y]
  by_cases E:tp=3
  case' pos=>have a7:=a9 y E; have br:(tp==3)=true:=by simp [E]
  case' neg=>have a7:=a8 y E; have br:(tp==3)=false:=by simp [E]
 all_goals
  clear al a9 a8
  go_enter Tryz.func55,Tryz.ntmps55
  go_wp2_with fail
  refine Calls.ret a7.out ?_
  rintro v w4 ⟨gd,gm,n,rfl,hn,Z⟩
  obtain⟨B1,k1,B2,k2,B3,k3,aF,hT⟩:=Z.finK (by omega)
  have bm:=load5 aF
  have a6:=Z.below
  have V:=aG.out.below a6
  obtain⟨n0,aL⟩:∃n,n=dd.nm.length:=⟨_,rfl⟩
  obtain⟨n1,aM⟩:∃n,n=dd.st.length:=⟨_,rfl⟩
  obtain⟨n2,aN⟩:∃n,n=dd.ac.length:=⟨_,rfl⟩
  obtain⟨n3,aO⟩:∃n,n=dd.mv.length:=⟨_,rfl⟩
  obtain⟨nL,aP⟩:∃n,n=dd.L:=⟨_,rfl⟩
  rw [←aL,←aM,←aN,←aO,←aP] at bm hT
  obtain⟨wF,bt,aE,ah⟩:=Dn V (.int .i64 (nL:Int)) (.int .i64 (n0:Int)) (.slice B1 n1 k1) (.slice B2 n2 k2) (.slice B3 n3 k3)
  unfold CK at bt
  have cb:=V.cell
  have cc:=V.frozen
  have cg:=V.lt
  have bn:=Ah aE (n:=5) rfl
  have bg:=hide ((a4.out.trans (a6.mono a4.out.size)).trans (ah.below (B:=w.heap.size) (by have:=a4.out.size; have:=a6.size; omega) (fun b hb (e:b=_)=>by omega)))
  have bu:Hid (dd.size≤10000):=hide (by obtain⟨_,_,_,hM,-⟩:=Z; exact Nat.le_trans hM.sz hn)
  have be:Hid (∀C,Ac wF C (fun k=>k<w.heap.size)→Wi C C.heap.size (.agg #[.int .i64 (nL:Int),.int .i64 (n0:Int),.slice B1 n1 k1,.slice B2 n2 k2,.slice B3 n3 k3]) dd.tr):=hide (fun C hX=>hT C ((ah.mono (Y:=fun k=>k<F.heap.size) fun b _ (e:b=_)=>by omega).trans hX fun b hb (e:b<_)=>by have:=a4.out.size; omega))
  clear V aE ah aF Z hT a6 a7 aL aM aN aO aP
  go_wp2_with fail
  exact bodyPost_ret (v:=.agg #[.int .i64 (nL:Int),.int .i64 (n0:Int),.slice B1 n1 k1,.slice B2 n2 k2,.slice B3 n3 k3]) (by simp [results,Tryz.results55,go_sem,bn]) rfl ⟨bg.out,bu.out,be.out⟩
end Go.Proofs.YtfcfpoemojjglaaGreatDoor
namespace Go.Proofs.YtfcfpoemojjglaaGreatDoor
open Go.RowKit
set_option maxHeartbeats 16000000
set_option maxRecDepth 100000
end Go.Proofs.YtfcfpoemojjglaaGreatDoor
namespace Go.Proofs.YtfcfpoemojjglaaGreatDoor
open Go.RowKit
open K (Am Az At AW Ah)
attribute [-go_sem] loadCellsFrom
set_option maxHeartbeats 16000000
set_option maxRecDepth 100000
def aAd (p:Am):List TR:=p.rules.map fun r=>(A0 p r).tr
def Xf (p:Am):Prop:=∀r∈p.rules,(A0 p r).Good p.states.length
theorem Xf.at {p:Am} (h:Xf p):∀t∈aAd p,t.In∧0≤t.states∧t.letters=(p.states.length:Int)∧t.states≤36:=by
 intro t ht
 obtain⟨r,y,rfl⟩:=List.mem_map.1 ht
 have x:=h r y
 refine⟨x.tr_in,?_,?_,?_⟩
 ·show(0:Int)≤((A0 p r).nm.length:Int); omega
 ·show((A0 p r).L:Int)=_; rw [x.eL]
 ·have:=x.len
  show((A0 p r).nm.length:Int)≤36
  omega
end Go.Proofs.YtfcfpoemojjglaaGreatDoor
namespace Go.Proofs.YtfcfpoemojjglaaGreatDoor
open Go.RowKit
open K (Am Az At AW C0 Ah SpOK nameOK protE Ad orE Dv)
attribute [-go_sem] loadCellsFrom storeCells
set_option maxHeartbeats 16000000
set_option maxRecDepth 100000
def AC (p:Am):Int:=orE (protE nameOK p) (Ad (!(p.topo==2||p.topo==3)) 7)
abbrev H6:Array Value:=#[.int .i64 0,.int .i64 0,sn0,sn0,sn0]
theorem WJ {w:World} {g:Nat} {t:TypeId} {a b c d e:Value} (Z:(Tryz.prog.info? t).map (·.size)=some 5) (h:Blk w g t #[a,b,c,d,e]) (vs:Array Value) (U:vs.size=5) (h1:vs.all (·.oneCell')=true):
  ∃G,(storeCells ⟨g,0,none⟩ vs.toList 0).run Tryz.prog w=.ok () G∧Blk G g t vs∧Ac w G (fun k=>k=g):=by
 obtain⟨x,y,C,E,F,rfl⟩:∃x y C E F,vs=#[x,y,C,E,F]:=by
  obtain⟨l⟩:=vs
  match l,U with
  | [x,y,C,E,F],_=>exact⟨x,y,C,E,F,rfl⟩
 obtain⟨G,W,M,O⟩:=Dn h x y C E F
 refine⟨G,?_,M,O⟩
 have J:∀v∈[x,y,C,E,F],v.oneCell'=true:=fun v J=>by
  have:=Array.all_eq_true'.1 h1 v (by simpa using J)
  exact this
 have V:=run_storeCells_cells (P:=Tryz.prog) g 0 [x,y,C,E,F] 0 w (fun j I=>by
  rw [h.cell]
  have I:j<5:=by simpa using I
  match j,I with
  | 0,_=>rfl
  | 1,_=>rfl
  | 2,_=>rfl
  | 3,_=>rfl
  | 4,_=>rfl) (fun j _=>h.frozen _) J
 rw [←W]
 exact V
theorem aAc {w:World} {cs:List Value} {p:Am} (h:At w w.heap.size cs p) (a2:p.Small) (V:SpOK w) (J:protE nameOK p≠0):
  Calls Tryz.prog 102 #[.agg cs.toArray] w (Ret fun v w'=>v=.tuple #[.agg #[.bool false,.bool false,.bool false,.bool false,.bool false],.int .i64 (protE nameOK p)]∧Below w.heap.size w w'):=by
 obtain⟨A1,c1,A2,c2,A3,c3,A4,c4,A5,c5,A6,c6,A7,c7,Z,ab,ac,-⟩:=h.cells
 obtain⟨w1,ao,C,F,a7⟩:=Ae w cs.toArray 27
 obtain⟨w2,ap,I,M,a8⟩:=Ae w1 #[.bool false,.bool false,.bool false,.bool false,.bool false] 155
 have y:=C.trans (I.mono C.size)
 have al:=Ah (F.below I) Z
 have a3:=hide (K.Kt (h.keep (w':=w2) (B':=w2.heap.size) (fun _ hp=>y.cell hp) y.size) a2 (V.below y))
 have G:=hide y
 have a5:=hide M
 have am:=F.lt
 have an:=C.size
 generalize cs.toArray=pc at*
 obtain⟨e,W⟩:∃e,e=protE nameOK p:=⟨_,rfl⟩
 rw [←W] at a3 J ⊢
 have ak:(e != 0)=true:=by simp [J]
 clear h a2 V C F a7 I M a8 y Z ab ac W J
 go_enter Tryz.func102,Tryz.ntmps102
 go_wp2_with fail
 refine Calls.ret a3.out ?_
 rintro v w3 ⟨rfl,E⟩
 obtain⟨wF,aq,O,U⟩:=WJ (by kernel_rfl) (a5.out.below E) #[.bool false,.bool false,.bool false,.bool false,.bool false] rfl (by simp [Value.oneCell'])
 have a9:=Ah O (n:=5) rfl
 have a6:=hide ((G.out.trans (E.mono G.out.size)).trans (U.below (B:=w.heap.size) (by have:=G.out.size; have:=E.size; omega) (fun b hb (x:b=_)=>by omega)))
 clear O U E
 go_wp2_with fail
 exact bodyPost_ret (v:=.tuple #[.agg #[.bool false,.bool false,.bool false,.bool false,.bool false],.int .i64 e]) (by simp [results,Tryz.results102,go_sem,a9]) rfl ⟨rfl,a6.out⟩
theorem XJ {w:World} {cs:List Value} {p:Am} (h:At w w.heap.size cs p) (I:p.Small) (F:SpOK w):
  Calls Tryz.prog 54 #[.agg cs.toArray] w (Ret fun v w'=>v=.int .i64 (AC p)∧Below w.heap.size w w'):=by
 by_cases y:protE nameOK p=0
 ·unfold AC
  rw [y]
  exact K.P9 h I F y
 ·have O:AC p=protE nameOK p:=by
   unfold AC orE
   rw [if_neg y]
  rw [O]
  obtain⟨A1,c1,A2,c2,A3,c3,A4,c4,A5,c5,A6,c6,A7,c7,a3,-⟩:=h.cells
  obtain⟨w1,aj,C,J,a7⟩:=Ae w cs.toArray 27
  have ai:=Ah J a3
  have Z:=hide (aAc (h.keep (w':=w1) (B':=w1.heap.size) (fun _ hp=>C.cell hp) C.size) I (F.below C) y)
  have V:=hide C
  generalize cs.toArray=pc at*
  obtain⟨e,a2⟩:∃e,e=protE nameOK p:=⟨_,rfl⟩
  rw [←a2] at Z y ⊢
  have ah:(e==0)=false:=by simp [y]
  clear h I F C J a7 a3 a2 y O
  go_enter Tryz.func54,Tryz.ntmps54
  go_wp2_with (go_at_call 102; refine Calls.ret Z.out ?_; rintro v w4 ⟨rfl,W⟩; have E:=hide (V.out.trans (W.mono V.out.size)); obtain⟨w5,ak,G,M,a8⟩:=Ae w4 #[.bool false,.bool false,.bool false,.bool false,.bool false] 155; obtain⟨wF,al,a5,U⟩:=WJ (by kernel_rfl) M #[.bool false,.bool false,.bool false,.bool false,.bool false] rfl (by simp [Value.oneCell']); have a6:=hide ((E.out.trans (G.mono E.out.size)).trans (U.below (B:=w.heap.size) (by have:=E.out.size; have:=G.size; omega) (fun b hb (x:b=_)=>by have:=E.out.size; omega))); clear W G M a8 a5 U)
  go_ret
  exact⟨rfl,a6.out⟩
theorem Xz {w:World} {cs:List Value} {p:Am} (h:At w w.heap.size cs p) (a4:p.Small) (Z:SpOK w):
  Calls Tryz.prog 56 #[.agg cs.toArray] w (Ret fun v w'=>v=.int .i64 (AC p)∧Below w.heap.size w w'):=by
 obtain⟨A1,c1,A2,c2,A3,c3,A4,c4,A5,c5,A6,c6,A7,c7,a3,ab,a2,-⟩:=h.cells
 obtain⟨w1,al,C,G,a9⟩:=Ae w cs.toArray 27
 have ak:=Ah G a3
 have J:=hide (K.refProtValidate_any (h.keep (w':=w1) (B':=w1.heap.size) (fun _ hp=>C.cell hp) C.size) a4 (Z.below C))
 have E:=hide C
 have a6:=hide G
 generalize cs.toArray=pc at*
 obtain⟨tp,O⟩:∃t,t=p.topo:=⟨_,rfl⟩
 obtain⟨e,M⟩:∃e,e=protE nameOK p:=⟨_,rfl⟩
 have W:Hid (AC p=orE e (Ad (!(tp==2||tp==3)) 7)):=hide (by unfold AC; rw [O,M])
 rw [W.out]
 rw [←M] at J
 rw [←O] at a2
 clear h a4 Z C G a9 a3 M O W ab
 by_cases F:e=0
 ·subst F
  have a8:((0:Int) != 0)=false:=rfl
  go_enter Tryz.func56,Tryz.ntmps56
  go_wp2_with fail
  refine Calls.ret J.out ?_
  rintro v w4 ⟨rfl,x⟩
  have y:=hide (E.out.trans (x.mono E.out.size))
  have aj:=((a6.out.below x).cell 1).trans a2
  clear x
  have a7:tp=2∨tp=3∨(tp≠2∧tp≠3):=by omega
  rcases a7 with rfl | rfl | ⟨U,V⟩
  ·go_wp2_with fail
   go_ret
   exact⟨rfl,y.out⟩
  ·go_wp2_with fail
   go_ret
   exact⟨rfl,y.out⟩
  ·have I:Hid (orE 0 (Ad (!(tp==2||tp==3)) 7)=7):=hide (by simp [orE,Ad,U,V])
   have b2:(tp != 2)=true:=by simp [U]
   have b3:(tp != 3)=true:=by simp [V]
   go_wp2_with fail
   go_ret
   exact⟨by rw [I.out]; rfl,y.out⟩
 ·have a8:(e != 0)=true:=by simp [F]
  have I:Hid (orE e (Ad (!(tp==2||tp==3)) 7)=e):=hide (if_neg F)
  rw [I.out]
  clear F
  go_enter Tryz.func56,Tryz.ntmps56
  go_wp2_with fail
  refine Calls.ret J.out ?_
  rintro v w4 ⟨rfl,x⟩
  have y:=hide (E.out.trans (x.mono E.out.size))
  clear x
  go_wp2_with fail
  go_ret
  exact⟨rfl,y.out⟩
def Xh (w:World) (e:Int) (t:TR) (v:Value) (w':World):Prop:=
 Below w.heap.size w w'∧((e≠0∧v=.tuple #[.agg H6,.int .i64 e])∨(e=0∧∃d,v=.tuple #[d,.int .i64 0]∧∀wX,Ac w' wX (fun k=>k<w.heap.size)→Wi wX wX.heap.size d t))
end Go.Proofs.YtfcfpoemojjglaaGreatDoor
namespace Go.Proofs.YtfcfpoemojjglaaGreatDoor
open K (Am Az nameOK protE Ad orE BC BB inE)
theorem Xy {α:Type} {f:α→Int} {l:List α}:K.Aj f l=0↔∀x∈l,f x=0:=by
 induction l with
 | nil=>simp [K.Aj]
 | cons a l ih=>
  unfold K.Aj
  simp only [List.mem_cons,forall_eq_or_imp]
  rw [AY,ih]
theorem Xb {p:Am} (h:AC p=0):protE nameOK p=0∧(p.topo=2∨p.topo=3):=by
 unfold AC at h
 obtain⟨h1,y⟩:=AY.1 h
 have x:=(Gg (by decide)).1 y
 simp only [Bool.not_eq_false',Bool.or_eq_true,beq_iff_eq] at x
 exact⟨h1,x⟩
structure Yk (p:Am):Prop where
 topo:p.topo=2∨p.topo=3
 ns:1≤p.states.length∧p.states.length≤6
 nr:p.rules.length≤8
 rule:∀(i:Nat) (r:Az),p.rules[i]?=some r→inN (p.states.length:Int) r.fr=true∧inN (p.states.length:Int) r.to=true∧(r.kind=5→inN (p.states.length:Int) r.pf=true∧inN (p.states.length:Int) r.pt=true)
theorem W2 {p:Am} (h:AC p=0):Yk p:=by
 obtain⟨h1,ht⟩:=Xb h
 unfold protE at h1
 simp only [AY] at h1
 obtain⟨-,-,F,G,-,-,-,-,-,-,E,-⟩:=h1
 have b3:=(Gg (by decide)).1 F
 have I:=(Gg (by decide)).1 G
 simp only [Bool.or_eq_false_iff,decide_eq_false_iff_not] at I
 refine⟨ht,⟨?_,by omega⟩,by omega,fun i r C=>?_⟩
 ·cases O:p.states with
  | nil=>rw [O] at b3; cases b3
  | cons x l=>simp
 ·have M:=AP C
  have c:=Xy.1 E i (List.mem_range.2 M)
  unfold BB at c
  rw [C] at c
  unfold BC at c
  simp only [AY] at c
  have d:=(Gg (by decide)).1 c.2.2.1
  have e:∀x n:Int,inE x n=inN n x:=fun x n=>rfl
  simp only [Bool.or_eq_false_iff,Bool.not_eq_false',Bool.and_eq_false_iff,decide_eq_false_iff_not,e] at d
  refine⟨d.1.1,d.1.2,fun J=>?_⟩
  rcases d.2 with y | y
  ·exact absurd J y.2
  ·exact y
theorem X3 {p:Am} (h:AC p=0):Xf p:=by
 intro r G
 obtain⟨i,F⟩:=List.mem_iff_getElem?.1 G
 obtain⟨h1,x,E⟩:=(W2 h).rule i r F
 unfold A0
 split
 ·rename_i h5
  obtain⟨y,C⟩:=E h5
  split
  ·exact X0 y C h1 x
  ·exact X0 h1 x y C
 ·split
  ·exact aAp h1 x
  ·exact ZF h1 x
end Go.Proofs.YtfcfpoemojjglaaGreatDoor
namespace Go.Proofs.YtfcfpoemojjglaaGreatDoor
open Go.RowKit
open K (Am Az At AW C0 Ah SpOK nameOK protE Ad orE Dv)
attribute [-go_sem] loadCellsFrom storeCells
set_option maxHeartbeats 16000000
set_option maxRecDepth 100000
theorem aAz {w:World} {cs:List Value} {p:Am} {r:Az} {i:Nat} (h:At w w.heap.size cs p) (a9:p.Small) (hT:SpOK w) (he:AC p=0) (hr:p.rules[i]?=some r):
  Calls Tryz.prog 21 #[.agg cs.toArray,.int .i64 (i:Int)] w (Ret fun v w'=>Xh w 0 (A0 p r).tr v w'):=by
 obtain⟨A1,c1,A2,c2,A3,c3,A4,c4,A5,c5,A6,c6,A7,c7,a7,q0,q1,q2,q3,q4,q5,q6,q7,q8,U,-⟩:=h.cells
 obtain⟨w1,b6,M,C,aw⟩:=Ae w cs.toArray 27
 obtain⟨w2,b7,G,a2,ax⟩:=Ae w1 H6 55
 have E:=M.trans (G.mono M.size)
 have aZ:=Ah (C.below G) a7
 have ab:=hide (C.below G)
 have aB:=hide a7
 have a5:=XJ (h.keep (w':=w2) (B':=w2.heap.size) (fun _ hp=>E.cell hp) E.size) a9 (hT.below E)
 rw [he] at a5
 have av:=hide a5
 have aj:Hid (∀y,Below w.heap.size w y→Calls Tryz.prog 55 #[.agg cs.toArray,.int .i64 (i:Int)] y (Ret fun v w'=>Below y.heap.size y w'∧(A0 p r).size≤10000∧∀J,Ac w' J (fun k=>k<y.heap.size)→Wi J J.heap.size v (A0 p r).tr)):=
  hide fun y hx=>aAx (h.keep (fun _ hp=>hx.cell hp) hx.size) hr a9.states
 have ag:=hide E
 have ao:=hide a2
 have b0:=C.lt
 have b4:=a2.lt
 have b5:=M.size
 have aA:=AP hr
 have h9:=(C.below G).cell 9
 generalize cs.toArray=pc at*
 rw [U] at h9
 generalize aq:(A0 p r).tr=T at*
 obtain⟨nr,ai⟩:∃n,n=p.rules.length:=⟨_,rfl⟩
 rw [←ai] at aA h9 U
 have aM:=hide U
 have aX:¬(i:Int)<0:=by omega
 have aY:¬(nr:Int)≤(i:Int):=by omega
 clear h a9 hT M C aw G a2 ax E a7 q0 q1 q2 q3 q4 q5 q6 q7 q8 U he hr a5 ai aq
 go_enter Tryz.func21,Tryz.ntmps21
 go_wp2_with fail
 refine Calls.ret av.out ?_
 rintro v w4 ⟨rfl,I⟩
 have F:=hide (ag.out.trans (I.mono ag.out.size))
 have ay:=Ah (ab.out.below I) aB.out
 have aV:=((ab.out.below I).cell 9).trans aM.out
 have ac:=hide (ao.out.below I)
 clear I
 go_wp2_with fail
 refine Calls.ret (aj.out _ F.out) ?_
 rintro d w5 ⟨O,-,hD⟩
 have hd:=hD w5 (Ac.refl _ _)
 obtain⟨V,k1,W,k2,Z,k3,rfl,-⟩:=hd
 have ae:=hide hD
 obtain⟨wF,b8,ad,a4⟩:=WJ (by kernel_rfl) (ac.out.below O) #[.int .i64 T.letters,.int .i64 T.states,.slice V T.start.length k1,.slice W T.accept.length k2,.slice Z T.moves.length k3] rfl (by simp [Value.oneCell'])
 have az:=Ah ad (n:=5) rfl
 have aW:w1.heap.size<w4.heap.size:=ac.out.lt
 have au:=hide ((F.out.trans (O.mono F.out.size)).trans (a4.below (B:=w.heap.size) (by have:=F.out.size; have:=O.size; omega) (fun b hb (x:b=_)=>by omega)))
 have hR:=hide (show Xh w 0 T (.tuple #[.agg #[.int .i64 T.letters,.int .i64 T.states,.slice V T.start.length k1,.slice W T.accept.length k2,.slice Z T.moves.length k3],.int .i64 0]) wF from
  ⟨au.out,.inr ⟨rfl,_,rfl,fun J hX=>ae.out J ((a4.mono (Y:=fun k=>k<w4.heap.size) fun b _ (x:b=_)=>by omega).trans hX fun b hb (x:b<_)=>by have:=F.out.size; omega)⟩⟩)
 generalize T.letters=tl at*
 generalize T.states=ts at*
 generalize T.start.length=n1 at*
 generalize T.accept.length=n2 at*
 generalize T.moves.length=n3 at*
 clear ad a4 O hD ay ae aj
 go_wp2_with fail
 exact bodyPost_ret (v:=.tuple #[.agg #[.int .i64 tl,.int .i64 ts,.slice V n1 k1,.slice W n2 k2,.slice Z n3 k3],.int .i64 0]) (by simp [results,Tryz.results21,go_sem,az]) rfl hR.out
end Go.Proofs.YtfcfpoemojjglaaGreatDoor
