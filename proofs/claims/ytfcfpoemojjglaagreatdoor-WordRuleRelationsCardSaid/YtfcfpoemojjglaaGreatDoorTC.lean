/-
  Part TC of a proof.
-/
import Derived.Test.YtfcfpoemojjglaaGreatDoorPA
import Derived.Test.YtfcfpoemojjglaaGreatDoorTA
import Derived.Test.YtfcfpoemojjglaaGreatDoorTB
import Derived.Test.YtfcfpoemojjglaaGreatDoorSK
set_option maxHeartbeats 16000000
set_option maxRecDepth 100000
set_option linter.unusedVariables false
set_option linter.unusedSimpArgs false
namespace Go.Proofs.YtfcfpoemojjglaaGreatDoor
open Go.RowKit
open K (Am Az At AW Fc BR Ah Du Dv SpOK)
attribute [-go_sem] loadCellsFrom storeCells
set_option maxHeartbeats 16000000
set_option maxRecDepth 100000
theorem ZT {w0 w:World} {gd L n:Nat} {ls:Lst} {pc rc:Array Value} {left right:List Int} {f t pf pt at_ dir G tp:Int} (h:MkS w0 w gd L n ls) (O:L≤60) (E:K4 w0 rc f t left right) (rz:rc.size=18) (q1:pc[1]?=some (.int .i64 tp)) (r1:rc[1]?=some (.int .i64 G))
  (r4:rc[4]?=some (.int .i64 pf)) (r5:rc[5]?=some (.int .i64 pt)) (a4:rc[13]?=some (.int .i64 at_)) (a5:rc[17]?=some (.int .i64 dir)) (hn:n≤50000):
  Calls Tryz.prog 106 #[.pointer (some ⟨gd,0,none⟩),.agg pc,.agg rc] w (Ret fun v w'=>v=.tuple #[]∧MkS w0 w' gd L (n+1000) ls):=by
 obtain⟨I,ai,W,ae⟩:=h.pushE 27 pc
 obtain⟨V,aj,y,af⟩:=W.out.pushE 99 rc
 have m4:(w.heap.size,27,pc)∈(I.heap.size,99,rc)::(w.heap.size,27,pc)::ls:=by simp
 have U:(I.heap.size,99,rc)∈(I.heap.size,99,rc)::(w.heap.size,27,pc)::ls:=by simp
 have F:∀x∈ls,x∈(I.heap.size,99,rc)::(w.heap.size,27,pc)::ls:=fun x hx=>by simp [hx]
 have ag:=Ah (y.out.blk U) rz
 have c1:=((y.out.blk m4).cell 1).trans q1
 have k1:=((y.out.blk U).cell 1).trans r1
 have aa:Hid (∀b,Calls Tryz.prog 158 #[.pointer (some ⟨gd,0,none⟩),.agg rc,.bool b] V (Ret fun v w'=>v=.tuple #[]∧MkS w0 w' gd L (n+1000) ls)):=hide fun b=>by
  refine Calls.ret (ZR (ring:=b) y.out O E.fr E.tt r4 r5 a5 (by omega)) ?_
  rintro v w' ⟨rfl,C⟩
  exact⟨rfl,(C.sub F).big (by omega)⟩
 have ab:Hid (Calls Tryz.prog 159 #[.pointer (some ⟨gd,0,none⟩),.agg rc] V (Ret fun v w'=>v=.tuple #[]∧MkS w0 w' gd L (n+1000) ls)):=hide (by
  refine Calls.ret (ZS y.out O E (by omega)) ?_
  rintro v w' ⟨rfl,C⟩
  exact⟨rfl,C.sub F⟩)
 have a9:Hid (Calls Tryz.prog 160 #[.pointer (some ⟨gd,0,none⟩),.agg rc] V (Ret fun v w'=>v=.tuple #[]∧MkS w0 w' gd L (n+1000) ls)):=hide (by
  refine Calls.ret (ZQ y.out O E a4 (by omega)) ?_
  rintro v w' ⟨rfl,C⟩
  exact⟨rfl,(C.sub F).big (by omega)⟩)
 have M:(G==5)=true∨(G==5)=false:=by cases (G==5) <;> simp
 have J:(tp==3)=true∨(tp==3)=false:=by cases (tp==3) <;> simp
 clear h E q1 r1 r4 r5 a4 a5 F m4 U W y
 rcases M with M | M
 all_goals rcases J with J | J
 all_goals
  go_enter Tryz.func106,Tryz.ntmps106
  go_wp2_with fail
  first
  | refine Calls.ret (aa.out _) ?_
  | refine Calls.ret ab.out ?_
  | refine Calls.ret a9.out ?_
  rintro v w3 ⟨rfl,Z⟩
  have a8:=hide Z
  clear Z
  go_wp2_with fail
  exact bodyPost_ret (v:=.tuple #[]) (by simp [results,Tryz.results106,go_sem]) rfl ⟨rfl,a8.out⟩
theorem ZP {w0 w:World} {gd L n g3 i b off nr c:Nat} {ls:Lst} {pc rc:Array Value} (h:MkS w0 w gd L n ls) (M:(g3,27,pc)∈ls) (J:pc.size=10) (q9:pc[9]?=some (.slice (some ⟨b,off,none⟩) nr c)) (hi:i<nr) (aS:nr≤1000)
  (I:∀x,Below w0.heap.size w0 x→(loadCellsFrom ⟨b,off+i*18,none⟩ 0 18 #[]).run Tryz.prog x=.ok rc x)
  (G:∀x m,m≤1000→MkS w0 x gd L m ls→Calls Tryz.prog 106 #[.pointer (some ⟨gd,0,none⟩),.agg pc,.agg rc] x (Ret fun v w'=>v=.tuple #[]∧MkS w0 w' gd L (m+1000) ls)) (hn:n≤1000)
  {O u1 u4 u5 u6 u9 U V W Z a2 ak al am an ao ap aq ar au av aw ax a3 a4:Value}
  {Q:Exit→Act→World→Prop} (hN:Reg.NoQ Q)
  (hQ:∀(x8 ay az aA aB aC aD aE aF aG aH aJ aK:Value) (w':World),MkS w0 w' gd L (n+1000) ls→Q (.exit 0) ⟨#[O,u1,.int .i64 ((i:Int)+1),.pointer (some ⟨g3,0,none⟩),u4,u5,u6,.pointer (some ⟨gd,0,none⟩),x8,u9,U,V,W,Z,a2,ay,az,aA,aB,aC,aD,aE,aF,aG,aH,aJ,aK,a3,a4],[]⟩ w'):
  (Code.loop (CG Tryz.f58 0)).wp Tryz.prog Q ⟨#[O,u1,.int .i64 ((i:Int)+1),.pointer (some ⟨g3,0,none⟩),u4,u5,u6,.pointer (some ⟨gd,0,none⟩),.int .i64 (i:Int),u9,U,V,W,Z,a2,ak,al,am,an,ao,ap,aq,ar,au,av,aw,ax,a3,a4],[]⟩ w:=by
 conv=>arg 2; arg 1; whnf
 have hH:=hide h
 have ad:=hide hQ
 have ah:=hide I
 have ae:=hide G
 have ai:=hide J
 clear h hQ I G J
 go_loopw [8] (fun C wr=>∃(k:Nat),C=.int .i64 (k:Int)∧i≤k∧k≤i+1∧Hid (MkS w0 wr gd L (n+1000*(k - i)) ls)) (fun C _=>i+1 - (intOf C).toNat)
 case atStart=>exact⟨i,rfl,Nat.le_refl _,by omega,hide (hH.out.big (by omega))⟩
 case round=>
  obtain⟨k,rfl,aO,aP,E⟩:=hrel
  by_cases aQ:k<i+1
  ·obtain rfl:k=i:=by omega
   have y:=hide (E.out.keep (Ap wr))
   have af:=Ah (y.out.blk M) ai.out
   have c9:=((y.out.blk M).cell 9).trans q9
   have ag:=ah.out _ y.out.below
   have aN:(k:Int)<nr:=by omega
   go_wp2_with fail
   refine Reg.region_plain [0,0,2,0,14,30,63] (by kernel_rfl) (by repeat (first | exact hN | refine Reg.NoQ.then ?_ | refine Reg.NoQ.inBlock ?_)) ?_
   go_wp2_with fail
   refine Calls.ret (ae.out _ _ (by omega) y.out) ?_
   rintro v w3 ⟨rfl,F⟩
   have D3:=hide F
   clear F af c9 ag
   go_wp2_with fail
   exact⟨⟨k+1,by go_num,by omega,by omega,hide (D3.out.big (by omega))⟩,by simp [intOf]⟩
  ·obtain rfl:k=i+1:=by omega
   go_wp2_with fail
   exact ad.out _ _ _ _ _ _ _ _ _ _ _ _ _ _ (E.out.big (by omega))
end Go.Proofs.YtfcfpoemojjglaaGreatDoor
namespace Go.Proofs.YtfcfpoemojjglaaGreatDoor
open Go.RowKit
open K (Am Az At AW Fc BR Ah Du Dv SpOK)
attribute [-go_sem] loadCellsFrom storeCells
set_option maxHeartbeats 16000000
set_option maxRecDepth 100000
theorem ZD (w:World) (vs:Array Value) (E:vs.size=5) (h1:vs.all (·.oneCell')=true):∃h,Below w.heap.size w h∧Blk h w.heap.size 164 vs∧∀c:Array Value,c.size=5→(storeCells ⟨w.heap.size,0,none⟩ vs.toList 0).run Tryz.prog (w.alloc (.cells c 164))=.ok () h:=by
 obtain⟨h,F,y,x,-⟩:=Ae w vs 164
 exact⟨h,y,x,fun c C=>by rw [←F]; exact Dv w 164 5 (by kernel_rfl) E h1 c C⟩
theorem ZU {w:World} {cs:List Value} {p:Am} {r:Az} {i:Nat} (h:At w w.heap.size cs p) (hr:p.rules[i]?=some r) (hL:p.states.length≤60) (hR:p.rules.length≤1000):
  Calls Tryz.prog 58 #[.agg cs.toArray,.int .i64 (i:Int),.int .i64 ((i:Int)+1)] w (Ret fun v w'=>Below w.heap.size w w'∧∃a b A1 n1 c1 A2 n2 c2 A3 n3 c3,v=.agg #[.int .i64 a,.int .i64 b,.slice A1 n1 c1,.slice A2 n2 c2,.slice A3 n3 c3]):=by
 obtain⟨A1,c1,A2,c2,A3,c3,A4,c4,A5,c5,A6,c6,A7,c7,b5,q0,q1,q2,q3,q4,q5,q6,q7,q8,q9,-,-,-,-,-,-,h7,b0⟩:=h.cells
 have aA:=AP hr
 obtain⟨b,off,rc,aW,av,hC,ax,-⟩:=Du h7 hr
 subst aW
 obtain⟨E1,f1,E2,f2,E3,f3,E4,f4,E5,f5,E6,f6,E7,f7,E8,f8,⟨U,r0,r1,r2,r3,r4,r5,r6,aM,r8,r9,aG,aH,aJ,a5,a6,a7,aK,a8⟩,⟨s1,s2,s3,s4,s5,s6,s7,s8⟩⟩:=K.AW.cells hC.is
 simp only [Array.toArray_toList] at U r0 r1 r2 r3 r4 r5 r6 aM r8 r9 aG aH aJ a5 a6 a7 aK a8
 have ar:K4 w rc r.fr r.to r.left r.right:=⟨r2,r3,⟨E6,f6,a6,s6⟩,⟨E7,f7,a7,s7⟩⟩
 have ay:∀y,Below w.heap.size w y→(loadCellsFrom ⟨b,off+i*18,none⟩ 0 18 #[]).run Tryz.prog y=.ok rc y:=fun y O=>by
  have:=run_loadCells_list (P:=Tryz.prog) y ⟨b,off+i*18,none⟩ rc.toList (fun j v hv=>by rw [Addr.add_mid,O.cell av]; exact ax j v (by simpa using hv))
  rw [Array.length_toList,U] at this
  simpa [loadCells] using this
 obtain⟨L,ap⟩:∃n,n=p.states.length:=⟨_,rfl⟩
 obtain⟨nr,aB⟩:∃n,n=p.rules.length:=⟨_,rfl⟩
 rw [←ap] at hL q2
 rw [←aB] at aA hR q9
 obtain⟨I,bN,M,J,-⟩:=Ae w cs.toArray 27
 obtain⟨C,bO,F,V,-⟩:=Ae I H6 55
 obtain⟨w3,G,W,aC⟩:=ZD C #[.int .i64 (L:Int),.int .i64 0,.slice none 0 0,.slice none 0 0,.slice none 0 0] rfl (by simp [Value.oneCell'])
 have b6:∀c:Array Value,c.size=5→(storeCells ⟨C.heap.size,0,none⟩ [.int .i64 (L:Int),.int .i64 0,.slice none 0 0,.slice none 0 0,.slice none 0 0] 0).run Tryz.prog (C.alloc (.cells c 164))=.ok () w3:=aC
 have Z:=M.trans (F.mono M.size)
 have au:=Z.trans (G.mono Z.size)
 have aU:=((J.below F).cell 2).trans q2
 have bQ:=J.lt
 have bR:=V.lt
 have bS:=W.lt
 have bK:=M.size
 have bL:=F.size
 have bM:=G.size
 have D3:Hid (MkS w w3 C.heap.size L 0 [(I.heap.size,55,H6),(w.heap.size,27,cs.toArray)]):=hide ⟨0,0,0,0,.slice none 0 0,.slice none 0 0,.slice none 0 0,[],[],[],au,W,World.ownsRow_nil _ _ _ _,World.ownsRow_nil _ _ _ _,World.ownsRow_nil _ _ _ _,by omega,fun g e=>(by cases e),fun x O=>by
  simp only [List.mem_cons,List.not_mem_nil,or_false] at O
  rcases O with rfl | rfl
  ·exact⟨V.below G,by show I.heap.size≠_; omega,by simp [Value.ownBlock],by simp [Value.ownBlock],by simp [Value.ownBlock]⟩
  ·exact⟨J.below (F.trans (G.mono F.size)),by show w.heap.size≠_; omega,by simp [Value.ownBlock],by simp [Value.ownBlock],by simp [Value.ownBlock]⟩,by omega⟩
 have aw:Hid (∀y m,m≤1000→MkS w y C.heap.size L m [(I.heap.size,55,H6),(w.heap.size,27,cs.toArray)]→Calls Tryz.prog 106 #[.pointer (some ⟨C.heap.size,0,none⟩),.agg cs.toArray,.agg rc] y (Ret fun v w'=>v=.tuple #[]∧MkS w w' C.heap.size L (m+1000) [(I.heap.size,55,H6),(w.heap.size,27,cs.toArray)])):=hide fun y m hm hD=>ZT hD hL ar U q1 r1 r4 r5 a5 a8 (by omega)
 have az:=hide ay
 generalize cs.toArray=pc at*
 clear h h7 hC ax ay ar M F G Z au J V W q0 q1 q2 q3 q4 q5 q6 q7 q8 r0 r1 r2 r3 r4 r5 r6 aM r8 r9 aG aH aJ a5 a6 a7 aK a8 s1 s2 s3 s4 s5 s6 s7 s8 hr aB ap aC av U b0
 go_enter Tryz.func58,Tryz.ntmps58
 go_wp2_with fail
 refine ZP (g3:=w.heap.size) (pc:=pc) (rc:=rc) (nr:=nr) (b:=b) (off:=off) (c:=c7) D3.out (by simp) b5 q9 aA hR az.out aw.out (by omega) ?_ ?_
 ·repeat (first | refine Reg.NoQ.then ?_ | refine Reg.NoQ.inBlock ?_ | exact Reg.NoQ.body (fun _ _ h=>h) (fun _ h=>h))
 iterate 13 (intro _)
 intro w4 am
 have hG:=hide (am.blk (List.mem_cons_self))
 obtain⟨ns,na,nm,nt,vS,vA,vM,xs,ys,zs,E⟩:=am
 obtain⟨S1,d1,rfl⟩:=AH E.st
 obtain⟨S2,d2,rfl⟩:=AH E.ac
 obtain⟨S3,d3,rfl⟩:=AH E.mv
 have bI:=Ah E.bd (n:=5) rfl
 have a2:=E.below
 obtain⟨wF,bP,ak,an⟩:=WJ (by kernel_rfl) hG.out #[.int .i64 (L:Int),.int .i64 (nt:Int),.slice S1 ns d1,.slice S2 na d2,.slice S3 nm d3] rfl (by simp [Value.oneCell'])
 have b4:=Ah ak (n:=5) rfl
 have aZ:=hide (a2.trans (an.below (B:=w.heap.size) (by have:=a2.size; omega) (fun b hb (x:b=_)=>by omega)))
 clear E a2 ak an aw az D3 b6 aU
 go_wp2_with fail
 exact bodyPost_ret (v:=.agg #[.int .i64 (L:Int),.int .i64 (nt:Int),.slice S1 ns d1,.slice S2 na d2,.slice S3 nm d3]) (by simp [results,Tryz.results58,go_sem,b4]) rfl ⟨aZ.out,_,_,_,_,_,_,_,_,_,_,_,rfl⟩
theorem Yg (i a b:Int) (w:World):Calls Tryz.prog 57 #[.int .i64 i,.int .i64 a,.int .i64 b] w fun e w'=>e=.returned (.bool (decide (a≤i)&&decide (i≤b)))∧w=w':=by
 by_cases h1:a≤i
 ·by_cases h:i≤b
  all_goals
   go_enter Tryz.func57,Tryz.ntmps57
   go_wp2_with fail
   go_ret
   exact⟨by simp [h1,h],rfl⟩
 ·go_enter Tryz.func57,Tryz.ntmps57
  go_wp2_with fail
  go_ret
  exact⟨by simp; omega,rfl⟩
end Go.Proofs.YtfcfpoemojjglaaGreatDoor
namespace Go.Proofs.YtfcfpoemojjglaaGreatDoor
open Go.RowKit
open K (Am Az At AW C0 Ah SpOK nameOK protE Ad orE Dv)
attribute [-go_sem] loadCellsFrom storeCells
set_option maxHeartbeats 16000000
set_option maxRecDepth 100000
def C1 (p:Am) (i:Int):Int:=if AC p≠0 then AC p else if 0≤i∧i<p.rules.length then 0 else 6
def Xw (w:World) (e:Int) (v:Value) (w':World):Prop:=Below w.heap.size w w'∧∃a b A1 n1 c1 A2 n2 c2 A3 n3 c3,v=.tuple #[.agg #[.int .i64 a,.int .i64 b,.slice A1 n1 c1,.slice A2 n2 c2,.slice A3 n3 c3],.int .i64 e]
theorem aAa {w:World} {cs:List Value} {p:Am} {i:Int} (h:At w w.heap.size cs p) (a3:p.Small) (hT:SpOK w) (J:C1 p i≠0):
  Calls Tryz.prog 22 #[.agg cs.toArray,.int .i64 i] w (Ret fun v w'=>Below w.heap.size w w'∧v=.tuple #[.agg H6,.int .i64 (C1 p i)]):=by
 obtain⟨A1,c1,A2,c2,A3,c3,A4,c4,A5,c5,A6,c6,A7,c7,aa,q0,q1,q2,q3,q4,q5,q6,q7,q8,q9,-⟩:=h.cells
 obtain⟨w1,aK,O,M,ag⟩:=Ae w cs.toArray 27
 obtain⟨w2,aL,U,a5,ah⟩:=Ae w1 H6 55
 have I:=O.trans (U.mono O.size)
 have aG:=Ah (M.below U) aa
 have Z:=hide (Xz (h.keep (w':=w2) (B':=w2.heap.size) (fun _ hp=>I.cell hp) I.size) a3 (hT.below I))
 have E:=hide I
 have ad:=hide (M.below U)
 have a6:=hide a5
 have aH:=M.lt
 have aJ:=O.size
 have ae:p.rules.length≤30:=a3.rules
 obtain⟨nr,V⟩:∃n,n=p.rules.length:=⟨_,rfl⟩
 rw [←V] at ae q9
 have av:=hide q9
 have ab:=hide (Yg i 0 ((nr:Int) - 1))
 generalize cs.toArray=pc at*
 by_cases h0:AC p=0
 case' neg=>
  have C:C1 p i=AC p:=by unfold C1; rw [if_pos h0]
  rw [C] at J ⊢
  obtain⟨e,C⟩:∃e,e=AC p:=⟨_,rfl⟩
  rw [←C] at Z J ⊢
  have aF:(e != 0)=true:=by simp [J]
  clear C h0
 case' pos=>
  have a9:¬(0≤i∧i<nr):=fun hh=>J (by unfold C1; rw [if_neg (by simp [h0]),←V,if_pos hh])
  have C:C1 p i=6:=by unfold C1; rw [if_neg (by simp [h0]),←V,if_neg a9]
  have a8:(decide (0≤i)&&decide (i≤(nr:Int) - 1))=false:=by
   rw [Bool.eq_false_iff]
   simp only [ne_eq,Bool.and_eq_true,decide_eq_true_eq]
   omega
  rw [C]
  rw [h0] at Z
  rw [a8] at ab
  clear C h0 a8 a9
 all_goals
  clear h a3 hT O M ag U a5 ah I aa J V q0 q1 q2 q3 q4 q5 q6 q7 q8 q9
  go_enter Tryz.func22,Tryz.ntmps22
  go_wp2_with fail
  refine Calls.ret Z.out ?_
  rintro v w4 ⟨rfl,y⟩
 ·have c9:=((ad.out.below y).cell 9).trans av.out
  obtain⟨wF,aj,F,G⟩:=WJ (by kernel_rfl) (a6.out.below y) H6 rfl (by simp [Value.oneCell'])
  have a2:=Ah F (n:=5) rfl
  have W:=hide ((E.out.trans (y.mono E.out.size)).trans (G.below (B:=w.heap.size) (by have:=E.out.size; have:=y.size; omega) (fun b hb (x:b=_)=>by omega)))
  clear F G y
  go_wp2_with fail
  refine Calls.mono (ab.out _) ?_
  rintro e wb ⟨rfl,rfl⟩
  go_wp2_with fail
  exact bodyPost_ret (v:=.tuple #[.agg H6,.int .i64 6]) (by simp [results,Tryz.results22,go_sem,a2]) rfl ⟨W.out,rfl⟩
 ·obtain⟨wF,aj,F,G⟩:=WJ (by kernel_rfl) (a6.out.below y) H6 rfl (by simp [Value.oneCell'])
  have a2:=Ah F (n:=5) rfl
  have W:=hide ((E.out.trans (y.mono E.out.size)).trans (G.below (B:=w.heap.size) (by have:=E.out.size; have:=y.size; omega) (fun b hb (x:b=_)=>by omega)))
  clear F G y
  go_wp2_with fail
  exact bodyPost_ret (v:=.tuple #[.agg H6,.int .i64 e]) (by simp [results,Tryz.results22,go_sem,a2]) rfl ⟨W.out,rfl⟩
theorem aAb {w:World} {cs:List Value} {p:Am} {r:Az} {i:Nat} (h:At w w.heap.size cs p) (O:p.Small) (hT:SpOK w) (he:AC p=0) (hr:p.rules[i]?=some r):
  Calls Tryz.prog 22 #[.agg cs.toArray,.int .i64 (i:Int)] w (Ret (Xw w 0)):=by
 obtain⟨A1,c1,A2,c2,A3,c3,A4,c4,A5,c5,A6,c6,A7,c7,a3,q0,q1,q2,q3,q4,q5,q6,q7,q8,q9,-⟩:=h.cells
 obtain⟨w1,aY,I,F,au⟩:=Ae w cs.toArray 27
 obtain⟨w2,aZ,J,ab,av⟩:=Ae w1 H6 55
 have y:=I.trans (J.mono I.size)
 have aV:=Ah (F.below J) a3
 have Z:=Xz (h.keep (w':=w2) (B':=w2.heap.size) (fun _ hp=>y.cell hp) y.size) O (hT.below y)
 rw [he] at Z
 have ar:=hide Z
 have az:=hide a3
 have ay:=AP hr
 have ap:p.rules.length≤30:=O.rules
 have ak:Hid (∀E,Below w.heap.size w E→Calls Tryz.prog 58 #[.agg cs.toArray,.int .i64 (i:Int),.int .i64 ((i:Int)+1)] E (Ret fun v w'=>Below E.heap.size E w'∧∃a b A1 U c1 A2 V c2 A3 W c3,v=.agg #[.int .i64 a,.int .i64 b,.slice A1 U c1,.slice A2 V c2,.slice A3 W c3])):=
  hide fun E hx=>ZU (h.keep (fun _ hp=>hx.cell hp) hx.size) hr O.states (by omega)
 have ag:=hide y
 have aa:=hide (F.below J)
 have ao:=hide ab
 have aW:=F.lt
 have aX:=I.size
 obtain⟨nr,aj⟩:∃n,n=p.rules.length:=⟨_,rfl⟩
 rw [←aj] at ap q9 ay
 have aL:=hide q9
 have ah:(decide ((0:Int)≤(i:Int))&&decide ((i:Int)≤(nr:Int) - 1))=true:=by
  simp only [Bool.and_eq_true,decide_eq_true_eq]
  omega
 have a5:=Yg (i:Int) 0 ((nr:Int) - 1)
 rw [ah] at a5
 have aA:=hide a5
 generalize cs.toArray=pc at*
 clear h O hT I F au J ab av y a3 he aj q0 q1 q2 q3 q4 q5 q6 q7 q8 q9 hr Z a5 ah
 go_enter Tryz.func22,Tryz.ntmps22
 go_wp2_with fail
 refine Calls.ret ar.out ?_
 rintro v w4 ⟨rfl,C⟩
 have G:=hide (ag.out.trans (C.mono ag.out.size))
 have c9:=((aa.out.below C).cell 9).trans aL.out
 have aw:=Ah (aa.out.below C) az.out
 have ac:=hide (ao.out.below C)
 have aU:w1.heap.size<w4.heap.size:=ac.out.lt
 clear C
 go_wp2_with fail
 refine Calls.mono (aA.out _) ?_
 rintro e wb ⟨rfl,rfl⟩
 go_wp2_with fail
 refine Calls.ret (ak.out _ G.out) ?_
 rintro v w5 ⟨M,a,b,S1,U,k1,S2,V,k2,S3,W,k3,rfl⟩
 obtain⟨wF,b0,ad,ae⟩:=WJ (by kernel_rfl) (ac.out.below M) #[.int .i64 a,.int .i64 b,.slice S1 U k1,.slice S2 V k2,.slice S3 W k3] rfl (by simp [Value.oneCell'])
 have ax:=Ah ad (n:=5) rfl
 have aq:=hide ((G.out.trans (M.mono G.out.size)).trans (ae.below (B:=w.heap.size) (by have:=G.out.size; have:=M.size; omega) (fun b hb (x:b=_)=>by omega)))
 clear ad ae M aw ak
 go_wp2_with fail
 exact bodyPost_ret (v:=.tuple #[.agg #[.int .i64 a,.int .i64 b,.slice S1 U k1,.slice S2 V k2,.slice S3 W k3],.int .i64 0]) (by simp [results,Tryz.results22,go_sem,ax]) rfl ⟨aq.out,_,_,_,_,_,_,_,_,_,_,_,rfl⟩
theorem aAy {w:World} {cs:List Value} {p:Am} {i:Int} (h:At w w.heap.size cs p) (Z:p.Small) (hT:SpOK w) (he:C1 p i≠0):
  Calls Tryz.prog 21 #[.agg cs.toArray,.int .i64 i] w (Ret fun v w'=>Below w.heap.size w w'∧v=.tuple #[.agg H6,.int .i64 (C1 p i)]):=by
 obtain⟨A1,c1,A2,c2,A3,c3,A4,c4,A5,c5,A6,c6,A7,c7,ab,q0,q1,q2,q3,q4,q5,q6,q7,q8,q9,-⟩:=h.cells
 obtain⟨w1,aM,F,E,ai⟩:=Ae w cs.toArray 27
 obtain⟨w2,aN,G,a4,aj⟩:=Ae w1 H6 55
 have y:=F.trans (G.mono F.size)
 have aJ:=Ah (E.below G) ab
 have a9:=hide (XJ (h.keep (w':=w2) (B':=w2.heap.size) (fun _ hp=>y.cell hp) y.size) Z (hT.below y))
 have M:=hide y
 have ad:=hide (E.below G)
 have ae:=hide a4
 have aK:=E.lt
 have aL:=F.size
 have af:p.rules.length≤30:=Z.rules
 obtain⟨nr,J⟩:∃n,n=p.rules.length:=⟨_,rfl⟩
 rw [←J] at af q9
 have ax:=hide q9
 generalize cs.toArray=pc at*
 have a8:AC p≠0∧C1 p i=AC p∨AC p=0∧C1 p i=6∧i<0∨AC p=0∧C1 p i=6∧¬i<0∧(nr:Int)≤i:=by
  by_cases h0:AC p=0
  ·have ah:¬(0≤i∧i<nr):=fun hh=>he (by unfold C1; rw [if_neg (by simp [h0]),←J,if_pos hh])
   have h6:C1 p i=6:=by unfold C1; rw [if_neg (by simp [h0]),←J,if_neg ah]
   by_cases I:i<0
   ·exact .inr (.inl ⟨h0,h6,I⟩)
   ·exact .inr (.inr ⟨h0,h6,I,by omega⟩)
  ·exact .inl ⟨h0,by unfold C1; rw [if_pos h0]⟩
 obtain⟨e,U⟩:∃e,e=AC p:=⟨_,rfl⟩
 obtain⟨f,V⟩:∃f,f=C1 p i:=⟨_,rfl⟩
 rw [←U,←V] at a8
 rw [←U] at a9
 rw [←V]
 clear h Z hT F E ai G a4 aj y ab he J q0 q1 q2 q3 q4 q5 q6 q7 q8 q9 U V
 rcases a8 with⟨ak,rfl⟩ | ⟨rfl,rfl,I⟩ | ⟨rfl,rfl,I,aH⟩
 all_goals
  try have aG:(e != 0)=true:=by simp [ak]
  go_enter Tryz.func21,Tryz.ntmps21
  go_wp2_with fail
  refine Calls.ret a9.out ?_
  rintro v w4 ⟨rfl,C⟩
  have c9:=((ad.out.below C).cell 9).trans ax.out
  obtain⟨wF,aO,a5,a6⟩:=WJ (by kernel_rfl) (ae.out.below C) H6 rfl (by simp [Value.oneCell'])
  have W:=Ah a5 (n:=5) rfl
  have O:=hide ((M.out.trans (C.mono M.out.size)).trans (a6.below (B:=w.heap.size) (by have:=M.out.size; have:=C.size; omega) (fun b hb (x:b=_)=>by omega)))
  clear a5 a6 C
  go_wp2_with fail
  first
  | exact bodyPost_ret (v:=.tuple #[.agg H6,.int .i64 6]) (by simp [results,Tryz.results21,go_sem,W]) rfl ⟨O.out,rfl⟩
  | exact bodyPost_ret (v:=.tuple #[.agg H6,.int .i64 f]) (by simp [results,Tryz.results21,go_sem,W]) rfl ⟨O.out,rfl⟩
  | exact bodyPost_ret (v:=.tuple #[.agg H6,.int .i64 e]) (by simp [results,Tryz.results21,go_sem,W]) rfl ⟨O.out,rfl⟩
end Go.Proofs.YtfcfpoemojjglaaGreatDoor
