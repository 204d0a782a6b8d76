/-
  Part SJ of a proof.
-/
import Derived.Test.YtfcfpoemojjglaaGreatDoorPA
import Derived.Test.YtfcfpoemojjglaaGreatDoorSE
import Derived.Test.YtfcfpoemojjglaaGreatDoorSH
import Derived.Test.YtfcfpoemojjglaaGreatDoorSI
import Derived.Test.YtfcfpoemojjglaaGreatDoorPJ
import Derived.Test.YtfcfpoemojjglaaGreatDoorCI
import Derived.Test.YtfcfpoemojjglaaGreatDoorAC
import Derived.Test.YtfcfpoemojjglaaGreatDoorSC
import Derived.Test.YtfcfpoemojjglaaGreatDoorSD
import Derived.Test.YtfcfpoemojjglaaGreatDoorSB
import Derived.Test.YtfcfpoemojjglaaGreatDoorPE
import Derived.Test.YtfcfpoemojjglaaGreatDoorPK
set_option maxHeartbeats 16000000
set_option maxRecDepth 100000
set_option linter.unusedVariables false
set_option linter.unusedSimpArgs false
namespace Go.Proofs.YtfcfpoemojjglaaGreatDoor
open Go.RowKit
open K (Am Az At AW Fc BR Ah Du Dv)
attribute [-go_sem] loadCellsFrom
set_option maxHeartbeats 16000000
set_option maxRecDepth 100000
def C1 (p:Am) (r:Az):Drw:=
 if r.kind=5 then (if r.dir=2 then Wi p.states.length p.topo r.pf r.pt r.fr r.to else Wi p.states.length p.topo r.fr r.to r.pf r.pt)
 else if p.topo=3 then WP p.states.length r.fr r.to r.left r.right else Ww p.states.length r.at_ r.fr r.to r.left r.right
theorem DrS.finK {w0 wr:World} {gd gm n:Nat} {d:Drw} {ls:Lst} {S:List (Nme×Nat)} (h:DrS w0 wr gd gm d n ls S) (hn:n≤1000000):∃z F C c2 E G,Blk wr gd 160 #[.int .i64 (d.L:Int),.int .i64 (d.nm.length:Int),.slice z d.st.length F,.slice C d.ac.length c2,.slice E d.mv.length G,.map (some gm)]∧
  ∀y,Ac wr y (fun k=>k<w0.heap.size)→H6 y y.heap.size (.agg #[.int .i64 (d.L:Int),.int .i64 (d.nm.length:Int),.slice z d.st.length F,.slice C d.ac.length c2,.slice E d.mv.length G]) d.tr:=by
 obtain⟨vS,vA,vM,h,-⟩:=h
 obtain⟨z,F,rfl⟩:=AH h.st
 obtain⟨C,c2,rfl⟩:=AH h.ac
 obtain⟨E,G,rfl⟩:=AH h.mv
 have hz:=h.sz
 unfold Drw.size at hz
 refine⟨z,F,C,c2,E,G,h.bd,fun y hk=>?_⟩
 have key:∀{e m s:Nat} {v:Value} {xs:List Value},wr.ownsRow w0.heap.size e s v m xs→y.ownsRow w0.heap.size e s v m xs:=fun ho=>hk.ownsRow ho fun g hg ad=>by have:=Bb ho hg; omega
 have em:∀l:List Nme,l.map (AR d)=(l.map fun k=>(d.num k:Int)).map (Value.int .i64):=fun l=>by rw [List.map_map]; rfl
 have U:=key h.st
 have O:=key h.ac
 rw [em] at U O
 obtain⟨B1,k1,I,r1⟩:=B8 (B:=y.heap.size) U (by simp) (Nat.le_refl _) (by omega)
 obtain⟨B2,k2,J,r2⟩:=B8 (B:=y.heap.size) O (by simp) (Nat.le_refl _) (by omega)
 obtain⟨B3,k3,M,r3⟩:=WN (B:=y.heap.size) (key h.mv) (by simp) (Nat.le_refl _) (by omega)
 have h4:=WM h.st _ _ _ rfl
 simp only [List.length_map] at I J M
 injection I with I _ V
 injection J with J _ W
 injection M with M _ Z
 subst I V J W M Z
 exact⟨z,F,C,c2,E,G,by simp [Drw.tr],r1,r2,r3,by simpa [Drw.tr] using h4⟩
theorem load5 {w:World} {g:Nat} {t:TypeId} {a b c d e f:Value} (h:Blk w g t #[a,b,c,d,e,f]):(loadCellsFrom ⟨g,0,none⟩ 0 5 #[]).run Tryz.prog w=.ok #[a,b,c,d,e] w:=by
 have:=run_loadCells_list (P:=Tryz.prog) w ⟨g,0,none⟩ [a,b,c,d,e] (fun j v y=>by
  rw [Addr.add_mid,h.cell]
  match j,y with
  | 0,y=>simpa using y
  | 1,y=>simpa using y
  | 2,y=>simpa using y
  | 3,y=>simpa using y
  | 4,y=>simpa using y)
 simpa [loadCells] using this
theorem Xh {w:World} {cs:List Value} {p:Am} {r:Az} {i:Nat} (h:At w w.heap.size cs p) (hr:p.rules[i]?=some r) (W:p.states.length≤60):
  Calls Tryz.prog 55 #[.agg cs.toArray,.int .i64 (i:Int)] w (Ret fun v w'=>Below w.heap.size w w'∧(C1 p r).size≤10000∧∀z,Ac w' z (fun k=>k<w.heap.size)→H6 z z.heap.size v (C1 p r).tr):=by
 obtain⟨A1,c1,A2,c2,A3,c3,A4,c4,A5,c5,A6,c6,A7,c7,U,q0,q1,q2,q3,q4,q5,q6,q7,q8,q9,-,-,-,-,-,-,h7,bm⟩:=h.cells
 have bs:=AP hr
 obtain⟨w1,cy,a3,af,-⟩:=Ae w cs.toArray 27
 obtain⟨w2,cz,M,aK,-⟩:=Ae w1 #[.int .i64 0,.int .i64 0,sn0,sn0,sn0] 55
 have F:=a3.trans (M.mono a3.size)
 obtain⟨b,bA,rc,bg,ck,J,bn,aQ⟩:=Du (h7.keep (w':=w2) (B':=w.heap.size) (R':=AW w2 w.heap.size) (fun _ I=>F.cell I) (fun _ _ x=>x.keep (fun _ I=>F.cell I) (Nat.le_refl _)) (Nat.le_refl _)) hr
 obtain⟨E,bw,G,ag,-⟩:=Ae w2 rc 99
 have bu:=Dv w2 99 18 (by kernel_rfl) J.size J.one
 rw [bw] at bu
 have Z:=F.trans (G.mono F.size)
 have ai:=hide (af.below (M.trans (G.mono M.size)))
 have aN:=hide (aK.below G)
 have cp:=Ah ai.out U
 have cq:=Ah ag J.size
 have bl:=(ai.out.cell 1).trans q1
 have aO:=ag.cell
 obtain⟨E1,f1,E2,f2,E3,f3,E4,f4,E5,f5,E6,f6,E7,f7,E8,f8,⟨rz,r0,r1,r2,r3,r4,r5,r6,b4,r8,r9,aZ,b0,b1,aB,aC,aD,b2,aE⟩,⟨s1,s2,s3,s4,s5,s6,s7,s8⟩⟩:=K.AW.cells J.is
 simp only [Array.toArray_toList] at rz r0 r1 r2 r3 r4 r5 r6 b4 r8 r9 aZ b0 b1 aB aC aD b2 aE
 have aj:MR E rc r.fr r.to r.left r.right:=⟨r2,r3,⟨E6,f6,aC,s6.keep (fun _ I=>G.cell (Nat.lt_of_lt_of_le I F.size)) (by have:=Z.size; omega)⟩,⟨E7,f7,aD,s7.keep (fun _ I=>G.cell (Nat.lt_of_lt_of_le I F.size)) (by have:=Z.size; omega)⟩⟩
 have bp:=(aO 1).trans r1
 have al:r.kind=5→Hid (Calls Tryz.prog 103 #[.agg cs.toArray,.agg rc] E (Ret fun v w'=>∃gd gm n,v=.pointer (some ⟨gd,0,none⟩)∧n≤10000∧DrS E w' gd gm (C1 p r) n [] [])):=fun y=>by
  unfold C1
  rw [if_pos y]
  exact hide (Yh U q1 q2 W r2 r3 r4 r5 aE)
 have a7:r.kind≠5→p.topo=3→Hid (Calls Tryz.prog 104 #[.agg cs.toArray,.agg rc] E (Ret fun v w'=>∃gd gm n,v=.pointer (some ⟨gd,0,none⟩)∧n≤10000∧DrS E w' gd gm (C1 p r) n [] [])):=fun y C=>by
  unfold C1
  rw [if_neg y,if_pos C]
  exact hide (YB U q2 W aj)
 have a6:r.kind≠5→p.topo≠3→Hid (Calls Tryz.prog 105 #[.agg cs.toArray,.agg rc] E (Ret fun v w'=>∃gd gm n,v=.pointer (some ⟨gd,0,none⟩)∧n≤10000∧DrS E w' gd gm (C1 p r) n [] [])):=fun y C=>by
  unfold C1
  rw [if_neg y,if_neg C]
  exact hide (Yc U q2 W aj aB)
 generalize C1 p r=dd at*
 have co:=aN.out.lt
 have cv:=M.size
 have cw:=G.size
 have cu:=a3.size
 have a2:=hide Z
 have be:=(ai.out.cell 9).trans q9
 have ct:(loadCellsFrom ⟨b,bA+i*18,none⟩ 0 18 #[]).run Tryz.prog w2=.ok rc w2:=aQ
 have bf:=((af.below M).cell 9).trans q9
 obtain⟨nr,aW⟩:∃n,n=p.rules.length:=⟨_,rfl⟩
 rw [←aW] at bs be bf bm
 obtain⟨kd,aP⟩:∃k,k=r.kind:=⟨_,rfl⟩
 obtain⟨tp,aX⟩:∃k,k=p.topo:=⟨_,rfl⟩
 rw [←aP] at bp al a7 a6
 rw [←aX] at bl a7 a6
 subst bg
 have cx:=hide J.size
 clear h h7 J bn aQ af aK ag a3 M G F Z aO aj q0 q1 q2 q3 q4 q5 q6 q7 q8 q9 rz r0 r1 r2 r3 r4 r5 r6 b4 r8 r9 aZ b0 b1 aB aC aD b2 aE s1 s2 s3 s4 s5 s6 s7 s8 U hr aW aP aX W
 generalize cs.toArray=pc at*
 by_cases y:kd=5
 case' pos=>have a5:=al y; have bo:(kd==5)=true:=by simp [y]
 case' neg=>
  have bo:(kd==5)=false:=by simp [y]
  by_cases C:tp=3
  case' pos=>have a5:=a7 y C; have bv:(tp==3)=true:=by simp [C]
  case' neg=>have a5:=a6 y C; have bv:(tp==3)=false:=by simp [C]
 all_goals
  clear al a7 a6
  go_enter Tryz.func55,Tryz.ntmps55
  go_wp2_with fail
  refine Calls.ret a5.out ?_
  rintro v w4 ⟨gd,gm,n,rfl,hn,V⟩
  obtain⟨B1,k1,B2,k2,B3,k3,aM,hT⟩:=V.finK (by omega)
  have bq:=load5 aM
  have a4:=V.below
  have O:=aN.out.below a4
  obtain⟨n0,aR⟩:∃n,n=dd.nm.length:=⟨_,rfl⟩
  obtain⟨n1,aS⟩:∃n,n=dd.st.length:=⟨_,rfl⟩
  obtain⟨n2,aT⟩:∃n,n=dd.ac.length:=⟨_,rfl⟩
  obtain⟨n3,aU⟩:∃n,n=dd.mv.length:=⟨_,rfl⟩
  obtain⟨nL,aV⟩:∃n,n=dd.L:=⟨_,rfl⟩
  rw [←aR,←aS,←aT,←aU,←aV] at bq hT
  obtain⟨wF,bx,aL,ah⟩:=Dn O (.int .i64 (nL:Int)) (.int .i64 (n0:Int)) (.slice B1 n1 k1) (.slice B2 n2 k2) (.slice B3 n3 k3)
  unfold CK at bx
  have cm:=O.cell
  have cn:=O.frozen
  have cr:=O.lt
  have br:=Ah aL (n:=5) rfl
  have bk:=hide ((a2.out.trans (a4.mono a2.out.size)).trans (ah.below (B:=w.heap.size) (by have:=a2.out.size; have:=a4.size; omega) (fun b hb (e:b=_)=>by omega)))
  have bz:Hid (dd.size≤10000):=hide (by obtain⟨_,_,_,hM,-⟩:=V; exact Nat.le_trans hM.sz hn)
  have bi:Hid (∀z,Ac wF z (fun k=>k<w.heap.size)→H6 z z.heap.size (.agg #[.int .i64 (nL:Int),.int .i64 (n0:Int),.slice B1 n1 k1,.slice B2 n2 k2,.slice B3 n3 k3]) dd.tr):=hide (fun z hX=>hT z ((ah.mono (Y:=fun k=>k<E.heap.size) fun b _ (e:b=_)=>by omega).trans hX fun b hb (e:b<_)=>by have:=a2.out.size; omega))
  clear O aL ah aM V hT a4 a5 aR aS aT aU aV
  go_wp2_with fail
  exact bodyPost_ret (v:=.agg #[.int .i64 (nL:Int),.int .i64 (n0:Int),.slice B1 n1 k1,.slice B2 n2 k2,.slice B3 n3 k3]) (by simp [results,Tryz.results55,go_sem,br]) rfl ⟨bk.out,bz.out,bi.out⟩
end Go.Proofs.YtfcfpoemojjglaaGreatDoor
namespace Go.Proofs.YtfcfpoemojjglaaGreatDoor
open Go.RowKit
set_option maxHeartbeats 16000000
set_option maxRecDepth 100000
structure StM (w0 wr:World) (g3:Nat) (o:TR) (vS vA vM:Value) (ls:Lst):Prop where
 below:Below w0.heap.size w0 wr
 b3:Blk wr g3 55 #[.int .i64 o.letters,.int .i64 o.states,vS,vA,vM]
 st:wr.ownsRow w0.heap.size 3 1 vS o.start.length (o.start.map (Value.int .i64))
 ac:wr.ownsRow w0.heap.size 3 1 vA o.accept.length (o.accept.map (Value.int .i64))
 mv:wr.ownsRow w0.heap.size 108 4 vM o.moves.length (o.moves.flatMap mC)
 sep:∀g,vS.ownBlock=some g→vA.ownBlock≠some g
 oth:∀x∈ls,Blk wr x.1 x.2.1 x.2.2∧x.1≠g3∧vS.ownBlock≠some x.1∧vA.ownBlock≠some x.1∧vM.ownBlock≠some x.1
 ge:w0.heap.size≤g3
section
variable {w0 wr w' w1:World} {g3:Nat} {o:TR} {vS vA vM:Value} {ls ls':Lst}
theorem StM.keep (h:StM w0 wr g3 o vS vA vM ls) (y:Below wr.heap.size wr w'):StM w0 w' g3 o vS vA vM ls:=
 ⟨h.below.trans (y.mono h.below.size),h.b3.below y,Bt h.st y,Bt h.ac y,Bt h.mv y,h.sep,fun x z=>⟨(h.oth x z).1.below y,(h.oth x z).2⟩,h.ge⟩
theorem StM.sub (h:StM w0 wr g3 o vS vA vM ls) (y:∀x∈ls',x∈ls):StM w0 wr g3 o vS vA vM ls':=⟨h.below,h.b3,h.st,h.ac,h.mv,h.sep,fun x z=>h.oth x (y x z),h.ge⟩
theorem StM.blk (h:StM w0 wr g3 o vS vA vM ls) {g:Nat} {t:TypeId} {cs:Array Value} (y:(g,t,cs)∈ls):Blk wr g t cs:=(h.oth _ y).1
theorem StM.push (h:StM w0 wr g3 o vS vA vM ls) (t:TypeId) (cs:Array Value):∃y,wr.alloc (.cells cs t)=y∧StM w0 y g3 o vS vA vM ((wr.heap.size,t,cs)::ls)∧Below wr.heap.size wr y∧wr.heap.size<y.heap.size:=by
 obtain⟨w1,F,E,C,-⟩:=Ae wr cs t
 have h1:=h.keep E
 refine⟨w1,F,⟨h1.below,h1.b3,h1.st,h1.ac,h1.mv,h1.sep,fun x z=>?_,h1.ge⟩,E,C.lt⟩
 rcases List.mem_cons.1 z with rfl | z
 ·have:=h.b3.lt
  exact⟨C,by show wr.heap.size≠g3; omega,fun e=>absurd (Cj h.st e) (by show ¬wr.heap.size<_; omega),fun e=>absurd (Cj h.ac e) (by show ¬wr.heap.size<_; omega),fun e=>absurd (Cj h.mv e) (by show ¬wr.heap.size<_; omega)⟩
 ·exact h1.oth x z
theorem StM.addS {x:Int} {vS':Value} (h:StM w0 wr g3 o vS vA vM ls) (I:Ac wr w1 (fun k=>vS.ownBlock=some k)) (ho:w1.ownsRow w0.heap.size 3 1 vS' (o.start.length+1) (o.start.map (Value.int .i64)++[.int .i64 x])) (M:BJ wr vS vS'):
  StM w0 (w1.setCell ⟨g3,2,none⟩ vS') g3 { o with start:=o.start++[x] } vS' vA vM ls:=by
 have G:=h.b3.kept I (Aw h.st h.b3 (by decide))
 have J:=(Ac.refl w1 (fun k=>k=g3)).setCell (p:=⟨g3,2,none⟩) (fun _=>rfl) vS'
 have F:Ac wr (w1.setCell ⟨g3,2,none⟩ vS') (fun k=>vS.ownBlock=some k∨k=g3):=(I.mono fun _ _ e=>.inl e).trans J fun _ _ e=>.inr e
 have a3:=h.ge
 have Z:(w1.setCell ⟨g3,2,none⟩ vS').ownsRow w0.heap.size 3 1 vS' (o.start++[x]).length ((o.start++[x]).map (Value.int .i64)):=by
  rw [List.length_append,List.map_append]
  exact AK J ho (fun g cs e O=>by subst e; exact O.ne_ G (by decide) rfl)
 have U:(w1.setCell ⟨g3,2,none⟩ vS').ownsRow w0.heap.size 3 1 vA (o.accept).length ((o.accept).map (Value.int .i64)):=F.ownsRow h.ac fun g C E=>by
  rcases E with E | rfl
  ·exact h.sep g E C
  ·exact Aw h.ac h.b3 (by decide) C
 have V:(w1.setCell ⟨g3,2,none⟩ vS').ownsRow w0.heap.size 108 4 vM (o.moves).length ((o.moves).flatMap mC):=F.ownsRow h.mv fun g C E=>by
  rcases E with E | rfl
  ·exact Wq h.mv h.st (by decide) C E
  ·exact Aw h.mv h.b3 (by decide) C
 refine⟨h.below.trans (F.below h.below.size fun b hb e=>?_),G.set_ 2 vS',Z,U,V,fun g C e=>M.ne (Cj h.ac e) (fun W=>h.sep g W e) C,fun y z=>⟨(h.oth y z).1.kept F ?_,(h.oth y z).2.1,M.ne (h.oth y z).1.lt (h.oth y z).2.2.1,(h.oth y z).2.2.2.1,(h.oth y z).2.2.2.2⟩,h.ge⟩
 ·rcases e with e | e
  ·have:=Bb h.st e; omega
  ·omega
 ·rintro(e | e)
  ·exact(h.oth y z).2.2.1 e
  ·exact(h.oth y z).2.1 e
theorem StM.addA {x:Int} {vA':Value} (h:StM w0 wr g3 o vS vA vM ls) (I:Ac wr w1 (fun k=>vA.ownBlock=some k)) (ho:w1.ownsRow w0.heap.size 3 1 vA' (o.accept.length+1) (o.accept.map (Value.int .i64)++[.int .i64 x])) (M:BJ wr vA vA'):
  StM w0 (w1.setCell ⟨g3,3,none⟩ vA') g3 { o with accept:=o.accept++[x] } vS vA' vM ls:=by
 have G:=h.b3.kept I (Aw h.ac h.b3 (by decide))
 have J:=(Ac.refl w1 (fun k=>k=g3)).setCell (p:=⟨g3,3,none⟩) (fun _=>rfl) vA'
 have F:Ac wr (w1.setCell ⟨g3,3,none⟩ vA') (fun k=>vA.ownBlock=some k∨k=g3):=(I.mono fun _ _ e=>.inl e).trans J fun _ _ e=>.inr e
 have a2:=h.ge
 have W:(w1.setCell ⟨g3,3,none⟩ vA').ownsRow w0.heap.size 3 1 vS (o.start).length ((o.start).map (Value.int .i64)):=F.ownsRow h.st fun g z E=>by
  rcases E with E | rfl
  ·exact h.sep g z E
  ·exact Aw h.st h.b3 (by decide) z
 have U:(w1.setCell ⟨g3,3,none⟩ vA').ownsRow w0.heap.size 3 1 vA' (o.accept++[x]).length ((o.accept++[x]).map (Value.int .i64)):=by
  rw [List.length_append,List.map_append]
  exact AK J ho (fun g cs e O=>by subst e; exact O.ne_ G (by decide) rfl)
 have V:(w1.setCell ⟨g3,3,none⟩ vA').ownsRow w0.heap.size 108 4 vM (o.moves).length ((o.moves).flatMap mC):=F.ownsRow h.mv fun g z E=>by
  rcases E with E | rfl
  ·exact Wq h.mv h.ac (by decide) z E
  ·exact Aw h.mv h.b3 (by decide) z
 refine⟨h.below.trans (F.below h.below.size fun b Z e=>?_),G.set_ 3 vA',W,U,V,fun g z e=>M.ne (Cj h.st z) (h.sep g z) e,fun y C=>⟨(h.oth y C).1.kept F ?_,(h.oth y C).2.1,(h.oth y C).2.2.1,M.ne (h.oth y C).1.lt (h.oth y C).2.2.2.1,(h.oth y C).2.2.2.2⟩,h.ge⟩
 ·rcases e with e | e
  ·have:=Bb h.ac e; omega
  ·omega
 ·rintro(e | e)
  ·exact(h.oth y C).2.2.2.1 e
  ·exact(h.oth y C).2.1 e
theorem StM.addM {x:Mv} {vM':Value} (h:StM w0 wr g3 o vS vA vM ls) (I:Ac wr w1 (fun k=>vM.ownBlock=some k)) (ho:w1.ownsRow w0.heap.size 108 4 vM' (o.moves.length+1) (o.moves.flatMap mC++mC x)) (V:BJ wr vM vM'):
  StM w0 (w1.setCell ⟨g3,4,none⟩ vM') g3 { o with moves:=o.moves++[x] } vS vA vM' ls:=by
 have G:=h.b3.kept I (Aw h.mv h.b3 (by decide))
 have J:=(Ac.refl w1 (fun k=>k=g3)).setCell (p:=⟨g3,4,none⟩) (fun _=>rfl) vM'
 have F:Ac wr (w1.setCell ⟨g3,4,none⟩ vM') (fun k=>vM.ownBlock=some k∨k=g3):=(I.mono fun _ _ e=>.inl e).trans J fun _ _ e=>.inr e
 have a2:=h.ge
 have W:(w1.setCell ⟨g3,4,none⟩ vM').ownsRow w0.heap.size 3 1 vS (o.start).length ((o.start).map (Value.int .i64)):=F.ownsRow h.st fun g E C=>by
  rcases C with C | rfl
  ·exact Wq h.st h.mv (by decide) E C
  ·exact Aw h.st h.b3 (by decide) E
 have O:(w1.setCell ⟨g3,4,none⟩ vM').ownsRow w0.heap.size 3 1 vA (o.accept).length ((o.accept).map (Value.int .i64)):=F.ownsRow h.ac fun g E C=>by
  rcases C with C | rfl
  ·exact Wq h.ac h.mv (by decide) E C
  ·exact Aw h.ac h.b3 (by decide) E
 have U:(w1.setCell ⟨g3,4,none⟩ vM').ownsRow w0.heap.size 108 4 vM' (o.moves++[x]).length ((o.moves++[x]).flatMap mC):=by
  rw [List.length_append,List.flatMap_append]
  exact AK J (by simpa using ho) (fun g cs e M=>by subst e; exact M.ne_ G (by decide) rfl)
 refine⟨h.below.trans (F.below h.below.size fun b Z e=>?_),G.set_ 4 vM',W,O,U,h.sep,fun y z=>⟨(h.oth y z).1.kept F ?_,(h.oth y z).2.1,(h.oth y z).2.2.1,(h.oth y z).2.2.2.1,V.ne (h.oth y z).1.lt (h.oth y z).2.2.2.2⟩,h.ge⟩
 ·rcases e with e | e
  ·have:=Bb h.mv e; omega
  ·omega
 ·rintro(e | e)
  ·exact(h.oth y z).2.2.2.2 e
  ·exact(h.oth y z).2.1 e
end
theorem YF {w0 w:World} {g3 c:Nat} {A:Option Addr} {o:TR} {vS vA vM:Value} {ls:Lst} {l:List Int} (h:StM w0 w g3 o vS vA vM ls) (hl:∀wz,Ac w wz (fun k=>k=g3∨vS.ownBlock=some k)→Sl wz wz.heap.size 1 Ai A l)
  (W:∀x∈l,0≤x∧x≤100000) (hs:0≤o.states∧o.states≤100000) (hn:o.start.length≤1000000) (bK:l.length≤1000000)
  {u0 u1 u2 u4 u5 u6 u7 u8 u9 ak al am an ao ap aq ar au av ax ay az aA aB aC bQ bR bS bT bU bV bW bX bY bZ c0 c1 c3 aE aF aG aH aJ aK aL aM aO aP aQ aR aS aT aU aV aW aX aZ b0 b1 b2 u64 b4 b5 b6 b7 b8 b9 ba bb bc bd be bf bg bh bi bj bk bl bm bn bo bp bq br bs bu bv bw bx bz:Value}
  {Q:Exit→Act→World→Prop} (hN:Reg.NoQ Q)
  (hQ:∀(x7 c6 c7 c8 ca cb cc cd ce cf cg ch ci cj ck:Value) (w':World) (v':Value),StM w0 w' g3 { o with start:=o.start++l.map (· +o.states) } v' vA vM ls→Ac w w' (fun k=>k=g3∨vS.ownBlock=some k)→Q (.exit 2) ⟨List.toArray (u0::u1::u2::(.pointer (some ⟨g3,0,none⟩))::u4::u5::u6::x7::u8::u9::ak::al::am::an::ao::ap::aq::ar::au::av::ax::ay::az::aA::aB::aC::(.slice A l.length c)::(.int .i64 (l.length:Int))::
   c6::c7::c8::ca::cb::cc::cd::ce::cf::cg::ch::ci::cj::ck::aE::aF::aG::aH::aJ::aK::aL::aM::aO::aP::aQ::aR::aS::aT::aU::aV::aW::aX::aZ::b0::b1::b2::u64::
   b4::b5::b6::b7::b8::b9::ba::bb::bc::bd::be::bf::bg::bh::bi::bj::bk::bl::bm::bn::bo::bp::bq::br::bs::bu::bv::bw::bx::bz::[]),[]⟩ w'):
  (Code.loop (CG Tryz.f68 1)).wp Tryz.prog Q ⟨List.toArray (u0::u1::u2::(.pointer (some ⟨g3,0,none⟩))::u4::u5::u6::u7::u8::u9::ak::al::am::an::ao::ap::aq::ar::au::av::ax::ay::az::aA::aB::aC::(.slice A l.length c)::(.int .i64 (l.length:Int))::
   (.int .i64 0)::bQ::bR::bS::bT::bU::bV::bW::bX::bY::bZ::c0::c1::c3::aE::aF::aG::aH::aJ::aK::aL::aM::aO::aP::aQ::aR::aS::aT::aU::aV::aW::aX::aZ::b0::b1::b2::
   u64::b4::b5::b6::b7::b8::b9::ba::bb::bc::bd::be::bf::bg::bh::bi::bj::bk::bl::bm::bn::bo::bp::bq::br::bs::bu::bv::bw::bx::bz::[]),[]⟩ w:=by
 conv=>arg 2; arg 1; whnf
 have bG:=hide hl
 have bC:=hide W
 have h0:Hid (StM w0 w g3 { o with start:=o.start++(l.take 0).map (· +o.states) } vS vA vM ls):=by
  show StM _ _ _ _ _ _ _ _
  simp only [List.take_zero,List.map_nil,List.append_nil]
  exact h
 have bF:=(hl w (Ac.refl _ _)).1
 obtain⟨m,U⟩:∃m,m=l.length:=⟨_,rfl⟩
 rw [←U] at bK bF ⊢
 simp only [←U] at hQ
 have a3:=hide U
 clear h hl W U
 go_loopw [28] (fun ii wr=>∃(i:Nat) (v:Value),ii=.int .i64 (i:Int)∧i≤m∧Hid (StM w0 wr g3 { o with start:=o.start++(l.take i).map (· +o.states) } v vA vM ls)∧Hid (Ac w wr (fun k=>k=g3∨vS.ownBlock=some k))∧Hid (BJ w vS v)) (fun ii _=>m - (intOf ii).toNat)
 case atStart=>exact⟨0,vS,rfl,Nat.zero_le _,h0,Ac.refl _ _,BJ.refl _ _⟩
 case round=>
  obtain⟨i,v,rfl,hi,z,M,hV⟩:=hrel
  by_cases bH:i<m
  ·obtain⟨b,cB,x,rfl,cp,hx,hc⟩:=(bG.out wr M.out).at (by rw [←a3.out]; exact bH)
   have bD:=hc 0 (by omega)
   simp only [Nat.mul_one,Nat.add_zero,Ai] at bD
   have bP:=bC.out x (List.mem_of_getElem? hx)
   obtain⟨cz,cA⟩:=bP
   obtain⟨cx,cy⟩:=hs
   have a5:=z.out.st
   obtain⟨G,I,rfl⟩:=AH a5
   have ae:=z.out.b3.cell
   have bN:=z.out.below.size
   have af:(o.start++(l.take i).map (· +o.states)).length=o.start.length+i:=by rw [List.length_append,List.length_map,List.length_take]; have:=a3.out; omega
   obtain⟨y,E⟩:∃y,y=(o.start++(l.take i).map (· +o.states)).length:=⟨_,rfl⟩
   rw [←E] at af
   have ah:wr.ownsRow w0.heap.size 3 1 (.slice G y I) y ((o.start++(l.take i).map (· +o.states)).map (Value.int .i64)):=by rw [E]; exact a5
   dsimp only at ae
   rw [←E] at ae
   have F:=hide E
   have O:=hide z.out
   have bL:=hide ah
   have bO:Hid ((l.take (i+1)).map (· +o.states)=(l.take i).map (· +o.states)++[x+o.states]):=hide (by rw [B5 hx,List.map_append]; rfl)
   have bI:y+1≤4000000:=by omega
   clear hx hc a5 ah E z af
   go_wp2_with (at_builtin; refine BP C9 rfl _ _ rfl w0.heap.size (.slice G y I) y _ rfl bL.out [.int .i64 (x+o.states)] 1 rfl rfl (by simp [Value.oneCell']) bI bN ?_; intro g a9 w2 ag hk a4 hg; have Z:Ac wr w2 (fun k=>(Value.slice G (o.start++(l.take i).map (· +o.states)).length I).ownBlock=some k):=(by rw [←F.out]; exact hk); have hF:=O.out.addS (x:=x+o.states) (vS':=.slice (some ⟨g,0,none⟩) (y+1) a9) Z (by dsimp only; rw [←F.out]; exact ag) (by rw [←F.out]; exact a4); have bA:=hide hF; have J:=O.out.b3.kept Z (Aw O.out.st O.out.b3 (by decide)); have cq:=J.cell; have cr:=J.frozen 2; have cv:=J.lt; have bE:=hide hk; have bJ:=hide a4; clear ag hk a4 hF J Z)
   refine⟨⟨i+1,.slice (some ⟨g,0,none⟩) (y+1) a9,by go_num,by omega,?_,?_,?_⟩,by simp [intOf]; omega⟩
   ·have h1:=bA.out
    dsimp only at h1
    rw [List.append_assoc,←bO.out] at h1
    exact h1
   ·refine M.out.trans ((bE.out.mono (Y:=fun k=>k=g3∨(Value.slice G y I).ownBlock=some k) fun _ _ e=>.inr e).setCell (p:=⟨g3,2,none⟩) (fun _=>.inl rfl) _) fun b W e=>?_
    rcases e with e | e
    ·exact .inl e
    ·have:=hV.out
     rw [←F.out] at this
     rcases this with C | ⟨g9,C,h3⟩
     ·exact .inr (C.symm.trans e)
     ·rw [e] at C
      injection C with C
      omega
   ·have h1:=hV.out
    rw [←F.out] at h1
    exact h1.trans M.out.size bJ.out
  ·obtain rfl:m=i:=by omega
   have V:=z.out
   rw [List.take_of_length_le (by rw [←a3.out]; exact Nat.le_refl _)] at V
   have bB:=hide V
   clear z V
   go_wp2_with fail
   exact hQ _ _ _ _ _ _ _ _ _ _ _ _ _ _ _ _ v bB.out M.out
theorem YD {w0 w:World} {g3 c:Nat} {A:Option Addr} {o:TR} {vS vA vM:Value} {ls:Lst} {l:List Int} (h:StM w0 w g3 o vS vA vM ls) (hl:∀wz,Ac w wz (fun k=>k=g3∨vA.ownBlock=some k)→Sl wz wz.heap.size 1 Ai A l)
  (W:∀x∈l,0≤x∧x≤100000) (hs:0≤o.states∧o.states≤100000) (hn:o.accept.length≤1000000) (bK:l.length≤1000000)
  {u0 u1 u2 u4 u5 u6 u7 u8 u9 ak al am an ao ap aq ar au av ax ay az aA aB aC aD aE aF aG aH aJ aK aL aM aN aO aP aQ aR aT aU aV bQ bR bS bT bU bV bW bX bY bZ c0 c1 c3 aX aZ b0 b1 b2 u64 b4 b5 b6 b7 b8 ba bb bc bd be bf bg bh bi bj bk bl bm bn bo bp bq br bs bt bu bv bw bx bz:Value}
  {Q:Exit→Act→World→Prop} (hN:Reg.NoQ Q)
  (hQ:∀(x9 c6 c7 c8 ca cb cc cd ce cf cg ch ci cj ck:Value) (w':World) (v':Value),StM w0 w' g3 { o with accept:=o.accept++l.map (· +o.states) } vS v' vM ls→Ac w w' (fun k=>k=g3∨vA.ownBlock=some k)→Q (.exit 4) ⟨List.toArray (u0::u1::u2::(.pointer (some ⟨g3,0,none⟩))::u4::u5::u6::u7::u8::x9::ak::al::am::an::ao::ap::aq::ar::au::av::ax::ay::az::aA::aB::aC::aD::aE::aF::aG::aH::aJ::aK::aL::aM::
   aN::aO::aP::aQ::aR::aT::aU::aV::(.slice A l.length c)::(.int .i64 (l.length:Int))::c6::c7::c8::ca::cb::cc::cd::ce::cf::cg::ch::ci::cj::ck::aX::aZ::b0::b1::b2::u64::b4::
   b5::b6::b7::b8::ba::bb::bc::bd::be::bf::bg::bh::bi::bj::bk::bl::bm::bn::bo::bp::bq::br::bs::bt::bu::bv::bw::bx::bz::[]),[]⟩ w'):
  (Code.loop (CG Tryz.f68 2)).wp Tryz.prog Q ⟨List.toArray (u0::u1::u2::(.pointer (some ⟨g3,0,none⟩))::u4::u5::u6::u7::u8::u9::ak::al::am::an::ao::ap::aq::ar::au::av::ax::ay::az::aA::aB::aC::aD::aE::aF::aG::aH::aJ::aK::aL::aM::
   aN::aO::aP::aQ::aR::aT::aU::aV::(.slice A l.length c)::(.int .i64 (l.length:Int))::(.int .i64 0)::bQ::bR::bS::bT::bU::bV::bW::bX::bY::bZ::c0::c1::c3::aX::aZ::b0::b1::b2::u64::
   b4::b5::b6::b7::b8::ba::bb::bc::bd::be::bf::bg::bh::bi::bj::bk::bl::bm::bn::bo::bp::bq::br::bs::bt::bu::bv::bw::bx::bz::[]),[]⟩ w:=by
 conv=>arg 2; arg 1; whnf
 have bG:=hide hl
 have bC:=hide W
 have h0:Hid (StM w0 w g3 { o with accept:=o.accept++(l.take 0).map (· +o.states) } vS vA vM ls):=by
  show StM _ _ _ _ _ _ _ _
  simp only [List.take_zero,List.map_nil,List.append_nil]
  exact h
 have bF:=(hl w (Ac.refl _ _)).1
 obtain⟨m,U⟩:∃m,m=l.length:=⟨_,rfl⟩
 rw [←U] at bK bF ⊢
 simp only [←U] at hQ
 have a3:=hide U
 clear h hl W U
 go_loopw [45] (fun ii wr=>∃(i:Nat) (v:Value),ii=.int .i64 (i:Int)∧i≤m∧Hid (StM w0 wr g3 { o with accept:=o.accept++(l.take i).map (· +o.states) } vS v vM ls)∧Hid (Ac w wr (fun k=>k=g3∨vA.ownBlock=some k))∧Hid (BJ w vA v)) (fun ii _=>m - (intOf ii).toNat)
 case atStart=>exact⟨0,vA,rfl,Nat.zero_le _,h0,Ac.refl _ _,BJ.refl _ _⟩
 case round=>
  obtain⟨i,v,rfl,hi,z,M,hV⟩:=hrel
  by_cases bH:i<m
  ·obtain⟨b,cB,x,rfl,cp,hx,hc⟩:=(bG.out wr M.out).at (by rw [←a3.out]; exact bH)
   have bD:=hc 0 (by omega)
   simp only [Nat.mul_one,Nat.add_zero,Ai] at bD
   have bP:=bC.out x (List.mem_of_getElem? hx)
   obtain⟨cz,cA⟩:=bP
   obtain⟨cx,cy⟩:=hs
   have a5:=z.out.ac
   obtain⟨G,I,rfl⟩:=AH a5
   have ae:=z.out.b3.cell
   have bN:=z.out.below.size
   have af:(o.accept++(l.take i).map (· +o.states)).length=o.accept.length+i:=by rw [List.length_append,List.length_map,List.length_take]; have:=a3.out; omega
   obtain⟨y,E⟩:∃y,y=(o.accept++(l.take i).map (· +o.states)).length:=⟨_,rfl⟩
   rw [←E] at af
   have ah:wr.ownsRow w0.heap.size 3 1 (.slice G y I) y ((o.accept++(l.take i).map (· +o.states)).map (Value.int .i64)):=by rw [E]; exact a5
   dsimp only at ae
   rw [←E] at ae
   have F:=hide E
   have O:=hide z.out
   have bL:=hide ah
   have bO:Hid ((l.take (i+1)).map (· +o.states)=(l.take i).map (· +o.states)++[x+o.states]):=hide (by rw [B5 hx,List.map_append]; rfl)
   have bI:y+1≤4000000:=by omega
   clear hx hc a5 ah E z af
   go_wp2_with (at_builtin; refine BP C9 rfl _ _ rfl w0.heap.size (.slice G y I) y _ rfl bL.out [.int .i64 (x+o.states)] 1 rfl rfl (by simp [Value.oneCell']) bI bN ?_; intro g a9 w2 ag hk a4 hg; have Z:Ac wr w2 (fun k=>(Value.slice G (o.accept++(l.take i).map (· +o.states)).length I).ownBlock=some k):=(by rw [←F.out]; exact hk); have hF:=O.out.addA (x:=x+o.states) (vA':=.slice (some ⟨g,0,none⟩) (y+1) a9) Z (by dsimp only; rw [←F.out]; exact ag) (by rw [←F.out]; exact a4); have bA:=hide hF; have J:=O.out.b3.kept Z (Aw O.out.ac O.out.b3 (by decide)); have cq:=J.cell; have cr:=J.frozen 3; have cv:=J.lt; have bE:=hide hk; have bJ:=hide a4; clear ag hk a4 hF J Z)
   refine⟨⟨i+1,.slice (some ⟨g,0,none⟩) (y+1) a9,by go_num,by omega,?_,?_,?_⟩,by simp [intOf]; omega⟩
   ·have h1:=bA.out
    dsimp only at h1
    rw [List.append_assoc,←bO.out] at h1
    exact h1
   ·refine M.out.trans ((bE.out.mono (Y:=fun k=>k=g3∨(Value.slice G y I).ownBlock=some k) fun _ _ e=>.inr e).setCell (p:=⟨g3,3,none⟩) (fun _=>.inl rfl) _) fun b W e=>?_
    rcases e with e | e
    ·exact .inl e
    ·have:=hV.out
     rw [←F.out] at this
     rcases this with C | ⟨g9,C,h3⟩
     ·exact .inr (C.symm.trans e)
     ·rw [e] at C
      injection C with C
      omega
   ·have h1:=hV.out
    rw [←F.out] at h1
    exact h1.trans M.out.size bJ.out
  ·obtain rfl:m=i:=by omega
   have V:=z.out
   rw [List.take_of_length_le (by rw [←a3.out]; exact Nat.le_refl _)] at V
   have bB:=hide V
   clear z V
   go_wp2_with fail
   exact hQ _ _ _ _ _ _ _ _ _ _ _ _ _ _ _ _ v bB.out M.out
theorem YE {w0 w:World} {g3 c:Nat} {A:Option Addr} {o:TR} {vS vA vM:Value} {ls:Lst} {l:List Mv} (h:StM w0 w g3 o vS vA vM ls) (hl:∀wz,Ac w wz (fun k=>k=g3∨vM.ownBlock=some k)→Sl wz wz.heap.size 4 Q6 A l)
  (hb:∀x∈l,(0≤x.frm∧x.frm≤100000)∧(0≤x.to∧x.to≤100000)) (hs:0≤o.states∧o.states≤100000) (hn:o.moves.length≤1000000) (bI:l.length≤1000000)
  {u0 u1 u2 u4 u5 u6 u7 u8 u9 au bS av aw ax ay az aA aB aC aE aF aG aH aJ aK aL aM aN aO aP aQ aR aS aT aU aV aW aX aY b0 b1 b2 b4 b5 b6 b7 b8 b9 ba bc bd be bf bg bh bi bj bk bl bT u64 bU bV bW bX bY bZ c0 c1 c3 c4 c5 c6 c7 c8 ca cb cc cd ce cf cg ch bo bp bq bs bt bu bv bw:Value}
  {Q:Exit→Act→World→Prop} (hN:Reg.NoQ Q)
  (hQ:∀(cj ck cm cn co cp cq cr ct cu cv cw cx cy cz cA cB cD cE cF cG cH cJ cK cL cM:Value) (w':World) (v':Value),StM w0 w' g3 { o with moves:=o.moves++l.map (Mv.up o.states) } vS vA v' ls→Ac w w' (fun k=>k=g3∨vM.ownBlock=some k)→Q (.exit 6) ⟨List.toArray (u0::u1::u2::(.pointer (some ⟨g3,0,none⟩))::u4::u5::u6::u7::u8::u9::au::cj::av::aw::ax::ay::az::aA::aB::aC::aE::aF::aG::aH::aJ::aK::aL::aM::aN::aO::aP::aQ::aR::aS::aT::
   aU::aV::aW::aX::aY::b0::b1::b2::b4::b5::b6::b7::b8::b9::ba::bc::bd::be::bf::bg::bh::bi::bj::bk::bl::(.slice A l.length c)::(.int .i64 (l.length:Int))::ck::cm::cn::co::
   cp::cq::cr::ct::cu::cv::cw::cx::cy::cz::cA::cB::cD::cE::cF::cG::cH::cJ::cK::cL::cM::bo::bp::bq::bs::bt::bu::bv::bw::[]),[]⟩ w'):
  (Code.loop (CG Tryz.f68 3)).wp Tryz.prog Q ⟨List.toArray (u0::u1::u2::(.pointer (some ⟨g3,0,none⟩))::u4::u5::u6::u7::u8::u9::au::bS::av::aw::ax::ay::az::aA::aB::aC::aE::aF::aG::aH::aJ::aK::aL::aM::aN::aO::aP::aQ::aR::aS::aT::
   aU::aV::aW::aX::aY::b0::b1::b2::b4::b5::b6::b7::b8::b9::ba::bc::bd::be::bf::bg::bh::bi::bj::bk::bl::(.slice A l.length c)::(.int .i64 (l.length:Int))::(.int .i64 0)::bT::u64::
   bU::bV::bW::bX::bY::bZ::c0::c1::c3::c4::c5::c6::c7::c8::ca::cb::cc::cd::ce::cf::cg::ch::bo::bp::bq::bs::bt::bu::bv::bw::[]),[]⟩ w:=by
 conv=>arg 2; arg 1; whnf
 have bE:=hide hl
 have bB:=hide hb
 have h0:Hid (StM w0 w g3 { o with moves:=o.moves++(l.take 0).map (Mv.up o.states) } vS vA vM ls):=by
  show StM _ _ _ _ _ _ _ _
  simp only [List.take_zero,List.map_nil,List.append_nil]
  exact h
 have bD:=(hl w (Ac.refl _ _)).1
 obtain⟨m,V⟩:∃m,m=l.length:=⟨_,rfl⟩
 rw [←V] at bI bD ⊢
 simp only [←V] at hQ
 have a6:=hide V
 clear h hl hb V
 go_loopw [62] (fun ii wr=>∃(i:Nat) (v:Value),ii=.int .i64 (i:Int)∧i≤m∧Hid (StM w0 wr g3 { o with moves:=o.moves++(l.take i).map (Mv.up o.states) } vS vA v ls)∧Hid (Ac w wr (fun k=>k=g3∨vM.ownBlock=some k))∧Hid (BJ w vM v)) (fun ii _=>m - (intOf ii).toNat)
 case atStart=>exact⟨0,vM,rfl,Nat.zero_le _,h0,Ac.refl _ _,BJ.refl _ _⟩
 case round=>
  obtain⟨i,v,rfl,hi,O,W,hV⟩:=hrel
  by_cases bF:i<m
  ·obtain⟨b,d6,x,rfl,cR,hx,E⟩:=(bE.out wr W.out).at (by rw [←a6.out]; exact bF)
   have q0:=E 0 (by omega)
   have q1:=E 1 (by omega)
   have q2:=E 2 (by omega)
   have q3:=E 3 (by omega)
   simp only [Nat.add_zero,Q6] at q0 q1 q2 q3
   have bN:=bB.out x (List.mem_of_getElem? hx)
   obtain⟨⟨d2,d3⟩,d4,d5⟩:=bN
   obtain⟨cZ,d0⟩:=hs
   have bM:Hid ((l.take (i+1)).map (Mv.up o.states)=(l.take i).map (Mv.up o.states)++[x.up o.states]):=hide (by rw [B5 hx,List.map_append]; rfl)
   obtain⟨x0,x1,x2,x3⟩:=x
   dsimp only at*
   obtain⟨wb,d1,a3,ai,-⟩:=Ae wr #[.int .i64 x0,.int .i64 x1,.int .i64 x2,.int .i64 x3] 108
   have cT:=ai.cell
   have C:=O.out.keep a3
   have ak:=hide (W.out.trans (Ac.of_below a3 (fun _=>False)) fun _ _ e=>e.elim)
   have a8:=C.mv
   obtain⟨I,J,rfl⟩:=AH a8
   have am:=C.b3.cell
   have bL:=C.below.size
   have an:(o.moves++(l.take i).map (Mv.up o.states)).length=o.moves.length+i:=by rw [List.length_append,List.length_map,List.length_take]; have:=a6.out; omega
   obtain⟨y,F⟩:∃y,y=(o.moves++(l.take i).map (Mv.up o.states)).length:=⟨_,rfl⟩
   rw [←F] at an
   have ap:wb.ownsRow w0.heap.size 108 4 (.slice I y J) y ((o.moves++(l.take i).map (Mv.up o.states)).flatMap mC):=by rw [F]; exact a8
   dsimp only at am
   rw [←F] at am
   have G:=hide F
   have U:=hide C
   have bJ:=hide ap
   have bG:y+1≤4000000:=by omega
   clear hx E a8 ap F O an C a3 ai
   go_wp2_with (at_builtin; refine BP Xg rfl _ _ rfl w0.heap.size (.slice I y J) y _ rfl bJ.out [.int .i64 (x0+o.states),.int .i64 x1,.int .i64 x2,.int .i64 (x3+o.states)] 1 rfl rfl (by simp [Value.oneCell']) bG bL ?_; intro g ah w2 ao hk a7 hg; have a4:Ac wb w2 (fun k=>(Value.slice I (o.moves++(l.take i).map (Mv.up o.states)).length J).ownBlock=some k):=(by rw [←G.out]; exact hk); have hF:=U.out.addM (x:=Mv.up o.states ⟨x0,x1,x2,x3⟩) (vM':=.slice (some ⟨g,0,none⟩) (y+1) ah) a4 (by dsimp only; rw [←G.out]; exact ao) (by rw [←G.out]; exact a7); have bz:=hide hF; have M:=U.out.b3.kept a4 (Aw U.out.mv U.out.b3 (by decide)); have cS:=M.cell; have cU:=M.frozen 4; have cX:=M.lt; have bC:=hide hk; have bH:=hide a7; clear ao hk a7 hF M a4)
   refine⟨⟨i+1,.slice (some ⟨g,0,none⟩) (y+1) ah,by go_num,by omega,?_,?_,?_⟩,by simp [intOf]; omega⟩
   ·have h1:=bz.out
    dsimp only at h1
    rw [List.append_assoc,←bM.out] at h1
    exact h1
   ·refine ak.out.trans ((bC.out.mono (Y:=fun k=>k=g3∨(Value.slice I y J).ownBlock=some k) fun _ _ e=>.inr e).setCell (p:=⟨g3,4,none⟩) (fun _=>.inl rfl) _) fun b hb e=>?_
    rcases e with e | e
    ·exact .inl e
    ·have:=hV.out
     rw [←G.out] at this
     rcases this with z | ⟨g9,z,h3⟩
     ·exact .inr (z.symm.trans e)
     ·rw [e] at z
      injection z with z
      omega
   ·have h1:=hV.out
    rw [←G.out] at h1
    exact h1.trans ak.out.size bH.out
  ·obtain rfl:m=i:=by omega
   have Z:=O.out
   rw [List.take_of_length_le (by rw [←a6.out]; exact Nat.le_refl _)] at Z
   have bA:=hide Z
   clear O Z
   go_wp2_with fail
   exact hQ _ _ _ _ _ _ _ _ _ _ _ _ _ _ _ _ _ _ _ _ _ _ _ _ _ _ _ v bA.out W.out
theorem StM.setN {w0 wr:World} {g3:Nat} {o:TR} {vS vA vM:Value} {ls:Lst} (h:StM w0 wr g3 o vS vA vM ls) (m:Int):StM w0 (wr.setCell ⟨g3,1,none⟩ (.int .i64 m)) g3 { o with states:=m } vS vA vM ls:=by
 have hk:=(Ac.refl wr (fun k=>k=g3)).setCell (p:=⟨g3,1,none⟩) (fun _=>rfl) (.int .i64 m)
 have F:=h.ge
 have ho:∀{e sz n:Nat} {v:Value} {xs:List Value},e≠55→wr.ownsRow w0.heap.size e sz v n xs→(wr.setCell ⟨g3,1,none⟩ (.int .i64 m)).ownsRow w0.heap.size e sz v n xs:=fun C z=>hk.ownsRow z fun g E e=>Aw z h.b3 C (by rw [E,e])
 exact⟨h.below.trans (hk.below h.below.size fun b hb (e:b=g3)=>by omega),h.b3.set_ 1 (.int .i64 m),ho (by decide) h.st,ho (by decide) h.ac,ho (by decide) h.mv,h.sep,fun x y=>⟨(h.oth x y).1.kept hk (h.oth x y).2.1,(h.oth x y).2⟩,h.ge⟩
theorem H6.slices {w:World} {B:Nat} {t:TR} {a b:Int} {E F G:Option Addr} {V J W c2 Z M:Nat} (h:H6 w B (.agg #[.int .i64 a,.int .i64 b,.slice E V J,.slice F W c2,.slice G Z M]) t):Sl w B 1 Ai E t.start∧Sl w B 1 Ai F t.accept∧Sl w B 4 Q6 G t.moves:=by
 obtain⟨B1,k1,B2,k2,B3,k3,e,h1,O,U,-⟩:=h
 injection e with e
 have I:[_,_,_,_,_]=[_,_,_,_,_]:=congrArg Array.toList e
 simp only [List.cons.injEq,and_true] at I
 obtain⟨-,-,y,z,C⟩:=I
 injection y with y
 injection z with z
 injection C with C
 subst y z C
 exact⟨h1,O,U⟩
end Go.Proofs.YtfcfpoemojjglaaGreatDoor
