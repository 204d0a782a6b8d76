/-
  Part CZ of a proof.
-/
import Derived.LaidMore
import Derived.Lib.LaidTab
import Derived.OpenShut
import Derived.Stop.Joined
import Derived.Test.YtlakpndhhelliaaGreatDoorPA
import Derived.Test.YtlakpndhhelliaaGreatDoorCX
import Derived.Test.YtlakpndhhelliaaGreatDoorCY
import Derived.Test.YtlakpndhhelliaaGreatDoorPM
set_option maxHeartbeats 16000000
set_option maxRecDepth 100000
set_option linter.unusedVariables false
set_option linter.unusedSimpArgs false
namespace Go.Proofs.YtlakpndhhelliaaGreatDoor.K
open Go.RowKit
attribute [-go_sem] loadCellsFrom storeCells
theorem Qw {w:World} {cs ds:List Value} {p:Ao} {q:Bd} (h:Ax w w.heap.size cs p) (V:BE w w.heap.size ds q) (hf:p.Fits) (hg:q.Fits) (hT:AL w) (hP:Ca w):
  Calls Tryz.prog 3 #[.agg cs.toArray,.agg ds.toArray] w (Ret fun v w'=>v=.bool true∧Below w.heap.size w w'):=by
 have W:=h.rules_at.1
 obtain⟨B1,d1,B2,d2,B3,d3,B4,d4,Z,-⟩:=V.cells
 obtain⟨w1,aF,F,aa,aj⟩:=Ag w cs.toArray 27
 obtain⟨w2,aG,a2,ab,ak⟩:=Ag w1 ds.toArray 30
 have C:=hide (F.trans (a2.mono F.size))
 have G:=hide (show PQX w2 w.heap.size w1.heap.size cs.toArray ds.toArray p q from⟨h.keep (fun _ hp=>C.out.cell hp) C.out.size,V.keep (fun _ hp=>C.out.cell hp) C.out.size,aa.below a2,ab,hT.below C.out⟩)
 generalize cs.toArray=pc at*
 generalize ds.toArray=qc at*
 have al:Hid (Calls Tryz.prog 4 #[.agg pc,.agg qc] w2 (Ret fun v w'=>Eo v (p.Small∧q.Small)∧Below w2.heap.size w2 w')):=hide (Ps (cs:=pc.toList) (ds:=qc.toList) G.out.pr G.out.qr hf hg)
 have am:=hide W
 have an:=hide Z
 have aH:=Am G.out.b2 W
 have aJ:=Am G.out.b3 Z
 have ad:=hide hP
 clear h V F a2 aa ab aj ak hf hg W Z hT hP
 go_enter Tryz.func3,Tryz.ntmps3
 go_wp2_with fail
 refine Calls.ret al.out ?_
 rintro v w3 ⟨⟨b1,rfl,F⟩,a4⟩
 have ao:=hide F
 have ap:=hide (G.out.at a4)
 have I:=hide (C.out.trans (a4.mono C.out.size))
 clear F a4
 cases b1
 case true=>
  go_wp2_with fail
  refine Calls.ret (I0 (ad.out.below I.out)) ?_
  rintro v w4 ⟨rfl,z⟩
  have J:=hide (I.out.trans (z.mono I.out.size))
  clear z
  go_wp2_with fail
  go_ret
  exact⟨rfl,J.out⟩
 have M:=hide (ao.out rfl)
 obtain⟨O,af⟩:∃e,Hid (Dp Ab p q=e):=⟨_,rfl⟩
 have ar:Hid (∀y,Hid (PQX y w.heap.size w1.heap.size pc qc p q)→Calls Tryz.prog 6 #[.agg pc,.agg qc] y (Ret fun v w'=>v=.int .i64 O∧Below y.heap.size y w')):=hide (fun y E=>by
  rw [←af.out]
  exact ND (cs:=pc.toList) (ds:=qc.toList) E.out.pr E.out.qr M.out.1 M.out.2 E.out.tab)
 have au:Hid (∀y,Hid (PQX y w.heap.size w1.heap.size pc qc p q)→Calls Tryz.prog 7 #[.agg pc,.agg qc] y (Ret fun v w'=>v=.int .i64 O∧Below y.heap.size y w')):=hide (fun y E=>by
  rw [←af.out]
  exact L9 (cs:=pc.toList) (ds:=qc.toList) E.out.pr E.out.qr M.out.1 M.out.2 E.out.tab)
 have U:=hide (ap.out.at (Ap w3))
 have aK:=Am U.out.b2 am.out
 have aL:=Am U.out.b3 an.out
 have ag:=hide (I.out.trans ((Ap w3).mono I.out.size))
 have aM:(O==O)=true:=by simp
 go_wp2_with fail
 refine Reg.cI [0,0,3,0,0,31,63,127,255,511,1023] [0,1,3,4,2,5,6,7,8,9,10] ?_
 refine Reg.wI [0,1,3,4] [2,5,6,7,8,9,10] rfl fun Qf f=>?_
 go_wp2_with fail
 first | refine f _ _ ⟨rfl,?_⟩ | refine⟨rfl,?_⟩ | refine f _ _ ⟨by simp [Reg.fineT,Reg.intOp,Region.wanted,yielded,Reg.intFine,Reg.isInt,Act.eval],?_⟩
 try clear f
 refine Reg.aI 2 [5,6,7,8,9,10] [3,4] rfl fun Qf f=>?_
 simp only [gT,gS,gZ]
 go_wp2_with (go_at_call 6; refine Calls.ret (ar.out _ U) ?_; rintro v w4 ⟨rfl,z⟩)
 first | refine f _ _ ⟨Reg.same_below (z) [3,4] rfl,?_⟩ | refine⟨Reg.same_below (z) [3,4] rfl,?_⟩
 try clear f
 have av:=hide (U.out.at z)
 have J:=hide (ag.out.trans (z.mono ag.out.size))
 clear z
 refine Reg.aI 5 [6,7,8,9,10] [] rfl fun Qf f=>?_
 simp only [gT,gS,gZ]
 go_wp2_with (go_at_call 7; refine Calls.ret (au.out _ av) ?_; rintro v w5 ⟨rfl,ah⟩)
 first | refine f _ _ ⟨Reg.nm,?_⟩ | refine⟨Reg.nm,?_⟩
 try clear f
 have a5:=hide (J.out.trans (ah.mono J.out.size))
 clear ah
 refine Reg.wI [6,7] [8,9,10] rfl fun Qf f=>?_
 go_wp2_with fail
 first | refine f _ _ ⟨rfl,?_⟩ | refine⟨rfl,?_⟩ | refine f _ _ ⟨by simp [Reg.fineT,Reg.intOp,Region.wanted,yielded,Reg.intFine,Reg.isInt,Act.eval],?_⟩
 try clear f
 refine Reg.aI 8 [9,10] [] rfl fun Qf f=>?_
 simp only [gT,gS,gZ]
 go_wp2_with (go_at_call 5; refine Calls.ret (I0 (ad.out.below a5.out)) ?_; rintro v w6 ⟨rfl,ai⟩)
 first | refine f _ _ ⟨Reg.nm,?_⟩ | refine⟨Reg.nm,?_⟩
 try clear f
 have aw:=hide (a5.out.trans (ai.mono a5.out.size))
 clear ai
 refine Reg.wI [9,10] [] rfl fun Qf f=>?_
 go_wp2_with fail
 first | refine f _ _ ⟨rfl,?_⟩ | refine⟨rfl,?_⟩ | refine f _ _ ⟨by simp [Reg.fineT,Reg.intOp,Region.wanted,yielded,Reg.intFine,Reg.isInt,Act.eval],?_⟩
 try clear f
 first | refine Reg.restI_end ?_ | skip
 go_wp2_with fail
 go_ret
 exact⟨rfl,aw.out⟩
end Go.Proofs.YtlakpndhhelliaaGreatDoor.K
namespace Go.Proofs.YtlakpndhhelliaaGreatDoor.K
open Go.ChangeShapes Go.WideShapes Go.ChangeAt Go.WideMaps Go.WideElems Go.RowKit
theorem Ks:ownKnob Tryz.prog.godebug=none:=by kernel_rfl
theorem Hq:laidOutB Tryz.prog=true:=by kernel_rfl
theorem Ix {W:World} (h:laidMetH Tryz.prog Rows.wordChecksRow.laid W):AL W∧Ca W:=by
 rw [MakeChecks.laidMetH_plain _ _ _ (by kernel_rfl)] at h
 obtain⟨ps,⟨J,t0,M,O,U,V,Z,a2,a3,a4,⟨g1,t1,a7,f1,p1,q1,ab,ad,ae,af,⟨g2,t2,ah,f2,p2,q2,z,C,E,f,⟨g3,t3,an,f3,p3,q3,aq,ar,au,av,⟨g4,t4,ax,f4,p4,q4,F,G,I,y,_,_⟩,_⟩,_⟩,_⟩,_⟩,_,_⟩:=h
 constructor
 ·obtain rfl:=Option.some.inj (Tryz.hg157.symm.trans F)
  obtain rfl:=Option.some.inj ((show(Tryz.prog.globals[Tryz.lays157_ren.g 0]?).map (·.type)=some 154 by kernel_rfl).symm.trans G)
  have hd:(Rows.laid_strings_asciiSpace:DataW Unit)=Lib.tabData .u8 Lib.asciiSpaceTab:=by kernel_rfl
  rw [hd] at y
  unfold AL Lib.TabIs
  rw [I,←Lib.cells_of_tab Tryz.underlying154 Tryz.underlying5 (by kernel_rfl) (by kernel_rfl) y]
 ·obtain rfl:=Option.some.inj ((show Tryz.prog.globalNamed "internal/strconv.uint64pow10" =some 2 by kernel_rfl).symm.trans z)
  obtain rfl:=Option.some.inj ((show(Tryz.prog.globals[2]?).map (·.type)=some 205 by kernel_rfl).symm.trans C)
  have hd:(Rows.laid_internal_strconv_uint64pow10:DataW Unit)=Lib.tabData .u64 Lib.pow10Tab:=by kernel_rfl
  rw [hd] at f
  unfold Ca Lib.TabIs
  rw [E,←Lib.cells_of_tab Tryz.underlying205 Tryz.underlying169 (by kernel_rfl) (by kernel_rfl) f]
theorem Kx (os:Os) (args:Array Value):laidMetH Tryz.prog Rows.wordChecksRow.laid ((World.doorLaid Tryz.prog 400 os).forCall (fun _ _=>0) ⟨#[],args,[]⟩).memory:=
 laidMetH_of_parts3 (fuel:=8) (laidMet_of_run' 8 (by kernel_rfl) (by kernel_rfl)) (by kernel_rfl) (by kernel_rfl)
end Go.Proofs.YtlakpndhhelliaaGreatDoor.K
