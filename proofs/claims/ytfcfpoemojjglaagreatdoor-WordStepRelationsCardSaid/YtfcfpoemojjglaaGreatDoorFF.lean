/-
  Part FF of a proof.
-/
import Derived.LaidMore
import Derived.Lib.LaidTab
import Derived.OpenShut
import Derived.Stop.Joined
import Derived.Test.YtfcfpoemojjglaaGreatDoorPA
import Derived.Test.YtfcfpoemojjglaaGreatDoorCY
import Derived.Test.YtfcfpoemojjglaaGreatDoorPB
import Derived.Test.YtfcfpoemojjglaaGreatDoorAA
import Derived.Test.YtfcfpoemojjglaaGreatDoorPS
set_option maxHeartbeats 16000000
set_option maxRecDepth 100000
set_option linter.unusedVariables false
set_option linter.unusedSimpArgs false
namespace Go.Proofs.YtfcfpoemojjglaaGreatDoor.K
open Go.ChangeShapes Go.WideShapes Go.ChangeAt Go.WideMaps Go.WideElems Go.RowKit
theorem JP:ownKnob Tryz.prog.godebug=none:=by kernel_rfl
theorem FW:laidOutB Tryz.prog=true:=by kernel_rfl
theorem G5 {W:World} (h:laidMetH Tryz.prog Rows.wordInitialsRow.laid W):A0 W∧BV W:=by
 rw [MakeChecks.laidMetH_plain _ _ _ (by kernel_rfl)] at h
 obtain⟨ps,⟨g0,t0,M,f0,p0,q0,ad,ag,aj,a9,⟨g1,t1,O,f1,p1,q1,ae,ah,ak,aa,⟨g2,t2,U,f2,p2,q2,C,F,I,y,⟨g3,t3,V,f3,p3,q3,af,ai,al,ab,⟨g4,t4,Z,f4,p4,q4,E,G,J,z,_,_⟩,_⟩,_⟩,_⟩,_⟩,_,_⟩:=h
 constructor
 ·obtain rfl:=Option.some.inj (Tryz.hg157.symm.trans E)
  obtain rfl:=Option.some.inj ((show(Tryz.prog.globals[Tryz.lays157_ren.g 0]?).map (·.type)=some 283 by kernel_rfl).symm.trans G)
  have hd:(Rows.laid_strings_asciiSpace:DataW Unit)=Lib.tabData .u8 Lib.asciiSpaceTab:=by kernel_rfl
  rw [hd] at z
  unfold A0 Lib.TabIs
  rw [J,←Lib.cells_of_tab Tryz.underlying283 Tryz.underlying5 (by kernel_rfl) (by kernel_rfl) z]
 ·obtain rfl:=Option.some.inj ((show Tryz.prog.globalNamed "internal/strconv.uint64pow10" =some 2 by kernel_rfl).symm.trans C)
  obtain rfl:=Option.some.inj ((show(Tryz.prog.globals[2]?).map (·.type)=some 311 by kernel_rfl).symm.trans F)
  have hd:(Rows.laid_internal_strconv_uint64pow10:DataW Unit)=Lib.tabData .u64 Lib.pow10Tab:=by kernel_rfl
  rw [hd] at y
  unfold BV Lib.TabIs
  rw [I,←Lib.cells_of_tab Tryz.underlying311 Tryz.underlying247 (by kernel_rfl) (by kernel_rfl) y]
theorem Jp (os:Os) (args:Array Value):laidMetH Tryz.prog Rows.wordInitialsRow.laid ((World.doorLaid Tryz.prog 400 os).forCall (fun _ _=>0) ⟨#[],args,[]⟩).memory:=
 laidMetH_of_parts3 (fuel:=8) (laidMet_of_run' 8 (by kernel_rfl) (by kernel_rfl)) (by kernel_rfl) (by kernel_rfl)
theorem Ku {H:Type} {enc:TypeId×Value→H} {w:World} {base:Nat} {spare:Nat→Bool} {held:Bool} {r:Go.Reach} {y:Nat} {v:Value} {d:DataW H} {p:List MemPlace} (G:Value.okWide Tryz.prog w r y 27 v) (h:DataW.Trod enc Tryz.prog w base spare held 27 v d p):∃cs:List Value,∃q:Am,v=.agg cs.toArray∧At w w.heap.size cs q∧q.Fits:=by
 obtain⟨cs,rfl,F⟩:=okWide_struct Tryz.underlying27 G
 obtain⟨l⟩:=cs
 have C:Tryz.prog.cellsOf 27=10:=by kernel_rfl
 obtain⟨fuel,E⟩:=h
 obtain⟨q,h1,z⟩:=RF (cs:=l) (F.trans C) E
 exact⟨l,q,rfl,h1,z⟩
section
variable {H:Type} {enc:TypeId×Value→H} {P:Program}
theorem JS {f:Func} {s:ChangeSpec} {F fresh a2 again:Bool} {W C:World} {args:Array Value} {v:Value} {ds:List (DataW H)} {h:List MemPlace} (a7:s.vars=[])
  (E:DataW.Whole enc P f.params.toList s.vars F W args.toList ds [] h)
  (O:∀(b:Nat) (z:Nat→Bool) (hd:Bool),DataW.TrodAll enc P C b z hd f.resultTypes.toList (v.resultList f.resultTypes.size) (s.fn H (ds++[])).results [])
  (G:∀z:Nat→Bool,(∀p∈h,z p.block=true)→DataW.TrodAll enc P C 0 z true f.params.toList args.toList (s.fn H (ds++[])).args h) (a6:(s.fn H (ds++[])).vars=[])
  (I:Below W.heap.size W C)
  (a4:∀(j:Nat) (t:TypeId) (r:Value),f.resultTypes[j]?=some t→(v.resultList f.resultTypes.size)[j]?=some r→Value.okWide P C .any 0 t r):
  s.post enc P f F fresh a2 again W args v C:=by
 have M:∀p∈h,p.block<W.heap.size:=fun p y=>E.lt p y
 have a5:∀p∈h,(fun b=>decide (b<W.heap.size)) p.block=true:=fun p y=>by simpa using M p y
 have U:∀z:Nat→Bool,DataW.TrodVars enc P C z s.vars (s.fn H (ds++[])).vars []:=fun z=>by rw [a7,a6]; rfl
 refine⟨ds,[],h,[],h,[],E,O _ _ _,G _ a5,U _,World.keptBut_mono (fun p y=>⟨y,?_⟩) (I.frame (·∈h)),fun _=>?_⟩
 ·exact Or.inr (Or.inl y)
 ·obtain⟨_,_,_,_,_,hz,hn⟩:=E
  refine⟨a4,_,_,([]++h)++[],⟨[]++h,[],trodAll_append (G _ (fun _ _=>rfl)) (O _ _ _),U _,rfl,?_,?_⟩,?_⟩
  ·intro b V y
   have J:MemPlace.cell b V∈h:=by simpa using y
   rw [I.frozen (M _ J)]
   exact hz b V J
  ·intro Z
   simpa using hn Z
  ·intro p y _
   simpa using y
end
end Go.Proofs.YtfcfpoemojjglaaGreatDoor.K
