/-
  Part FF of a proof.
-/
import Derived.LaidMore
import Derived.Lib.LaidTab
import Derived.OpenShut
import Derived.Stop.Joined
import Derived.Test.YtfcfpoemojjglaaGreatDoorRows
import Derived.JoinedOf
import Derived.KernelRfl
import Derived.SevenTiedAt
import Derived.Test.YtfcfpoemojjglaaGreatDoorPA
import Derived.Test.YtfcfpoemojjglaaGreatDoorCY
import Derived.Test.YtfcfpoemojjglaaGreatDoorPB
import Derived.Test.YtfcfpoemojjglaaGreatDoorAA
import Derived.Test.YtfcfpoemojjglaaGreatDoorPS
set_option maxHeartbeats 16000000
set_option maxRecDepth 100000
set_option linter.unusedVariables false
set_option linter.unusedSimpArgs false
namespace Go.Proofs.YtfcfpoemojjglaaGreatDoor.K
open Go.ChangeShapes Go.WideShapes Go.ChangeAt Go.WideMaps Go.WideElems Go.RowKit
theorem JP:ownKnob Tryz.prog.godebug=none:=by kernel_rfl
theorem FW:laidOutB Tryz.prog=true:=by kernel_rfl
theorem G5 {W:World} (h:laidMetH Tryz.prog Rows.wordInitialsRow.laid W):SpOK W∧BV W:=by
 rw [MakeChecks.laidMetH_plain _ _ _ (by kernel_rfl)] at h
 obtain⟨ps,⟨g0,t0,M,f0,p0,q0,ac,af,ai,a9,⟨g1,t1,O,f1,p1,q1,ad,ag,aj,aa,⟨g2,t2,U,f2,p2,q2,C,F,I,x,⟨g3,t3,V,f3,p3,q3,ae,ah,ak,ab,⟨g4,t4,Z,f4,p4,q4,E,G,J,y,_,_⟩,_⟩,_⟩,_⟩,_⟩,_,_⟩:=h
 constructor
 ·obtain rfl:=Option.some.inj (Tryz.hg157.symm.trans E)
  obtain rfl:=Option.some.inj ((show(Tryz.prog.globals[Tryz.lays157_ren.g 0]?).map (·.type)=some 283 by kernel_rfl).symm.trans G)
  have hd:(Rows.laid_strings_asciiSpace:DataW Unit)=Lib.tabData .u8 Lib.asciiSpaceTab:=by kernel_rfl
  rw [hd] at y
  unfold SpOK Lib.TabIs
  rw [J,←Lib.cells_of_tab Tryz.underlying283 Tryz.underlying5 (by kernel_rfl) (by kernel_rfl) y]
 ·obtain rfl:=Option.some.inj ((show Tryz.prog.globalNamed "internal/strconv.uint64pow10" =some 2 by kernel_rfl).symm.trans C)
  obtain rfl:=Option.some.inj ((show(Tryz.prog.globals[2]?).map (·.type)=some 311 by kernel_rfl).symm.trans F)
  have hd:(Rows.laid_internal_strconv_uint64pow10:DataW Unit)=Lib.tabData .u64 Lib.pow10Tab:=by kernel_rfl
  rw [hd] at x
  unfold BV Lib.TabIs
  rw [I,←Lib.cells_of_tab Tryz.underlying311 Tryz.underlying247 (by kernel_rfl) (by kernel_rfl) x]
theorem Jp (os:Os) (args:Array Value):laidMetH Tryz.prog Rows.wordInitialsRow.laid ((World.doorLaid Tryz.prog 400 os).forCall (fun _ _=>0) ⟨#[],args,[]⟩).memory:=
 laidMetH_of_parts3 (fuel:=8) (laidMet_of_run' 8 (by kernel_rfl) (by kernel_rfl)) (by kernel_rfl) (by kernel_rfl)
theorem Ku {H:Type} {enc:TypeId×Value→H} {w:World} {base:Nat} {spare:Nat→Bool} {held:Bool} {r:Go.Reach} {x:Nat} {v:Value} {d:DataW H} {p:List MemPlace} (G:Value.okWide Tryz.prog w r x 27 v) (h:DataW.Trod enc Tryz.prog w base spare held 27 v d p):∃cs:List Value,∃q:Am,v=.agg cs.toArray∧At w w.heap.size cs q∧q.Fits:=by
 obtain⟨cs,rfl,F⟩:=okWide_struct Tryz.underlying27 G
 obtain⟨l⟩:=cs
 have C:Tryz.prog.cellsOf 27=10:=by kernel_rfl
 obtain⟨fuel,E⟩:=h
 obtain⟨q,h1,y⟩:=RF (cs:=l) (F.trans C) E
 exact⟨l,q,rfl,h1,y⟩
section
variable {H:Type} {enc:TypeId×Value→H} {P:Program}
theorem JS {f:Func} {s:ChangeSpec} {F Z a3 V:Bool} {W C:World} {args:Array Value} {v:Value} {ds:List (DataW H)} {h:List MemPlace} (a8:s.vars=[])
  (E:DataW.Whole enc P f.params.toList s.vars F W args.toList ds [] h)
  (O:∀(b:Nat) (y:Nat→Bool) (hd:Bool),DataW.TrodAll enc P C b y hd f.resultTypes.toList (v.resultList f.resultTypes.size) (s.fn H (ds++[])).results [])
  (G:∀y:Nat→Bool,(∀p∈h,y p.block=true)→DataW.TrodAll enc P C 0 y true f.params.toList args.toList (s.fn H (ds++[])).args h) (a7:(s.fn H (ds++[])).vars=[])
  (I:Below W.heap.size W C)
  (a5:∀(j:Nat) (t:TypeId) (r:Value),f.resultTypes[j]?=some t→(v.resultList f.resultTypes.size)[j]?=some r→Value.okWide P C .any 0 t r):
  s.post enc P f F Z a3 V W args v C:=by
 have M:∀p∈h,p.block<W.heap.size:=fun p x=>E.lt p x
 have a6:∀p∈h,(fun b=>decide (b<W.heap.size)) p.block=true:=fun p x=>by simpa using M p x
 have U:∀y:Nat→Bool,DataW.TrodVars enc P C y s.vars (s.fn H (ds++[])).vars []:=fun y=>by rw [a8,a7]; rfl
 refine⟨ds,[],h,[],h,[],E,O _ _ _,G _ a6,U _,World.keptBut_mono (fun p x=>⟨x,?_⟩) (I.frame (·∈h)),fun _=>?_⟩
 ·exact Or.inr (Or.inl x)
 ·obtain⟨_,_,_,_,_,hz,hn⟩:=E
  refine⟨a5,_,_,([]++h)++[],⟨[]++h,[],trodAll_append (G _ (fun _ _=>rfl)) (O _ _ _),U _,rfl,?_,?_⟩,?_⟩
  ·intro b off x
   have J:MemPlace.cell b off∈h:=by simpa using x
   rw [I.frozen (M _ J)]
   exact hz b off J
  ·intro ha
   simpa using hn ha
  ·intro p x _
   simpa using x
end
end Go.Proofs.YtfcfpoemojjglaaGreatDoor.K
namespace Go.Proofs.YtfcfpoemojjglaaGreatDoor
open Go
set_option maxRecDepth 100000
theorem JK {P:Program} {f:FuncId} {fn:Func} {s:ChangeSpec} {c:OpenClaim}
  (a1:c.wf (OpenSpec.ofChange s)=true) (h:laidOutB P=true) (x:mapsRowed P=true) (y:fn.params.all (P.readableRec ·)=true) (C:namedTie P c.named s.vars=true)
  (E:(c.stops==[])=true) (F:(P.stops==[])=true) (G:(c.knobs==[])=true) (I:(P.stopKnobs==[])=true)
  (b1:(c.inPlace==P.inPlace f)=true) (b2:(c.unfollowed==P.unfollowed f)=true) (b3:(c.recurses==P.recurses f)=true) (J:(c.named==P.varsNamed f)=true)
  (c1:(c.maps==(fn.params.toList++s.plain.varTypes P).any (P.mapsRec ·))=true) (c2:(c.ifaces==(fn.params.toList++s.plain.varTypes P).any (P.ifacesRec ·))=true) (c3:(c.mapsOut==P.mapsAmong fn.resultTypes.toList)=true)
  (M:(c.loops==(fn.params.toList++s.plain.varTypes P).any (P.loopsFrom ·))=true) (O:(c.wideKeys==(fn.params.toList++s.plain.varTypes P++fn.resultTypes.toList).any (P.wideKeysFrom ·))=true)
  (U:s.vars.all (P.varReadable ·)=true) (V:fn.resultTypes.all (fun t=>P.readableRec t&&decide (t<P.types.size))=true) (W:(c.ifacesOut==fn.resultTypes.toList.any (P.ifacesRec ·))=true) (Z:(c.loopsOut==fn.resultTypes.toList.any (P.loopsFrom ·))=true)
  (d5:(c.plainKeys==P.plainKeys)=true) (d6:c.shortTexts.isNone=true) (d7:P.stopsHeard=true) (d8:P.mayEnter=true) (d9:(c.lifted==P.liftsFinal)=true) (e1:(P.make==some c.make)=true)
  (e2:(c.kinds==(if c.domain.isEmpty then [] else fn.params.toList.map fun t=>match P.underlying t with | some (.int k)=>some k | _=>none))=true) (e3:(c.pinned==c.pinnedBy)=true)
  (e4:(c.veiled==(fn.params.toList++s.plain.varTypes P++fn.resultTypes.toList).any (P.veiledRec ·))=true) (e5:c.veiledFits P fn.params.toList (fn.params.toList++s.plain.varTypes P++fn.resultTypes.toList)=true):
  joinedFacts P f fn s c=true:=by
 unfold joinedFacts
 rw [a1,h,x,y,C,E,F,G,I,b1,b2,b3,J,c1,c2,c3,M,O,U,V,W,Z,d5,d6,d7,d8,d9,e1,e3,e4,e5]
 simp only [Bool.true_and,Bool.and_true]
 exact e2
theorem K1:laidOutB Tryz.checked.prog=true:=by kernel_rfl
theorem K2:mapsRowed Tryz.checked.prog=true:=by kernel_rfl
theorem K5:(Tryz.checked.prog.stops==[])=true:=by kernel_rfl
theorem K6:(Tryz.checked.prog.stopKnobs==[])=true:=by kernel_rfl
theorem K7:(Rows.wordInitialsRow.plainKeys==Tryz.checked.prog.plainKeys)=true:=by kernel_rfl
theorem K8:Tryz.checked.prog.stopsHeard=true:=by kernel_rfl
theorem K9:Tryz.checked.prog.mayEnter=true:=by kernel_rfl
theorem Lc:(Rows.wordInitialsRow.lifted==Tryz.checked.prog.liftsFinal)=true:=by kernel_rfl
theorem Ld:(Tryz.checked.prog.make==some Rows.wordInitialsRow.make)=true:=by kernel_rfl
end Go.Proofs.YtfcfpoemojjglaaGreatDoor
namespace Go.Proofs.YtfcfpoemojjglaaGreatDoor
open Go
set_option maxRecDepth 100000
theorem Lf:Tryz.checked.prog.mainIs=some (true,"9ac3a2f38e2114aff4fff80aa0b147a785d2dc1b0e5b699508a615585c3fa333".toList):=by kernel_rfl
theorem Le:true=Tryz.checked.prog.looks []:=by kernel_rfl
end Go.Proofs.YtfcfpoemojjglaaGreatDoor
