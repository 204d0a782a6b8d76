/-
  Part FF of a proof.
-/
import Derived.LaidMore
import Derived.Lib.LaidTab
import Derived.OpenShut
import Derived.Stop.Joined
import Derived.Test.YtfcfpoemojjglaaGreatDoorRows
import Derived.JoinedOf
import Derived.KernelRfl
import Derived.SevenTiedAt
import Derived.Test.YtfcfpoemojjglaaGreatDoorPA
import Derived.Test.YtfcfpoemojjglaaGreatDoorCY
import Derived.Test.YtfcfpoemojjglaaGreatDoorPB
import Derived.Test.YtfcfpoemojjglaaGreatDoorAA
import Derived.Test.YtfcfpoemojjglaaGreatDoorPS
set_option maxHeartbeats 16000000
set_option maxRecDepth 100000
set_option linter.unusedVariables false
set_option linter.unusedSimpArgs false
namespace Go.Proofs.YtfcfpoemojjglaaGreatDoor.K
open Go.ChangeShapes Go.WideShapes Go.ChangeAt Go.WideMaps Go.WideElems Go.RowKit
theorem JP:ownKnob Tryz.prog.godebug=none:=by kernel_rfl
theorem FW:laidOutB Tryz.prog=true:=by kernel_rfl
theorem G5 {W:World} (h:laidMetH Tryz.prog Rows.wordInitialsRow.laid W):SpOK W/\BV W:=by
 rw [MakeChecks.laidMetH_plain _ _ _ (by kernel_rfl)] at h;obtain⟨ps,⟨g0,t0,M,f0,p0,q0,aa,ae,ah,a7,⟨g1,t1,O,f1,p1,q1,ab,af,ai,a8,⟨g2,t2,U,f2,p2,q2,y,E,I,j,⟨g3,t3,V,f3,p3,q3,ad,ag,aj,a9,⟨g4,t4,Z,f4,p4,q4,C,G,J,l,_,_⟩,_⟩,_⟩,_⟩,_⟩,_,_⟩:=h;constructor
 ·obtain rfl:=Option.some.inj (Tryz.hg157.symm.trans C);obtain rfl:=Option.some.inj ((show(Tryz.prog.globals[Tryz.lays157_ren.g 0]?).map (·.type)=some 283 by kernel_rfl).symm.trans G);have d:(Rows.laid_strings_asciiSpace:DataW Unit)=Lib.tabData .u8 Lib.asciiSpaceTab:=by kernel_rfl
  rw [d] at l;unfold SpOK Lib.TabIs;rw [J,<-Lib.cells_of_tab Tryz.underlying283 Tryz.underlying5 (by kernel_rfl) (by kernel_rfl) l]
 ·obtain rfl:=Option.some.inj ((show Tryz.prog.globalNamed "internal/strconv.uint64pow10" =some 2 by kernel_rfl).symm.trans y);obtain rfl:=Option.some.inj ((show(Tryz.prog.globals[2]?).map (·.type)=some 311 by kernel_rfl).symm.trans E);have d:(Rows.laid_internal_strconv_uint64pow10:DataW Unit)=Lib.tabData .u64 Lib.pow10Tab:=by kernel_rfl
  rw [d] at j;unfold BV Lib.TabIs;rw [I,<-Lib.cells_of_tab Tryz.underlying311 Tryz.underlying247 (by kernel_rfl) (by kernel_rfl) j]
theorem Jp (os:Os) (args:Array Value):laidMetH Tryz.prog Rows.wordInitialsRow.laid ((World.doorLaid Tryz.prog 400 os).forCall (fun _ _=>0) ⟨#[],args,[]⟩).memory:=
 laidMetH_of_parts3 (fuel:=8) (laidMet_of_run' 8 (by kernel_rfl) (by kernel_rfl)) (by kernel_rfl) (by kernel_rfl)
theorem Ku {H:Type} {enc:TypeId×Value->H} {w:World} {base:Nat} {spare:Nat->Bool} {held:Bool} {r:Go.Reach} {j:Nat} {v:Value} {d:DataW H} {p:List MemPlace} (J:Value.okWide Tryz.prog w r j 27 v) (h:DataW.Trod enc Tryz.prog w base spare held 27 v d p):∃cs:List Value,∃q:Am,v=.agg cs.toArray/\At w w.heap.size cs q/\q.Fits:=by
 obtain⟨cs,rfl,I⟩:=okWide_struct Tryz.underlying27 J;obtain⟨l⟩:=cs;have E:Tryz.prog.cellsOf 27=10:=by kernel_rfl
 obtain⟨fuel,G⟩:=h;obtain⟨q,y,C⟩:=RF (cs:=l) (I.trans E) G;exact⟨l,q,rfl,y,C⟩
theorem Ks {H:Type} {enc:TypeId×Value->H} {w:World} {base:Nat} {spare:Nat->Bool} {held:Bool} {r:Go.Reach} {j:Nat} {v:Value} {d:DataW H} {p:List MemPlace} (J:Value.okWide Tryz.prog w r j 30 v) (h:DataW.Trod enc Tryz.prog w base spare held 30 v d p):∃cs:List Value,∃q:AB,v=.agg cs.toArray/\Ba w w.heap.size cs q/\q.Fits:=by
 obtain⟨cs,rfl,I⟩:=okWide_struct Tryz.underlying30 J;obtain⟨l⟩:=cs;have E:Tryz.prog.cellsOf 30=6:=by kernel_rfl
 obtain⟨fuel,G⟩:=h;obtain⟨q,y,C⟩:=RB (cs:=l) (I.trans E) G;exact⟨l,q,rfl,y,C⟩
section
variable {H:Type} {enc:TypeId×Value->H} {P:Program}
theorem JS {f:Func} {s:ChangeSpec} {E a2 a4 Z:Bool} {W y:World} {args:Array Value} {v:Value} {ds:List (DataW H)} {d:List MemPlace} (aa:s.vars=[])
  (C:DataW.Whole enc P f.params.toList s.vars E W args.toList ds [] d)
  (O:∀(b:Nat) (l:Nat->Bool) (hd:Bool),DataW.TrodAll enc P y b l hd f.resultTypes.toList (v.resultList f.resultTypes.size) (s.fn H (ds++[])).results [])
  (G:∀l:Nat->Bool,(∀p∈d,l p.block=true)->DataW.TrodAll enc P y 0 l true f.params.toList args.toList (s.fn H (ds++[])).args d) (a9:(s.fn H (ds++[])).vars=[])
  (I:Below W.heap.size W y)
  (a7:∀(j:Nat) (t:TypeId) (r:Value),f.resultTypes[j]?=some t->(v.resultList f.resultTypes.size)[j]?=some r->Value.okWide P y .any 0 t r):
  s.post enc P f E a2 a4 Z W args v y:=by
 have M:∀p∈d,p.block<W.heap.size:=fun p h=>C.lt p h;have a8:∀p∈d,(fun b=>decide (b<W.heap.size)) p.block=true:=fun p h=>by simpa using M p h
 have U:∀l:Nat->Bool,DataW.TrodVars enc P y l s.vars (s.fn H (ds++[])).vars []:=fun l=>by rw [aa,a9]; rfl
 refine⟨ds,[],d,[],d,[],C,O _ _ _,G _ a8,U _,World.keptBut_mono (fun p h=>⟨h,?_⟩) (I.frame (·∈d)),fun _=>?_⟩
 ·exact Or.inr (Or.inl h)
 ·obtain⟨_,_,_,_,_,hz,hn⟩:=C;refine⟨a7,_,_,([]++d)++[],⟨[]++d,[],trodAll_append (G _ (fun _ _=>rfl)) (O _ _ _),U _,rfl,?_,?_⟩,?_⟩
  ·intro b V h;have J:MemPlace.cell b V∈d:=by simpa using h
   rw [I.frozen (M _ J)];exact hz b V J
  ·intro ha;simpa using hn ha
  ·intro p h _;simpa using h
end
end Go.Proofs.YtfcfpoemojjglaaGreatDoor.K
namespace Go.Proofs.YtfcfpoemojjglaaGreatDoor
open Go
set_option maxRecDepth 100000
theorem JK {P:Program} {f:FuncId} {fn:Func} {s:ChangeSpec} {c:OpenClaim}
  (a1:c.wf (OpenSpec.ofChange s)=true) (d:laidOutB P=true) (h:mapsRowed P=true) (j:fn.params.all (P.readableRec ·)=true) (l:namedTie P c.named s.vars=true)
  (y:(c.stops==[])=true) (C:(P.stops==[])=true) (E:(c.knobs==[])=true) (G:(P.stopKnobs==[])=true)
  (b1:(c.inPlace==P.inPlace f)=true) (b2:(c.unfollowed==P.unfollowed f)=true) (b3:(c.recurses==P.recurses f)=true) (b4:(c.named==P.varsNamed f)=true)
  (c1:(c.maps==(fn.params.toList++s.plain.varTypes P).any (P.mapsRec ·))=true) (c2:(c.ifaces==(fn.params.toList++s.plain.varTypes P).any (P.ifacesRec ·))=true) (c3:(c.mapsOut==P.mapsAmong fn.resultTypes.toList)=true)
  (c4:(c.loops==(fn.params.toList++s.plain.varTypes P).any (P.loopsFrom ·))=true) (I:(c.wideKeys==(fn.params.toList++s.plain.varTypes P++fn.resultTypes.toList).any (P.wideKeysFrom ·))=true)
  (J:s.vars.all (P.varReadable ·)=true) (M:fn.resultTypes.all (fun t=>P.readableRec t&&decide (t<P.types.size))=true) (O:(c.ifacesOut==fn.resultTypes.toList.any (P.ifacesRec ·))=true) (U:(c.loopsOut==fn.resultTypes.toList.any (P.loopsFrom ·))=true)
  (V:(c.plainKeys==P.plainKeys)=true) (W:c.shortTexts.isNone=true) (Z:P.stopsHeard=true) (d8:P.mayEnter=true) (d9:(c.lifted==P.liftsFinal)=true) (e1:(P.make==some c.make)=true)
  (e2:(c.kinds==(if c.domain.isEmpty then [] else fn.params.toList.map fun t=>match P.underlying t with | some (.int k)=>some k | _=>none))=true) (e3:(c.pinned==c.pinnedBy)=true)
  (e4:(c.veiled==(fn.params.toList++s.plain.varTypes P++fn.resultTypes.toList).any (P.veiledRec ·))=true) (e5:c.veiledFits P fn.params.toList (fn.params.toList++s.plain.varTypes P++fn.resultTypes.toList)=true):
  joinedFacts P f fn s c=true:=by
 unfold joinedFacts;rw [a1,d,h,j,l,y,C,E,G,b1,b2,b3,b4,c1,c2,c3,c4,I,J,M,O,U,V,W,Z,d8,d9,e1,e3,e4,e5];simp only [Bool.true_and,Bool.and_true];exact e2
theorem K1:laidOutB Tryz.checked.prog=true:=by kernel_rfl
theorem K2:mapsRowed Tryz.checked.prog=true:=by kernel_rfl
theorem K5:(Tryz.checked.prog.stops==[])=true:=by kernel_rfl
theorem K6:(Tryz.checked.prog.stopKnobs==[])=true:=by kernel_rfl
theorem K7:(Rows.wordInitialsRow.plainKeys==Tryz.checked.prog.plainKeys)=true:=by kernel_rfl
theorem K8:Tryz.checked.prog.stopsHeard=true:=by kernel_rfl
theorem K9:Tryz.checked.prog.mayEnter=true:=by kernel_rfl
theorem Lc:(Rows.wordInitialsRow.lifted==Tryz.checked.prog.liftsFinal)=true:=by kernel_rfl
theorem Ld:(Tryz.checked.prog.make==some Rows.wordInitialsRow.make)=true:=by kernel_rfl
end Go.Proofs.YtfcfpoemojjglaaGreatDoor
namespace Go.Proofs.YtfcfpoemojjglaaGreatDoor
open Go
set_option maxRecDepth 100000
theorem Lf:Tryz.checked.prog.mainIs=some (true,"9ac3a2f38e2114aff4fff80aa0b147a785d2dc1b0e5b699508a615585c3fa333".toList):=by kernel_rfl
theorem Le:true=Tryz.checked.prog.looks []:=by kernel_rfl
end Go.Proofs.YtfcfpoemojjglaaGreatDoor
