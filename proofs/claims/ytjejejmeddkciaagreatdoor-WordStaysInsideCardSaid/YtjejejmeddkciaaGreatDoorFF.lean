/-
  Part FF of a proof.
-/
import Derived.LaidMore
import Derived.Lib.LaidTab
import Derived.OpenShut
import Derived.Stop.Joined
import Derived.Test.YtjejejmeddkciaaGreatDoorRows
import Derived.JoinedOf
import Derived.KernelRfl
import Derived.SevenTiedAt
import Derived.Test.YtjejejmeddkciaaGreatDoorPA
import Derived.Test.YtjejejmeddkciaaGreatDoorCY
import Derived.Test.YtjejejmeddkciaaGreatDoorPB
import Derived.Test.YtjejejmeddkciaaGreatDoorAA
import Derived.Test.YtjejejmeddkciaaGreatDoorPS
set_option maxHeartbeats 16000000
set_option maxRecDepth 100000
set_option linter.unusedVariables false
set_option linter.unusedSimpArgs false
namespace Go.Proofs.YtjejejmeddkciaaGreatDoor.K
open Go.ChangeShapes Go.WideShapes Go.ChangeAt Go.WideMaps Go.WideElems Go.RowKit
theorem JP:ownKnob Tryz.prog.godebug=none:=by kernel_rfl
theorem FW:laidOutB Tryz.prog=true:=by kernel_rfl
theorem G5 {W:World} (h:laidMetH Tryz.prog Rows.wordStaysInsideRow.laid W):SpOK W/\BV W:=by
 rw [MakeChecks.laidMetH_plain _ _ _ (by kernel_rfl)] at h;obtain⟨ps,⟨g0,t0,V,f0,p0,q0,af,ai,al,ab,⟨g1,t1,Z,f1,p1,q1,ag,aj,am,ad,⟨g2,t2,a2,f2,p2,q2,G,J,O,E,⟨g3,t3,a3,f3,p3,q3,ah,ak,an,ae,⟨g4,t4,a4,f4,p4,q4,I,M,U,F,_,_⟩,_⟩,_⟩,_⟩,_⟩,_,_⟩:=h;constructor
 ·obtain rfl:=Option.some.inj (Tryz.hg157.symm.trans I);obtain rfl:=Option.some.inj ((show(Tryz.prog.globals[Tryz.lays157_ren.g 0]?).map (·.type)=some 273 by kernel_rfl).symm.trans M);have C:(Rows.laid_strings_asciiSpace:DataW Unit)=Lib.tabData .u8 Lib.asciiSpaceTab:=by kernel_rfl
  rw [C] at F;unfold SpOK Lib.TabIs;rw [U,<-Lib.cells_of_tab Tryz.underlying273 Tryz.underlying5 (by kernel_rfl) (by kernel_rfl) F]
 ·obtain rfl:=Option.some.inj ((show Tryz.prog.globalNamed "internal/strconv.uint64pow10" =some 2 by kernel_rfl).symm.trans G);obtain rfl:=Option.some.inj ((show(Tryz.prog.globals[2]?).map (·.type)=some 302 by kernel_rfl).symm.trans J);have C:(Rows.laid_internal_strconv_uint64pow10:DataW Unit)=Lib.tabData .u64 Lib.pow10Tab:=by kernel_rfl
  rw [C] at E;unfold BV Lib.TabIs;rw [O,<-Lib.cells_of_tab Tryz.underlying302 Tryz.underlying250 (by kernel_rfl) (by kernel_rfl) E]
theorem Jp (os:Os) (args:Array Value):laidMetH Tryz.prog Rows.wordStaysInsideRow.laid ((World.doorLaid Tryz.prog 400 os).forCall (fun _ _=>0) ⟨#[],args,[]⟩).memory:=
 laidMetH_of_parts3 (fuel:=8) (laidMet_of_run' 8 (by kernel_rfl) (by kernel_rfl)) (by kernel_rfl) (by kernel_rfl)
theorem Ku {H:Type} {enc:TypeId×Value->H} {w:World} {base:Nat} {spare:Nat->Bool} {held:Bool} {r:Go.Reach} {C:Nat} {v:Value} {d:DataW H} {p:List MemPlace} (J:Value.okWide Tryz.prog w r C 27 v) (h:DataW.Trod enc Tryz.prog w base spare held 27 v d p):∃cs:List Value,∃q:Am,v=.agg cs.toArray/\At w w.heap.size cs q/\q.Fits:=by
 obtain⟨cs,rfl,I⟩:=okWide_struct Tryz.underlying27 J;obtain⟨l⟩:=cs;have F:Tryz.prog.cellsOf 27=10:=by kernel_rfl
 obtain⟨fuel,G⟩:=h;obtain⟨q,h1,E⟩:=RF (cs:=l) (I.trans F) G;exact⟨l,q,rfl,h1,E⟩
section
variable {H:Type} {enc:TypeId×Value->H} {P:Program}
theorem JS {f:Func} {s:ChangeSpec} {I a3 a5 a2:Bool} {W F:World} {args:Array Value} {v:Value} {ds:List (DataW H)} {h:List MemPlace} (ab:s.vars=[])
  (G:DataW.Whole enc P f.params.toList s.vars I W args.toList ds [] h)
  (V:∀(b:Nat) (E:Nat->Bool) (hd:Bool),DataW.TrodAll enc P F b E hd f.resultTypes.toList (v.resultList f.resultTypes.size) (s.fn H (ds++[])).results [])
  (J:∀E:Nat->Bool,(∀p∈h,E p.block=true)->DataW.TrodAll enc P F 0 E true f.params.toList args.toList (s.fn H (ds++[])).args h) (aa:(s.fn H (ds++[])).vars=[])
  (M:Below W.heap.size W F)
  (a8:∀(j:Nat) (t:TypeId) (r:Value),f.resultTypes[j]?=some t->(v.resultList f.resultTypes.size)[j]?=some r->Value.okWide P F .any 0 t r):
  s.post enc P f I a3 a5 a2 W args v F:=by
 have U:∀p∈h,p.block<W.heap.size:=fun p C=>G.lt p C;have a9:∀p∈h,(fun b=>decide (b<W.heap.size)) p.block=true:=fun p C=>by simpa using U p C
 have Z:∀E:Nat->Bool,DataW.TrodVars enc P F E s.vars (s.fn H (ds++[])).vars []:=fun E=>by rw [ab,aa];rfl
 refine⟨ds,[],h,[],h,[],G,V _ _ _,J _ a9,Z _,World.keptBut_mono (fun p C=>⟨C,?_⟩) (M.frame (·∈h)),fun _=>?_⟩
 ·exact Or.inr (Or.inl C)
 ·obtain⟨_,_,_,_,_,hz,hn⟩:=G;refine⟨a8,_,_,([]++h)++[],⟨[]++h,[],trodAll_append (J _ (fun _ _=>rfl)) (V _ _ _),Z _,rfl,?_,?_⟩,?_⟩
  ·intro b off C;have O:MemPlace.cell b off∈h:=by simpa using C
   rw [M.frozen (U _ O)];exact hz b off O
  ·intro ha;simpa using hn ha
  ·intro p C _;simpa using C
end
end Go.Proofs.YtjejejmeddkciaaGreatDoor.K
namespace Go.Proofs.YtjejejmeddkciaaGreatDoor
open Go
set_option maxRecDepth 100000
theorem JK {P:Program} {f:FuncId} {fn:Func} {s:ChangeSpec} {c:OpenClaim}
  (a1:c.wf (OpenSpec.ofChange s)=true) (h:laidOutB P=true) (C:mapsRowed P=true) (E:fn.params.all (P.readableRec ·)=true) (F:namedTie P c.named s.vars=true)
  (G:(c.stops==[])=true) (I:(P.stops==[])=true) (J:(c.knobs==[])=true) (M:(P.stopKnobs==[])=true)
  (b1:(c.inPlace==P.inPlace f)=true) (b2:(c.unfollowed==P.unfollowed f)=true) (b3:(c.recurses==P.recurses f)=true) (b4:(c.named==P.varsNamed f)=true)
  (c1:(c.maps==(fn.params.toList++s.plain.varTypes P).any (P.mapsRec ·))=true) (c2:(c.ifaces==(fn.params.toList++s.plain.varTypes P).any (P.ifacesRec ·))=true) (c3:(c.mapsOut==P.mapsAmong fn.resultTypes.toList)=true)
  (O:(c.loops==(fn.params.toList++s.plain.varTypes P).any (P.loopsFrom ·))=true) (U:(c.wideKeys==(fn.params.toList++s.plain.varTypes P++fn.resultTypes.toList).any (P.wideKeysFrom ·))=true)
  (V:s.vars.all (P.varReadable ·)=true) (W:fn.resultTypes.all (fun t=>P.readableRec t&&decide (t<P.types.size))=true) (Z:(c.ifacesOut==fn.resultTypes.toList.any (P.ifacesRec ·))=true) (d4:(c.loopsOut==fn.resultTypes.toList.any (P.loopsFrom ·))=true)
  (d5:(c.plainKeys==P.plainKeys)=true) (d6:c.shortTexts.isNone=true) (d7:P.stopsHeard=true) (d8:P.mayEnter=true) (d9:(c.lifted==P.liftsFinal)=true) (e1:(P.make==some c.make)=true)
  (e2:(c.kinds==(if c.domain.isEmpty then [] else fn.params.toList.map fun t=>match P.underlying t with|some (.int k)=>some k|_=>none))=true) (e3:(c.pinned==c.pinnedBy)=true)
  (e4:(c.veiled==(fn.params.toList++s.plain.varTypes P++fn.resultTypes.toList).any (P.veiledRec ·))=true) (e5:c.veiledFits P fn.params.toList (fn.params.toList++s.plain.varTypes P++fn.resultTypes.toList)=true):
  joinedFacts P f fn s c=true:=by
 unfold joinedFacts;rw [a1,h,C,E,F,G,I,J,M,b1,b2,b3,b4,c1,c2,c3,O,U,V,W,Z,d4,d5,d6,d7,d8,d9,e1,e3,e4,e5];simp only [Bool.true_and,Bool.and_true];exact e2
theorem K1:laidOutB Tryz.checked.prog=true:=by kernel_rfl
theorem K2:mapsRowed Tryz.checked.prog=true:=by kernel_rfl
theorem K5:(Tryz.checked.prog.stops==[])=true:=by kernel_rfl
theorem K6:(Tryz.checked.prog.stopKnobs==[])=true:=by kernel_rfl
theorem K7:(Rows.wordStaysInsideRow.plainKeys==Tryz.checked.prog.plainKeys)=true:=by kernel_rfl
theorem K8:Tryz.checked.prog.stopsHeard=true:=by kernel_rfl
theorem K9:Tryz.checked.prog.mayEnter=true:=by kernel_rfl
theorem Lc:(Rows.wordStaysInsideRow.lifted==Tryz.checked.prog.liftsFinal)=true:=by kernel_rfl
theorem Ld:(Tryz.checked.prog.make==some Rows.wordStaysInsideRow.make)=true:=by kernel_rfl
end Go.Proofs.YtjejejmeddkciaaGreatDoor
namespace Go.Proofs.YtjejejmeddkciaaGreatDoor
open Go
set_option maxRecDepth 100000
theorem Lf:Tryz.checked.prog.mainIs=some (true,"793a58bf8a29cd1efb571fba9c8b6e6ced56d04c95069783226657b6188cb9d0".toList):=by kernel_rfl
theorem Le:true=Tryz.checked.prog.looks []:=by kernel_rfl
end Go.Proofs.YtjejejmeddkciaaGreatDoor
