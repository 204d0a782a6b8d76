/-
  Part FG of a proof.
-/
import Derived.Test.YtfcfpoemojjglaaGreatDoorRows
import Derived.JoinedOf
import Derived.KernelRfl
import Derived.Test.YtfcfpoemojjglaaGreatDoorPA
set_option maxHeartbeats 16000000
set_option maxRecDepth 100000
set_option linter.unusedVariables false
set_option linter.unusedSimpArgs false
namespace Go.Proofs.YtfcfpoemojjglaaGreatDoor
open Go
set_option maxRecDepth 100000
theorem JK {P:Program} {f:FuncId} {fn:Func} {s:ChangeSpec} {c:OpenClaim}
  (a1:c.wf (OpenSpec.ofChange s)=true) (h:laidOutB P=true) (y:mapsRowed P=true) (z:fn.params.all (P.readableRec ·)=true) (C:namedTie P c.named s.vars=true)
  (E:(c.stops==[])=true) (F:(P.stops==[])=true) (G:(c.knobs==[])=true) (I:(P.stopKnobs==[])=true)
  (b1:(c.inPlace==P.inPlace f)=true) (b2:(c.unfollowed==P.unfollowed f)=true) (b3:(c.recurses==P.recurses f)=true) (b4:(c.named==P.varsNamed f)=true)
  (J:(c.maps==(fn.params.toList++s.plain.varTypes P).any (P.mapsRec ·))=true) (c2:(c.ifaces==(fn.params.toList++s.plain.varTypes P).any (P.ifacesRec ·))=true) (M:(c.mapsOut==P.mapsAmong fn.resultTypes.toList)=true)
  (O:(c.loops==(fn.params.toList++s.plain.varTypes P).any (P.loopsFrom ·))=true) (U:(c.wideKeys==(fn.params.toList++s.plain.varTypes P++fn.resultTypes.toList).any (P.wideKeysFrom ·))=true)
  (V:s.vars.all (P.varReadable ·)=true) (W:fn.resultTypes.all (fun t=>P.readableRec t&&decide (t<P.types.size))=true) (Z:(c.ifacesOut==fn.resultTypes.toList.any (P.ifacesRec ·))=true) (d4:(c.loopsOut==fn.resultTypes.toList.any (P.loopsFrom ·))=true)
  (d5:(c.plainKeys==P.plainKeys)=true) (d6:c.shortTexts.isNone=true) (d7:P.stopsHeard=true) (d8:P.mayEnter=true) (d9:(c.lifted==P.liftsFinal)=true) (e1:(P.make==some c.make)=true)
  (e2:(c.kinds==(if c.domain.isEmpty then [] else fn.params.toList.map fun t=>match P.underlying t with | some (.int k)=>some k | _=>none))=true) (e3:(c.pinned==c.pinnedBy)=true)
  (e4:(c.veiled==(fn.params.toList++s.plain.varTypes P++fn.resultTypes.toList).any (P.veiledRec ·))=true) (e5:c.veiledFits P fn.params.toList (fn.params.toList++s.plain.varTypes P++fn.resultTypes.toList)=true):
  joinedFacts P f fn s c=true:=by
 unfold joinedFacts
 rw [a1,h,y,z,C,E,F,G,I,b1,b2,b3,b4,J,c2,M,O,U,V,W,Z,d4,d5,d6,d7,d8,d9,e1,e3,e4,e5]
 simp only [Bool.true_and,Bool.and_true]
 exact e2
theorem K1:laidOutB Tryz.checked.prog=true:=by kernel_rfl
theorem K2:mapsRowed Tryz.checked.prog=true:=by kernel_rfl
theorem K5:(Tryz.checked.prog.stops==[])=true:=by kernel_rfl
theorem K6:(Tryz.checked.prog.stopKnobs==[])=true:=by kernel_rfl
theorem K7:(Rows.wordInitialsRow.plainKeys==Tryz.checked.prog.plainKeys)=true:=by kernel_rfl
theorem K8:Tryz.checked.prog.stopsHeard=true:=by kernel_rfl
theorem K9:Tryz.checked.prog.mayEnter=true:=by kernel_rfl
theorem Lc:(Rows.wordInitialsRow.lifted==Tryz.checked.prog.liftsFinal)=true:=by kernel_rfl
theorem Ld:(Tryz.checked.prog.make==some Rows.wordInitialsRow.make)=true:=by kernel_rfl
end Go.Proofs.YtfcfpoemojjglaaGreatDoor
