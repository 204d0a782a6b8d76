/-
  Part PO of a proof.
-/
import Derived.Test.YtakpmdmjbgipiaaGreatDoorRows
import Derived.JoinedOf
import Derived.KernelRfl
import Derived.Test.YtakpmdmjbgipiaaGreatDoorPA
set_option maxHeartbeats 16000000
set_option maxRecDepth 100000
set_option linter.unusedVariables false
set_option linter.unusedSimpArgs false
namespace Go.Proofs.YtakpmdmjbgipiaaGreatDoor
open Go
set_option maxRecDepth 100000
theorem joined_of {P : Program} {f : FuncId} {fn : Func} {s : ChangeSpec} {c : OpenClaim}
  (a1 : c.wf (OpenSpec.ofChange s) = true) (a2 : laidOutB P = true) (a3 : mapsRowed P = true) (a4 : fn.params.all (P.readableRec ·) = true) (a5 : namedTie P c.named s.vars = true)
  (a6 : (c.stops == []) = true) (a7 : (P.stops == []) = true) (a8 : (c.knobs == []) = true) (a9 : (P.stopKnobs == []) = true)
  (b1 : (c.inPlace == P.inPlace f) = true) (b2 : (c.unfollowed == P.unfollowed f) = true) (b3 : (c.recurses == P.recurses f) = true) (b4 : (c.named == P.varsNamed f) = true)
  (c1 : (c.maps == (fn.params.toList ++ s.plain.varTypes P).any (P.mapsRec ·)) = true) (c2 : (c.ifaces == (fn.params.toList ++ s.plain.varTypes P).any (P.ifacesRec ·)) = true) (c3 : (c.mapsOut == P.mapsAmong fn.resultTypes.toList) = true)
  (c4 : (c.loops == (fn.params.toList ++ s.plain.varTypes P).any (P.loopsFrom ·)) = true) (c5 : (c.wideKeys == (fn.params.toList ++ s.plain.varTypes P ++ fn.resultTypes.toList).any (P.wideKeysFrom ·)) = true)
  (d1 : s.vars.all (P.varReadable ·) = true) (d2 : fn.resultTypes.all (fun t => P.readableRec t && decide (t < P.types.size)) = true) (d3 : (c.ifacesOut == fn.resultTypes.toList.any (P.ifacesRec ·)) = true) (d4 : (c.loopsOut == fn.resultTypes.toList.any (P.loopsFrom ·)) = true)
  (d5 : (c.plainKeys == P.plainKeys) = true) (d6 : c.shortTexts.isNone = true) (d7 : P.stopsHeard = true) (d8 : P.mayEnter = true) (d9 : (c.lifted == P.liftsFinal) = true) (e1 : (P.make == some c.make) = true)
  (e2 : (c.kinds == (if c.domain.isEmpty then [] else fn.params.toList.map fun t => match P.underlying t with | some (.int k) => some k | _ => none)) = true) (e3 : (c.pinned == c.pinnedBy) = true)
  (e4 : (c.veiled == (fn.params.toList ++ s.plain.varTypes P ++ fn.resultTypes.toList).any (P.veiledRec ·)) = true) (e5 : c.veiledFits P fn.params.toList (fn.params.toList ++ s.plain.varTypes P ++ fn.resultTypes.toList) = true) :
  joinedFacts P f fn s c = true := by
 unfold joinedFacts
 rw [a1, a2, a3, a4, a5, a6, a7, a8, a9, b1, b2, b3, b4, c1, c2, c3, c4, c5, d1, d2, d3, d4, d5, d6, d7, d8, d9, e1, e3, e4, e5]
 simp only [Bool.true_and, Bool.and_true]
 exact e2
theorem seat_a2 : laidOutB Tryz.checked.prog = true := by kernel_rfl
theorem seat_a3 : mapsRowed Tryz.checked.prog = true := by kernel_rfl
theorem seat_a7 : (Tryz.checked.prog.stops == []) = true := by kernel_rfl
theorem seat_a9 : (Tryz.checked.prog.stopKnobs == []) = true := by kernel_rfl
theorem seat_d5 : (Rows.wordImagesRow.plainKeys == Tryz.checked.prog.plainKeys) = true := by kernel_rfl
theorem seat_d7 : Tryz.checked.prog.stopsHeard = true := by kernel_rfl
theorem seat_d8 : Tryz.checked.prog.mayEnter = true := by kernel_rfl
theorem seat_d9 : (Rows.wordImagesRow.lifted == Tryz.checked.prog.liftsFinal) = true := by kernel_rfl
theorem seat_e1 : (Tryz.checked.prog.make == some Rows.wordImagesRow.make) = true := by kernel_rfl
end Go.Proofs.YtakpmdmjbgipiaaGreatDoor
