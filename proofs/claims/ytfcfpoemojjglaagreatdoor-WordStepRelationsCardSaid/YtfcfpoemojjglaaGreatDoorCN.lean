/-
  Part CN of a proof.
-/
import Derived.Test.YtfcfpoemojjglaaGreatDoorPA
import Derived.Test.YtfcfpoemojjglaaGreatDoorCK
import Derived.Test.YtfcfpoemojjglaaGreatDoorCL
import Derived.Test.YtfcfpoemojjglaaGreatDoorCM
set_option maxHeartbeats 16000000
set_option maxRecDepth 100000
set_option linter.unusedVariables false
set_option linter.unusedSimpArgs false
namespace Go.Proofs.YtfcfpoemojjglaaGreatDoor.K
open Go.RowKit
theorem KF {w:World} {cs:List Value} {p:Am} {i:Nat} (h:At w w.heap.size cs p) (hi:i<p.rules.length) (E:p.Small) (F:A0 w):
  Calls Tryz.prog 138 #[.agg cs.toArray,.int .i64 (i:Int)] w (Ret fun v w'=>v=.int .i64 (BB Ab p i)∧Below w.heap.size w w'):=by
 obtain⟨r,z⟩:∃r,p.rules[i]?=some r:=⟨_,List.getElem?_eq_getElem hi⟩
 obtain⟨I,G⟩:=E.rule r (List.mem_of_getElem? z)
 have Z:BB Ab p i=BC Ab p.topo p.states.length p.messages.length p.values.length ((p.rules.take i).any fun x=>decide (x.name=r.name)) r:=by
  unfold BB
  rw [z]
 rw [Z]
 by_cases W:Ab r.name=false∨((p.rules.take i).any fun x=>decide (x.name=r.name))=true
 ·exact SD h z I G E F (hide rfl) W
 have U:Ab r.name=true:=by cases y:Ab r.name <;> simp_all
 have J:((p.rules.take i).any fun x=>decide (x.name=r.name))=false:=by
  cases y:((p.rules.take i).any fun x=>decide (x.name=r.name))
  ·rfl
  ·exact absurd (.inr y) W
 rw [J]
 by_cases M:inC r.kind 1 5=false∨inC r.kind 1 5=true∧((decide (r.kind≤3) != (p.topo==1))=true∨(decide (r.kind≤3) != (p.topo==1))=false∧B9 p.topo r=true)
 ·exact SE h z I G E F J U M
 have C:inC r.kind 1 5=true:=by
  cases y:inC r.kind 1 5
  ·exact absurd (.inl y) M
  ·rfl
 have O:(decide (r.kind≤3) != (p.topo==1))=false:=by
  cases y:(decide (r.kind≤3) != (p.topo==1))
  ·rfl
  ·exact absurd (.inr ⟨C,.inl y⟩) M
 have V:B9 p.topo r=false:=by
  cases y:B9 p.topo r
  ·rfl
  ·exact absurd (.inr ⟨C,.inr ⟨O,y⟩⟩) M
 have hb:1≤r.kind∧r.kind≤5:=by simpa [inC] using C
 by_cases k1:r.kind=1
 ·exact SF h z I G E F J U C O V k1
 by_cases k4:r.kind=4
 ·exact SH h z I G E F J U C O V k4
 exact SG h z I G E F J U C O V (by omega)
end Go.Proofs.YtfcfpoemojjglaaGreatDoor.K
