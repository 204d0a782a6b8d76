/-
  Part CP of a proof.
-/
import Derived.Test.YtlakpndhhelliaaGreatDoorPA
import Derived.Test.YtlakpndhhelliaaGreatDoorCK
import Derived.Test.YtlakpndhhelliaaGreatDoorCL
import Derived.Test.YtlakpndhhelliaaGreatDoorCM
import Derived.Test.YtlakpndhhelliaaGreatDoorCN
import Derived.Test.YtlakpndhhelliaaGreatDoorCO
set_option maxHeartbeats 16000000
set_option maxRecDepth 100000
set_option linter.unusedVariables false
set_option linter.unusedSimpArgs false
namespace Go.Proofs.YtlakpndhhelliaaGreatDoor.K
open Go.RowKit
theorem H8 {w:World} {cs:List Value} {p:Ao} {i:Nat} (h:Ax w w.heap.size cs p) (O:i<p.rules.length) (y:p.Small) (C:AL w):
  Calls Tryz.prog 55 #[.agg cs.toArray,.int .i64 (i:Int)] w (Ret fun v w'=>v=.int .i64 (Bu Ab p i)∧Below w.heap.size w w'):=by
 obtain⟨r,f⟩:∃r,p.rules[i]?=some r:=⟨_,List.getElem?_eq_getElem O⟩
 obtain⟨E,F⟩:=y.rule r (List.mem_of_getElem? f)
 have U:Bu Ab p i=AW Ab p.topo p.states.length p.messages.length p.values.length ((p.rules.take i).any fun x=>decide (x.name=r.name)) r:=by
  unfold Bu
  rw [f]
 rw [U]
 cases G:((p.rules.take i).any fun x=>decide (x.name=r.name)) with
 | true=>
  cases z:Ab r.name with
  | true=>exact O5 h f E F y C G z
  | false=>exact PJ h f E F y C G z
 | false=>
  cases z:Ab r.name with
  | false=>exact Ra h f E F y C G z
  | true=>
   cases I:inC r.kind 1 5 with
   | false=>exact L3 h f E F y C G z I
   | true=>
    cases J:(decide (r.kind≤3) != (p.topo==1)) with
    | true=>exact KE h f E F y C G z I J
    | false=>
     cases M:BR p.topo r with
     | true=>exact MW h f E F y C G z I J M
     | false=>
      have hb:1≤r.kind∧r.kind≤5:=by simpa [inC] using I
      by_cases V:r.kind=1
      ·exact OE h f E F y C G z I J M V
      by_cases W:r.kind=2
      ·exact KI h f E F y C G z I J M W
      by_cases Z:r.kind=3
      ·exact On h f E F y C G z I J M Z
      by_cases k4:r.kind=4
      ·exact Ox h f E F y C G z I J M k4
      exact QE h f E F y C G z I J M (by omega)
end Go.Proofs.YtlakpndhhelliaaGreatDoor.K
