/-
  Part XO of a proof.
-/
import Derived.Test.YtbjdgepfhhafjaaDoorXA
import Derived.Test.YtbjdgepfhhafjaaDoorXL
import Derived.Test.YtbjdgepfhhafjaaDoorXM
import Derived.Test.YtbjdgepfhhafjaaDoorXN
set_option maxHeartbeats 16000000
set_option maxRecDepth 100000
set_option linter.unusedVariables false
set_option linter.unusedSimpArgs false
namespace Go.Proofs.YtbjdgepfhhafjaaDoor
open Go.RowKit
theorem refRule_any {w : World} {cs : List Value} {p : ProtD} {i : Nat} (h : ProtIs w w.heap.size cs p) (hi : i < p.rules.length) (hsm : p.Small) (hT : SpOK w) :
  Calls Tryd.prog 47 #[.agg cs.toArray, .int .i64 (i : Int)] w (Ret fun v w' => v = .int .i64 (ruleAtE nameOK p i) ∧ Below w.heap.size w w') := by
 obtain ⟨r, hr⟩ : ∃ r, p.rules[i]? = some r := ⟨_, List.getElem?_eq_getElem hi⟩
 obtain ⟨hs, hnm⟩ := hsm.rule r (List.mem_of_getElem? hr)
 have he : ruleAtE nameOK p i = ruleE nameOK p.topo p.states.length p.messages.length p.values.length ((p.rules.take i).any fun x => decide (x.name = r.name)) r := by
  unfold ruleAtE
  rw [hr]
 rw [he]
 cases htk : ((p.rules.take i).any fun x => decide (x.name = r.name)) with
 | true =>
  cases hok : nameOK r.name with
  | true => exact rr_b h hr hs hnm hsm hT htk hok
  | false => exact rr_a2 h hr hs hnm hsm hT htk hok
 | false =>
  cases hok : nameOK r.name with
  | false => exact rr_a h hr hs hnm hsm hT htk hok
  | true =>
   cases hki : inC r.kind 1 5 with
   | false => exact rr_c1 h hr hs hnm hsm hT htk hok hki
   | true =>
    cases hcl : (decide (r.kind ≤ 3) != (p.topo == 1)) with
    | true => exact rr_c2 h hr hs hnm hsm hT htk hok hki hcl
    | false =>
     cases hun : unusedR p.topo r with
     | true => exact rr_c3 h hr hs hnm hsm hT htk hok hki hcl hun
     | false =>
      have hb : 1 ≤ r.kind ∧ r.kind ≤ 5 := by simpa [inC] using hki
      by_cases k1 : r.kind = 1
      ·exact rr_k1 h hr hs hnm hsm hT htk hok hki hcl hun k1
      by_cases k2 : r.kind = 2
      ·exact rr_k2 h hr hs hnm hsm hT htk hok hki hcl hun k2
      by_cases k3 : r.kind = 3
      ·exact rr_k3 h hr hs hnm hsm hT htk hok hki hcl hun k3
      by_cases k4 : r.kind = 4
      ·exact rr_k4 h hr hs hnm hsm hT htk hok hki hcl hun k4
      exact rr_k5 h hr hs hnm hsm hT htk hok hki hcl hun (by omega)
end Go.Proofs.YtbjdgepfhhafjaaDoor
