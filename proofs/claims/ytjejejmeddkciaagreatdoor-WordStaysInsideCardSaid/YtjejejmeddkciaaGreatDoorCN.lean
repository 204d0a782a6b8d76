/-
  Part CN of a proof.
-/
import Derived.Test.YtjejejmeddkciaaGreatDoorPA
import Derived.Test.YtjejejmeddkciaaGreatDoorCK
import Derived.Test.YtjejejmeddkciaaGreatDoorCL
import Derived.Test.YtjejejmeddkciaaGreatDoorCM
set_option maxHeartbeats 16000000
set_option maxRecDepth 100000
set_option linter.unusedVariables false
set_option linter.unusedSimpArgs false
namespace Go.Proofs.YtjejejmeddkciaaGreatDoor.K
open Go.RowKit
theorem KF {w:World} {cs:List Value} {p:Am} {i:Nat} (h:At w w.heap.size cs p) (hi:i<p.rules.length) (G:p.Small) (I:SpOK w):
  Calls Tryz.prog 164 #[.agg cs.toArray,.int .i64 (i:Int)] w (Ret fun v w'=>v=.int .i64 (BB nameOK p i)/\Below w.heap.size w w'):=by
 obtain⟨r,E⟩:∃r,p.rules[i]?=some r:=⟨_,List.getElem?_eq_getElem hi⟩;obtain⟨M,J⟩:=G.rule r (List.mem_of_getElem? E);have he:BB nameOK p i=BC nameOK p.topo p.states.length p.messages.length p.values.length ((p.rules.take i).any fun x=>decide (x.name=r.name)) r:=by
  unfold BB;rw [E]
 rw [he];by_cases a2:nameOK r.name=false\/((p.rules.take i).any fun x=>decide (x.name=r.name))=true
 ·exact SD h E M J G I (hide rfl) a2
 have W:nameOK r.name=true:=by cases C:nameOK r.name <;> simp_all
 have O:((p.rules.take i).any fun x=>decide (x.name=r.name))=false:=by
  cases C:((p.rules.take i).any fun x=>decide (x.name=r.name))
  ·rfl
  ·exact absurd (.inr C) a2
 rw [O];by_cases U:inC r.kind 1 5=false\/inC r.kind 1 5=true/\((decide (r.kind<=3) != (p.topo==1))=true\/(decide (r.kind<=3) != (p.topo==1))=false/\B9 p.topo r=true)
 ·exact SE h E M J G I O W U
 have F:inC r.kind 1 5=true:=by
  cases C:inC r.kind 1 5
  ·exact absurd (.inl C) U
  ·rfl
 have V:(decide (r.kind<=3) != (p.topo==1))=false:=by
  cases C:(decide (r.kind<=3) != (p.topo==1))
  ·rfl
  ·exact absurd (.inr ⟨F,.inl C⟩) U
 have Z:B9 p.topo r=false:=by
  cases C:B9 p.topo r
  ·rfl
  ·exact absurd (.inr ⟨F,.inr ⟨V,C⟩⟩) U
 have hb:1<=r.kind/\r.kind<=5:=by simpa [inC] using F
 by_cases k1:r.kind=1
 ·exact SF h E M J G I O W F V Z k1
 by_cases k4:r.kind=4
 ·exact SH h E M J G I O W F V Z k4
 exact SG h E M J G I O W F V Z (by omega)
end Go.Proofs.YtjejejmeddkciaaGreatDoor.K
