/-
  Part EA of a proof.
-/
import Derived.Test.YtfcfpoemojjglaaGreatDoorPA
import Derived.Test.YtfcfpoemojjglaaGreatDoorPI
import Derived.Test.YtfcfpoemojjglaaGreatDoorPJ
set_option maxHeartbeats 16000000
set_option maxRecDepth 100000
set_option linter.unusedVariables false
set_option linter.unusedSimpArgs false
namespace Go.Proofs.YtfcfpoemojjglaaGreatDoor
open Go.RowKit
section
variable {S:Type} [DecidableEq S] {L:Nat} {δ:S->Nat->S} {s0:S}
theorem KS {all:List S} (h:Bf L δ s0 all) (f:S->Bool) {w:List Nat} (y:okW L w):EI (AM L δ all all.length) (all.map f) w=f (Ay δ s0 w):=by
 have l:=Fq (δ:=δ) h (ac:=all.map f) (by simp);have C:=h.num y;have E:Ay (dnx (AM L δ all all.length)) 0 w=Ay (Cy δ all) 0 w:=by
  have:=GR (L:=L) (n:=all.length) (nx:=dnx (AM L δ all all.length)) (nx':=Cy δ all) (fun q x d j=>by have:=l.lt (by simpa using d) j; simpa using this) (fun q x d j=>(Ie d j).symm) w 0 y (by have:=l.pos; simpa using this);exact this.symm
 unfold EI;rw [E];unfold dac;rw [getD_some (AX C)]
end
def dPr (t u:List (List Nat)) (p:Nat×Nat) (x:Nat):Nat×Nat:=(dnx t p.1 x,dnx u p.2 x)
def Us (op:Bool->Bool->Bool) (ac bc:List Bool) (p:Nat×Nat):Bool:=op (dac ac p.1) (dac bc p.2)
theorem aA7 (t u:List (List Nat)):∀(w:List Nat) (p q:Nat),Ay (dPr t u) (p,q) w=(Ay (dnx t) p w,Ay (dnx u) q w)
 | [],_,_=>rfl
 | x::w,p,q=>aA7 t u w _ _
section
variable {L:Nat} {t u:List (List Nat)} {ac bc:List Bool} {all:List (Nat×Nat)} {op:Bool->Bool->Bool}
theorem aCb (h:Bf L (dPr t u) (0,0) all) {w:List Nat} (d:okW L w):EI (AM L (dPr t u) all all.length) (all.map (Us op ac bc)) w=op (EI t ac w) (EI u bc w):=by
 rw [KS h _ d,aA7];rfl
theorem aA2 (h:DOK L t ac) (j:DOK L u bc) {i:Nat} (l:Exp L (dPr t u) (0,0) i all) {p:Nat×Nat} (y:p∈all):p.1<ac.length/\p.2<bc.length:=by
 obtain⟨w,d,rfl⟩:=l.inv.reach p y;rw [aA7];exact⟨h.run d,j.run d⟩
theorem aBr (h:DOK L t ac) (j:DOK L u bc) {i:Nat} (d:Exp L (dPr t u) (0,0) i all):all.length<=ac.length*bc.length:=by
 have M:(all.map fun p=>p.1*bc.length+p.2).Nodup:=by
  refine List.pairwise_map.2 (d.inv.nodup.imp_of_mem fun {p q} l hq hne he=>hne ?_);obtain⟨-,C⟩:=aA2 h j d l;obtain⟨-,I⟩:=aA2 h j d hq;have y:p.1=q.1:=by
   have:=congrArg (· / bc.length) he;simp only [Nat.add_comm (_*_),Nat.add_mul_div_right _ _ (show 0<bc.length by omega),Nat.div_eq_of_lt C,Nat.div_eq_of_lt I] at this;omega
  have E:p.2=q.2:=by rw [y] at he; omega
  exact Prod.ext y E
 have:=D6 _ (List.range (ac.length*bc.length)) M fun k J=>by
  obtain⟨p,l,rfl⟩:=List.mem_map.1 J;obtain⟨G,C⟩:=aA2 h j d l;rw [List.mem_range];have:p.1*bc.length+bc.length<=ac.length*bc.length:=by
   rw [<-Nat.succ_mul];exact Nat.mul_le_mul_right _ G
  omega
 simpa using this
end
end Go.Proofs.YtfcfpoemojjglaaGreatDoor
namespace Go.Proofs.YtfcfpoemojjglaaGreatDoor
open Go.RowKit
set_option maxHeartbeats 16000000
set_option maxRecDepth 100000
end Go.Proofs.YtfcfpoemojjglaaGreatDoor
