/-
  Part CB of a proof.
-/
import Derived.Test.YtlakpndhhelliaaGreatDoorPA
import Derived.Test.YtlakpndhhelliaaGreatDoorAA
set_option maxHeartbeats 16000000
set_option maxRecDepth 100000
set_option linter.unusedVariables false
set_option linter.unusedSimpArgs false
namespace Go.Proofs.YtlakpndhhelliaaGreatDoor.K
open Go.RowKit
theorem I5 (kind topo:Int) (w:World):Calls Tryz.prog 74 #[.int .i64 kind,.int .i64 topo] w fun r w'=>r=.returned (.bool (C6 kind topo))∧w=w':=by
 have e:∀a b:Int,(a==b)=decide (a=b):=fun a b=>by rw [Bool.eq_iff_iff]; simp
 by_cases f:kind=1
 ·subst f
  go_enter Tryz.func74,Tryz.ntmps74
  go_wp2
  go_ret
  exact⟨by simp [C6],rfl⟩
 by_cases h:kind=2
 ·subst h
  go_enter Tryz.func74,Tryz.ntmps74
  go_wp2
  go_ret
  exact⟨by simp [C6],rfl⟩
 by_cases y:kind=3
 ·subst y
  go_enter Tryz.func74,Tryz.ntmps74
  go_wp2
  go_ret
  exact⟨by simp [C6],rfl⟩
 by_cases z:kind=4
 ·subst z
  go_enter Tryz.func74,Tryz.ntmps74
  go_wp2
  go_ret
  exact⟨by simp [C6,bne,e],rfl⟩
 by_cases C:kind=5
 ·subst C
  go_enter Tryz.func74,Tryz.ntmps74
  go_wp2
  go_ret
  exact⟨by simp [C6,bne,e],rfl⟩
 ·have F:(kind==1)=false:=by simp [f]
  have G:(kind==2)=false:=by simp [h]
  have I:(kind==3)=false:=by simp [y]
  have J:(kind==4)=false:=by simp [z]
  have M:(kind==5)=false:=by simp [C]
  have E:=hide (show C6 kind topo=false by simp [C6,f,h,y,z,C])
  clear f h y z C e
  go_enter Tryz.func74,Tryz.ntmps74
  go_wp2
  go_ret
  exact⟨by rw [E.out]; rfl,rfl⟩
def As.Small (r:As):Prop:=r.resp.length≤60∧r.guards.length≤60∧r.ex.length≤60∧r.fa.length≤60∧r.send.length≤60∧r.left.length≤60∧r.right.length≤60∧r.parent.length≤60
theorem QY {w:World} {cs:List Value} {r:As} {topo:Int} (h:AB w w.heap.size cs r) (G:r.Small) (y:r.kind=1):Calls Tryz.prog 75 #[.agg cs.toArray,.int .i64 topo] w (Ret fun v w'=>v=.bool (An topo r)∧Below w.heap.size w w'):=by
 obtain⟨V,W,Z,c2,A3,c3,A4,c4,A5,c5,A6,c6,A7,c7,A8,c8,rfl,-⟩:=h
 obtain⟨n1,n2,n3,n4,n5,n6,n7,n8⟩:=G
 have e1:(r.kind==1)=true:=by simp [y]
 by_cases hS:0<r.resp.length+r.left.length+r.right.length+r.parent.length
 ·have I:0<((r.resp.length:Int)+(r.left.length:Int)+(r.right.length:Int)+(r.parent.length:Int):Int):=by omega
  have f:=hide (show An topo r=true from by
   simp [An,AQ,y,hS]
   try omega)
  go_enter Tryz.func75,Tryz.ntmps75
  go_wp2_with fail
  go_ret
  exact⟨by rw [f.out]; rfl,(Below.refl _ _).alloc (Nat.le_refl _) _⟩
 have I:¬0<((r.resp.length:Int)+(r.left.length:Int)+(r.right.length:Int)+(r.parent.length:Int):Int):=by omega
 by_cases z:r.pf=0
 case neg=>
  have J:(r.pf != 0)=true:=by simp [z]
  have f:=hide (show An topo r=true from by
   simp [An,AQ,y,hS,z]
   try omega)
  go_enter Tryz.func75,Tryz.ntmps75
  go_wp2_with fail
  go_ret
  exact⟨by rw [f.out]; rfl,(Below.refl _ _).alloc (Nat.le_refl _) _⟩
 have J:(r.pf != 0)=false:=by simp [z]
 by_cases C:r.pt=0
 case neg=>
  have M:(r.pt != 0)=true:=by simp [C]
  have f:=hide (show An topo r=true from by
   simp [An,AQ,y,hS,z,C]
   try omega)
  go_enter Tryz.func75,Tryz.ntmps75
  go_wp2_with fail
  go_ret
  exact⟨by rw [f.out]; rfl,(Below.refl _ _).alloc (Nat.le_refl _) _⟩
 have M:(r.pt != 0)=false:=by simp [C]
 by_cases E:r.at_=0
 case neg=>
  have O:(r.at_ != 0)=true:=by simp [E]
  have f:=hide (show An topo r=true from by
   simp [An,AQ,y,hS,z,C,E]
   try omega)
  go_enter Tryz.func75,Tryz.ntmps75
  go_wp2_with fail
  go_ret
  exact⟨by rw [f.out]; rfl,(Below.refl _ _).alloc (Nat.le_refl _) _⟩
 have O:(r.at_ != 0)=false:=by simp [E]
 by_cases F:r.dir=0
 case neg=>
  have U:(r.dir != 0)=true:=by simp [F]
  have f:=hide (show An topo r=true from by
   simp [An,AQ,y,hS,z,C,E,F]
   try omega)
  go_enter Tryz.func75,Tryz.ntmps75
  go_wp2_with fail
  go_ret
  exact⟨by rw [f.out]; rfl,(Below.refl _ _).alloc (Nat.le_refl _) _⟩
 have U:(r.dir != 0)=false:=by simp [F]
 have f:=hide (show An topo r=false from by
  simp [An,AQ,y,hS,z,C,E,F]
  try omega)
 go_enter Tryz.func75,Tryz.ntmps75
 go_wp2_with fail
 go_ret
 exact⟨by rw [f.out]; rfl,(Below.refl _ _).alloc (Nat.le_refl _) _⟩
theorem Nd {w:World} {cs:List Value} {r:As} {topo:Int} (h:AB w w.heap.size cs r) (F:r.Small) (y:r.kind=2):Calls Tryz.prog 75 #[.agg cs.toArray,.int .i64 topo] w (Ret fun v w'=>v=.bool (An topo r)∧Below w.heap.size w w'):=by
 obtain⟨O,U,V,c2,W,Z,A4,c4,A5,c5,A6,c6,A7,c7,A8,c8,rfl,-⟩:=h
 obtain⟨n1,n2,n3,n4,n5,n6,n7,n8⟩:=F
 have e1:(r.kind==1)=false:=by simp [y]
 have e2:(r.kind==2)=true:=by simp [y]
 by_cases z:0<r.resp.length
 ·have G:0<(r.resp.length:Int):=by omega
  have f:=hide (show An topo r=true from by
   simp [An,y,z])
  go_enter Tryz.func75,Tryz.ntmps75
  go_wp2_with fail
  go_ret
  exact⟨by rw [f.out]; rfl,(Below.refl _ _).alloc (Nat.le_refl _) _⟩
 have G:¬0<(r.resp.length:Int):=by omega
 by_cases hS:0<r.guards.length+r.ex.length+r.fa.length+r.send.length+r.left.length+r.right.length+r.parent.length
 ·have I:0<((r.guards.length:Int)+(r.ex.length:Int)+(r.fa.length:Int)+(r.send.length:Int)+(r.left.length:Int)+(r.right.length:Int)+(r.parent.length:Int):Int):=by omega
  have f:=hide (show An topo r=true from by
   simp [An,AQ,y,z,hS]
   try omega)
  go_enter Tryz.func75,Tryz.ntmps75
  go_wp2_with fail
  go_ret
  exact⟨by rw [f.out]; rfl,(Below.refl _ _).alloc (Nat.le_refl _) _⟩
 have I:¬0<((r.guards.length:Int)+(r.ex.length:Int)+(r.fa.length:Int)+(r.send.length:Int)+(r.left.length:Int)+(r.right.length:Int)+(r.parent.length:Int):Int):=by omega
 by_cases C:r.at_=0
 case neg=>
  have J:(r.at_ != 0)=true:=by simp [C]
  have f:=hide (show An topo r=true from by
   simp [An,AQ,y,z,hS,C]
   try omega)
  go_enter Tryz.func75,Tryz.ntmps75
  go_wp2_with fail
  go_ret
  exact⟨by rw [f.out]; rfl,(Below.refl _ _).alloc (Nat.le_refl _) _⟩
 have J:(r.at_ != 0)=false:=by simp [C]
 by_cases E:r.dir=0
 case neg=>
  have M:(r.dir != 0)=true:=by simp [E]
  have f:=hide (show An topo r=true from by
   simp [An,AQ,y,z,hS,C,E]
   try omega)
  go_enter Tryz.func75,Tryz.ntmps75
  go_wp2_with fail
  go_ret
  exact⟨by rw [f.out]; rfl,(Below.refl _ _).alloc (Nat.le_refl _) _⟩
 have M:(r.dir != 0)=false:=by simp [E]
 have f:=hide (show An topo r=false from by
  simp [An,AQ,y,z,hS,C,E]
  try omega)
 go_enter Tryz.func75,Tryz.ntmps75
 go_wp2_with fail
 go_ret
 exact⟨by rw [f.out]; rfl,(Below.refl _ _).alloc (Nat.le_refl _) _⟩
theorem NU {w:World} {cs:List Value} {r:As} {topo:Int} (h:AB w w.heap.size cs r) (G:r.Small) (y:r.kind=3):Calls Tryz.prog 75 #[.agg cs.toArray,.int .i64 topo] w (Ret fun v w'=>v=.bool (An topo r)∧Below w.heap.size w w'):=by
 obtain⟨V,W,Z,c2,A3,c3,A4,c4,A5,c5,A6,c6,A7,c7,A8,c8,rfl,-⟩:=h
 obtain⟨n1,n2,n3,n4,n5,n6,n7,n8⟩:=G
 have e1:(r.kind==1)=false:=by simp [y]
 have e2:(r.kind==2)=false:=by simp [y]
 have e3:(r.kind==3)=true:=by simp [y]
 by_cases hS:0<r.guards.length+r.ex.length+r.fa.length+r.send.length+r.left.length+r.right.length+r.parent.length
 ·have I:0<((r.guards.length:Int)+(r.ex.length:Int)+(r.fa.length:Int)+(r.send.length:Int)+(r.left.length:Int)+(r.right.length:Int)+(r.parent.length:Int):Int):=by omega
  have f:=hide (show An topo r=true from by
   simp [An,AQ,y,hS]
   try omega)
  go_enter Tryz.func75,Tryz.ntmps75
  go_wp2_with fail
  go_ret
  exact⟨by rw [f.out]; rfl,(Below.refl _ _).alloc (Nat.le_refl _) _⟩
 have I:¬0<((r.guards.length:Int)+(r.ex.length:Int)+(r.fa.length:Int)+(r.send.length:Int)+(r.left.length:Int)+(r.right.length:Int)+(r.parent.length:Int):Int):=by omega
 by_cases z:r.pf=0
 case neg=>
  have J:(r.pf != 0)=true:=by simp [z]
  have f:=hide (show An topo r=true from by
   simp [An,AQ,y,hS,z]
   try omega)
  go_enter Tryz.func75,Tryz.ntmps75
  go_wp2_with fail
  go_ret
  exact⟨by rw [f.out]; rfl,(Below.refl _ _).alloc (Nat.le_refl _) _⟩
 have J:(r.pf != 0)=false:=by simp [z]
 by_cases C:r.pt=0
 case neg=>
  have M:(r.pt != 0)=true:=by simp [C]
  have f:=hide (show An topo r=true from by
   simp [An,AQ,y,hS,z,C]
   try omega)
  go_enter Tryz.func75,Tryz.ntmps75
  go_wp2_with fail
  go_ret
  exact⟨by rw [f.out]; rfl,(Below.refl _ _).alloc (Nat.le_refl _) _⟩
 have M:(r.pt != 0)=false:=by simp [C]
 by_cases E:r.at_=0
 case neg=>
  have O:(r.at_ != 0)=true:=by simp [E]
  have f:=hide (show An topo r=true from by
   simp [An,AQ,y,hS,z,C,E]
   try omega)
  go_enter Tryz.func75,Tryz.ntmps75
  go_wp2_with fail
  go_ret
  exact⟨by rw [f.out]; rfl,(Below.refl _ _).alloc (Nat.le_refl _) _⟩
 have O:(r.at_ != 0)=false:=by simp [E]
 by_cases F:r.dir=0
 case neg=>
  have U:(r.dir != 0)=true:=by simp [F]
  have f:=hide (show An topo r=true from by
   simp [An,AQ,y,hS,z,C,E,F]
   try omega)
  go_enter Tryz.func75,Tryz.ntmps75
  go_wp2_with fail
  go_ret
  exact⟨by rw [f.out]; rfl,(Below.refl _ _).alloc (Nat.le_refl _) _⟩
 have U:(r.dir != 0)=false:=by simp [F]
 have f:=hide (show An topo r=false from by
  simp [An,AQ,y,hS,z,C,E,F]
  try omega)
 go_enter Tryz.func75,Tryz.ntmps75
 go_wp2_with fail
 go_ret
 exact⟨by rw [f.out]; rfl,(Below.refl _ _).alloc (Nat.le_refl _) _⟩
theorem PC {w:World} {cs:List Value} {r:As} {topo:Int} (h:AB w w.heap.size cs r) (I:r.Small) (y:r.kind=4) (ht:topo=4):Calls Tryz.prog 75 #[.agg cs.toArray,.int .i64 topo] w (Ret fun v w'=>v=.bool (An topo r)∧Below w.heap.size w w'):=by
 obtain⟨Z,c1,A2,c2,A3,c3,A4,c4,A5,c5,A6,c6,A7,c7,A8,c8,rfl,-⟩:=h
 obtain⟨n1,n2,n3,n4,n5,n6,n7,n8⟩:=I
 have e1:(r.kind==1)=false:=by simp [y]
 have e2:(r.kind==2)=false:=by simp [y]
 have e3:(r.kind==3)=false:=by simp [y]
 have e4:(r.kind==4)=true:=by simp [y]
 subst ht
 by_cases hS:0<r.resp.length+r.guards.length+r.ex.length+r.fa.length+r.send.length
 ·have J:0<((r.resp.length:Int)+(r.guards.length:Int)+(r.ex.length:Int)+(r.fa.length:Int)+(r.send.length:Int):Int):=by omega
  have f:=hide (show An 4 r=true from by
   simp [An,AQ,y,hS]
   try omega)
  go_enter Tryz.func75,Tryz.ntmps75
  go_wp2_with fail
  go_ret
  exact⟨by rw [f.out]; rfl,(Below.refl _ _).alloc (Nat.le_refl _) _⟩
 have J:¬0<((r.resp.length:Int)+(r.guards.length:Int)+(r.ex.length:Int)+(r.fa.length:Int)+(r.send.length:Int):Int):=by omega
 by_cases z:r.pf=0
 case neg=>
  have M:(r.pf != 0)=true:=by simp [z]
  have f:=hide (show An 4 r=true from by
   simp [An,AQ,y,hS,z]
   try omega)
  go_enter Tryz.func75,Tryz.ntmps75
  go_wp2_with fail
  go_ret
  exact⟨by rw [f.out]; rfl,(Below.refl _ _).alloc (Nat.le_refl _) _⟩
 have M:(r.pf != 0)=false:=by simp [z]
 by_cases C:r.pt=0
 case neg=>
  have O:(r.pt != 0)=true:=by simp [C]
  have f:=hide (show An 4 r=true from by
   simp [An,AQ,y,hS,z,C]
   try omega)
  go_enter Tryz.func75,Tryz.ntmps75
  go_wp2_with fail
  go_ret
  exact⟨by rw [f.out]; rfl,(Below.refl _ _).alloc (Nat.le_refl _) _⟩
 have O:(r.pt != 0)=false:=by simp [C]
 by_cases E:r.dir=0
 case neg=>
  have U:(r.dir != 0)=true:=by simp [E]
  have f:=hide (show An 4 r=true from by
   simp [An,AQ,y,hS,z,C,E]
   try omega)
  go_enter Tryz.func75,Tryz.ntmps75
  go_wp2_with fail
  go_ret
  exact⟨by rw [f.out]; rfl,(Below.refl _ _).alloc (Nat.le_refl _) _⟩
 have U:(r.dir != 0)=false:=by simp [E]
 by_cases F:r.rd= -1
 case neg=>
  have V:(r.rd != -1)=true:=by simp [F]
  have f:=hide (show An 4 r=true from by
   simp [An,AQ,y,hS,z,C,E,F]
   try omega)
  go_enter Tryz.func75,Tryz.ntmps75
  go_wp2_with fail
  go_ret
  exact⟨by rw [f.out]; rfl,(Below.refl _ _).alloc (Nat.le_refl _) _⟩
 have V:(r.rd != -1)=false:=by simp [F]
 by_cases G:r.wr= -1
 case neg=>
  have W:(r.wr != -1)=true:=by simp [G]
  have f:=hide (show An 4 r=true from by
   simp [An,AQ,y,hS,z,C,E,F,G]
   try omega)
  go_enter Tryz.func75,Tryz.ntmps75
  go_wp2_with fail
  go_ret
  exact⟨by rw [f.out]; rfl,(Below.refl _ _).alloc (Nat.le_refl _) _⟩
 have W:(r.wr != -1)=false:=by simp [G]
 have f:=hide (show An 4 r=false from by
  simp [An,AQ,y,hS,z,C,E,F,G]
  try omega)
 go_enter Tryz.func75,Tryz.ntmps75
 go_wp2_with fail
 go_ret
 exact⟨by rw [f.out]; rfl,(Below.refl _ _).alloc (Nat.le_refl _) _⟩
theorem Rv {w:World} {cs:List Value} {r:As} {topo:Int} (h:AB w w.heap.size cs r) (I:r.Small) (y:r.kind=4) (ht:¬topo=4):Calls Tryz.prog 75 #[.agg cs.toArray,.int .i64 topo] w (Ret fun v w'=>v=.bool (An topo r)∧Below w.heap.size w w'):=by
 obtain⟨Z,c1,A2,c2,A3,c3,A4,c4,A5,c5,A6,c6,A7,c7,A8,c8,rfl,-⟩:=h
 obtain⟨n1,n2,n3,n4,n5,n6,n7,n8⟩:=I
 have e1:(r.kind==1)=false:=by simp [y]
 have e2:(r.kind==2)=false:=by simp [y]
 have e3:(r.kind==3)=false:=by simp [y]
 have e4:(r.kind==4)=true:=by simp [y]
 have et:(topo==4)=false:=by simp [ht]
 by_cases hS:0<r.resp.length+r.guards.length+r.ex.length+r.fa.length+r.send.length+r.parent.length
 ·have J:0<((r.resp.length:Int)+(r.guards.length:Int)+(r.ex.length:Int)+(r.fa.length:Int)+(r.send.length:Int)+(r.parent.length:Int):Int):=by omega
  have f:=hide (show An topo r=true from by
   simp [An,AQ,y,ht,hS]
   try omega)
  go_enter Tryz.func75,Tryz.ntmps75
  go_wp2_with fail
  go_ret
  exact⟨by rw [f.out]; rfl,(Below.refl _ _).alloc (Nat.le_refl _) _⟩
 have J:¬0<((r.resp.length:Int)+(r.guards.length:Int)+(r.ex.length:Int)+(r.fa.length:Int)+(r.send.length:Int)+(r.parent.length:Int):Int):=by omega
 by_cases z:r.pf=0
 case neg=>
  have M:(r.pf != 0)=true:=by simp [z]
  have f:=hide (show An topo r=true from by
   simp [An,AQ,y,ht,hS,z]
   try omega)
  go_enter Tryz.func75,Tryz.ntmps75
  go_wp2_with fail
  go_ret
  exact⟨by rw [f.out]; rfl,(Below.refl _ _).alloc (Nat.le_refl _) _⟩
 have M:(r.pf != 0)=false:=by simp [z]
 by_cases C:r.pt=0
 case neg=>
  have O:(r.pt != 0)=true:=by simp [C]
  have f:=hide (show An topo r=true from by
   simp [An,AQ,y,ht,hS,z,C]
   try omega)
  go_enter Tryz.func75,Tryz.ntmps75
  go_wp2_with fail
  go_ret
  exact⟨by rw [f.out]; rfl,(Below.refl _ _).alloc (Nat.le_refl _) _⟩
 have O:(r.pt != 0)=false:=by simp [C]
 by_cases E:r.dir=0
 case neg=>
  have U:(r.dir != 0)=true:=by simp [E]
  have f:=hide (show An topo r=true from by
   simp [An,AQ,y,ht,hS,z,C,E]
   try omega)
  go_enter Tryz.func75,Tryz.ntmps75
  go_wp2_with fail
  go_ret
  exact⟨by rw [f.out]; rfl,(Below.refl _ _).alloc (Nat.le_refl _) _⟩
 have U:(r.dir != 0)=false:=by simp [E]
 by_cases F:r.rd= -1
 case neg=>
  have V:(r.rd != -1)=true:=by simp [F]
  have f:=hide (show An topo r=true from by
   simp [An,AQ,y,ht,hS,z,C,E,F]
   try omega)
  go_enter Tryz.func75,Tryz.ntmps75
  go_wp2_with fail
  go_ret
  exact⟨by rw [f.out]; rfl,(Below.refl _ _).alloc (Nat.le_refl _) _⟩
 have V:(r.rd != -1)=false:=by simp [F]
 by_cases G:r.wr= -1
 case neg=>
  have W:(r.wr != -1)=true:=by simp [G]
  have f:=hide (show An topo r=true from by
   simp [An,AQ,y,ht,hS,z,C,E,F,G]
   try omega)
  go_enter Tryz.func75,Tryz.ntmps75
  go_wp2_with fail
  go_ret
  exact⟨by rw [f.out]; rfl,(Below.refl _ _).alloc (Nat.le_refl _) _⟩
 have W:(r.wr != -1)=false:=by simp [G]
 have f:=hide (show An topo r=false from by
  simp [An,AQ,y,ht,hS,z,C,E,F,G]
  try omega)
 go_enter Tryz.func75,Tryz.ntmps75
 go_wp2_with fail
 go_ret
 exact⟨by rw [f.out]; rfl,(Below.refl _ _).alloc (Nat.le_refl _) _⟩
theorem LO {w:World} {cs:List Value} {r:As} {topo:Int} (h:AB w w.heap.size cs r) (F:r.Small) (f:r.kind=5):Calls Tryz.prog 75 #[.agg cs.toArray,.int .i64 topo] w (Ret fun v w'=>v=.bool (An topo r)∧Below w.heap.size w w'):=by
 obtain⟨O,U,V,c2,W,Z,A4,c4,A5,c5,A6,c6,A7,c7,A8,c8,rfl,-⟩:=h
 obtain⟨n1,n2,n3,n4,n5,n6,n7,n8⟩:=F
 have e1:(r.kind==1)=false:=by simp [f]
 have e2:(r.kind==2)=false:=by simp [f]
 have e3:(r.kind==3)=false:=by simp [f]
 have e4:(r.kind==4)=false:=by simp [f]
 have e5:(r.kind==5)=true:=by simp [f]
 by_cases hS:0<r.resp.length+r.guards.length+r.ex.length+r.fa.length+r.send.length+r.left.length+r.right.length+r.parent.length
 ·have G:0<((r.resp.length:Int)+(r.guards.length:Int)+(r.ex.length:Int)+(r.fa.length:Int)+(r.send.length:Int)+(r.left.length:Int)+(r.right.length:Int)+(r.parent.length:Int):Int):=by omega
  have y:=hide (show An topo r=true from by
   simp [An,AQ,f,hS]
   try omega)
  go_enter Tryz.func75,Tryz.ntmps75
  go_wp2_with fail
  go_ret
  exact⟨by rw [y.out]; rfl,(Below.refl _ _).alloc (Nat.le_refl _) _⟩
 have G:¬0<((r.resp.length:Int)+(r.guards.length:Int)+(r.ex.length:Int)+(r.fa.length:Int)+(r.send.length:Int)+(r.left.length:Int)+(r.right.length:Int)+(r.parent.length:Int):Int):=by omega
 by_cases z:r.at_=0
 case neg=>
  have I:(r.at_ != 0)=true:=by simp [z]
  have y:=hide (show An topo r=true from by
   simp [An,AQ,f,hS,z]
   try omega)
  go_enter Tryz.func75,Tryz.ntmps75
  go_wp2_with fail
  go_ret
  exact⟨by rw [y.out]; rfl,(Below.refl _ _).alloc (Nat.le_refl _) _⟩
 have I:(r.at_ != 0)=false:=by simp [z]
 by_cases C:r.rd= -1
 case neg=>
  have J:(r.rd != -1)=true:=by simp [C]
  have y:=hide (show An topo r=true from by
   simp [An,AQ,f,hS,z,C]
   try omega)
  go_enter Tryz.func75,Tryz.ntmps75
  go_wp2_with fail
  go_ret
  exact⟨by rw [y.out]; rfl,(Below.refl _ _).alloc (Nat.le_refl _) _⟩
 have J:(r.rd != -1)=false:=by simp [C]
 by_cases E:r.wr= -1
 case neg=>
  have M:(r.wr != -1)=true:=by simp [E]
  have y:=hide (show An topo r=true from by
   simp [An,AQ,f,hS,z,C,E]
   try omega)
  go_enter Tryz.func75,Tryz.ntmps75
  go_wp2_with fail
  go_ret
  exact⟨by rw [y.out]; rfl,(Below.refl _ _).alloc (Nat.le_refl _) _⟩
 have M:(r.wr != -1)=false:=by simp [E]
 have y:=hide (show An topo r=false from by
  simp [An,AQ,f,hS,z,C,E]
  try omega)
 go_enter Tryz.func75,Tryz.ntmps75
 go_wp2_with fail
 go_ret
 exact⟨by rw [y.out]; rfl,(Below.refl _ _).alloc (Nat.le_refl _) _⟩
theorem PI {w:World} {cs:List Value} {r:As} {topo:Int} (h:AB w w.heap.size cs r) (V:r.Small) (y:¬r.kind=1) (z:¬r.kind=2) (C:¬r.kind=3) (E:¬r.kind=4) (F:¬r.kind=5):Calls Tryz.prog 75 #[.agg cs.toArray,.int .i64 topo] w (Ret fun v w'=>v=.bool (An topo r)∧Below w.heap.size w w'):=by
 obtain⟨A1,c1,A2,c2,A3,c3,A4,c4,A5,c5,A6,c6,A7,c7,A8,c8,rfl,-⟩:=h
 obtain⟨n1,n2,n3,n4,n5,n6,n7,n8⟩:=V
 have e1:(r.kind==1)=false:=by simp [y]
 have e2:(r.kind==2)=false:=by simp [z]
 have e3:(r.kind==3)=false:=by simp [C]
 have e4:(r.kind==4)=false:=by simp [E]
 have e5:(r.kind==5)=false:=by simp [F]
 by_cases hS:0<r.resp.length+r.guards.length+r.ex.length+r.fa.length+r.send.length+r.left.length+r.right.length+r.parent.length
 ·have W:0<((r.resp.length:Int)+(r.guards.length:Int)+(r.ex.length:Int)+(r.fa.length:Int)+(r.send.length:Int)+(r.left.length:Int)+(r.right.length:Int)+(r.parent.length:Int):Int):=by omega
  have f:=hide (show An topo r=true from by
   simp [An,AQ,y,z,C,E,F,hS]
   try omega)
  go_enter Tryz.func75,Tryz.ntmps75
  go_wp2_with fail
  go_ret
  exact⟨by rw [f.out]; rfl,(Below.refl _ _).alloc (Nat.le_refl _) _⟩
 have W:¬0<((r.resp.length:Int)+(r.guards.length:Int)+(r.ex.length:Int)+(r.fa.length:Int)+(r.send.length:Int)+(r.left.length:Int)+(r.right.length:Int)+(r.parent.length:Int):Int):=by omega
 by_cases G:r.pf=0
 case neg=>
  have Z:(r.pf != 0)=true:=by simp [G]
  have f:=hide (show An topo r=true from by
   simp [An,AQ,y,z,C,E,F,hS,G]
   try omega)
  go_enter Tryz.func75,Tryz.ntmps75
  go_wp2_with fail
  go_ret
  exact⟨by rw [f.out]; rfl,(Below.refl _ _).alloc (Nat.le_refl _) _⟩
 have Z:(r.pf != 0)=false:=by simp [G]
 by_cases I:r.pt=0
 case neg=>
  have a2:(r.pt != 0)=true:=by simp [I]
  have f:=hide (show An topo r=true from by
   simp [An,AQ,y,z,C,E,F,hS,G,I]
   try omega)
  go_enter Tryz.func75,Tryz.ntmps75
  go_wp2_with fail
  go_ret
  exact⟨by rw [f.out]; rfl,(Below.refl _ _).alloc (Nat.le_refl _) _⟩
 have a2:(r.pt != 0)=false:=by simp [I]
 by_cases J:r.at_=0
 case neg=>
  have a3:(r.at_ != 0)=true:=by simp [J]
  have f:=hide (show An topo r=true from by
   simp [An,AQ,y,z,C,E,F,hS,G,I,J]
   try omega)
  go_enter Tryz.func75,Tryz.ntmps75
  go_wp2_with fail
  go_ret
  exact⟨by rw [f.out]; rfl,(Below.refl _ _).alloc (Nat.le_refl _) _⟩
 have a3:(r.at_ != 0)=false:=by simp [J]
 by_cases M:r.dir=0
 case neg=>
  have a4:(r.dir != 0)=true:=by simp [M]
  have f:=hide (show An topo r=true from by
   simp [An,AQ,y,z,C,E,F,hS,G,I,J,M]
   try omega)
  go_enter Tryz.func75,Tryz.ntmps75
  go_wp2_with fail
  go_ret
  exact⟨by rw [f.out]; rfl,(Below.refl _ _).alloc (Nat.le_refl _) _⟩
 have a4:(r.dir != 0)=false:=by simp [M]
 by_cases O:r.rd= -1
 case neg=>
  have a5:(r.rd != -1)=true:=by simp [O]
  have f:=hide (show An topo r=true from by
   simp [An,AQ,y,z,C,E,F,hS,G,I,J,M,O]
   try omega)
  go_enter Tryz.func75,Tryz.ntmps75
  go_wp2_with fail
  go_ret
  exact⟨by rw [f.out]; rfl,(Below.refl _ _).alloc (Nat.le_refl _) _⟩
 have a5:(r.rd != -1)=false:=by simp [O]
 by_cases U:r.wr= -1
 case neg=>
  have a6:(r.wr != -1)=true:=by simp [U]
  have f:=hide (show An topo r=true from by
   simp [An,AQ,y,z,C,E,F,hS,G,I,J,M,O,U]
   try omega)
  go_enter Tryz.func75,Tryz.ntmps75
  go_wp2_with fail
  go_ret
  exact⟨by rw [f.out]; rfl,(Below.refl _ _).alloc (Nat.le_refl _) _⟩
 have a6:(r.wr != -1)=false:=by simp [U]
 have f:=hide (show An topo r=false from by
  simp [An,AQ,y,z,C,E,F,hS,G,I,J,M,O,U]
  try omega)
 go_enter Tryz.func75,Tryz.ntmps75
 go_wp2_with fail
 go_ret
 exact⟨by rw [f.out]; rfl,(Below.refl _ _).alloc (Nat.le_refl _) _⟩
theorem KV {w:World} {cs:List Value} {r:As} {topo:Int} (h:AB w w.heap.size cs r) (f:r.Small):Calls Tryz.prog 75 #[.agg cs.toArray,.int .i64 topo] w (Ret fun v w'=>v=.bool (An topo r)∧Below w.heap.size w w'):=by
 by_cases z:r.kind=1
 ·exact QY h f z
 by_cases C:r.kind=2
 ·exact Nd h f C
 by_cases E:r.kind=3
 ·exact NU h f E
 by_cases y:r.kind=4
 ·by_cases ht:topo=4
  ·exact PC h f y ht
  ·exact Rv h f y ht
 by_cases F:r.kind=5
 ·exact LO h f F
 ·exact PI h f z C E y F
end Go.Proofs.YtlakpndhhelliaaGreatDoor.K
