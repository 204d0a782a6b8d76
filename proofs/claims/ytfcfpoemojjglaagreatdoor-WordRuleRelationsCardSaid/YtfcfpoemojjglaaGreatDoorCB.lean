/-
  Part CB of a proof.
-/
import Derived.Test.YtfcfpoemojjglaaGreatDoorPA
import Derived.Test.YtfcfpoemojjglaaGreatDoorAA
set_option maxHeartbeats 16000000
set_option maxRecDepth 100000
set_option linter.unusedVariables false
set_option linter.unusedSimpArgs false
namespace Go.Proofs.YtfcfpoemojjglaaGreatDoor.K
open Go.RowKit
theorem Js (kind topo:Int) (w:World):Calls Tryz.prog 208 #[.int .i64 kind,.int .i64 topo] w fun r w'=>r=.returned (.bool (Dx kind topo))∧w=w':=by
 have e:∀a b:Int,(a==b)=decide (a=b):=fun a b=>by rw [Bool.eq_iff_iff]; simp
 by_cases h1:kind=1
 ·subst h1
  go_enter Tryz.func208,Tryz.ntmps208
  go_wp2
  go_ret
  exact⟨by simp [Dx],rfl⟩
 by_cases h:kind=2
 ·subst h
  go_enter Tryz.func208,Tryz.ntmps208
  go_wp2
  go_ret
  exact⟨by simp [Dx],rfl⟩
 by_cases x:kind=3
 ·subst x
  go_enter Tryz.func208,Tryz.ntmps208
  go_wp2
  go_ret
  exact⟨by simp [Dx],rfl⟩
 by_cases y:kind=4
 ·subst y
  go_enter Tryz.func208,Tryz.ntmps208
  go_wp2
  go_ret
  exact⟨by simp [Dx,bne,e],rfl⟩
 by_cases C:kind=5
 ·subst C
  go_enter Tryz.func208,Tryz.ntmps208
  go_wp2
  go_ret
  exact⟨by simp [Dx,bne,e],rfl⟩
 ·have F:(kind==1)=false:=by simp [h1]
  have G:(kind==2)=false:=by simp [h]
  have I:(kind==3)=false:=by simp [x]
  have e4:(kind==4)=false:=by simp [y]
  have e5:(kind==5)=false:=by simp [C]
  have E:=hide (show Dx kind topo=false by simp [Dx,h1,h,x,y,C])
  clear h1 h x y C e
  go_enter Tryz.func208,Tryz.ntmps208
  go_wp2
  go_ret
  exact⟨by rw [E.out]; rfl,rfl⟩
def Az.Small (r:Az):Prop:=r.resp.length≤60∧r.guards.length≤60∧r.ex.length≤60∧r.fa.length≤60∧r.send.length≤60∧r.left.length≤60∧r.right.length≤60∧r.parent.length≤60
theorem Tx {w:World} {cs:List Value} {r:Az} {topo:Int} (h:AW w w.heap.size cs r) (V:r.Small) (C:r.kind=1):Calls Tryz.prog 209 #[.agg cs.toArray,.int .i64 topo] w (Ret fun v w'=>v=.bool (As topo r)∧Below w.heap.size w w'):=by
 obtain⟨A1,c1,A2,c2,A3,c3,W,c4,Z,c5,A6,c6,A7,c7,A8,c8,rfl,-⟩:=h
 obtain⟨n1,n2,n3,n4,n5,n6,n7,n8⟩:=V
 have e1:(r.kind==1)=true:=by simp [C]
 by_cases hS:0<r.resp.length+r.left.length+r.right.length+r.parent.length
 ·have I:0<((r.resp.length:Int)+(r.left.length:Int)+(r.right.length:Int)+(r.parent.length:Int):Int):=by omega
  have x:=hide (show As topo r=true from by
   simp [As,Be,C,hS]
   try omega)
  go_enter Tryz.func209,Tryz.ntmps209
  go_wp2_with fail
  go_ret
  exact⟨by rw [x.out]; rfl,(Below.refl _ _).alloc (Nat.le_refl _) _⟩
 have I:¬0<((r.resp.length:Int)+(r.left.length:Int)+(r.right.length:Int)+(r.parent.length:Int):Int):=by omega
 by_cases y:r.pf=0
 case neg=>
  have O:(r.pf != 0)=true:=by simp [y]
  have x:=hide (show As topo r=true from by
   simp [As,Be,C,hS,y]
   try omega)
  go_enter Tryz.func209,Tryz.ntmps209
  go_wp2_with fail
  go_ret
  exact⟨by rw [x.out]; rfl,(Below.refl _ _).alloc (Nat.le_refl _) _⟩
 have O:(r.pf != 0)=false:=by simp [y]
 by_cases E:r.pt=0
 case neg=>
  have U:(r.pt != 0)=true:=by simp [E]
  have x:=hide (show As topo r=true from by
   simp [As,Be,C,hS,y,E]
   try omega)
  go_enter Tryz.func209,Tryz.ntmps209
  go_wp2_with fail
  go_ret
  exact⟨by rw [x.out]; rfl,(Below.refl _ _).alloc (Nat.le_refl _) _⟩
 have U:(r.pt != 0)=false:=by simp [E]
 by_cases F:r.at_=0
 case neg=>
  have J:(r.at_ != 0)=true:=by simp [F]
  have x:=hide (show As topo r=true from by
   simp [As,Be,C,hS,y,E,F]
   try omega)
  go_enter Tryz.func209,Tryz.ntmps209
  go_wp2_with fail
  go_ret
  exact⟨by rw [x.out]; rfl,(Below.refl _ _).alloc (Nat.le_refl _) _⟩
 have J:(r.at_ != 0)=false:=by simp [F]
 by_cases G:r.dir=0
 case neg=>
  have M:(r.dir != 0)=true:=by simp [G]
  have x:=hide (show As topo r=true from by
   simp [As,Be,C,hS,y,E,F,G]
   try omega)
  go_enter Tryz.func209,Tryz.ntmps209
  go_wp2_with fail
  go_ret
  exact⟨by rw [x.out]; rfl,(Below.refl _ _).alloc (Nat.le_refl _) _⟩
 have M:(r.dir != 0)=false:=by simp [G]
 have x:=hide (show As topo r=false from by
  simp [As,Be,C,hS,y,E,F,G]
  try omega)
 go_enter Tryz.func209,Tryz.ntmps209
 go_wp2_with fail
 go_ret
 exact⟨by rw [x.out]; rfl,(Below.refl _ _).alloc (Nat.le_refl _) _⟩
theorem Ty {w:World} {cs:List Value} {r:Az} {topo:Int} (h:AW w w.heap.size cs r) (O:r.Small) (y:r.kind=2):Calls Tryz.prog 209 #[.agg cs.toArray,.int .i64 topo] w (Ret fun v w'=>v=.bool (As topo r)∧Below w.heap.size w w'):=by
 obtain⟨A1,c1,A2,c2,A3,c3,U,c4,V,c5,W,c6,A7,c7,Z,c8,rfl,-⟩:=h
 obtain⟨n1,n2,n3,n4,n5,n6,n7,n8⟩:=O
 have e1:(r.kind==1)=false:=by simp [y]
 have e2:(r.kind==2)=true:=by simp [y]
 by_cases E:0<r.resp.length
 ·have M:0<(r.resp.length:Int):=by omega
  have x:=hide (show As topo r=true from by
   simp [As,y,E])
  go_enter Tryz.func209,Tryz.ntmps209
  go_wp2_with fail
  go_ret
  exact⟨by rw [x.out]; rfl,(Below.refl _ _).alloc (Nat.le_refl _) _⟩
 have M:¬0<(r.resp.length:Int):=by omega
 by_cases hS:0<r.guards.length+r.ex.length+r.fa.length+r.send.length+r.left.length+r.right.length+r.parent.length
 ·have G:0<((r.guards.length:Int)+(r.ex.length:Int)+(r.fa.length:Int)+(r.send.length:Int)+(r.left.length:Int)+(r.right.length:Int)+(r.parent.length:Int):Int):=by omega
  have x:=hide (show As topo r=true from by
   simp [As,Be,y,E,hS]
   try omega)
  go_enter Tryz.func209,Tryz.ntmps209
  go_wp2_with fail
  go_ret
  exact⟨by rw [x.out]; rfl,(Below.refl _ _).alloc (Nat.le_refl _) _⟩
 have G:¬0<((r.guards.length:Int)+(r.ex.length:Int)+(r.fa.length:Int)+(r.send.length:Int)+(r.left.length:Int)+(r.right.length:Int)+(r.parent.length:Int):Int):=by omega
 by_cases C:r.at_=0
 case neg=>
  have I:(r.at_ != 0)=true:=by simp [C]
  have x:=hide (show As topo r=true from by
   simp [As,Be,y,E,hS,C]
   try omega)
  go_enter Tryz.func209,Tryz.ntmps209
  go_wp2_with fail
  go_ret
  exact⟨by rw [x.out]; rfl,(Below.refl _ _).alloc (Nat.le_refl _) _⟩
 have I:(r.at_ != 0)=false:=by simp [C]
 by_cases F:r.dir=0
 case neg=>
  have J:(r.dir != 0)=true:=by simp [F]
  have x:=hide (show As topo r=true from by
   simp [As,Be,y,E,hS,C,F]
   try omega)
  go_enter Tryz.func209,Tryz.ntmps209
  go_wp2_with fail
  go_ret
  exact⟨by rw [x.out]; rfl,(Below.refl _ _).alloc (Nat.le_refl _) _⟩
 have J:(r.dir != 0)=false:=by simp [F]
 have x:=hide (show As topo r=false from by
  simp [As,Be,y,E,hS,C,F]
  try omega)
 go_enter Tryz.func209,Tryz.ntmps209
 go_wp2_with fail
 go_ret
 exact⟨by rw [x.out]; rfl,(Below.refl _ _).alloc (Nat.le_refl _) _⟩
theorem Tz {w:World} {cs:List Value} {r:Az} {topo:Int} (h:AW w w.heap.size cs r) (V:r.Small) (y:r.kind=3):Calls Tryz.prog 209 #[.agg cs.toArray,.int .i64 topo] w (Ret fun v w'=>v=.bool (As topo r)∧Below w.heap.size w w'):=by
 obtain⟨A1,c1,A2,c2,A3,c3,W,c4,Z,c5,A6,c6,A7,c7,A8,c8,rfl,-⟩:=h
 obtain⟨n1,n2,n3,n4,n5,n6,n7,n8⟩:=V
 have e1:(r.kind==1)=false:=by simp [y]
 have e2:(r.kind==2)=false:=by simp [y]
 have e3:(r.kind==3)=true:=by simp [y]
 by_cases hS:0<r.guards.length+r.ex.length+r.fa.length+r.send.length+r.left.length+r.right.length+r.parent.length
 ·have I:0<((r.guards.length:Int)+(r.ex.length:Int)+(r.fa.length:Int)+(r.send.length:Int)+(r.left.length:Int)+(r.right.length:Int)+(r.parent.length:Int):Int):=by omega
  have x:=hide (show As topo r=true from by
   simp [As,Be,y,hS]
   try omega)
  go_enter Tryz.func209,Tryz.ntmps209
  go_wp2_with fail
  go_ret
  exact⟨by rw [x.out]; rfl,(Below.refl _ _).alloc (Nat.le_refl _) _⟩
 have I:¬0<((r.guards.length:Int)+(r.ex.length:Int)+(r.fa.length:Int)+(r.send.length:Int)+(r.left.length:Int)+(r.right.length:Int)+(r.parent.length:Int):Int):=by omega
 by_cases C:r.pf=0
 case neg=>
  have O:(r.pf != 0)=true:=by simp [C]
  have x:=hide (show As topo r=true from by
   simp [As,Be,y,hS,C]
   try omega)
  go_enter Tryz.func209,Tryz.ntmps209
  go_wp2_with fail
  go_ret
  exact⟨by rw [x.out]; rfl,(Below.refl _ _).alloc (Nat.le_refl _) _⟩
 have O:(r.pf != 0)=false:=by simp [C]
 by_cases E:r.pt=0
 case neg=>
  have U:(r.pt != 0)=true:=by simp [E]
  have x:=hide (show As topo r=true from by
   simp [As,Be,y,hS,C,E]
   try omega)
  go_enter Tryz.func209,Tryz.ntmps209
  go_wp2_with fail
  go_ret
  exact⟨by rw [x.out]; rfl,(Below.refl _ _).alloc (Nat.le_refl _) _⟩
 have U:(r.pt != 0)=false:=by simp [E]
 by_cases F:r.at_=0
 case neg=>
  have J:(r.at_ != 0)=true:=by simp [F]
  have x:=hide (show As topo r=true from by
   simp [As,Be,y,hS,C,E,F]
   try omega)
  go_enter Tryz.func209,Tryz.ntmps209
  go_wp2_with fail
  go_ret
  exact⟨by rw [x.out]; rfl,(Below.refl _ _).alloc (Nat.le_refl _) _⟩
 have J:(r.at_ != 0)=false:=by simp [F]
 by_cases G:r.dir=0
 case neg=>
  have M:(r.dir != 0)=true:=by simp [G]
  have x:=hide (show As topo r=true from by
   simp [As,Be,y,hS,C,E,F,G]
   try omega)
  go_enter Tryz.func209,Tryz.ntmps209
  go_wp2_with fail
  go_ret
  exact⟨by rw [x.out]; rfl,(Below.refl _ _).alloc (Nat.le_refl _) _⟩
 have M:(r.dir != 0)=false:=by simp [G]
 have x:=hide (show As topo r=false from by
  simp [As,Be,y,hS,C,E,F,G]
  try omega)
 go_enter Tryz.func209,Tryz.ntmps209
 go_wp2_with fail
 go_ret
 exact⟨by rw [x.out]; rfl,(Below.refl _ _).alloc (Nat.le_refl _) _⟩
theorem TB {w:World} {cs:List Value} {r:Az} {topo:Int} (h:AW w w.heap.size cs r) (Z:r.Small) (y:r.kind=4) (ht:topo=4):Calls Tryz.prog 209 #[.agg cs.toArray,.int .i64 topo] w (Ret fun v w'=>v=.bool (As topo r)∧Below w.heap.size w w'):=by
 obtain⟨A1,c1,A2,c2,A3,c3,A4,c4,A5,c5,A6,c6,A7,c7,A8,c8,rfl,-⟩:=h
 obtain⟨n1,n2,n3,n4,n5,n6,n7,n8⟩:=Z
 have e1:(r.kind==1)=false:=by simp [y]
 have e2:(r.kind==2)=false:=by simp [y]
 have e3:(r.kind==3)=false:=by simp [y]
 have e4:(r.kind==4)=true:=by simp [y]
 subst ht
 by_cases hS:0<r.resp.length+r.guards.length+r.ex.length+r.fa.length+r.send.length
 ·have J:0<((r.resp.length:Int)+(r.guards.length:Int)+(r.ex.length:Int)+(r.fa.length:Int)+(r.send.length:Int):Int):=by omega
  have x:=hide (show As 4 r=true from by
   simp [As,Be,y,hS]
   try omega)
  go_enter Tryz.func209,Tryz.ntmps209
  go_wp2_with fail
  go_ret
  exact⟨by rw [x.out]; rfl,(Below.refl _ _).alloc (Nat.le_refl _) _⟩
 have J:¬0<((r.resp.length:Int)+(r.guards.length:Int)+(r.ex.length:Int)+(r.fa.length:Int)+(r.send.length:Int):Int):=by omega
 by_cases C:r.pf=0
 case neg=>
  have O:(r.pf != 0)=true:=by simp [C]
  have x:=hide (show As 4 r=true from by
   simp [As,Be,y,hS,C]
   try omega)
  go_enter Tryz.func209,Tryz.ntmps209
  go_wp2_with fail
  go_ret
  exact⟨by rw [x.out]; rfl,(Below.refl _ _).alloc (Nat.le_refl _) _⟩
 have O:(r.pf != 0)=false:=by simp [C]
 by_cases E:r.pt=0
 case neg=>
  have U:(r.pt != 0)=true:=by simp [E]
  have x:=hide (show As 4 r=true from by
   simp [As,Be,y,hS,C,E]
   try omega)
  go_enter Tryz.func209,Tryz.ntmps209
  go_wp2_with fail
  go_ret
  exact⟨by rw [x.out]; rfl,(Below.refl _ _).alloc (Nat.le_refl _) _⟩
 have U:(r.pt != 0)=false:=by simp [E]
 by_cases F:r.dir=0
 case neg=>
  have M:(r.dir != 0)=true:=by simp [F]
  have x:=hide (show As 4 r=true from by
   simp [As,Be,y,hS,C,E,F]
   try omega)
  go_enter Tryz.func209,Tryz.ntmps209
  go_wp2_with fail
  go_ret
  exact⟨by rw [x.out]; rfl,(Below.refl _ _).alloc (Nat.le_refl _) _⟩
 have M:(r.dir != 0)=false:=by simp [F]
 by_cases G:r.rd= -1
 case neg=>
  have V:(r.rd != -1)=true:=by simp [G]
  have x:=hide (show As 4 r=true from by
   simp [As,Be,y,hS,C,E,F,G]
   try omega)
  go_enter Tryz.func209,Tryz.ntmps209
  go_wp2_with fail
  go_ret
  exact⟨by rw [x.out]; rfl,(Below.refl _ _).alloc (Nat.le_refl _) _⟩
 have V:(r.rd != -1)=false:=by simp [G]
 by_cases I:r.wr= -1
 case neg=>
  have W:(r.wr != -1)=true:=by simp [I]
  have x:=hide (show As 4 r=true from by
   simp [As,Be,y,hS,C,E,F,G,I]
   try omega)
  go_enter Tryz.func209,Tryz.ntmps209
  go_wp2_with fail
  go_ret
  exact⟨by rw [x.out]; rfl,(Below.refl _ _).alloc (Nat.le_refl _) _⟩
 have W:(r.wr != -1)=false:=by simp [I]
 have x:=hide (show As 4 r=false from by
  simp [As,Be,y,hS,C,E,F,G,I]
  try omega)
 go_enter Tryz.func209,Tryz.ntmps209
 go_wp2_with fail
 go_ret
 exact⟨by rw [x.out]; rfl,(Below.refl _ _).alloc (Nat.le_refl _) _⟩
theorem TC {w:World} {cs:List Value} {r:Az} {topo:Int} (h:AW w w.heap.size cs r) (Z:r.Small) (y:r.kind=4) (ht:¬topo=4):Calls Tryz.prog 209 #[.agg cs.toArray,.int .i64 topo] w (Ret fun v w'=>v=.bool (As topo r)∧Below w.heap.size w w'):=by
 obtain⟨A1,c1,A2,c2,A3,c3,A4,c4,A5,c5,A6,c6,A7,c7,A8,c8,rfl,-⟩:=h
 obtain⟨n1,n2,n3,n4,n5,n6,n7,n8⟩:=Z
 have e1:(r.kind==1)=false:=by simp [y]
 have e2:(r.kind==2)=false:=by simp [y]
 have e3:(r.kind==3)=false:=by simp [y]
 have e4:(r.kind==4)=true:=by simp [y]
 have et:(topo==4)=false:=by simp [ht]
 by_cases hS:0<r.resp.length+r.guards.length+r.ex.length+r.fa.length+r.send.length+r.parent.length
 ·have J:0<((r.resp.length:Int)+(r.guards.length:Int)+(r.ex.length:Int)+(r.fa.length:Int)+(r.send.length:Int)+(r.parent.length:Int):Int):=by omega
  have x:=hide (show As topo r=true from by
   simp [As,Be,y,ht,hS]
   try omega)
  go_enter Tryz.func209,Tryz.ntmps209
  go_wp2_with fail
  go_ret
  exact⟨by rw [x.out]; rfl,(Below.refl _ _).alloc (Nat.le_refl _) _⟩
 have J:¬0<((r.resp.length:Int)+(r.guards.length:Int)+(r.ex.length:Int)+(r.fa.length:Int)+(r.send.length:Int)+(r.parent.length:Int):Int):=by omega
 by_cases C:r.pf=0
 case neg=>
  have O:(r.pf != 0)=true:=by simp [C]
  have x:=hide (show As topo r=true from by
   simp [As,Be,y,ht,hS,C]
   try omega)
  go_enter Tryz.func209,Tryz.ntmps209
  go_wp2_with fail
  go_ret
  exact⟨by rw [x.out]; rfl,(Below.refl _ _).alloc (Nat.le_refl _) _⟩
 have O:(r.pf != 0)=false:=by simp [C]
 by_cases E:r.pt=0
 case neg=>
  have U:(r.pt != 0)=true:=by simp [E]
  have x:=hide (show As topo r=true from by
   simp [As,Be,y,ht,hS,C,E]
   try omega)
  go_enter Tryz.func209,Tryz.ntmps209
  go_wp2_with fail
  go_ret
  exact⟨by rw [x.out]; rfl,(Below.refl _ _).alloc (Nat.le_refl _) _⟩
 have U:(r.pt != 0)=false:=by simp [E]
 by_cases F:r.dir=0
 case neg=>
  have M:(r.dir != 0)=true:=by simp [F]
  have x:=hide (show As topo r=true from by
   simp [As,Be,y,ht,hS,C,E,F]
   try omega)
  go_enter Tryz.func209,Tryz.ntmps209
  go_wp2_with fail
  go_ret
  exact⟨by rw [x.out]; rfl,(Below.refl _ _).alloc (Nat.le_refl _) _⟩
 have M:(r.dir != 0)=false:=by simp [F]
 by_cases G:r.rd= -1
 case neg=>
  have V:(r.rd != -1)=true:=by simp [G]
  have x:=hide (show As topo r=true from by
   simp [As,Be,y,ht,hS,C,E,F,G]
   try omega)
  go_enter Tryz.func209,Tryz.ntmps209
  go_wp2_with fail
  go_ret
  exact⟨by rw [x.out]; rfl,(Below.refl _ _).alloc (Nat.le_refl _) _⟩
 have V:(r.rd != -1)=false:=by simp [G]
 by_cases I:r.wr= -1
 case neg=>
  have W:(r.wr != -1)=true:=by simp [I]
  have x:=hide (show As topo r=true from by
   simp [As,Be,y,ht,hS,C,E,F,G,I]
   try omega)
  go_enter Tryz.func209,Tryz.ntmps209
  go_wp2_with fail
  go_ret
  exact⟨by rw [x.out]; rfl,(Below.refl _ _).alloc (Nat.le_refl _) _⟩
 have W:(r.wr != -1)=false:=by simp [I]
 have x:=hide (show As topo r=false from by
  simp [As,Be,y,ht,hS,C,E,F,G,I]
  try omega)
 go_enter Tryz.func209,Tryz.ntmps209
 go_wp2_with fail
 go_ret
 exact⟨by rw [x.out]; rfl,(Below.refl _ _).alloc (Nat.le_refl _) _⟩
theorem TD {w:World} {cs:List Value} {r:Az} {topo:Int} (h:AW w w.heap.size cs r) (O:r.Small) (x:r.kind=5):Calls Tryz.prog 209 #[.agg cs.toArray,.int .i64 topo] w (Ret fun v w'=>v=.bool (As topo r)∧Below w.heap.size w w'):=by
 obtain⟨A1,c1,A2,c2,A3,c3,U,c4,V,c5,W,c6,A7,c7,Z,c8,rfl,-⟩:=h
 obtain⟨n1,n2,n3,n4,n5,n6,n7,n8⟩:=O
 have e1:(r.kind==1)=false:=by simp [x]
 have e2:(r.kind==2)=false:=by simp [x]
 have e3:(r.kind==3)=false:=by simp [x]
 have e4:(r.kind==4)=false:=by simp [x]
 have e5:(r.kind==5)=true:=by simp [x]
 by_cases hS:0<r.resp.length+r.guards.length+r.ex.length+r.fa.length+r.send.length+r.left.length+r.right.length+r.parent.length
 ·have G:0<((r.resp.length:Int)+(r.guards.length:Int)+(r.ex.length:Int)+(r.fa.length:Int)+(r.send.length:Int)+(r.left.length:Int)+(r.right.length:Int)+(r.parent.length:Int):Int):=by omega
  have y:=hide (show As topo r=true from by
   simp [As,Be,x,hS]
   try omega)
  go_enter Tryz.func209,Tryz.ntmps209
  go_wp2_with fail
  go_ret
  exact⟨by rw [y.out]; rfl,(Below.refl _ _).alloc (Nat.le_refl _) _⟩
 have G:¬0<((r.resp.length:Int)+(r.guards.length:Int)+(r.ex.length:Int)+(r.fa.length:Int)+(r.send.length:Int)+(r.left.length:Int)+(r.right.length:Int)+(r.parent.length:Int):Int):=by omega
 by_cases C:r.at_=0
 case neg=>
  have I:(r.at_ != 0)=true:=by simp [C]
  have y:=hide (show As topo r=true from by
   simp [As,Be,x,hS,C]
   try omega)
  go_enter Tryz.func209,Tryz.ntmps209
  go_wp2_with fail
  go_ret
  exact⟨by rw [y.out]; rfl,(Below.refl _ _).alloc (Nat.le_refl _) _⟩
 have I:(r.at_ != 0)=false:=by simp [C]
 by_cases E:r.rd= -1
 case neg=>
  have J:(r.rd != -1)=true:=by simp [E]
  have y:=hide (show As topo r=true from by
   simp [As,Be,x,hS,C,E]
   try omega)
  go_enter Tryz.func209,Tryz.ntmps209
  go_wp2_with fail
  go_ret
  exact⟨by rw [y.out]; rfl,(Below.refl _ _).alloc (Nat.le_refl _) _⟩
 have J:(r.rd != -1)=false:=by simp [E]
 by_cases F:r.wr= -1
 case neg=>
  have M:(r.wr != -1)=true:=by simp [F]
  have y:=hide (show As topo r=true from by
   simp [As,Be,x,hS,C,E,F]
   try omega)
  go_enter Tryz.func209,Tryz.ntmps209
  go_wp2_with fail
  go_ret
  exact⟨by rw [y.out]; rfl,(Below.refl _ _).alloc (Nat.le_refl _) _⟩
 have M:(r.wr != -1)=false:=by simp [F]
 have y:=hide (show As topo r=false from by
  simp [As,Be,x,hS,C,E,F]
  try omega)
 go_enter Tryz.func209,Tryz.ntmps209
 go_wp2_with fail
 go_ret
 exact⟨by rw [y.out]; rfl,(Below.refl _ _).alloc (Nat.le_refl _) _⟩
theorem Tw {w:World} {cs:List Value} {r:Az} {topo:Int} (h:AW w w.heap.size cs r) (hs:r.Small) (C:¬r.kind=1) (E:¬r.kind=2) (F:¬r.kind=3) (G:¬r.kind=4) (I:¬r.kind=5):Calls Tryz.prog 209 #[.agg cs.toArray,.int .i64 topo] w (Ret fun v w'=>v=.bool (As topo r)∧Below w.heap.size w w'):=by
 obtain⟨A1,c1,A2,c2,A3,c3,A4,c4,A5,c5,A6,c6,A7,c7,A8,c8,rfl,-⟩:=h
 obtain⟨n1,n2,n3,n4,n5,n6,n7,n8⟩:=hs
 have e1:(r.kind==1)=false:=by simp [C]
 have e2:(r.kind==2)=false:=by simp [E]
 have e3:(r.kind==3)=false:=by simp [F]
 have e4:(r.kind==4)=false:=by simp [G]
 have e5:(r.kind==5)=false:=by simp [I]
 by_cases hS:0<r.resp.length+r.guards.length+r.ex.length+r.fa.length+r.send.length+r.left.length+r.right.length+r.parent.length
 ·have W:0<((r.resp.length:Int)+(r.guards.length:Int)+(r.ex.length:Int)+(r.fa.length:Int)+(r.send.length:Int)+(r.left.length:Int)+(r.right.length:Int)+(r.parent.length:Int):Int):=by omega
  have x:=hide (show As topo r=true from by
   simp [As,Be,C,E,F,G,I,hS]
   try omega)
  go_enter Tryz.func209,Tryz.ntmps209
  go_wp2_with fail
  go_ret
  exact⟨by rw [x.out]; rfl,(Below.refl _ _).alloc (Nat.le_refl _) _⟩
 have W:¬0<((r.resp.length:Int)+(r.guards.length:Int)+(r.ex.length:Int)+(r.fa.length:Int)+(r.send.length:Int)+(r.left.length:Int)+(r.right.length:Int)+(r.parent.length:Int):Int):=by omega
 by_cases y:r.pf=0
 case neg=>
  have a3:(r.pf != 0)=true:=by simp [y]
  have x:=hide (show As topo r=true from by
   simp [As,Be,C,E,F,G,I,hS,y]
   try omega)
  go_enter Tryz.func209,Tryz.ntmps209
  go_wp2_with fail
  go_ret
  exact⟨by rw [x.out]; rfl,(Below.refl _ _).alloc (Nat.le_refl _) _⟩
 have a3:(r.pf != 0)=false:=by simp [y]
 by_cases J:r.pt=0
 case neg=>
  have a4:(r.pt != 0)=true:=by simp [J]
  have x:=hide (show As topo r=true from by
   simp [As,Be,C,E,F,G,I,hS,y,J]
   try omega)
  go_enter Tryz.func209,Tryz.ntmps209
  go_wp2_with fail
  go_ret
  exact⟨by rw [x.out]; rfl,(Below.refl _ _).alloc (Nat.le_refl _) _⟩
 have a4:(r.pt != 0)=false:=by simp [J]
 by_cases M:r.at_=0
 case neg=>
  have Z:(r.at_ != 0)=true:=by simp [M]
  have x:=hide (show As topo r=true from by
   simp [As,Be,C,E,F,G,I,hS,y,J,M]
   try omega)
  go_enter Tryz.func209,Tryz.ntmps209
  go_wp2_with fail
  go_ret
  exact⟨by rw [x.out]; rfl,(Below.refl _ _).alloc (Nat.le_refl _) _⟩
 have Z:(r.at_ != 0)=false:=by simp [M]
 by_cases O:r.dir=0
 case neg=>
  have a2:(r.dir != 0)=true:=by simp [O]
  have x:=hide (show As topo r=true from by
   simp [As,Be,C,E,F,G,I,hS,y,J,M,O]
   try omega)
  go_enter Tryz.func209,Tryz.ntmps209
  go_wp2_with fail
  go_ret
  exact⟨by rw [x.out]; rfl,(Below.refl _ _).alloc (Nat.le_refl _) _⟩
 have a2:(r.dir != 0)=false:=by simp [O]
 by_cases U:r.rd= -1
 case neg=>
  have a5:(r.rd != -1)=true:=by simp [U]
  have x:=hide (show As topo r=true from by
   simp [As,Be,C,E,F,G,I,hS,y,J,M,O,U]
   try omega)
  go_enter Tryz.func209,Tryz.ntmps209
  go_wp2_with fail
  go_ret
  exact⟨by rw [x.out]; rfl,(Below.refl _ _).alloc (Nat.le_refl _) _⟩
 have a5:(r.rd != -1)=false:=by simp [U]
 by_cases V:r.wr= -1
 case neg=>
  have a6:(r.wr != -1)=true:=by simp [V]
  have x:=hide (show As topo r=true from by
   simp [As,Be,C,E,F,G,I,hS,y,J,M,O,U,V]
   try omega)
  go_enter Tryz.func209,Tryz.ntmps209
  go_wp2_with fail
  go_ret
  exact⟨by rw [x.out]; rfl,(Below.refl _ _).alloc (Nat.le_refl _) _⟩
 have a6:(r.wr != -1)=false:=by simp [V]
 have x:=hide (show As topo r=false from by
  simp [As,Be,C,E,F,G,I,hS,y,J,M,O,U,V]
  try omega)
 go_enter Tryz.func209,Tryz.ntmps209
 go_wp2_with fail
 go_ret
 exact⟨by rw [x.out]; rfl,(Below.refl _ _).alloc (Nat.le_refl _) _⟩
theorem TE {w:World} {cs:List Value} {r:Az} {topo:Int} (h:AW w w.heap.size cs r) (x:r.Small):Calls Tryz.prog 209 #[.agg cs.toArray,.int .i64 topo] w (Ret fun v w'=>v=.bool (As topo r)∧Below w.heap.size w w'):=by
 by_cases C:r.kind=1
 ·exact Tx h x C
 by_cases E:r.kind=2
 ·exact Ty h x E
 by_cases F:r.kind=3
 ·exact Tz h x F
 by_cases y:r.kind=4
 ·by_cases ht:topo=4
  ·exact TB h x y ht
  ·exact TC h x y ht
 by_cases G:r.kind=5
 ·exact TD h x G
 ·exact Tw h x C E F y G
end Go.Proofs.YtfcfpoemojjglaaGreatDoor.K
