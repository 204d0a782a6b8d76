/-
  Part CB of a proof.
-/
import Derived.Test.YtfcfpoemojjglaaGreatDoorPA
import Derived.Test.YtfcfpoemojjglaaGreatDoorAA
set_option maxHeartbeats 16000000
set_option maxRecDepth 100000
set_option linter.unusedVariables false
set_option linter.unusedSimpArgs false
namespace Go.Proofs.YtfcfpoemojjglaaGreatDoor.K
open Go.RowKit
theorem Js (kind topo:Int) (w:World):Calls Tryz.prog 208 #[.int .i64 kind,.int .i64 topo] w fun r w'=>r=.returned (.bool (Dx kind topo))/\w=w':=by
 have e:∀a b:Int,(a==b)=decide (a=b):=fun a b=>by rw [Bool.eq_iff_iff]; simp
 by_cases d:kind=1
 ·subst d;go_enter Tryz.func208,Tryz.ntmps208;go_wp2;go_ret;exact⟨by simp [Dx],rfl⟩
 by_cases h:kind=2
 ·subst h;go_enter Tryz.func208,Tryz.ntmps208;go_wp2;go_ret;exact⟨by simp [Dx],rfl⟩
 by_cases j:kind=3
 ·subst j;go_enter Tryz.func208,Tryz.ntmps208;go_wp2;go_ret;exact⟨by simp [Dx],rfl⟩
 by_cases l:kind=4
 ·subst l;go_enter Tryz.func208,Tryz.ntmps208;go_wp2;go_ret;exact⟨by simp [Dx,bne,e],rfl⟩
 by_cases y:kind=5
 ·subst y;go_enter Tryz.func208,Tryz.ntmps208;go_wp2;go_ret;exact⟨by simp [Dx,bne,e],rfl⟩
 ·have E:(kind==1)=false:=by simp [d]
  have G:(kind==2)=false:=by simp [h]
  have I:(kind==3)=false:=by simp [j]
  have J:(kind==4)=false:=by simp [l]
  have M:(kind==5)=false:=by simp [y]
  have C:=hide (show Dx kind topo=false by simp [Dx,d,h,j,l,y]);clear d h j l y e;go_enter Tryz.func208,Tryz.ntmps208;go_wp2;go_ret;exact⟨by rw [C.out]; rfl,rfl⟩
def Az.Small (r:Az):Prop:=r.resp.length<=60/\r.guards.length<=60/\r.ex.length<=60/\r.fa.length<=60/\r.send.length<=60/\r.left.length<=60/\r.right.length<=60/\r.parent.length<=60
theorem Tx {w:World} {cs:List Value} {r:Az} {topo:Int} (h:AW w w.heap.size cs r) (U:r.Small) (l:r.kind=1):Calls Tryz.prog 209 #[.agg cs.toArray,.int .i64 topo] w (Ret fun v w'=>v=.bool (As topo r)/\Below w.heap.size w w'):=by
 obtain⟨A1,c1,A2,c2,A3,c3,V,c4,W,c5,Z,c6,A7,c7,A8,c8,rfl,-⟩:=h;obtain⟨n1,n2,n3,n4,n5,n6,n7,n8⟩:=U;have e1:(r.kind==1)=true:=by simp [l]
 by_cases hS:0<r.resp.length+r.left.length+r.right.length+r.parent.length
 ·have G:0<((r.resp.length:Int)+(r.left.length:Int)+(r.right.length:Int)+(r.parent.length:Int):Int):=by omega
  have d:=hide (show As topo r=true from by
   simp [As,Be,l,hS];try omega)
  go_enter Tryz.func209,Tryz.ntmps209;go_wp2_with fail;go_ret;exact⟨by rw [d.out]; rfl,(Below.refl _ _).alloc (Nat.le_refl _) _⟩
 have G:¬0<((r.resp.length:Int)+(r.left.length:Int)+(r.right.length:Int)+(r.parent.length:Int):Int):=by omega
 by_cases j:r.pf=0
 case neg=>
  have M:(r.pf != 0)=true:=by simp [j]
  have d:=hide (show As topo r=true from by
   simp [As,Be,l,hS,j];try omega)
  go_enter Tryz.func209,Tryz.ntmps209;go_wp2_with fail;go_ret;exact⟨by rw [d.out]; rfl,(Below.refl _ _).alloc (Nat.le_refl _) _⟩
 have M:(r.pf != 0)=false:=by simp [j]
 by_cases y:r.pt=0
 case neg=>
  have O:(r.pt != 0)=true:=by simp [y]
  have d:=hide (show As topo r=true from by
   simp [As,Be,l,hS,j,y];try omega)
  go_enter Tryz.func209,Tryz.ntmps209;go_wp2_with fail;go_ret;exact⟨by rw [d.out]; rfl,(Below.refl _ _).alloc (Nat.le_refl _) _⟩
 have O:(r.pt != 0)=false:=by simp [y]
 by_cases C:r.at_=0
 case neg=>
  have I:(r.at_ != 0)=true:=by simp [C]
  have d:=hide (show As topo r=true from by
   simp [As,Be,l,hS,j,y,C];try omega)
  go_enter Tryz.func209,Tryz.ntmps209;go_wp2_with fail;go_ret;exact⟨by rw [d.out]; rfl,(Below.refl _ _).alloc (Nat.le_refl _) _⟩
 have I:(r.at_ != 0)=false:=by simp [C]
 by_cases E:r.dir=0
 case neg=>
  have J:(r.dir != 0)=true:=by simp [E]
  have d:=hide (show As topo r=true from by
   simp [As,Be,l,hS,j,y,C,E];try omega)
  go_enter Tryz.func209,Tryz.ntmps209;go_wp2_with fail;go_ret;exact⟨by rw [d.out]; rfl,(Below.refl _ _).alloc (Nat.le_refl _) _⟩
 have J:(r.dir != 0)=false:=by simp [E]
 have d:=hide (show As topo r=false from by
  simp [As,Be,l,hS,j,y,C,E];try omega)
 go_enter Tryz.func209,Tryz.ntmps209;go_wp2_with fail;go_ret;exact⟨by rw [d.out]; rfl,(Below.refl _ _).alloc (Nat.le_refl _) _⟩
theorem Ty {w:World} {cs:List Value} {r:Az} {topo:Int} (h:AW w w.heap.size cs r) (M:r.Small) (j:r.kind=2):Calls Tryz.prog 209 #[.agg cs.toArray,.int .i64 topo] w (Ret fun v w'=>v=.bool (As topo r)/\Below w.heap.size w w'):=by
 obtain⟨A1,c1,A2,c2,A3,c3,O,c4,U,c5,V,c6,W,c7,Z,c8,rfl,-⟩:=h;obtain⟨n1,n2,n3,n4,n5,n6,n7,n8⟩:=M;have e1:(r.kind==1)=false:=by simp [j]
 have e2:(r.kind==2)=true:=by simp [j]
 by_cases y:0<r.resp.length
 ·have J:0<(r.resp.length:Int):=by omega
  have d:=hide (show As topo r=true from by
   simp [As,j,y])
  go_enter Tryz.func209,Tryz.ntmps209;go_wp2_with fail;go_ret;exact⟨by rw [d.out]; rfl,(Below.refl _ _).alloc (Nat.le_refl _) _⟩
 have J:¬0<(r.resp.length:Int):=by omega
 by_cases hS:0<r.guards.length+r.ex.length+r.fa.length+r.send.length+r.left.length+r.right.length+r.parent.length
 ·have E:0<((r.guards.length:Int)+(r.ex.length:Int)+(r.fa.length:Int)+(r.send.length:Int)+(r.left.length:Int)+(r.right.length:Int)+(r.parent.length:Int):Int):=by omega
  have d:=hide (show As topo r=true from by
   simp [As,Be,j,y,hS];try omega)
  go_enter Tryz.func209,Tryz.ntmps209;go_wp2_with fail;go_ret;exact⟨by rw [d.out]; rfl,(Below.refl _ _).alloc (Nat.le_refl _) _⟩
 have E:¬0<((r.guards.length:Int)+(r.ex.length:Int)+(r.fa.length:Int)+(r.send.length:Int)+(r.left.length:Int)+(r.right.length:Int)+(r.parent.length:Int):Int):=by omega
 by_cases l:r.at_=0
 case neg=>
  have G:(r.at_ != 0)=true:=by simp [l]
  have d:=hide (show As topo r=true from by
   simp [As,Be,j,y,hS,l];try omega)
  go_enter Tryz.func209,Tryz.ntmps209;go_wp2_with fail;go_ret;exact⟨by rw [d.out]; rfl,(Below.refl _ _).alloc (Nat.le_refl _) _⟩
 have G:(r.at_ != 0)=false:=by simp [l]
 by_cases C:r.dir=0
 case neg=>
  have I:(r.dir != 0)=true:=by simp [C]
  have d:=hide (show As topo r=true from by
   simp [As,Be,j,y,hS,l,C];try omega)
  go_enter Tryz.func209,Tryz.ntmps209;go_wp2_with fail;go_ret;exact⟨by rw [d.out]; rfl,(Below.refl _ _).alloc (Nat.le_refl _) _⟩
 have I:(r.dir != 0)=false:=by simp [C]
 have d:=hide (show As topo r=false from by
  simp [As,Be,j,y,hS,l,C];try omega)
 go_enter Tryz.func209,Tryz.ntmps209;go_wp2_with fail;go_ret;exact⟨by rw [d.out]; rfl,(Below.refl _ _).alloc (Nat.le_refl _) _⟩
theorem Tz {w:World} {cs:List Value} {r:Az} {topo:Int} (h:AW w w.heap.size cs r) (U:r.Small) (j:r.kind=3):Calls Tryz.prog 209 #[.agg cs.toArray,.int .i64 topo] w (Ret fun v w'=>v=.bool (As topo r)/\Below w.heap.size w w'):=by
 obtain⟨A1,c1,A2,c2,A3,c3,V,c4,W,c5,Z,c6,A7,c7,A8,c8,rfl,-⟩:=h;obtain⟨n1,n2,n3,n4,n5,n6,n7,n8⟩:=U;have e1:(r.kind==1)=false:=by simp [j]
 have e2:(r.kind==2)=false:=by simp [j]
 have e3:(r.kind==3)=true:=by simp [j]
 by_cases hS:0<r.guards.length+r.ex.length+r.fa.length+r.send.length+r.left.length+r.right.length+r.parent.length
 ·have G:0<((r.guards.length:Int)+(r.ex.length:Int)+(r.fa.length:Int)+(r.send.length:Int)+(r.left.length:Int)+(r.right.length:Int)+(r.parent.length:Int):Int):=by omega
  have d:=hide (show As topo r=true from by
   simp [As,Be,j,hS];try omega)
  go_enter Tryz.func209,Tryz.ntmps209;go_wp2_with fail;go_ret;exact⟨by rw [d.out]; rfl,(Below.refl _ _).alloc (Nat.le_refl _) _⟩
 have G:¬0<((r.guards.length:Int)+(r.ex.length:Int)+(r.fa.length:Int)+(r.send.length:Int)+(r.left.length:Int)+(r.right.length:Int)+(r.parent.length:Int):Int):=by omega
 by_cases l:r.pf=0
 case neg=>
  have M:(r.pf != 0)=true:=by simp [l]
  have d:=hide (show As topo r=true from by
   simp [As,Be,j,hS,l];try omega)
  go_enter Tryz.func209,Tryz.ntmps209;go_wp2_with fail;go_ret;exact⟨by rw [d.out]; rfl,(Below.refl _ _).alloc (Nat.le_refl _) _⟩
 have M:(r.pf != 0)=false:=by simp [l]
 by_cases y:r.pt=0
 case neg=>
  have O:(r.pt != 0)=true:=by simp [y]
  have d:=hide (show As topo r=true from by
   simp [As,Be,j,hS,l,y];try omega)
  go_enter Tryz.func209,Tryz.ntmps209;go_wp2_with fail;go_ret;exact⟨by rw [d.out]; rfl,(Below.refl _ _).alloc (Nat.le_refl _) _⟩
 have O:(r.pt != 0)=false:=by simp [y]
 by_cases C:r.at_=0
 case neg=>
  have I:(r.at_ != 0)=true:=by simp [C]
  have d:=hide (show As topo r=true from by
   simp [As,Be,j,hS,l,y,C];try omega)
  go_enter Tryz.func209,Tryz.ntmps209;go_wp2_with fail;go_ret;exact⟨by rw [d.out]; rfl,(Below.refl _ _).alloc (Nat.le_refl _) _⟩
 have I:(r.at_ != 0)=false:=by simp [C]
 by_cases E:r.dir=0
 case neg=>
  have J:(r.dir != 0)=true:=by simp [E]
  have d:=hide (show As topo r=true from by
   simp [As,Be,j,hS,l,y,C,E];try omega)
  go_enter Tryz.func209,Tryz.ntmps209;go_wp2_with fail;go_ret;exact⟨by rw [d.out]; rfl,(Below.refl _ _).alloc (Nat.le_refl _) _⟩
 have J:(r.dir != 0)=false:=by simp [E]
 have d:=hide (show As topo r=false from by
  simp [As,Be,j,hS,l,y,C,E];try omega)
 go_enter Tryz.func209,Tryz.ntmps209;go_wp2_with fail;go_ret;exact⟨by rw [d.out]; rfl,(Below.refl _ _).alloc (Nat.le_refl _) _⟩
theorem TB {w:World} {cs:List Value} {r:Az} {topo:Int} (h:AW w w.heap.size cs r) (W:r.Small) (j:r.kind=4) (ht:topo=4):Calls Tryz.prog 209 #[.agg cs.toArray,.int .i64 topo] w (Ret fun v w'=>v=.bool (As topo r)/\Below w.heap.size w w'):=by
 obtain⟨A1,c1,A2,c2,A3,c3,Z,c4,A5,c5,A6,c6,A7,c7,A8,c8,rfl,-⟩:=h;obtain⟨n1,n2,n3,n4,n5,n6,n7,n8⟩:=W;have e1:(r.kind==1)=false:=by simp [j]
 have e2:(r.kind==2)=false:=by simp [j]
 have e3:(r.kind==3)=false:=by simp [j]
 have e4:(r.kind==4)=true:=by simp [j]
 subst ht;by_cases hS:0<r.resp.length+r.guards.length+r.ex.length+r.fa.length+r.send.length
 ·have I:0<((r.resp.length:Int)+(r.guards.length:Int)+(r.ex.length:Int)+(r.fa.length:Int)+(r.send.length:Int):Int):=by omega
  have d:=hide (show As 4 r=true from by
   simp [As,Be,j,hS];try omega)
  go_enter Tryz.func209,Tryz.ntmps209;go_wp2_with fail;go_ret;exact⟨by rw [d.out]; rfl,(Below.refl _ _).alloc (Nat.le_refl _) _⟩
 have I:¬0<((r.resp.length:Int)+(r.guards.length:Int)+(r.ex.length:Int)+(r.fa.length:Int)+(r.send.length:Int):Int):=by omega
 by_cases l:r.pf=0
 case neg=>
  have M:(r.pf != 0)=true:=by simp [l]
  have d:=hide (show As 4 r=true from by
   simp [As,Be,j,hS,l];try omega)
  go_enter Tryz.func209,Tryz.ntmps209;go_wp2_with fail;go_ret;exact⟨by rw [d.out]; rfl,(Below.refl _ _).alloc (Nat.le_refl _) _⟩
 have M:(r.pf != 0)=false:=by simp [l]
 by_cases y:r.pt=0
 case neg=>
  have O:(r.pt != 0)=true:=by simp [y]
  have d:=hide (show As 4 r=true from by
   simp [As,Be,j,hS,l,y];try omega)
  go_enter Tryz.func209,Tryz.ntmps209;go_wp2_with fail;go_ret;exact⟨by rw [d.out]; rfl,(Below.refl _ _).alloc (Nat.le_refl _) _⟩
 have O:(r.pt != 0)=false:=by simp [y]
 by_cases C:r.dir=0
 case neg=>
  have J:(r.dir != 0)=true:=by simp [C]
  have d:=hide (show As 4 r=true from by
   simp [As,Be,j,hS,l,y,C];try omega)
  go_enter Tryz.func209,Tryz.ntmps209;go_wp2_with fail;go_ret;exact⟨by rw [d.out]; rfl,(Below.refl _ _).alloc (Nat.le_refl _) _⟩
 have J:(r.dir != 0)=false:=by simp [C]
 by_cases E:r.rd= -1
 case neg=>
  have U:(r.rd != -1)=true:=by simp [E]
  have d:=hide (show As 4 r=true from by
   simp [As,Be,j,hS,l,y,C,E];try omega)
  go_enter Tryz.func209,Tryz.ntmps209;go_wp2_with fail;go_ret;exact⟨by rw [d.out]; rfl,(Below.refl _ _).alloc (Nat.le_refl _) _⟩
 have U:(r.rd != -1)=false:=by simp [E]
 by_cases G:r.wr= -1
 case neg=>
  have V:(r.wr != -1)=true:=by simp [G]
  have d:=hide (show As 4 r=true from by
   simp [As,Be,j,hS,l,y,C,E,G];try omega)
  go_enter Tryz.func209,Tryz.ntmps209;go_wp2_with fail;go_ret;exact⟨by rw [d.out]; rfl,(Below.refl _ _).alloc (Nat.le_refl _) _⟩
 have V:(r.wr != -1)=false:=by simp [G]
 have d:=hide (show As 4 r=false from by
  simp [As,Be,j,hS,l,y,C,E,G];try omega)
 go_enter Tryz.func209,Tryz.ntmps209;go_wp2_with fail;go_ret;exact⟨by rw [d.out]; rfl,(Below.refl _ _).alloc (Nat.le_refl _) _⟩
theorem TC {w:World} {cs:List Value} {r:Az} {topo:Int} (h:AW w w.heap.size cs r) (W:r.Small) (j:r.kind=4) (ht:¬topo=4):Calls Tryz.prog 209 #[.agg cs.toArray,.int .i64 topo] w (Ret fun v w'=>v=.bool (As topo r)/\Below w.heap.size w w'):=by
 obtain⟨A1,c1,A2,c2,A3,c3,Z,c4,A5,c5,A6,c6,A7,c7,A8,c8,rfl,-⟩:=h;obtain⟨n1,n2,n3,n4,n5,n6,n7,n8⟩:=W;have e1:(r.kind==1)=false:=by simp [j]
 have e2:(r.kind==2)=false:=by simp [j]
 have e3:(r.kind==3)=false:=by simp [j]
 have e4:(r.kind==4)=true:=by simp [j]
 have et:(topo==4)=false:=by simp [ht]
 by_cases hS:0<r.resp.length+r.guards.length+r.ex.length+r.fa.length+r.send.length+r.parent.length
 ·have I:0<((r.resp.length:Int)+(r.guards.length:Int)+(r.ex.length:Int)+(r.fa.length:Int)+(r.send.length:Int)+(r.parent.length:Int):Int):=by omega
  have d:=hide (show As topo r=true from by
   simp [As,Be,j,ht,hS];try omega)
  go_enter Tryz.func209,Tryz.ntmps209;go_wp2_with fail;go_ret;exact⟨by rw [d.out]; rfl,(Below.refl _ _).alloc (Nat.le_refl _) _⟩
 have I:¬0<((r.resp.length:Int)+(r.guards.length:Int)+(r.ex.length:Int)+(r.fa.length:Int)+(r.send.length:Int)+(r.parent.length:Int):Int):=by omega
 by_cases l:r.pf=0
 case neg=>
  have M:(r.pf != 0)=true:=by simp [l]
  have d:=hide (show As topo r=true from by
   simp [As,Be,j,ht,hS,l];try omega)
  go_enter Tryz.func209,Tryz.ntmps209;go_wp2_with fail;go_ret;exact⟨by rw [d.out]; rfl,(Below.refl _ _).alloc (Nat.le_refl _) _⟩
 have M:(r.pf != 0)=false:=by simp [l]
 by_cases y:r.pt=0
 case neg=>
  have O:(r.pt != 0)=true:=by simp [y]
  have d:=hide (show As topo r=true from by
   simp [As,Be,j,ht,hS,l,y];try omega)
  go_enter Tryz.func209,Tryz.ntmps209;go_wp2_with fail;go_ret;exact⟨by rw [d.out]; rfl,(Below.refl _ _).alloc (Nat.le_refl _) _⟩
 have O:(r.pt != 0)=false:=by simp [y]
 by_cases C:r.dir=0
 case neg=>
  have J:(r.dir != 0)=true:=by simp [C]
  have d:=hide (show As topo r=true from by
   simp [As,Be,j,ht,hS,l,y,C];try omega)
  go_enter Tryz.func209,Tryz.ntmps209;go_wp2_with fail;go_ret;exact⟨by rw [d.out]; rfl,(Below.refl _ _).alloc (Nat.le_refl _) _⟩
 have J:(r.dir != 0)=false:=by simp [C]
 by_cases E:r.rd= -1
 case neg=>
  have U:(r.rd != -1)=true:=by simp [E]
  have d:=hide (show As topo r=true from by
   simp [As,Be,j,ht,hS,l,y,C,E];try omega)
  go_enter Tryz.func209,Tryz.ntmps209;go_wp2_with fail;go_ret;exact⟨by rw [d.out]; rfl,(Below.refl _ _).alloc (Nat.le_refl _) _⟩
 have U:(r.rd != -1)=false:=by simp [E]
 by_cases G:r.wr= -1
 case neg=>
  have V:(r.wr != -1)=true:=by simp [G]
  have d:=hide (show As topo r=true from by
   simp [As,Be,j,ht,hS,l,y,C,E,G];try omega)
  go_enter Tryz.func209,Tryz.ntmps209;go_wp2_with fail;go_ret;exact⟨by rw [d.out]; rfl,(Below.refl _ _).alloc (Nat.le_refl _) _⟩
 have V:(r.wr != -1)=false:=by simp [G]
 have d:=hide (show As topo r=false from by
  simp [As,Be,j,ht,hS,l,y,C,E,G];try omega)
 go_enter Tryz.func209,Tryz.ntmps209;go_wp2_with fail;go_ret;exact⟨by rw [d.out]; rfl,(Below.refl _ _).alloc (Nat.le_refl _) _⟩
theorem TD {w:World} {cs:List Value} {r:Az} {topo:Int} (h:AW w w.heap.size cs r) (M:r.Small) (d:r.kind=5):Calls Tryz.prog 209 #[.agg cs.toArray,.int .i64 topo] w (Ret fun v w'=>v=.bool (As topo r)/\Below w.heap.size w w'):=by
 obtain⟨A1,c1,A2,c2,A3,c3,O,c4,U,c5,V,c6,W,c7,Z,c8,rfl,-⟩:=h;obtain⟨n1,n2,n3,n4,n5,n6,n7,n8⟩:=M;have e1:(r.kind==1)=false:=by simp [d]
 have e2:(r.kind==2)=false:=by simp [d]
 have e3:(r.kind==3)=false:=by simp [d]
 have e4:(r.kind==4)=false:=by simp [d]
 have e5:(r.kind==5)=true:=by simp [d]
 by_cases hS:0<r.resp.length+r.guards.length+r.ex.length+r.fa.length+r.send.length+r.left.length+r.right.length+r.parent.length
 ·have E:0<((r.resp.length:Int)+(r.guards.length:Int)+(r.ex.length:Int)+(r.fa.length:Int)+(r.send.length:Int)+(r.left.length:Int)+(r.right.length:Int)+(r.parent.length:Int):Int):=by omega
  have j:=hide (show As topo r=true from by
   simp [As,Be,d,hS];try omega)
  go_enter Tryz.func209,Tryz.ntmps209;go_wp2_with fail;go_ret;exact⟨by rw [j.out]; rfl,(Below.refl _ _).alloc (Nat.le_refl _) _⟩
 have E:¬0<((r.resp.length:Int)+(r.guards.length:Int)+(r.ex.length:Int)+(r.fa.length:Int)+(r.send.length:Int)+(r.left.length:Int)+(r.right.length:Int)+(r.parent.length:Int):Int):=by omega
 by_cases l:r.at_=0
 case neg=>
  have G:(r.at_ != 0)=true:=by simp [l]
  have j:=hide (show As topo r=true from by
   simp [As,Be,d,hS,l];try omega)
  go_enter Tryz.func209,Tryz.ntmps209;go_wp2_with fail;go_ret;exact⟨by rw [j.out]; rfl,(Below.refl _ _).alloc (Nat.le_refl _) _⟩
 have G:(r.at_ != 0)=false:=by simp [l]
 by_cases y:r.rd= -1
 case neg=>
  have I:(r.rd != -1)=true:=by simp [y]
  have j:=hide (show As topo r=true from by
   simp [As,Be,d,hS,l,y];try omega)
  go_enter Tryz.func209,Tryz.ntmps209;go_wp2_with fail;go_ret;exact⟨by rw [j.out]; rfl,(Below.refl _ _).alloc (Nat.le_refl _) _⟩
 have I:(r.rd != -1)=false:=by simp [y]
 by_cases C:r.wr= -1
 case neg=>
  have J:(r.wr != -1)=true:=by simp [C]
  have j:=hide (show As topo r=true from by
   simp [As,Be,d,hS,l,y,C];try omega)
  go_enter Tryz.func209,Tryz.ntmps209;go_wp2_with fail;go_ret;exact⟨by rw [j.out]; rfl,(Below.refl _ _).alloc (Nat.le_refl _) _⟩
 have J:(r.wr != -1)=false:=by simp [C]
 have j:=hide (show As topo r=false from by
  simp [As,Be,d,hS,l,y,C];try omega)
 go_enter Tryz.func209,Tryz.ntmps209;go_wp2_with fail;go_ret;exact⟨by rw [j.out]; rfl,(Below.refl _ _).alloc (Nat.le_refl _) _⟩
theorem Tw {w:World} {cs:List Value} {r:Az} {topo:Int} (h:AW w w.heap.size cs r) (hs:r.Small) (l:¬r.kind=1) (y:¬r.kind=2) (C:¬r.kind=3) (E:¬r.kind=4) (G:¬r.kind=5):Calls Tryz.prog 209 #[.agg cs.toArray,.int .i64 topo] w (Ret fun v w'=>v=.bool (As topo r)/\Below w.heap.size w w'):=by
 obtain⟨A1,c1,A2,c2,A3,c3,A4,c4,A5,c5,A6,c6,A7,c7,A8,c8,rfl,-⟩:=h;obtain⟨n1,n2,n3,n4,n5,n6,n7,n8⟩:=hs;have e1:(r.kind==1)=false:=by simp [l]
 have e2:(r.kind==2)=false:=by simp [y]
 have e3:(r.kind==3)=false:=by simp [C]
 have e4:(r.kind==4)=false:=by simp [E]
 have e5:(r.kind==5)=false:=by simp [G]
 by_cases hS:0<r.resp.length+r.guards.length+r.ex.length+r.fa.length+r.send.length+r.left.length+r.right.length+r.parent.length
 ·have V:0<((r.resp.length:Int)+(r.guards.length:Int)+(r.ex.length:Int)+(r.fa.length:Int)+(r.send.length:Int)+(r.left.length:Int)+(r.right.length:Int)+(r.parent.length:Int):Int):=by omega
  have d:=hide (show As topo r=true from by
   simp [As,Be,l,y,C,E,G,hS];try omega)
  go_enter Tryz.func209,Tryz.ntmps209;go_wp2_with fail;go_ret;exact⟨by rw [d.out]; rfl,(Below.refl _ _).alloc (Nat.le_refl _) _⟩
 have V:¬0<((r.resp.length:Int)+(r.guards.length:Int)+(r.ex.length:Int)+(r.fa.length:Int)+(r.send.length:Int)+(r.left.length:Int)+(r.right.length:Int)+(r.parent.length:Int):Int):=by omega
 by_cases j:r.pf=0
 case neg=>
  have a2:(r.pf != 0)=true:=by simp [j]
  have d:=hide (show As topo r=true from by
   simp [As,Be,l,y,C,E,G,hS,j];try omega)
  go_enter Tryz.func209,Tryz.ntmps209;go_wp2_with fail;go_ret;exact⟨by rw [d.out]; rfl,(Below.refl _ _).alloc (Nat.le_refl _) _⟩
 have a2:(r.pf != 0)=false:=by simp [j]
 by_cases I:r.pt=0
 case neg=>
  have a3:(r.pt != 0)=true:=by simp [I]
  have d:=hide (show As topo r=true from by
   simp [As,Be,l,y,C,E,G,hS,j,I];try omega)
  go_enter Tryz.func209,Tryz.ntmps209;go_wp2_with fail;go_ret;exact⟨by rw [d.out]; rfl,(Below.refl _ _).alloc (Nat.le_refl _) _⟩
 have a3:(r.pt != 0)=false:=by simp [I]
 by_cases J:r.at_=0
 case neg=>
  have W:(r.at_ != 0)=true:=by simp [J]
  have d:=hide (show As topo r=true from by
   simp [As,Be,l,y,C,E,G,hS,j,I,J];try omega)
  go_enter Tryz.func209,Tryz.ntmps209;go_wp2_with fail;go_ret;exact⟨by rw [d.out]; rfl,(Below.refl _ _).alloc (Nat.le_refl _) _⟩
 have W:(r.at_ != 0)=false:=by simp [J]
 by_cases M:r.dir=0
 case neg=>
  have Z:(r.dir != 0)=true:=by simp [M]
  have d:=hide (show As topo r=true from by
   simp [As,Be,l,y,C,E,G,hS,j,I,J,M];try omega)
  go_enter Tryz.func209,Tryz.ntmps209;go_wp2_with fail;go_ret;exact⟨by rw [d.out]; rfl,(Below.refl _ _).alloc (Nat.le_refl _) _⟩
 have Z:(r.dir != 0)=false:=by simp [M]
 by_cases O:r.rd= -1
 case neg=>
  have a4:(r.rd != -1)=true:=by simp [O]
  have d:=hide (show As topo r=true from by
   simp [As,Be,l,y,C,E,G,hS,j,I,J,M,O];try omega)
  go_enter Tryz.func209,Tryz.ntmps209;go_wp2_with fail;go_ret;exact⟨by rw [d.out]; rfl,(Below.refl _ _).alloc (Nat.le_refl _) _⟩
 have a4:(r.rd != -1)=false:=by simp [O]
 by_cases U:r.wr= -1
 case neg=>
  have a5:(r.wr != -1)=true:=by simp [U]
  have d:=hide (show As topo r=true from by
   simp [As,Be,l,y,C,E,G,hS,j,I,J,M,O,U];try omega)
  go_enter Tryz.func209,Tryz.ntmps209;go_wp2_with fail;go_ret;exact⟨by rw [d.out]; rfl,(Below.refl _ _).alloc (Nat.le_refl _) _⟩
 have a5:(r.wr != -1)=false:=by simp [U]
 have d:=hide (show As topo r=false from by
  simp [As,Be,l,y,C,E,G,hS,j,I,J,M,O,U];try omega)
 go_enter Tryz.func209,Tryz.ntmps209;go_wp2_with fail;go_ret;exact⟨by rw [d.out]; rfl,(Below.refl _ _).alloc (Nat.le_refl _) _⟩
theorem TE {w:World} {cs:List Value} {r:Az} {topo:Int} (h:AW w w.heap.size cs r) (d:r.Small):Calls Tryz.prog 209 #[.agg cs.toArray,.int .i64 topo] w (Ret fun v w'=>v=.bool (As topo r)/\Below w.heap.size w w'):=by
 by_cases l:r.kind=1
 ·exact Tx h d l
 by_cases y:r.kind=2
 ·exact Ty h d y
 by_cases C:r.kind=3
 ·exact Tz h d C
 by_cases j:r.kind=4
 ·by_cases ht:topo=4
  ·exact TB h d j ht
  ·exact TC h d j ht
 by_cases E:r.kind=5
 ·exact TD h d E
 ·exact Tw h d l y C j E
end Go.Proofs.YtfcfpoemojjglaaGreatDoor.K
