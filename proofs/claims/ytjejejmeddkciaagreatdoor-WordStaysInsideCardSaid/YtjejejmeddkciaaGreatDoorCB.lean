/-
  Part CB of a proof.
-/
import Derived.Test.YtjejejmeddkciaaGreatDoorPA
import Derived.Test.YtjejejmeddkciaaGreatDoorAA
set_option maxHeartbeats 16000000
set_option maxRecDepth 100000
set_option linter.unusedVariables false
set_option linter.unusedSimpArgs false
namespace Go.Proofs.YtjejejmeddkciaaGreatDoor.K
open Go.RowKit
theorem Js (kind topo:Int) (w:World):Calls Tryz.prog 173 #[.int .i64 kind,.int .i64 topo] w fun r w'=>r=.returned (.bool (Dx kind topo))/\w=w':=by
 have e:∀a b:Int,(a==b)=decide (a=b):=fun a b=>by rw [Bool.eq_iff_iff];simp
 by_cases h1:kind=1
 ·subst h1;go_enter Tryz.func173,Tryz.ntmps173;go_wp2;go_ret;exact⟨by simp [Dx],rfl⟩
 by_cases h:kind=2
 ·subst h;go_enter Tryz.func173,Tryz.ntmps173;go_wp2;go_ret;exact⟨by simp [Dx],rfl⟩
 by_cases C:kind=3
 ·subst C;go_enter Tryz.func173,Tryz.ntmps173;go_wp2;go_ret;exact⟨by simp [Dx],rfl⟩
 by_cases E:kind=4
 ·subst E;go_enter Tryz.func173,Tryz.ntmps173;go_wp2;go_ret;exact⟨by simp [Dx,bne,e],rfl⟩
 by_cases F:kind=5
 ·subst F;go_enter Tryz.func173,Tryz.ntmps173;go_wp2;go_ret;exact⟨by simp [Dx,bne,e],rfl⟩
 ·have I:(kind==1)=false:=by simp [h1]
  have J:(kind==2)=false:=by simp [h]
  have M:(kind==3)=false:=by simp [C]
  have O:(kind==4)=false:=by simp [E]
  have U:(kind==5)=false:=by simp [F]
  have G:=hide (show Dx kind topo=false by simp [Dx,h1,h,C,E,F]);clear h1 h C E F e;go_enter Tryz.func173,Tryz.ntmps173;go_wp2;go_ret;exact⟨by rw [G.out];rfl,rfl⟩
def Az.Small (r:Az):Prop:=r.resp.length<=60/\r.guards.length<=60/\r.ex.length<=60/\r.fa.length<=60/\r.send.length<=60/\r.left.length<=60/\r.right.length<=60/\r.parent.length<=60
theorem Tx {w:World} {cs:List Value} {r:Az} {topo:Int} (h:AW w w.heap.size cs r) (Z:r.Small) (F:r.kind=1):Calls Tryz.prog 174 #[.agg cs.toArray,.int .i64 topo] w (Ret fun v w'=>v=.bool (As topo r)/\Below w.heap.size w w'):=by
 obtain⟨A1,c1,A2,c2,A3,c3,A4,c4,A5,c5,A6,c6,A7,c7,A8,c8,rfl,-⟩:=h;obtain⟨n1,n2,n3,n4,n5,n6,n7,n8⟩:=Z;have e1:(r.kind==1)=true:=by simp [F]
 by_cases hS:0<r.resp.length+r.left.length+r.right.length+r.parent.length
 ·have M:0<((r.resp.length:Int)+(r.left.length:Int)+(r.right.length:Int)+(r.parent.length:Int):Int):=by omega
  have C:=hide (show As topo r=true from by
   simp [As,Be,F,hS];try omega)
  go_enter Tryz.func174,Tryz.ntmps174;go_wp2_with fail;go_ret;exact⟨by rw [C.out];rfl,(Below.refl _ _).alloc (Nat.le_refl _) _⟩
 have M:¬0<((r.resp.length:Int)+(r.left.length:Int)+(r.right.length:Int)+(r.parent.length:Int):Int):=by omega
 by_cases E:r.pf=0
 case neg=>
  have V:(r.pf != 0)=true:=by simp [E]
  have C:=hide (show As topo r=true from by
   simp [As,Be,F,hS,E];try omega)
  go_enter Tryz.func174,Tryz.ntmps174;go_wp2_with fail;go_ret;exact⟨by rw [C.out];rfl,(Below.refl _ _).alloc (Nat.le_refl _) _⟩
 have V:(r.pf != 0)=false:=by simp [E]
 by_cases G:r.pt=0
 case neg=>
  have W:(r.pt != 0)=true:=by simp [G]
  have C:=hide (show As topo r=true from by
   simp [As,Be,F,hS,E,G];try omega)
  go_enter Tryz.func174,Tryz.ntmps174;go_wp2_with fail;go_ret;exact⟨by rw [C.out];rfl,(Below.refl _ _).alloc (Nat.le_refl _) _⟩
 have W:(r.pt != 0)=false:=by simp [G]
 by_cases I:r.at_=0
 case neg=>
  have O:(r.at_ != 0)=true:=by simp [I]
  have C:=hide (show As topo r=true from by
   simp [As,Be,F,hS,E,G,I];try omega)
  go_enter Tryz.func174,Tryz.ntmps174;go_wp2_with fail;go_ret;exact⟨by rw [C.out];rfl,(Below.refl _ _).alloc (Nat.le_refl _) _⟩
 have O:(r.at_ != 0)=false:=by simp [I]
 by_cases J:r.dir=0
 case neg=>
  have U:(r.dir != 0)=true:=by simp [J]
  have C:=hide (show As topo r=true from by
   simp [As,Be,F,hS,E,G,I,J];try omega)
  go_enter Tryz.func174,Tryz.ntmps174;go_wp2_with fail;go_ret;exact⟨by rw [C.out];rfl,(Below.refl _ _).alloc (Nat.le_refl _) _⟩
 have U:(r.dir != 0)=false:=by simp [J]
 have C:=hide (show As topo r=false from by
  simp [As,Be,F,hS,E,G,I,J];try omega)
 go_enter Tryz.func174,Tryz.ntmps174;go_wp2_with fail;go_ret;exact⟨by rw [C.out];rfl,(Below.refl _ _).alloc (Nat.le_refl _) _⟩
theorem Ty {w:World} {cs:List Value} {r:Az} {topo:Int} (h:AW w w.heap.size cs r) (V:r.Small) (E:r.kind=2):Calls Tryz.prog 174 #[.agg cs.toArray,.int .i64 topo] w (Ret fun v w'=>v=.bool (As topo r)/\Below w.heap.size w w'):=by
 obtain⟨W,c1,Z,c2,A3,c3,A4,c4,A5,c5,A6,c6,A7,c7,A8,c8,rfl,-⟩:=h;obtain⟨n1,n2,n3,n4,n5,n6,n7,n8⟩:=V;have e1:(r.kind==1)=false:=by simp [E]
 have e2:(r.kind==2)=true:=by simp [E]
 by_cases G:0<r.resp.length
 ·have U:0<(r.resp.length:Int):=by omega
  have C:=hide (show As topo r=true from by
   simp [As,E,G])
  go_enter Tryz.func174,Tryz.ntmps174;go_wp2_with fail;go_ret;exact⟨by rw [C.out];rfl,(Below.refl _ _).alloc (Nat.le_refl _) _⟩
 have U:¬0<(r.resp.length:Int):=by omega
 by_cases hS:0<r.guards.length+r.ex.length+r.fa.length+r.send.length+r.left.length+r.right.length+r.parent.length
 ·have J:0<((r.guards.length:Int)+(r.ex.length:Int)+(r.fa.length:Int)+(r.send.length:Int)+(r.left.length:Int)+(r.right.length:Int)+(r.parent.length:Int):Int):=by omega
  have C:=hide (show As topo r=true from by
   simp [As,Be,E,G,hS];try omega)
  go_enter Tryz.func174,Tryz.ntmps174;go_wp2_with fail;go_ret;exact⟨by rw [C.out];rfl,(Below.refl _ _).alloc (Nat.le_refl _) _⟩
 have J:¬0<((r.guards.length:Int)+(r.ex.length:Int)+(r.fa.length:Int)+(r.send.length:Int)+(r.left.length:Int)+(r.right.length:Int)+(r.parent.length:Int):Int):=by omega
 by_cases F:r.at_=0
 case neg=>
  have M:(r.at_ != 0)=true:=by simp [F]
  have C:=hide (show As topo r=true from by
   simp [As,Be,E,G,hS,F];try omega)
  go_enter Tryz.func174,Tryz.ntmps174;go_wp2_with fail;go_ret;exact⟨by rw [C.out];rfl,(Below.refl _ _).alloc (Nat.le_refl _) _⟩
 have M:(r.at_ != 0)=false:=by simp [F]
 by_cases I:r.dir=0
 case neg=>
  have O:(r.dir != 0)=true:=by simp [I]
  have C:=hide (show As topo r=true from by
   simp [As,Be,E,G,hS,F,I];try omega)
  go_enter Tryz.func174,Tryz.ntmps174;go_wp2_with fail;go_ret;exact⟨by rw [C.out];rfl,(Below.refl _ _).alloc (Nat.le_refl _) _⟩
 have O:(r.dir != 0)=false:=by simp [I]
 have C:=hide (show As topo r=false from by
  simp [As,Be,E,G,hS,F,I];try omega)
 go_enter Tryz.func174,Tryz.ntmps174;go_wp2_with fail;go_ret;exact⟨by rw [C.out];rfl,(Below.refl _ _).alloc (Nat.le_refl _) _⟩
theorem Tz {w:World} {cs:List Value} {r:Az} {topo:Int} (h:AW w w.heap.size cs r) (Z:r.Small) (E:r.kind=3):Calls Tryz.prog 174 #[.agg cs.toArray,.int .i64 topo] w (Ret fun v w'=>v=.bool (As topo r)/\Below w.heap.size w w'):=by
 obtain⟨A1,c1,A2,c2,A3,c3,A4,c4,A5,c5,A6,c6,A7,c7,A8,c8,rfl,-⟩:=h;obtain⟨n1,n2,n3,n4,n5,n6,n7,n8⟩:=Z;have e1:(r.kind==1)=false:=by simp [E]
 have e2:(r.kind==2)=false:=by simp [E]
 have e3:(r.kind==3)=true:=by simp [E]
 by_cases hS:0<r.guards.length+r.ex.length+r.fa.length+r.send.length+r.left.length+r.right.length+r.parent.length
 ·have M:0<((r.guards.length:Int)+(r.ex.length:Int)+(r.fa.length:Int)+(r.send.length:Int)+(r.left.length:Int)+(r.right.length:Int)+(r.parent.length:Int):Int):=by omega
  have C:=hide (show As topo r=true from by
   simp [As,Be,E,hS];try omega)
  go_enter Tryz.func174,Tryz.ntmps174;go_wp2_with fail;go_ret;exact⟨by rw [C.out];rfl,(Below.refl _ _).alloc (Nat.le_refl _) _⟩
 have M:¬0<((r.guards.length:Int)+(r.ex.length:Int)+(r.fa.length:Int)+(r.send.length:Int)+(r.left.length:Int)+(r.right.length:Int)+(r.parent.length:Int):Int):=by omega
 by_cases F:r.pf=0
 case neg=>
  have V:(r.pf != 0)=true:=by simp [F]
  have C:=hide (show As topo r=true from by
   simp [As,Be,E,hS,F];try omega)
  go_enter Tryz.func174,Tryz.ntmps174;go_wp2_with fail;go_ret;exact⟨by rw [C.out];rfl,(Below.refl _ _).alloc (Nat.le_refl _) _⟩
 have V:(r.pf != 0)=false:=by simp [F]
 by_cases G:r.pt=0
 case neg=>
  have W:(r.pt != 0)=true:=by simp [G]
  have C:=hide (show As topo r=true from by
   simp [As,Be,E,hS,F,G];try omega)
  go_enter Tryz.func174,Tryz.ntmps174;go_wp2_with fail;go_ret;exact⟨by rw [C.out];rfl,(Below.refl _ _).alloc (Nat.le_refl _) _⟩
 have W:(r.pt != 0)=false:=by simp [G]
 by_cases I:r.at_=0
 case neg=>
  have O:(r.at_ != 0)=true:=by simp [I]
  have C:=hide (show As topo r=true from by
   simp [As,Be,E,hS,F,G,I];try omega)
  go_enter Tryz.func174,Tryz.ntmps174;go_wp2_with fail;go_ret;exact⟨by rw [C.out];rfl,(Below.refl _ _).alloc (Nat.le_refl _) _⟩
 have O:(r.at_ != 0)=false:=by simp [I]
 by_cases J:r.dir=0
 case neg=>
  have U:(r.dir != 0)=true:=by simp [J]
  have C:=hide (show As topo r=true from by
   simp [As,Be,E,hS,F,G,I,J];try omega)
  go_enter Tryz.func174,Tryz.ntmps174;go_wp2_with fail;go_ret;exact⟨by rw [C.out];rfl,(Below.refl _ _).alloc (Nat.le_refl _) _⟩
 have U:(r.dir != 0)=false:=by simp [J]
 have C:=hide (show As topo r=false from by
  simp [As,Be,E,hS,F,G,I,J];try omega)
 go_enter Tryz.func174,Tryz.ntmps174;go_wp2_with fail;go_ret;exact⟨by rw [C.out];rfl,(Below.refl _ _).alloc (Nat.le_refl _) _⟩
theorem TB {w:World} {cs:List Value} {r:Az} {topo:Int} (h:AW w w.heap.size cs r) (hs:r.Small) (E:r.kind=4) (ht:topo=4):Calls Tryz.prog 174 #[.agg cs.toArray,.int .i64 topo] w (Ret fun v w'=>v=.bool (As topo r)/\Below w.heap.size w w'):=by
 obtain⟨A1,c1,A2,c2,A3,c3,A4,c4,A5,c5,A6,c6,A7,c7,A8,c8,rfl,-⟩:=h;obtain⟨n1,n2,n3,n4,n5,n6,n7,n8⟩:=hs;have e1:(r.kind==1)=false:=by simp [E]
 have e2:(r.kind==2)=false:=by simp [E]
 have e3:(r.kind==3)=false:=by simp [E]
 have e4:(r.kind==4)=true:=by simp [E]
 subst ht;by_cases hS:0<r.resp.length+r.guards.length+r.ex.length+r.fa.length+r.send.length
 ·have O:0<((r.resp.length:Int)+(r.guards.length:Int)+(r.ex.length:Int)+(r.fa.length:Int)+(r.send.length:Int):Int):=by omega
  have C:=hide (show As 4 r=true from by
   simp [As,Be,E,hS];try omega)
  go_enter Tryz.func174,Tryz.ntmps174;go_wp2_with fail;go_ret;exact⟨by rw [C.out];rfl,(Below.refl _ _).alloc (Nat.le_refl _) _⟩
 have O:¬0<((r.resp.length:Int)+(r.guards.length:Int)+(r.ex.length:Int)+(r.fa.length:Int)+(r.send.length:Int):Int):=by omega
 by_cases F:r.pf=0
 case neg=>
  have V:(r.pf != 0)=true:=by simp [F]
  have C:=hide (show As 4 r=true from by
   simp [As,Be,E,hS,F];try omega)
  go_enter Tryz.func174,Tryz.ntmps174;go_wp2_with fail;go_ret;exact⟨by rw [C.out];rfl,(Below.refl _ _).alloc (Nat.le_refl _) _⟩
 have V:(r.pf != 0)=false:=by simp [F]
 by_cases G:r.pt=0
 case neg=>
  have W:(r.pt != 0)=true:=by simp [G]
  have C:=hide (show As 4 r=true from by
   simp [As,Be,E,hS,F,G];try omega)
  go_enter Tryz.func174,Tryz.ntmps174;go_wp2_with fail;go_ret;exact⟨by rw [C.out];rfl,(Below.refl _ _).alloc (Nat.le_refl _) _⟩
 have W:(r.pt != 0)=false:=by simp [G]
 by_cases I:r.dir=0
 case neg=>
  have U:(r.dir != 0)=true:=by simp [I]
  have C:=hide (show As 4 r=true from by
   simp [As,Be,E,hS,F,G,I];try omega)
  go_enter Tryz.func174,Tryz.ntmps174;go_wp2_with fail;go_ret;exact⟨by rw [C.out];rfl,(Below.refl _ _).alloc (Nat.le_refl _) _⟩
 have U:(r.dir != 0)=false:=by simp [I]
 by_cases J:r.rd= -1
 case neg=>
  have Z:(r.rd != -1)=true:=by simp [J]
  have C:=hide (show As 4 r=true from by
   simp [As,Be,E,hS,F,G,I,J];try omega)
  go_enter Tryz.func174,Tryz.ntmps174;go_wp2_with fail;go_ret;exact⟨by rw [C.out];rfl,(Below.refl _ _).alloc (Nat.le_refl _) _⟩
 have Z:(r.rd != -1)=false:=by simp [J]
 by_cases M:r.wr= -1
 case neg=>
  have a2:(r.wr != -1)=true:=by simp [M]
  have C:=hide (show As 4 r=true from by
   simp [As,Be,E,hS,F,G,I,J,M];try omega)
  go_enter Tryz.func174,Tryz.ntmps174;go_wp2_with fail;go_ret;exact⟨by rw [C.out];rfl,(Below.refl _ _).alloc (Nat.le_refl _) _⟩
 have a2:(r.wr != -1)=false:=by simp [M]
 have C:=hide (show As 4 r=false from by
  simp [As,Be,E,hS,F,G,I,J,M];try omega)
 go_enter Tryz.func174,Tryz.ntmps174;go_wp2_with fail;go_ret;exact⟨by rw [C.out];rfl,(Below.refl _ _).alloc (Nat.le_refl _) _⟩
theorem TC {w:World} {cs:List Value} {r:Az} {topo:Int} (h:AW w w.heap.size cs r) (hs:r.Small) (E:r.kind=4) (ht:¬topo=4):Calls Tryz.prog 174 #[.agg cs.toArray,.int .i64 topo] w (Ret fun v w'=>v=.bool (As topo r)/\Below w.heap.size w w'):=by
 obtain⟨A1,c1,A2,c2,A3,c3,A4,c4,A5,c5,A6,c6,A7,c7,A8,c8,rfl,-⟩:=h;obtain⟨n1,n2,n3,n4,n5,n6,n7,n8⟩:=hs;have e1:(r.kind==1)=false:=by simp [E]
 have e2:(r.kind==2)=false:=by simp [E]
 have e3:(r.kind==3)=false:=by simp [E]
 have e4:(r.kind==4)=true:=by simp [E]
 have et:(topo==4)=false:=by simp [ht]
 by_cases hS:0<r.resp.length+r.guards.length+r.ex.length+r.fa.length+r.send.length+r.parent.length
 ·have O:0<((r.resp.length:Int)+(r.guards.length:Int)+(r.ex.length:Int)+(r.fa.length:Int)+(r.send.length:Int)+(r.parent.length:Int):Int):=by omega
  have C:=hide (show As topo r=true from by
   simp [As,Be,E,ht,hS];try omega)
  go_enter Tryz.func174,Tryz.ntmps174;go_wp2_with fail;go_ret;exact⟨by rw [C.out];rfl,(Below.refl _ _).alloc (Nat.le_refl _) _⟩
 have O:¬0<((r.resp.length:Int)+(r.guards.length:Int)+(r.ex.length:Int)+(r.fa.length:Int)+(r.send.length:Int)+(r.parent.length:Int):Int):=by omega
 by_cases F:r.pf=0
 case neg=>
  have V:(r.pf != 0)=true:=by simp [F]
  have C:=hide (show As topo r=true from by
   simp [As,Be,E,ht,hS,F];try omega)
  go_enter Tryz.func174,Tryz.ntmps174;go_wp2_with fail;go_ret;exact⟨by rw [C.out];rfl,(Below.refl _ _).alloc (Nat.le_refl _) _⟩
 have V:(r.pf != 0)=false:=by simp [F]
 by_cases G:r.pt=0
 case neg=>
  have W:(r.pt != 0)=true:=by simp [G]
  have C:=hide (show As topo r=true from by
   simp [As,Be,E,ht,hS,F,G];try omega)
  go_enter Tryz.func174,Tryz.ntmps174;go_wp2_with fail;go_ret;exact⟨by rw [C.out];rfl,(Below.refl _ _).alloc (Nat.le_refl _) _⟩
 have W:(r.pt != 0)=false:=by simp [G]
 by_cases I:r.dir=0
 case neg=>
  have U:(r.dir != 0)=true:=by simp [I]
  have C:=hide (show As topo r=true from by
   simp [As,Be,E,ht,hS,F,G,I];try omega)
  go_enter Tryz.func174,Tryz.ntmps174;go_wp2_with fail;go_ret;exact⟨by rw [C.out];rfl,(Below.refl _ _).alloc (Nat.le_refl _) _⟩
 have U:(r.dir != 0)=false:=by simp [I]
 by_cases J:r.rd= -1
 case neg=>
  have Z:(r.rd != -1)=true:=by simp [J]
  have C:=hide (show As topo r=true from by
   simp [As,Be,E,ht,hS,F,G,I,J];try omega)
  go_enter Tryz.func174,Tryz.ntmps174;go_wp2_with fail;go_ret;exact⟨by rw [C.out];rfl,(Below.refl _ _).alloc (Nat.le_refl _) _⟩
 have Z:(r.rd != -1)=false:=by simp [J]
 by_cases M:r.wr= -1
 case neg=>
  have a2:(r.wr != -1)=true:=by simp [M]
  have C:=hide (show As topo r=true from by
   simp [As,Be,E,ht,hS,F,G,I,J,M];try omega)
  go_enter Tryz.func174,Tryz.ntmps174;go_wp2_with fail;go_ret;exact⟨by rw [C.out];rfl,(Below.refl _ _).alloc (Nat.le_refl _) _⟩
 have a2:(r.wr != -1)=false:=by simp [M]
 have C:=hide (show As topo r=false from by
  simp [As,Be,E,ht,hS,F,G,I,J,M];try omega)
 go_enter Tryz.func174,Tryz.ntmps174;go_wp2_with fail;go_ret;exact⟨by rw [C.out];rfl,(Below.refl _ _).alloc (Nat.le_refl _) _⟩
theorem TD {w:World} {cs:List Value} {r:Az} {topo:Int} (h:AW w w.heap.size cs r) (V:r.Small) (C:r.kind=5):Calls Tryz.prog 174 #[.agg cs.toArray,.int .i64 topo] w (Ret fun v w'=>v=.bool (As topo r)/\Below w.heap.size w w'):=by
 obtain⟨W,c1,Z,c2,A3,c3,A4,c4,A5,c5,A6,c6,A7,c7,A8,c8,rfl,-⟩:=h;obtain⟨n1,n2,n3,n4,n5,n6,n7,n8⟩:=V;have e1:(r.kind==1)=false:=by simp [C]
 have e2:(r.kind==2)=false:=by simp [C]
 have e3:(r.kind==3)=false:=by simp [C]
 have e4:(r.kind==4)=false:=by simp [C]
 have e5:(r.kind==5)=true:=by simp [C]
 by_cases hS:0<r.resp.length+r.guards.length+r.ex.length+r.fa.length+r.send.length+r.left.length+r.right.length+r.parent.length
 ·have J:0<((r.resp.length:Int)+(r.guards.length:Int)+(r.ex.length:Int)+(r.fa.length:Int)+(r.send.length:Int)+(r.left.length:Int)+(r.right.length:Int)+(r.parent.length:Int):Int):=by omega
  have E:=hide (show As topo r=true from by
   simp [As,Be,C,hS];try omega)
  go_enter Tryz.func174,Tryz.ntmps174;go_wp2_with fail;go_ret;exact⟨by rw [E.out];rfl,(Below.refl _ _).alloc (Nat.le_refl _) _⟩
 have J:¬0<((r.resp.length:Int)+(r.guards.length:Int)+(r.ex.length:Int)+(r.fa.length:Int)+(r.send.length:Int)+(r.left.length:Int)+(r.right.length:Int)+(r.parent.length:Int):Int):=by omega
 by_cases F:r.at_=0
 case neg=>
  have M:(r.at_ != 0)=true:=by simp [F]
  have E:=hide (show As topo r=true from by
   simp [As,Be,C,hS,F];try omega)
  go_enter Tryz.func174,Tryz.ntmps174;go_wp2_with fail;go_ret;exact⟨by rw [E.out];rfl,(Below.refl _ _).alloc (Nat.le_refl _) _⟩
 have M:(r.at_ != 0)=false:=by simp [F]
 by_cases G:r.rd= -1
 case neg=>
  have O:(r.rd != -1)=true:=by simp [G]
  have E:=hide (show As topo r=true from by
   simp [As,Be,C,hS,F,G];try omega)
  go_enter Tryz.func174,Tryz.ntmps174;go_wp2_with fail;go_ret;exact⟨by rw [E.out];rfl,(Below.refl _ _).alloc (Nat.le_refl _) _⟩
 have O:(r.rd != -1)=false:=by simp [G]
 by_cases I:r.wr= -1
 case neg=>
  have U:(r.wr != -1)=true:=by simp [I]
  have E:=hide (show As topo r=true from by
   simp [As,Be,C,hS,F,G,I];try omega)
  go_enter Tryz.func174,Tryz.ntmps174;go_wp2_with fail;go_ret;exact⟨by rw [E.out];rfl,(Below.refl _ _).alloc (Nat.le_refl _) _⟩
 have U:(r.wr != -1)=false:=by simp [I]
 have E:=hide (show As topo r=false from by
  simp [As,Be,C,hS,F,G,I];try omega)
 go_enter Tryz.func174,Tryz.ntmps174;go_wp2_with fail;go_ret;exact⟨by rw [E.out];rfl,(Below.refl _ _).alloc (Nat.le_refl _) _⟩
theorem Tw {w:World} {cs:List Value} {r:Az} {topo:Int} (h:AW w w.heap.size cs r) (hs:r.Small) (F:¬r.kind=1) (G:¬r.kind=2) (I:¬r.kind=3) (J:¬r.kind=4) (M:¬r.kind=5):Calls Tryz.prog 174 #[.agg cs.toArray,.int .i64 topo] w (Ret fun v w'=>v=.bool (As topo r)/\Below w.heap.size w w'):=by
 obtain⟨A1,c1,A2,c2,A3,c3,A4,c4,A5,c5,A6,c6,A7,c7,A8,c8,rfl,-⟩:=h;obtain⟨n1,n2,n3,n4,n5,n6,n7,n8⟩:=hs;have e1:(r.kind==1)=false:=by simp [F]
 have e2:(r.kind==2)=false:=by simp [G]
 have e3:(r.kind==3)=false:=by simp [I]
 have e4:(r.kind==4)=false:=by simp [J]
 have e5:(r.kind==5)=false:=by simp [M]
 by_cases hS:0<r.resp.length+r.guards.length+r.ex.length+r.fa.length+r.send.length+r.left.length+r.right.length+r.parent.length
 ·have a2:0<((r.resp.length:Int)+(r.guards.length:Int)+(r.ex.length:Int)+(r.fa.length:Int)+(r.send.length:Int)+(r.left.length:Int)+(r.right.length:Int)+(r.parent.length:Int):Int):=by omega
  have C:=hide (show As topo r=true from by
   simp [As,Be,F,G,I,J,M,hS];try omega)
  go_enter Tryz.func174,Tryz.ntmps174;go_wp2_with fail;go_ret;exact⟨by rw [C.out];rfl,(Below.refl _ _).alloc (Nat.le_refl _) _⟩
 have a2:¬0<((r.resp.length:Int)+(r.guards.length:Int)+(r.ex.length:Int)+(r.fa.length:Int)+(r.send.length:Int)+(r.left.length:Int)+(r.right.length:Int)+(r.parent.length:Int):Int):=by omega
 by_cases E:r.pf=0
 case neg=>
  have a5:(r.pf != 0)=true:=by simp [E]
  have C:=hide (show As topo r=true from by
   simp [As,Be,F,G,I,J,M,hS,E];try omega)
  go_enter Tryz.func174,Tryz.ntmps174;go_wp2_with fail;go_ret;exact⟨by rw [C.out];rfl,(Below.refl _ _).alloc (Nat.le_refl _) _⟩
 have a5:(r.pf != 0)=false:=by simp [E]
 by_cases O:r.pt=0
 case neg=>
  have a6:(r.pt != 0)=true:=by simp [O]
  have C:=hide (show As topo r=true from by
   simp [As,Be,F,G,I,J,M,hS,E,O];try omega)
  go_enter Tryz.func174,Tryz.ntmps174;go_wp2_with fail;go_ret;exact⟨by rw [C.out];rfl,(Below.refl _ _).alloc (Nat.le_refl _) _⟩
 have a6:(r.pt != 0)=false:=by simp [O]
 by_cases U:r.at_=0
 case neg=>
  have a3:(r.at_ != 0)=true:=by simp [U]
  have C:=hide (show As topo r=true from by
   simp [As,Be,F,G,I,J,M,hS,E,O,U];try omega)
  go_enter Tryz.func174,Tryz.ntmps174;go_wp2_with fail;go_ret;exact⟨by rw [C.out];rfl,(Below.refl _ _).alloc (Nat.le_refl _) _⟩
 have a3:(r.at_ != 0)=false:=by simp [U]
 by_cases V:r.dir=0
 case neg=>
  have a4:(r.dir != 0)=true:=by simp [V]
  have C:=hide (show As topo r=true from by
   simp [As,Be,F,G,I,J,M,hS,E,O,U,V];try omega)
  go_enter Tryz.func174,Tryz.ntmps174;go_wp2_with fail;go_ret;exact⟨by rw [C.out];rfl,(Below.refl _ _).alloc (Nat.le_refl _) _⟩
 have a4:(r.dir != 0)=false:=by simp [V]
 by_cases W:r.rd= -1
 case neg=>
  have a7:(r.rd != -1)=true:=by simp [W]
  have C:=hide (show As topo r=true from by
   simp [As,Be,F,G,I,J,M,hS,E,O,U,V,W];try omega)
  go_enter Tryz.func174,Tryz.ntmps174;go_wp2_with fail;go_ret;exact⟨by rw [C.out];rfl,(Below.refl _ _).alloc (Nat.le_refl _) _⟩
 have a7:(r.rd != -1)=false:=by simp [W]
 by_cases Z:r.wr= -1
 case neg=>
  have a8:(r.wr != -1)=true:=by simp [Z]
  have C:=hide (show As topo r=true from by
   simp [As,Be,F,G,I,J,M,hS,E,O,U,V,W,Z];try omega)
  go_enter Tryz.func174,Tryz.ntmps174;go_wp2_with fail;go_ret;exact⟨by rw [C.out];rfl,(Below.refl _ _).alloc (Nat.le_refl _) _⟩
 have a8:(r.wr != -1)=false:=by simp [Z]
 have C:=hide (show As topo r=false from by
  simp [As,Be,F,G,I,J,M,hS,E,O,U,V,W,Z];try omega)
 go_enter Tryz.func174,Tryz.ntmps174;go_wp2_with fail;go_ret;exact⟨by rw [C.out];rfl,(Below.refl _ _).alloc (Nat.le_refl _) _⟩
theorem TE {w:World} {cs:List Value} {r:Az} {topo:Int} (h:AW w w.heap.size cs r) (C:r.Small):Calls Tryz.prog 174 #[.agg cs.toArray,.int .i64 topo] w (Ret fun v w'=>v=.bool (As topo r)/\Below w.heap.size w w'):=by
 by_cases F:r.kind=1
 ·exact Tx h C F
 by_cases G:r.kind=2
 ·exact Ty h C G
 by_cases I:r.kind=3
 ·exact Tz h C I
 by_cases E:r.kind=4
 ·by_cases ht:topo=4
  ·exact TB h C E ht
  ·exact TC h C E ht
 by_cases J:r.kind=5
 ·exact TD h C J
 ·exact Tw h C F G I E J
end Go.Proofs.YtjejejmeddkciaaGreatDoor.K
