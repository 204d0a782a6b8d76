/-
  Part PC of a proof.
-/
import Derived.Test.YtlakpndhhelliaaGreatDoorPA
import Derived.Test.YtlakpndhhelliaaGreatDoorPB
set_option maxHeartbeats 16000000
set_option maxRecDepth 100000
set_option linter.unusedVariables false
set_option linter.unusedSimpArgs false
namespace Go.Proofs.YtlakpndhhelliaaGreatDoor
open Go.RowKit
theorem FL {w:World} {B:Nat} {A:Option Addr} {c:Nat} {l:List Int} (n:Int) (h:Sl w B 1 Ai A l):
  Calls Tryz.prog 58 #[.int .i64 n,.slice A l.length c] w fun e w'=>e=.returned (.bool (l.all (inN n)))∧w=w':=by
 have J:=h.1
 go_enter Tryz.func58,Tryz.ntmps58
 go_wp2_with fail
 go_loop [9] (fun y=>∃(k:Nat),y=.int .i64 (k:Int)∧k≤l.length∧Hid ((l.take k).all (inN n)=true)) (fun y=>l.length - (intOf y).toNat)
 case atStart=>exact⟨0,rfl,Nat.zero_le _,rfl⟩
 case round=>
  obtain⟨k,rfl,hk,C⟩:=hrel
  by_cases G:k<l.length
  ·obtain⟨b,M,x,rfl,O,E,F⟩:=h.at G
   have I:=F 0 (by omega)
   simp only [Nat.mul_one,Nat.add_zero,Ai] at I
   have z:=hide E
   clear E F
   by_cases U:x<0
   ·have f:=hide (I4 z.out (p:=inN n) (by simp [inN]; omega))
    go_wp2_with fail
    go_ret
    exact⟨by rw [f.out]; rfl,rfl⟩
   ·by_cases V:n≤x
    ·have f:=hide (I4 z.out (p:=inN n) (by simp [inN]; omega))
     go_wp2_with fail
     go_ret
     exact⟨by rw [f.out]; rfl,rfl⟩
    ·have f:=hide (Kr z.out C.out (p:=inN n) (by simp [inN]; omega))
     go_wp2_with fail
     exact⟨⟨k+1,by go_num,by omega,f⟩,by simp [intOf]; omega⟩
  ·have f:=hide (Ph (by omega) C.out)
   go_wp2_with fail
   go_ret
   exact⟨by rw [f.out]; rfl,rfl⟩
def inC (n lo hi:Int):Bool:=decide (lo≤n)&&decide (n≤hi)
theorem RB {n x:Int}:inC x 0 (n - 1)=inN n x:=by
 unfold inC inN
 congr 1
 exact decide_eq_decide.2 (by omega)
end Go.Proofs.YtlakpndhhelliaaGreatDoor
namespace Go.Proofs.YtlakpndhhelliaaGreatDoor
open Go.RowKit
def DB (w:World) (B:Nat) (u:Value) (m:List Bool):Prop:=∃g,g<B∧u=.slice (some ⟨g,0,none⟩) m.length m.length∧Blk w g 4 (m.map Value.bool).toArray
theorem DB.cell {w:World} {g:Nat} {m:List Bool} (h:Blk w g 4 (m.map Value.bool).toArray) {q:Nat} {b:Bool} (f:m[q]?=some b):w.cell? ⟨g,q,none⟩=some (.bool b):=by
 rw [h.cell]
 simp [f]
theorem DB.keep {w w':World} {B B':Nat} {u:Value} {m:List Bool} (h:DB w B u m) (f:Below B w w') (C:B≤B'):DB w' B' u m:=by
 obtain⟨g,y,e,z⟩:=h
 exact⟨g,by omega,e,z.at y f⟩
theorem DB.sl {w:World} {B:Nat} {u:Value} {m:List Bool} (h:DB w B u m) (z:m.length≤4000000):∃A c,u=.slice A m.length c∧Sl w B 1 Dh A m:=by
 obtain⟨g,f,rfl,y⟩:=h
 refine⟨_,_,rfl,by omega,fun _=>⟨g,0,rfl,f,fun k d hd j C=>?_⟩⟩
 obtain rfl:j=0:=by omega
 have:=DB.cell y hd
 simpa [Dh] using this
theorem O0 (n:Nat):Array.replicate n (Value.bool false)=((List.replicate n false).map Value.bool).toArray:=by
 apply Array.ext'
 simp
theorem OA (m:List Bool) (q:Nat):((m.map Value.bool).toArray).setIfInBounds q (.bool true)=((m.set q true).map Value.bool).toArray:=by
 apply Array.ext'
 simp [List.map_set]
theorem Rt (n:Nat):BF n []=List.replicate n false:=by
 apply List.ext_getElem?
 intro i
 rcases Nat.lt_or_ge i n with f | f
 ·rw [CS f,List.getElem?_replicate]; simp [f]
 ·rw [List.getElem?_eq_none (by rw [C0]; exact f),List.getElem?_eq_none (by simpa using f)]
theorem Kb {n:Nat} (l:List Int) (q:Nat):BF n (l++[(q:Int)])=(BF n l).set q true:=by
 apply List.ext_getElem?
 intro i
 rcases Nat.lt_or_ge i n with f | f
 ·rw [CS f,List.getElem?_set]
  by_cases h:q=i
  ·subst h
   simp [C0,f]
  ·rw [if_neg h,CS f]
   congr 1
   refine decide_eq_decide.2 ?_
   simp only [List.mem_append,List.mem_singleton]
   constructor
   ·rintro(y | y)
    ·exact y
    ·omega
   ·exact .inl
 ·rw [List.getElem?_eq_none (by rw [C0]; exact f),List.getElem?_eq_none (by simp [C0]; exact f)]
def Qa (w:World) (n:Nat) (l:List Int) (r:Value) (w':World):Prop:=Below w.heap.size w w'∧DB w' w'.heap.size r (BF n l)∧∀g,r.ownBlock=some g→w.heap.size≤g
theorem MO {w:World} {B:Nat} {A:Option Addr} {c:Nat} {l:List Int} {n:Nat} (h:Sl w B 1 Ai A l) (hB:B≤w.heap.size) (hn:n≤200000) (F:∀x∈l,inN n x=true):
  Calls Tryz.prog 39 #[.int .i64 (n:Int),.slice A l.length c] w (Ret fun r w'=>Qa w n l r w'):=by
 have a7:=h.1
 obtain⟨g,w1,a8,f,G,hg⟩:=Q5 w n (by omega)
 rw [O0,←Rt] at f
 have W:=hide f
 have aa:=f.lt
 have ab:=G.size
 have hI:=hide F
 clear f F
 go_enter Tryz.func39,Tryz.ntmps39
 go_wp2_with fail
 go_loopw [12] (fun z wr=>∃(k:Nat),z=.int .i64 (k:Int)∧k≤l.length∧Hid (Blk wr g 4 ((BF n (l.take k)).map Value.bool).toArray)∧Ae w1 wr (fun k=>k=g)) (fun z _=>l.length - (intOf z).toNat)
 case atStart=>exact⟨0,rfl,Nat.zero_le _,W,Ae.refl _ _⟩
 case round=>
  obtain⟨k,rfl,hk,y,I⟩:=hrel
  have J:=G.trans (I.below (B:=w.heap.size) (by omega) (fun k' h1 (e:k'=g)=>by omega))
  by_cases Z:k<l.length
  ·obtain⟨b,ad,x,rfl,ae,C,M⟩:=h.at Z
   have a2:=(J.cell (by show b<_; omega)).trans (M 0 (by omega))
   simp only [Nat.mul_one,Nat.add_zero,Ai] at a2
   obtain⟨q,rfl,O⟩:=Dc (hI.out x (List.mem_of_getElem? C))
   simp only [Int.toNat_natCast] at O
   obtain⟨bq,U⟩:=Ay (l:=BF n (l.take k)) (i:=q) (by rw [C0]; exact O)
   have ag:=DB.cell y.out U
   have ah:=y.out.frozen q
   have hX:=hide C
   clear C M U
   go_wp2_with fail
   refine⟨⟨k+1,by go_num,by omega,?_,I.setCell (fun _=>rfl) _⟩,by simp [intOf]; omega⟩
   have:=y.out.set_ q (.bool true)
   rw [OA] at this
   show Blk _ _ _ _
   rw [CF hX.out,Kb]
   exact this
  ·have E:=y.out
   rw [List.take_of_length_le (by omega)] at E
   have V:=hide E
   clear E
   go_wp2_with fail
   go_ret
   refine⟨J,⟨g,V.out.lt,by rw [C0]; rfl,V.out⟩,fun g' a4=>?_⟩
   simp [Value.ownBlock] at a4
   omega
end Go.Proofs.YtlakpndhhelliaaGreatDoor
