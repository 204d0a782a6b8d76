/-
  Part PC of a proof.
-/
import Derived.Test.YtfcfpoemojjglaaGreatDoorPA
import Derived.Test.YtfcfpoemojjglaaGreatDoorPB
set_option maxHeartbeats 16000000
set_option maxRecDepth 100000
set_option linter.unusedVariables false
set_option linter.unusedSimpArgs false
namespace Go.Proofs.YtfcfpoemojjglaaGreatDoor
open Go.RowKit
theorem FM {w:World} {B:Nat} {A:Option Addr} {c:Nat} {l:List Int} (n:Int) (h:Sl w B 1 Ai A l):
  Calls Tryz.prog 40 #[.int .i64 n,.slice A l.length c] w fun e w'=>e=.returned (.bool (l.all (inN n)))∧w=w':=by
 have O:=h.1
 go_enter Tryz.func40,Tryz.ntmps40
 go_wp2_with fail
 go_loop [9] (fun C=>∃(k:Nat),C=.int .i64 (k:Int)∧k≤l.length∧Hid ((l.take k).all (inN n)=true)) (fun C=>l.length - (intOf C).toNat)
 case atStart=>exact⟨0,rfl,Nat.zero_le _,rfl⟩
 case round=>
  obtain⟨k,rfl,hk,E⟩:=hrel
  by_cases J:k<l.length
  ·obtain⟨b,U,x,rfl,M,G,F⟩:=h.at J
   have I:=F 0 (by omega)
   simp only [Nat.mul_one,Nat.add_zero,Ai] at I
   have z:=hide G
   clear G F
   by_cases h0:x<0
   ·have y:=hide (IQ z.out (p:=inN n) (by simp [inN]; omega))
    go_wp2_with fail
    go_ret
    exact⟨by rw [y.out]; rfl,rfl⟩
   ·by_cases h1:n≤x
    ·have y:=hide (IQ z.out (p:=inN n) (by simp [inN]; omega))
     go_wp2_with fail
     go_ret
     exact⟨by rw [y.out]; rfl,rfl⟩
    ·have y:=hide (Mb z.out E.out (p:=inN n) (by simp [inN]; omega))
     go_wp2_with fail
     exact⟨⟨k+1,by go_num,by omega,y⟩,by simp [intOf]; omega⟩
  ·have y:=hide (Ma (by omega) E.out)
   go_wp2_with fail
   go_ret
   exact⟨by rw [y.out]; rfl,rfl⟩
def inC (n lo hi:Int):Bool:=decide (lo≤n)&&decide (n≤hi)
theorem X2 {w:World} {B:Nat} {A:Option Addr} {c:Nat} {l:List Int} (n:Int) (h:Sl w B 1 Ai A l):
  Calls Tryz.prog 129 #[.slice A l.length c,.int .i64 n] w fun e w'=>e=.returned (.bool (decide (n∈l)))∧w=w':=by
 have O:=h.1
 go_enter Tryz.func129,Tryz.ntmps129
 go_wp2_with fail
 go_loop [5] (fun z=>∃(k:Nat),z=.int .i64 (k:Int)∧k≤l.length∧Hid (n∉l.take k)) (fun z=>l.length - (intOf z).toNat)
 case atStart=>exact⟨0,rfl,Nat.zero_le _,hide (by simp)⟩
 case round=>
  obtain⟨k,rfl,hk,C⟩:=hrel
  by_cases J:k<l.length
  ·obtain⟨b,V,x,rfl,M,G,F⟩:=h.at J
   have I:=F 0 (by omega)
   simp only [Nat.mul_one,Nat.add_zero,Ai] at I
   have E:=hide G
   clear G F
   by_cases h0:x=n
   ·subst h0
    have y:=hide (decide_eq_true (List.mem_of_getElem? E.out))
    go_wp2_with fail
    go_ret
    exact⟨by rw [y.out]; rfl,rfl⟩
   ·have y:=hide (show n∉l.take (k+1) from by
     rw [B5 E.out,List.mem_append,List.mem_singleton]
     rintro(h1 | h1)
     ·exact C.out h1
     ·exact h0 h1.symm)
    have U:(x==n)=false:=by simpa using h0
    clear h0
    go_wp2_with fail
    exact⟨⟨k+1,by go_num,by omega,y⟩,by simp [intOf]; omega⟩
  ·have y:=hide (show decide (n∈l)=false from by
    have:=C.out
    rw [List.take_of_length_le (by omega)] at this
    simpa using this)
   go_wp2_with fail
   go_ret
   exact⟨by rw [y.out]; rfl,rfl⟩
end Go.Proofs.YtfcfpoemojjglaaGreatDoor
namespace Go.Proofs.YtfcfpoemojjglaaGreatDoor
open Go.RowKit
def BX (w:World) (B:Nat) (u:Value) (m:List Bool):Prop:=∃g,g<B∧u=.slice (some ⟨g,0,none⟩) m.length m.length∧Blk w g 4 (m.map Value.bool).toArray
theorem BX.cell {w:World} {g:Nat} {m:List Bool} (h:Blk w g 4 (m.map Value.bool).toArray) {q:Nat} {b:Bool} (y:m[q]?=some b):w.cell? ⟨g,q,none⟩=some (.bool b):=by
 rw [h.cell]
 simp [y]
theorem BX.keep {w w':World} {B B':Nat} {u:Value} {m:List Bool} (h:BX w B u m) (z:Below B w w') (E:B≤B'):BX w' B' u m:=by
 obtain⟨g,C,e,y⟩:=h
 exact⟨g,by omega,e,y.at C z⟩
theorem BX.sl {w:World} {B:Nat} {u:Value} {m:List Bool} (h:BX w B u m) (E:m.length≤4000000):∃A c,u=.slice A m.length c∧Sl w B 1 DH A m:=by
 obtain⟨g,z,rfl,y⟩:=h
 refine⟨_,_,rfl,by omega,fun _=>⟨g,0,rfl,z,fun k d hd j C=>?_⟩⟩
 obtain rfl:j=0:=by omega
 have:=BX.cell y hd
 simpa [DH] using this
theorem HE (n:Nat):Array.replicate n (Value.bool false)=((List.replicate n false).map Value.bool).toArray:=by
 apply Array.ext'
 simp
theorem HF (m:List Bool) (q:Nat):((m.map Value.bool).toArray).setIfInBounds q (.bool true)=((m.set q true).map Value.bool).toArray:=by
 apply Array.ext'
 simp [List.map_set]
theorem JZ (n:Nat):BN n []=List.replicate n false:=by
 apply List.ext_getElem?
 intro i
 rcases Nat.lt_or_ge i n with h | h
 ·rw [Dg h,List.getElem?_replicate]; simp [h]
 ·rw [List.getElem?_eq_none (by rw [Dh]; exact h),List.getElem?_eq_none (by simpa using h)]
theorem J0 {n:Nat} (l:List Int) (q:Nat):BN n (l++[(q:Int)])=(BN n l).set q true:=by
 apply List.ext_getElem?
 intro i
 rcases Nat.lt_or_ge i n with y | y
 ·rw [Dg y,List.getElem?_set]
  by_cases h:q=i
  ·subst h
   simp [Dh,y]
  ·rw [if_neg h,Dg y]
   congr 1
   refine decide_eq_decide.2 ?_
   simp only [List.mem_append,List.mem_singleton]
   constructor
   ·rintro(h1 | h1)
    ·exact h1
    ·omega
   ·exact .inl
 ·rw [List.getElem?_eq_none (by rw [Dh]; exact y),List.getElem?_eq_none (by simp [Dh]; exact y)]
def IA (w:World) (n:Nat) (l:List Int) (r:Value) (w':World):Prop:=Below w.heap.size w w'∧BX w' w'.heap.size r (BN n l)∧∀g,r.ownBlock=some g→w.heap.size≤g
theorem Q3 {w:World} {B:Nat} {A:Option Addr} {c:Nat} {l:List Int} {n:Nat} (h:Sl w B 1 Ai A l) (hB:B≤w.heap.size) (hn:n≤200000) (V:∀x∈l,inN n x=true):
  Calls Tryz.prog 60 #[.int .i64 (n:Int),.slice A l.length c] w (Ret fun r w'=>IA w n l r w'):=by
 have af:=h.1
 obtain⟨g,w1,ag,z,J,hg⟩:=HI w n (by omega)
 rw [HE,←JZ] at z
 have a2:=hide z
 have ae:=z.lt
 have ai:=J.size
 have hI:=hide V
 clear z V
 go_enter Tryz.func60,Tryz.ntmps60
 go_wp2_with fail
 go_loopw [12] (fun F wr=>∃(k:Nat),F=.int .i64 (k:Int)∧k≤l.length∧Hid (Blk wr g 4 ((BN n (l.take k)).map Value.bool).toArray)∧Ac w1 wr (fun k=>k=g)) (fun F _=>l.length - (intOf F).toNat)
 case atStart=>exact⟨0,rfl,Nat.zero_le _,a2,Ac.refl _ _⟩
 case round=>
  obtain⟨k,rfl,hk,y,G⟩:=hrel
  have M:=J.trans (G.below (B:=w.heap.size) (by omega) (fun k' h1 (e:k'=g)=>by omega))
  by_cases a5:k<l.length
  ·obtain⟨b,aj,x,rfl,a9,E,U⟩:=h.at a5
   have a3:=(M.cell (by show b<_; omega)).trans (U 0 (by omega))
   simp only [Nat.mul_one,Nat.add_zero,Ai] at a3
   obtain⟨q,rfl,W⟩:=CT (hI.out x (List.mem_of_getElem? E))
   simp only [Int.toNat_natCast] at W
   obtain⟨bq,O⟩:=An (l:=BN n (l.take k)) (i:=q) (by rw [Dh]; exact W)
   have aa:=BX.cell y.out O
   have ab:=y.out.frozen q
   have Z:=hide E
   clear E U O
   go_wp2_with fail
   refine⟨⟨k+1,by go_num,by omega,?_,G.setCell (fun _=>rfl) _⟩,by simp [intOf]; omega⟩
   have:=y.out.set_ q (.bool true)
   rw [HF] at this
   show Blk _ _ _ _
   rw [B5 Z.out,J0]
   exact this
  ·have C:=y.out
   rw [List.take_of_length_le (by omega)] at C
   have I:=hide C
   clear C
   go_wp2_with fail
   go_ret
   refine⟨M,⟨g,I.out.lt,by rw [Dh]; rfl,I.out⟩,fun g' a4=>?_⟩
   simp [Value.ownBlock] at a4
   omega
end Go.Proofs.YtfcfpoemojjglaaGreatDoor
