/-
  Part PC of a proof.
-/
import Derived.Test.YtfcfpoemojjglaaGreatDoorPA
import Derived.Test.YtfcfpoemojjglaaGreatDoorPB
set_option maxHeartbeats 16000000
set_option maxRecDepth 100000
set_option linter.unusedVariables false
set_option linter.unusedSimpArgs false
namespace Go.Proofs.YtfcfpoemojjglaaGreatDoor
open Go.RowKit
theorem FM {w:World} {B:Nat} {A:Option Addr} {c:Nat} {l:List Int} (n:Int) (h:Sl w B 1 Ai A l):
  Calls Tryz.prog 40 #[.int .i64 n,.slice A l.length c] w fun e w'=>e=.returned (.bool (l.all (inN n)))∧w=w':=by
 have U:=h.1
 go_enter Tryz.func40,Tryz.ntmps40
 go_wp2_with fail
 go_loop [9] (fun E=>∃(k:Nat),E=.int .i64 (k:Int)∧k≤l.length∧Hid ((l.take k).all (inN n)=true)) (fun E=>l.length - (intOf E).toNat)
 case atStart=>exact⟨0,rfl,Nat.zero_le _,rfl⟩
 case round=>
  obtain⟨k,rfl,hk,F⟩:=hrel
  by_cases M:k<l.length
  ·obtain⟨b,off,x,rfl,O,I,G⟩:=h.at M
   have J:=G 0 (by omega)
   simp only [Nat.mul_one,Nat.add_zero,Ai] at J
   have C:=hide I
   clear I G
   by_cases h0:x<0
   ·have y:=hide (IQ C.out (p:=inN n) (by simp [inN]; omega))
    go_wp2_with fail
    go_ret
    exact⟨by rw [y.out]; rfl,rfl⟩
   ·by_cases h1:n≤x
    ·have y:=hide (IQ C.out (p:=inN n) (by simp [inN]; omega))
     go_wp2_with fail
     go_ret
     exact⟨by rw [y.out]; rfl,rfl⟩
    ·have y:=hide (Mb C.out F.out (p:=inN n) (by simp [inN]; omega))
     go_wp2_with fail
     exact⟨⟨k+1,by go_num,by omega,y⟩,by simp [intOf]; omega⟩
  ·have y:=hide (Ma (by omega) F.out)
   go_wp2_with fail
   go_ret
   exact⟨by rw [y.out]; rfl,rfl⟩
def inC (n lo hi:Int):Bool:=decide (lo≤n)&&decide (n≤hi)
theorem has_any {w:World} {B:Nat} {A:Option Addr} {c:Nat} {l:List Int} (n:Int) (h:Sl w B 1 Ai A l):
  Calls Tryz.prog 129 #[.slice A l.length c,.int .i64 n] w fun e w'=>e=.returned (.bool (decide (n∈l)))∧w=w':=by
 have U:=h.1
 go_enter Tryz.func129,Tryz.ntmps129
 go_wp2_with fail
 go_loop [5] (fun C=>∃(k:Nat),C=.int .i64 (k:Int)∧k≤l.length∧Hid (n∉l.take k)) (fun C=>l.length - (intOf C).toNat)
 case atStart=>exact⟨0,rfl,Nat.zero_le _,hide (by simp)⟩
 case round=>
  obtain⟨k,rfl,hk,E⟩:=hrel
  by_cases M:k<l.length
  ·obtain⟨b,off,x,rfl,O,I,G⟩:=h.at M
   have J:=G 0 (by omega)
   simp only [Nat.mul_one,Nat.add_zero,Ai] at J
   have F:=hide I
   clear I G
   by_cases h0:x=n
   ·subst h0
    have y:=hide (decide_eq_true (List.mem_of_getElem? F.out))
    go_wp2_with fail
    go_ret
    exact⟨by rw [y.out]; rfl,rfl⟩
   ·have y:=hide (show n∉l.take (k+1) from by
     rw [B5 F.out,List.mem_append,List.mem_singleton]
     rintro(h1 | h1)
     ·exact E.out h1
     ·exact h0 h1.symm)
    have V:(x==n)=false:=by simpa using h0
    clear h0
    go_wp2_with fail
    exact⟨⟨k+1,by go_num,by omega,y⟩,by simp [intOf]; omega⟩
  ·have y:=hide (show decide (n∈l)=false from by
    have:=E.out
    rw [List.take_of_length_le (by omega)] at this
    simpa using this)
   go_wp2_with fail
   go_ret
   exact⟨by rw [y.out]; rfl,rfl⟩
end Go.Proofs.YtfcfpoemojjglaaGreatDoor
namespace Go.Proofs.YtfcfpoemojjglaaGreatDoor
open Go.RowKit
def BX (w:World) (B:Nat) (u:Value) (m:List Bool):Prop:=∃g,g<B∧u=.slice (some ⟨g,0,none⟩) m.length m.length∧Blk w g 4 (m.map Value.bool).toArray
theorem BX.cell {w:World} {g:Nat} {m:List Bool} (h:Blk w g 4 (m.map Value.bool).toArray) {q:Nat} {b:Bool} (x:m[q]?=some b):w.cell? ⟨g,q,none⟩=some (.bool b):=by
 rw [h.cell]
 simp [x]
theorem BX.keep {w w':World} {B B':Nat} {u:Value} {m:List Bool} (h:BX w B u m) (y:Below B w w') (E:B≤B'):BX w' B' u m:=by
 obtain⟨g,C,e,x⟩:=h
 exact⟨g,by omega,e,x.at C y⟩
theorem BX.sl {w:World} {B:Nat} {u:Value} {m:List Bool} (h:BX w B u m) (E:m.length≤4000000):∃A c,u=.slice A m.length c∧Sl w B 1 DH A m:=by
 obtain⟨g,y,rfl,x⟩:=h
 refine⟨_,_,rfl,by omega,fun _=>⟨g,0,rfl,y,fun k d hd j C=>?_⟩⟩
 obtain rfl:j=0:=by omega
 have:=BX.cell x hd
 simpa [DH] using this
theorem HE (n:Nat):Array.replicate n (Value.bool false)=((List.replicate n false).map Value.bool).toArray:=by
 apply Array.ext'
 simp
theorem HF (m:List Bool) (q:Nat):((m.map Value.bool).toArray).setIfInBounds q (.bool true)=((m.set q true).map Value.bool).toArray:=by
 apply Array.ext'
 simp [List.map_set]
theorem JZ (n:Nat):BN n []=List.replicate n false:=by
 apply List.ext_getElem?
 intro i
 rcases Nat.lt_or_ge i n with h | h
 ·rw [Dg h,List.getElem?_replicate]; simp [h]
 ·rw [List.getElem?_eq_none (by rw [Dh]; exact h),List.getElem?_eq_none (by simpa using h)]
theorem J0 {n:Nat} (l:List Int) (q:Nat):BN n (l++[(q:Int)])=(BN n l).set q true:=by
 apply List.ext_getElem?
 intro i
 rcases Nat.lt_or_ge i n with x | x
 ·rw [Dg x,List.getElem?_set]
  by_cases h:q=i
  ·subst h
   simp [Dh,x]
  ·rw [if_neg h,Dg x]
   congr 1
   refine decide_eq_decide.2 ?_
   simp only [List.mem_append,List.mem_singleton]
   constructor
   ·rintro(h1 | h1)
    ·exact h1
    ·omega
   ·exact .inl
 ·rw [List.getElem?_eq_none (by rw [Dh]; exact x),List.getElem?_eq_none (by simp [Dh]; exact x)]
def IA (w:World) (n:Nat) (l:List Int) (r:Value) (w':World):Prop:=Below w.heap.size w w'∧BX w' w'.heap.size r (BN n l)∧∀g,r.ownBlock=some g→w.heap.size≤g
theorem Q3 {w:World} {B:Nat} {A:Option Addr} {c:Nat} {l:List Int} {n:Nat} (h:Sl w B 1 Ai A l) (hB:B≤w.heap.size) (hn:n≤200000) (W:∀x∈l,inN n x=true):
  Calls Tryz.prog 60 #[.int .i64 (n:Int),.slice A l.length c] w (Ret fun r w'=>IA w n l r w'):=by
 have ah:=h.1
 obtain⟨g,w1,ai,C,M,hg⟩:=HI w n (by omega)
 rw [HE,←JZ] at C
 have a4:=hide C
 have ag:=C.lt
 have ak:=M.size
 have hI:=hide W
 clear C W
 go_enter Tryz.func60,Tryz.ntmps60
 go_wp2_with fail
 go_loopw [12] (fun G wr=>∃(k:Nat),G=.int .i64 (k:Int)∧k≤l.length∧Hid (Blk wr g 4 ((BN n (l.take k)).map Value.bool).toArray)∧Ac w1 wr (fun k=>k=g)) (fun G _=>l.length - (intOf G).toNat)
 case atStart=>exact⟨0,rfl,Nat.zero_le _,a4,Ac.refl _ _⟩
 case round=>
  obtain⟨k,rfl,hk,y,I⟩:=hrel
  have O:=M.trans (I.below (B:=w.heap.size) (by omega) (fun k' h1 (e:k'=g)=>by omega))
  by_cases a7:k<l.length
  ·obtain⟨b,off,x,rfl,ac,F,V⟩:=h.at a7
   have a5:=(O.cell (by show b<_; omega)).trans (V 0 (by omega))
   simp only [Nat.mul_one,Nat.add_zero,Ai] at a5
   obtain⟨q,rfl,Z⟩:=CT (hI.out x (List.mem_of_getElem? F))
   simp only [Int.toNat_natCast] at Z
   obtain⟨bq,U⟩:=An (l:=BN n (l.take k)) (i:=q) (by rw [Dh]; exact Z)
   have ad:=BX.cell y.out U
   have ae:=y.out.frozen q
   have hX:=hide F
   clear F V U
   go_wp2_with fail
   refine⟨⟨k+1,by go_num,by omega,?_,I.setCell (fun _=>rfl) _⟩,by simp [intOf]; omega⟩
   have:=y.out.set_ q (.bool true)
   rw [HF] at this
   show Blk _ _ _ _
   rw [B5 hX.out,J0]
   exact this
  ·have E:=y.out
   rw [List.take_of_length_le (by omega)] at E
   have J:=hide E
   clear E
   go_wp2_with fail
   go_ret
   refine⟨O,⟨g,J.out.lt,by rw [Dh]; rfl,J.out⟩,fun g' a6=>?_⟩
   simp [Value.ownBlock] at a6
   omega
end Go.Proofs.YtfcfpoemojjglaaGreatDoor
namespace Go.Proofs.YtfcfpoemojjglaaGreatDoor
open Go.RowKit
set_option maxHeartbeats 16000000
set_option maxRecDepth 100000
theorem S1 (cs:Array Value) (w:World):(method 430 144 (.agg cs) "familycheck/word.shape").run Tryz.prog w=.ok (262,.agg cs) w:=by kernel_rfl
theorem S2 (cs:Array Value) (w:World):(method 430 166 (.agg cs) "familycheck/word.shape").run Tryz.prog w=.ok (263,.agg cs) w:=by kernel_rfl
theorem Mg (cs:Array Value) (w:World):(Instr.typeAssert (.iface 144 (.agg cs)) 191 144 true).run Tryz.prog w=.ok (.tuple #[.agg cs,.bool true]) w:=by kernel_rfl
theorem Mi (cs:Array Value) (w:World):(Instr.typeAssert (.iface 166 (.agg cs)) 191 144 true).run Tryz.prog w=.ok (.tuple #[.agg #[.int .i64 0,.int .i64 0,.slice none 0 0,.slice none 0 0,.slice none 0 0],.bool false]) w:=by kernel_rfl
theorem Mh (cs:Array Value) (w:World):(Instr.typeAssert (.iface 166 (.agg cs)) 191 166 true).run Tryz.prog w=.ok (.tuple #[.agg cs,.bool true]) w:=by kernel_rfl
attribute [go_sem] S1 S2 Mg Mi Mh
theorem Il (w:World) (L S:Int) (x y C:Value):Calls Tryz.prog 262 #[.agg #[.int .i64 L,.int .i64 S,x,y,C]] w (Ret fun r w'=>r=.tuple #[.int .i64 L,.int .i64 S]∧Below w.heap.size w w'):=by
 obtain⟨F,J,h,E,I⟩:=Ae w #[.int .i64 L,.int .i64 S,x,y,C] 144
 have G:=E.cell
 go_enter Tryz.func262,Tryz.ntmps262
 go_wp2_with fail
 refine Reg.cP [0,1,0,4,3,31] ?_
 go_wp2_with fail
 exact bodyPost_ret (v:=.tuple #[.int .i64 L,.int .i64 S]) (by simp [results,Tryz.results262,go_sem]) rfl ⟨rfl,(h.trans ((Ap F).mono h.size))⟩
def De (b:Bool):Int:=if b then 0 else 1
def WA.head (a:WA):Bool:=decide (1≤a.letters)&&decide (a.letters≤8)&&decide (0≤a.states)&&decide (a.states≤400)
theorem WA.ok_eq (a:WA):a.ok=(a.head&&a.start.all (inN a.states)&&a.accept.all (inN a.states)&&a.edges.all a.edgeB):=rfl
theorem Lm (w:World) (l:List Int) (x:l.length≤100):Sl (w.alloc (.cells (l.map (Value.int .i64)).toArray 3)) (w.heap.size+1) 1 Ai (some ⟨w.heap.size,0,none⟩) l:=by
 refine⟨by omega,fun _=>⟨w.heap.size,0,rfl,by omega,fun k d hd j h=>?_⟩⟩
 obtain rfl:j=0:=by omega
 have:=(Blk.new w 3 (l.map (Value.int .i64)).toArray).cell (0+k*1+0)
 rw [this]
 simp [hd,Ai]
theorem TY {w:World} {a:WA} {A1 A2 A3:Option Addr} {c1 c2 c3:Nat} (M:Sl w w.heap.size 3 DP A3 a.edges) (F:a.head=false):
  Calls Tryz.prog 86 #[.iface 144 (.agg #[.int .i64 a.letters,.int .i64 a.states,.slice A1 a.start.length c1,.slice A2 a.accept.length c2,.slice A3 a.edges.length c3])] w (Ret fun r w'=>r=.int .i64 (De a.ok)∧Below w.heap.size w w'):=by
 have ai:Hid (a.ok=false):=by show _=_; rw [WA.ok_eq,F]; rfl
 obtain⟨L,S,st,ac,h⟩:=a
 dsimp only at*
 generalize WA.ok ⟨L,S,st,ac,h⟩=OK at*
 have aq:=M.1
 have aa:L<1∨(1≤L∧8<L)∨(1≤L∧L≤8∧S<0)∨(1≤L∧L≤8∧0≤S∧400<S):=by simp [WA.head] at F; omega
 clear F
 rcases aa with E | ⟨E,J⟩ | ⟨E,J,d3⟩ | ⟨E,J,d3,d4⟩
 all_goals
  go_enter Tryz.func86,Tryz.ntmps86
  go_wp2_with (go_at_call 262; refine Calls.ret (Il _ _ _ _ _ _) ?_; rintro v w0 ⟨rfl,V⟩; obtain⟨w1,ar,W,O,af⟩:=Ae w0 #[.int .i64 L,.int .i64 S,.slice A1 st.length c1,.slice A2 ac.length c2,.slice A3 h.length c3] 144; have ap:=O.cell; have aj:=hide (V.trans (W.mono V.size)); clear W O af)
  go_loopw [5,51] (fun bb I wr=>∃(k:Nat),I=.int .i64 (k:Int)∧bb=.bool false∧k≤h.length∧Hid (Below w.heap.size w wr)∧Below w1.heap.size w1 wr) (fun _ I _=>h.length - (intOf I).toNat)
  case atStart=>exact⟨0,rfl,rfl,Nat.zero_le _,aj,Below.refl _ _⟩
  case round=>
   obtain⟨k,rfl,rfl,hk,y,U⟩:=hrel
   by_cases ah:k<h.length
   ·obtain⟨b,off,x,rfl,a9,hx,Z⟩:=M.at ah
    have C:=fun j hj=>(y.out.cell (by exact a9)).trans (Z j hj)
    have e0:=C 0 (by omega)
    have e1:=C 1 (by omega)
    have e2:=C 2 (by omega)
    simp only [Nat.add_zero,DP] at e0 e1 e2
    obtain⟨x0,x1,x2⟩:=x
    dsimp only at*
    obtain⟨w2,au,G,a8,ag⟩:=Ae wr #[.int .i64 x0,.int .i64 x1,.int .i64 x2] 83
    have hf:=hide (y.out.trans (G.mono y.out.size))
    have ad:=hide (U.trans (G.mono U.size))
    clear hx Z C G a8 ag
    go_wp2_with fail
    exact⟨⟨k+1,by go_num,rfl,by omega,hf,ad.out⟩,by simp [intOf]; omega⟩
   ·go_wp2_with fail
    go_ret
    exact⟨by rw [ai.out]; rfl,y.out⟩
theorem Jm (n x y:Int) (c:Nat) (w:World):Calls Tryz.prog 40 #[.int .i64 n,.slice (some ⟨w.heap.size,0,none⟩) 2 c] (w.alloc (.cells #[.int .i64 x,.int .i64 y] 3)) fun e w'=>e=.returned (.bool (inN n x&&inN n y))∧w.alloc (.cells #[.int .i64 x,.int .i64 y] 3)=w':=by
 have:=FM (c:=c) n (Lm w [x,y] (by simp))
 simpa using this
theorem Nl (n x:Int) (c:Nat) (w:World) {g:Nat} (h:g=w.heap.size):Calls Tryz.prog 40 #[.int .i64 n,.slice (some ⟨g,0,none⟩) 1 c] (w.alloc (.cells #[.int .i64 x] 3)) fun e w'=>e=.returned (.bool (inN n x))∧w.alloc (.cells #[.int .i64 x] 3)=w':=by
 subst h
 have:=FM (c:=c) n (Lm w [x] (by simp))
 simpa using this
theorem TZ {w:World} {a:WA} {A1 A2 A3:Option Addr} {c1 c2 c3:Nat} (h1:Sl w w.heap.size 1 Ai A1 a.start) (h2:Sl w w.heap.size 1 Ai A2 a.accept) (h3:Sl w w.heap.size 3 DP A3 a.edges) (hb:a.head=true):
  Calls Tryz.prog 86 #[.iface 144 (.agg #[.int .i64 a.letters,.int .i64 a.states,.slice A1 a.start.length c1,.slice A2 a.accept.length c2,.slice A3 a.edges.length c3])] w (Ret fun r w'=>r=.int .i64 (De a.ok)∧Below w.heap.size w w'):=by
 have ak:=hide (WA.ok_eq a)
 rw [hb] at ak
 obtain⟨L,S,st,ac,h⟩:=a
 dsimp only at*
 have aO:=h3.1
 simp only [WA.head,Bool.and_eq_true,decide_eq_true_eq] at hb
 obtain⟨⟨⟨d1,d2⟩,d3⟩,d4⟩:=hb
 obtain⟨p,hp⟩:∃p:Edg→Bool,p=WA.edgeB ⟨L,S,st,ac,h⟩:=⟨_,rfl⟩
 have av:∀e:Edg,p e=(inN S e.frm&&inN S e.to&&inN L e.letter):=fun e=>by rw [hp]; rfl
 have al:Hid (WA.ok ⟨L,S,st,ac,h⟩=(st.all (inN S)&&ac.all (inN S)&&h.all p)):=by show _=_; rw [ak.out,hp]; simp
 have aB:=hide av
 clear ak hp av
 generalize WA.ok ⟨L,S,st,ac,h⟩=OK at*
 obtain⟨s1,ao⟩:∃b,Hid (st.all (inN S)=b):=⟨_,rfl⟩
 obtain⟨s2,ap⟩:∃b,Hid (ac.all (inN S)=b):=⟨_,rfl⟩
 rw [ao.out,ap.out] at al
 cases s1 <;> cases s2
 case true.true=>
  go_enter Tryz.func86,Tryz.ntmps86
  go_wp2_with (first
   | (go_at_call 262; refine Calls.ret (Il _ _ _ _ _ _) ?_; rintro v w0 ⟨rfl,a2⟩; obtain⟨w1,aD,a3,V,ag⟩:=Ae w0 #[.int .i64 L,.int .i64 S,.slice A1 st.length c1,.slice A2 ac.length c2,.slice A3 h.length c3] 144; have az:=V.cell; have I:=hide (a2.trans (a3.mono a2.size)); clear a3 V ag)
   | (go_at_call 40; refine(FM _ (by first | exact h1.below I.out | exact h2.below I.out)).mono ?_; rintro e w' ⟨rfl,rfl⟩; first | rw [ao.out] | rw [ap.out]))
  go_loopw [5,51] (fun bb J wr=>∃(k:Nat) (b:Bool),J=.int .i64 (k:Int)∧bb=.bool b∧k≤h.length∧Hid ((h.take k).all p=b)∧Hid (Below w.heap.size w wr)∧Below w1.heap.size w1 wr) (fun _ J _=>h.length - (intOf J).toNat)
  case atStart=>exact⟨0,true,rfl,rfl,Nat.zero_le _,rfl,I,Below.refl _ _⟩
  case round=>
   obtain⟨k,b,rfl,rfl,hk,hE,y,Z⟩:=hrel
   by_cases ai:k<h.length
   ·obtain⟨bl,off,x,rfl,ae,hx,hc⟩:=h3.at ai
    have C:=fun j hj=>(y.out.cell (by exact ae)).trans (hc j hj)
    have e0:=C 0 (by omega)
    have e1:=C 1 (by omega)
    have e2:=C 2 (by omega)
    simp only [Nat.add_zero,DP] at e0 e1 e2
    have aC:=hide (aB.out x)
    have aj:Hid ((h.take (k+1)).all p=(b&&p x)):=by show _=_; rw [B5 hx,List.all_append,hE.out]; simp
    obtain⟨O,M,U⟩:=x
    dsimp only at*
    obtain⟨w2,aE,E,W,ah⟩:=Ae wr #[.int .i64 O,.int .i64 M,.int .i64 U] 83
    have aA:=W.cell
    have aN:∀o i,(w2.alloc o).cell? ⟨wr.heap.size,i,none⟩=#[.int .i64 O,.int .i64 M,.int .i64 U][i]?:=fun o i=>(World.cell?_alloc_lt w2 o _ W.lt).trans (aA i)
    have aP:=hide E.size
    have F:=hide (y.out.trans (E.mono y.out.size))
    have G:=hide (Z.trans (E.mono Z.size))
    clear hx hc C E W ah
    cases b
    ·go_wp2_with fail
     exact⟨⟨k+1,false,by go_num,rfl,by omega,by show _=_; rw [aj.out]; rfl,F,G.out⟩,by simp [intOf]; omega⟩
    ·obtain⟨r1,an⟩:∃r,Hid ((inN S O&&inN S U)=r):=⟨_,rfl⟩
     obtain⟨r2,ax⟩:∃r,Hid (inN L M=r):=⟨_,rfl⟩
     have aw:Hid (p ⟨O,M,U⟩=(r1&&r2)):=by show _=_; rw [aC.out,an.out,ax.out]
     cases r1
     ·go_wp2_with (go_at_call 40; refine(Jm _ _ _ _ _).mono ?_; rintro e w' ⟨rfl,rfl⟩; rw [an.out])
      exact⟨⟨k+1,false,by go_num,rfl,by omega,by show _=_; rw [aj.out,aw.out]; rfl,hide (F.out.alloc F.out.size _),G.out.alloc G.out.size _⟩,by simp [intOf]; omega⟩
     ·go_wp2_with fail
      refine(Jm _ _ _ _ _).mono ?_
      rintro e w' ⟨rfl,rfl⟩
      rw [an.out]
      go_wp2_with fail
      refine(Nl L M _ _ (by simp)).mono ?_
      rintro e w' ⟨rfl,rfl⟩
      rw [ax.out]
      go_wp2_with fail
      exact⟨⟨k+1,r2,by go_num,rfl,by omega,by show _=_; rw [aj.out,aw.out]; rfl,hide ((F.out.alloc F.out.size _).alloc (by have:=F.out.size; simp; omega) _),(G.out.alloc G.out.size _).alloc (by have:=G.out.size; simp; omega) _⟩,by simp [intOf]; omega⟩
   ·have hA:Hid (h.all p=b):=by show _=_; rw [←hE.out,List.take_of_length_le (by omega)]
    cases b
    all_goals
     go_wp2_with fail
     go_ret
     exact⟨by rw [al.out,hA.out]; rfl,y.out⟩
 all_goals
  go_enter Tryz.func86,Tryz.ntmps86
  go_wp2_with (first
   | (go_at_call 262; refine Calls.ret (Il _ _ _ _ _ _) ?_; rintro v w0 ⟨rfl,a2⟩; obtain⟨w1,aD,a3,V,ag⟩:=Ae w0 #[.int .i64 L,.int .i64 S,.slice A1 st.length c1,.slice A2 ac.length c2,.slice A3 h.length c3] 144; have az:=V.cell; have I:=hide (a2.trans (a3.mono a2.size)); clear a3 V ag)
   | (go_at_call 40; refine(FM _ (by first | exact h1.below I.out | exact h2.below I.out)).mono ?_; rintro e w' ⟨rfl,rfl⟩; first | rw [ao.out] | rw [ap.out]))
  go_loopw [5,51] (fun bb J wr=>∃(k:Nat),J=.int .i64 (k:Int)∧bb=.bool false∧k≤h.length∧Hid (Below w.heap.size w wr)∧Below w1.heap.size w1 wr) (fun _ J _=>h.length - (intOf J).toNat)
  case atStart=>exact⟨0,rfl,rfl,Nat.zero_le _,I,Below.refl _ _⟩
  case round=>
   obtain⟨k,rfl,rfl,hk,y,Z⟩:=hrel
   by_cases ai:k<h.length
   ·obtain⟨b,off,x,rfl,ae,hx,hc⟩:=h3.at ai
    have C:=fun j hj=>(y.out.cell (by exact ae)).trans (hc j hj)
    have e0:=C 0 (by omega)
    have e1:=C 1 (by omega)
    have e2:=C 2 (by omega)
    simp only [Nat.add_zero,DP] at e0 e1 e2
    obtain⟨O,M,U⟩:=x
    dsimp only at*
    obtain⟨w2,aE,E,W,ah⟩:=Ae wr #[.int .i64 O,.int .i64 M,.int .i64 U] 83
    have F:=hide (y.out.trans (E.mono y.out.size))
    have G:=hide (Z.trans (E.mono Z.size))
    clear hx hc C E W ah
    go_wp2_with fail
    exact⟨⟨k+1,by go_num,rfl,by omega,F,G.out⟩,by simp [intOf]; omega⟩
   ·go_wp2_with fail
    go_ret
    exact⟨by rw [al.out]; rfl,y.out⟩
theorem TX {v:Value} {a:WA} {w:World} (h:Bj w w.heap.size v a):
  Calls Tryz.prog 86 #[.iface 144 v] w (Ret fun r w'=>r=.int .i64 (De a.ok)∧Below w.heap.size w w'):=by
 obtain⟨A1,c1,A2,c2,A3,c3,rfl,h1,C,x,E⟩:=h
 cases y:a.head
 ·exact TY x y
 ·exact TZ h1 C x y
theorem Iv {v:Value} {a:WA} {w:World} (h:Bj w w.heap.size v a):
  Calls Tryz.prog 39 #[v] w (Ret fun r w'=>r=.int .i64 (De a.ok)∧Below w.heap.size w w'):=by
 have I:=hide h
 obtain⟨A1,c1,A2,c2,A3,c3,rfl,h1,C,E,F⟩:=h
 obtain⟨W,V,x,G,O⟩:=Ae w #[.int .i64 a.letters,.int .i64 a.states,.slice A1 a.start.length c1,.slice A2 a.accept.length c2,.slice A3 a.edges.length c3] 35
 have U:=G.cell
 have J:=hide ((I.out.below x).keep (fun _ _=>rfl) x.size)
 have y:=hide x
 clear h1 C E F O x
 go_enter Tryz.func39,Tryz.ntmps39
 go_wp2_with (go_at_call 86; refine Calls.ret (TX J.out) ?_; rintro v Z ⟨rfl,M⟩)
 go_ret
 exact⟨rfl,y.out.trans (M.mono y.out.size)⟩
end Go.Proofs.YtfcfpoemojjglaaGreatDoor
