/-
  Part PD of a proof.
-/
import Derived.Test.YtfcfpoemojjglaaGreatDoorPA
import Derived.Test.YtfcfpoemojjglaaGreatDoorPC
set_option maxHeartbeats 16000000
set_option maxRecDepth 100000
set_option linter.unusedVariables false
set_option linter.unusedSimpArgs false
namespace Go.Proofs.YtfcfpoemojjglaaGreatDoor
open Go.RowKit
set_option maxHeartbeats 16000000
set_option maxRecDepth 100000
theorem S1 (cs:Array Value) (w:World):(method 430 144 (.agg cs) "familycheck/word.shape").run Tryz.prog w=.ok (262,.agg cs) w:=by kernel_rfl
theorem S2 (cs:Array Value) (w:World):(method 430 166 (.agg cs) "familycheck/word.shape").run Tryz.prog w=.ok (263,.agg cs) w:=by kernel_rfl
theorem Mg (cs:Array Value) (w:World):(Instr.typeAssert (.iface 144 (.agg cs)) 191 144 true).run Tryz.prog w=.ok (.tuple #[.agg cs,.bool true]) w:=by kernel_rfl
theorem Mi (cs:Array Value) (w:World):(Instr.typeAssert (.iface 166 (.agg cs)) 191 144 true).run Tryz.prog w=.ok (.tuple #[.agg #[.int .i64 0,.int .i64 0,.slice none 0 0,.slice none 0 0,.slice none 0 0],.bool false]) w:=by kernel_rfl
theorem Mh (cs:Array Value) (w:World):(Instr.typeAssert (.iface 166 (.agg cs)) 191 166 true).run Tryz.prog w=.ok (.tuple #[.agg cs,.bool true]) w:=by kernel_rfl
attribute [go_sem] S1 S2 Mg Mi Mh
theorem Il (w:World) (L S:Int) (v2 v3 y:Value):Calls Tryz.prog 262 #[.agg #[.int .i64 L,.int .i64 S,v2,v3,y]] w (Ret fun r w'=>r=.tuple #[.int .i64 L,.int .i64 S]∧Below w.heap.size w w'):=by
 obtain⟨w1,G,h,z,E⟩:=Ae w #[.int .i64 L,.int .i64 S,v2,v3,y] 144
 have C:=z.cell
 go_enter Tryz.func262,Tryz.ntmps262
 go_wp2_with fail
 refine Reg.cP [0,1,0,4,3,31] ?_
 go_wp2_with fail
 exact bodyPost_ret (v:=.tuple #[.int .i64 L,.int .i64 S]) (by simp [results,Tryz.results262,go_sem]) rfl ⟨rfl,(h.trans ((Ap w1).mono h.size))⟩
def De (b:Bool):Int:=if b then 0 else 1
def WA.head (a:WA):Bool:=decide (1≤a.letters)&&decide (a.letters≤8)&&decide (0≤a.states)&&decide (a.states≤400)
theorem WA.ok_eq (a:WA):a.ok=(a.head&&a.start.all (inN a.states)&&a.accept.all (inN a.states)&&a.edges.all a.edgeB):=rfl
theorem Lm (w:World) (l:List Int) (y:l.length≤100):Sl (w.alloc (.cells (l.map (Value.int .i64)).toArray 3)) (w.heap.size+1) 1 Ai (some ⟨w.heap.size,0,none⟩) l:=by
 refine⟨by omega,fun _=>⟨w.heap.size,0,rfl,by omega,fun k d hd j h=>?_⟩⟩
 obtain rfl:j=0:=by omega
 have:=(Blk.new w 3 (l.map (Value.int .i64)).toArray).cell (0+k*1+0)
 rw [this]
 simp [hd,Ai]
theorem TY {w:World} {a:WA} {M O C:Option Addr} {c1 c2 U:Nat} (W:Sl w w.heap.size 3 DP C a.edges) (G:a.head=false):
  Calls Tryz.prog 86 #[.iface 144 (.agg #[.int .i64 a.letters,.int .i64 a.states,.slice M a.start.length c1,.slice O a.accept.length c2,.slice C a.edges.length U])] w (Ret fun r w'=>r=.int .i64 (De a.ok)∧Below w.heap.size w w'):=by
 have ak:Hid (a.ok=false):=by show _=_; rw [WA.ok_eq,G]; rfl
 obtain⟨L,S,st,ac,h⟩:=a
 dsimp only at*
 generalize WA.ok ⟨L,S,st,ac,h⟩=OK at*
 have au:=W.1
 have ad:L<1∨(1≤L∧8<L)∨(1≤L∧L≤8∧S<0)∨(1≤L∧L≤8∧0≤S∧400<S):=by simp [WA.head] at G; omega
 clear G
 rcases ad with E | ⟨E,V⟩ | ⟨E,V,d3⟩ | ⟨E,V,d3,d4⟩
 all_goals
  go_enter Tryz.func86,Tryz.ntmps86
  go_wp2_with (go_at_call 262; refine Calls.ret (Il _ _ _ _ _ _) ?_; rintro v w0 ⟨rfl,a3⟩; obtain⟨w1,av,a4,Z,ah⟩:=Ae w0 #[.int .i64 L,.int .i64 S,.slice M st.length c1,.slice O ac.length c2,.slice C h.length U] 144; have ar:=Z.cell; have al:=hide (a3.trans (a4.mono a3.size)); clear a4 Z ah)
  go_loopw [5,51] (fun bb J wr=>∃(k:Nat),J=.int .i64 (k:Int)∧bb=.bool false∧k≤h.length∧Hid (Below w.heap.size w wr)∧Below w1.heap.size w1 wr) (fun _ J _=>h.length - (intOf J).toNat)
  case atStart=>exact⟨0,rfl,rfl,Nat.zero_le _,al,Below.refl _ _⟩
  case round=>
   obtain⟨k,rfl,rfl,hk,y,a2⟩:=hrel
   by_cases aj:k<h.length
   ·obtain⟨b,ax,x,rfl,ab,hx,hc⟩:=W.at aj
    have z:=fun j hj=>(y.out.cell (by exact ab)).trans (hc j hj)
    have e0:=z 0 (by omega)
    have e1:=z 1 (by omega)
    have e2:=z 2 (by omega)
    simp only [Nat.add_zero,DP] at e0 e1 e2
    obtain⟨x0,x1,x2⟩:=x
    dsimp only at*
    obtain⟨w2,aw,I,aa,ai⟩:=Ae wr #[.int .i64 x0,.int .i64 x1,.int .i64 x2] 83
    have hf:=hide (y.out.trans (I.mono y.out.size))
    have af:=hide (a2.trans (I.mono a2.size))
    clear hx hc z I aa ai
    go_wp2_with fail
    exact⟨⟨k+1,by go_num,rfl,by omega,hf,af.out⟩,by simp [intOf]; omega⟩
   ·go_wp2_with fail
    go_ret
    exact⟨by rw [ak.out]; rfl,y.out⟩
theorem Jm (n x y:Int) (c:Nat) (w:World):Calls Tryz.prog 40 #[.int .i64 n,.slice (some ⟨w.heap.size,0,none⟩) 2 c] (w.alloc (.cells #[.int .i64 x,.int .i64 y] 3)) fun e w'=>e=.returned (.bool (inN n x&&inN n y))∧w.alloc (.cells #[.int .i64 x,.int .i64 y] 3)=w':=by
 have:=FM (c:=c) n (Lm w [x,y] (by simp))
 simpa using this
theorem Nl (n x:Int) (c:Nat) (w:World) {g:Nat} (h:g=w.heap.size):Calls Tryz.prog 40 #[.int .i64 n,.slice (some ⟨g,0,none⟩) 1 c] (w.alloc (.cells #[.int .i64 x] 3)) fun e w'=>e=.returned (.bool (inN n x))∧w.alloc (.cells #[.int .i64 x] 3)=w':=by
 subst h
 have:=FM (c:=c) n (Lm w [x] (by simp))
 simpa using this
theorem TZ {w:World} {a:WA} {A1 A2 A3:Option Addr} {c1 c2 c3:Nat} (h1:Sl w w.heap.size 1 Ai A1 a.start) (h2:Sl w w.heap.size 1 Ai A2 a.accept) (h3:Sl w w.heap.size 3 DP A3 a.edges) (hb:a.head=true):
  Calls Tryz.prog 86 #[.iface 144 (.agg #[.int .i64 a.letters,.int .i64 a.states,.slice A1 a.start.length c1,.slice A2 a.accept.length c2,.slice A3 a.edges.length c3])] w (Ret fun r w'=>r=.int .i64 (De a.ok)∧Below w.heap.size w w'):=by
 have am:=hide (WA.ok_eq a)
 rw [hb] at am
 obtain⟨L,S,st,ac,h⟩:=a
 dsimp only at*
 have aT:=h3.1
 simp only [WA.head,Bool.and_eq_true,decide_eq_true_eq] at hb
 obtain⟨⟨⟨d1,d2⟩,d3⟩,d4⟩:=hb
 obtain⟨p,hp⟩:∃p:Edg→Bool,p=WA.edgeB ⟨L,S,st,ac,h⟩:=⟨_,rfl⟩
 have ax:∀e:Edg,p e=(inN S e.frm&&inN S e.to&&inN L e.letter):=fun e=>by rw [hp]; rfl
 have an:Hid (WA.ok ⟨L,S,st,ac,h⟩=(st.all (inN S)&&ac.all (inN S)&&h.all p)):=by show _=_; rw [am.out,hp]; simp
 have aF:=hide ax
 clear am hp ax
 generalize WA.ok ⟨L,S,st,ac,h⟩=OK at*
 obtain⟨s1,aq⟩:∃b,Hid (st.all (inN S)=b):=⟨_,rfl⟩
 obtain⟨s2,ar⟩:∃b,Hid (ac.all (inN S)=b):=⟨_,rfl⟩
 rw [aq.out,ar.out] at an
 cases s1 <;> cases s2
 case true.true=>
  go_enter Tryz.func86,Tryz.ntmps86
  go_wp2_with (first
   | (go_at_call 262; refine Calls.ret (Il _ _ _ _ _ _) ?_; rintro v w0 ⟨rfl,a2⟩; obtain⟨w1,aH,a3,V,ai⟩:=Ae w0 #[.int .i64 L,.int .i64 S,.slice A1 st.length c1,.slice A2 ac.length c2,.slice A3 h.length c3] 144; have aD:=V.cell; have I:=hide (a2.trans (a3.mono a2.size)); clear a3 V ai)
   | (go_at_call 40; refine(FM _ (by first | exact h1.below I.out | exact h2.below I.out)).mono ?_; rintro e w' ⟨rfl,rfl⟩; first | rw [aq.out] | rw [ar.out]))
  go_loopw [5,51] (fun bb J wr=>∃(k:Nat) (b:Bool),J=.int .i64 (k:Int)∧bb=.bool b∧k≤h.length∧Hid ((h.take k).all p=b)∧Hid (Below w.heap.size w wr)∧Below w1.heap.size w1 wr) (fun _ J _=>h.length - (intOf J).toNat)
  case atStart=>exact⟨0,true,rfl,rfl,Nat.zero_le _,rfl,I,Below.refl _ _⟩
  case round=>
   obtain⟨k,b,rfl,rfl,hk,hE,y,Z⟩:=hrel
   by_cases ak:k<h.length
   ·obtain⟨bl,aK,x,rfl,ag,hx,hc⟩:=h3.at ak
    have z:=fun j hj=>(y.out.cell (by exact ag)).trans (hc j hj)
    have e0:=z 0 (by omega)
    have e1:=z 1 (by omega)
    have e2:=z 2 (by omega)
    simp only [Nat.add_zero,DP] at e0 e1 e2
    have aG:=hide (aF.out x)
    have al:Hid ((h.take (k+1)).all p=(b&&p x)):=by show _=_; rw [B5 hx,List.all_append,hE.out]; simp
    obtain⟨O,M,U⟩:=x
    dsimp only at*
    obtain⟨w2,aJ,C,W,aj⟩:=Ae wr #[.int .i64 O,.int .i64 M,.int .i64 U] 83
    have aE:=W.cell
    have aS:∀o i,(w2.alloc o).cell? ⟨wr.heap.size,i,none⟩=#[.int .i64 O,.int .i64 M,.int .i64 U][i]?:=fun o i=>(World.cell?_alloc_lt w2 o _ W.lt).trans (aE i)
    have aU:=hide C.size
    have E:=hide (y.out.trans (C.mono y.out.size))
    have G:=hide (Z.trans (C.mono Z.size))
    clear hx hc z C W aj
    cases b
    ·go_wp2_with fail
     exact⟨⟨k+1,false,by go_num,rfl,by omega,by show _=_; rw [al.out]; rfl,E,G.out⟩,by simp [intOf]; omega⟩
    ·obtain⟨r1,ap⟩:∃r,Hid ((inN S O&&inN S U)=r):=⟨_,rfl⟩
     obtain⟨r2,az⟩:∃r,Hid (inN L M=r):=⟨_,rfl⟩
     have ay:Hid (p ⟨O,M,U⟩=(r1&&r2)):=by show _=_; rw [aG.out,ap.out,az.out]
     cases r1
     ·go_wp2_with (go_at_call 40; refine(Jm _ _ _ _ _).mono ?_; rintro e w' ⟨rfl,rfl⟩; rw [ap.out])
      exact⟨⟨k+1,false,by go_num,rfl,by omega,by show _=_; rw [al.out,ay.out]; rfl,hide (E.out.alloc E.out.size _),G.out.alloc G.out.size _⟩,by simp [intOf]; omega⟩
     ·go_wp2_with fail
      refine(Jm _ _ _ _ _).mono ?_
      rintro e w' ⟨rfl,rfl⟩
      rw [ap.out]
      go_wp2_with fail
      refine(Nl L M _ _ (by simp)).mono ?_
      rintro e w' ⟨rfl,rfl⟩
      rw [az.out]
      go_wp2_with fail
      exact⟨⟨k+1,r2,by go_num,rfl,by omega,by show _=_; rw [al.out,ay.out]; rfl,hide ((E.out.alloc E.out.size _).alloc (by have:=E.out.size; simp; omega) _),(G.out.alloc G.out.size _).alloc (by have:=G.out.size; simp; omega) _⟩,by simp [intOf]; omega⟩
   ·have hA:Hid (h.all p=b):=by show _=_; rw [←hE.out,List.take_of_length_le (by omega)]
    cases b
    all_goals
     go_wp2_with fail
     go_ret
     exact⟨by rw [an.out,hA.out]; rfl,y.out⟩
 all_goals
  go_enter Tryz.func86,Tryz.ntmps86
  go_wp2_with (first
   | (go_at_call 262; refine Calls.ret (Il _ _ _ _ _ _) ?_; rintro v w0 ⟨rfl,a2⟩; obtain⟨w1,aH,a3,V,ai⟩:=Ae w0 #[.int .i64 L,.int .i64 S,.slice A1 st.length c1,.slice A2 ac.length c2,.slice A3 h.length c3] 144; have aD:=V.cell; have I:=hide (a2.trans (a3.mono a2.size)); clear a3 V ai)
   | (go_at_call 40; refine(FM _ (by first | exact h1.below I.out | exact h2.below I.out)).mono ?_; rintro e w' ⟨rfl,rfl⟩; first | rw [aq.out] | rw [ar.out]))
  go_loopw [5,51] (fun bb J wr=>∃(k:Nat),J=.int .i64 (k:Int)∧bb=.bool false∧k≤h.length∧Hid (Below w.heap.size w wr)∧Below w1.heap.size w1 wr) (fun _ J _=>h.length - (intOf J).toNat)
  case atStart=>exact⟨0,rfl,rfl,Nat.zero_le _,I,Below.refl _ _⟩
  case round=>
   obtain⟨k,rfl,rfl,hk,y,Z⟩:=hrel
   by_cases ak:k<h.length
   ·obtain⟨b,aK,x,rfl,ag,hx,hc⟩:=h3.at ak
    have z:=fun j hj=>(y.out.cell (by exact ag)).trans (hc j hj)
    have e0:=z 0 (by omega)
    have e1:=z 1 (by omega)
    have e2:=z 2 (by omega)
    simp only [Nat.add_zero,DP] at e0 e1 e2
    obtain⟨O,M,U⟩:=x
    dsimp only at*
    obtain⟨w2,aJ,C,W,aj⟩:=Ae wr #[.int .i64 O,.int .i64 M,.int .i64 U] 83
    have E:=hide (y.out.trans (C.mono y.out.size))
    have G:=hide (Z.trans (C.mono Z.size))
    clear hx hc z C W aj
    go_wp2_with fail
    exact⟨⟨k+1,by go_num,rfl,by omega,E,G.out⟩,by simp [intOf]; omega⟩
   ·go_wp2_with fail
    go_ret
    exact⟨by rw [an.out]; rfl,y.out⟩
theorem TX {v:Value} {a:WA} {w:World} (h:Bj w w.heap.size v a):
  Calls Tryz.prog 86 #[.iface 144 v] w (Ret fun r w'=>r=.int .i64 (De a.ok)∧Below w.heap.size w w'):=by
 obtain⟨G,c1,I,c2,J,M,rfl,C,E,y,O⟩:=h
 cases z:a.head
 ·exact TY y z
 ·exact TZ C E y z
theorem Iv {v:Value} {a:WA} {w:World} (h:Bj w w.heap.size v a):
  Calls Tryz.prog 39 #[v] w (Ret fun r w'=>r=.int .i64 (De a.ok)∧Below w.heap.size w w'):=by
 have hI:=hide h
 obtain⟨C,c1,E,c2,G,I,rfl,J,M,O,U⟩:=h
 obtain⟨w1,a4,y,V,a2⟩:=Ae w #[.int .i64 a.letters,.int .i64 a.states,.slice C a.start.length c1,.slice E a.accept.length c2,.slice G a.edges.length I] 35
 have a3:=V.cell
 have W:=hide ((hI.out.below y).keep (fun _ _=>rfl) y.size)
 have z:=hide y
 clear J M O U a2 y
 go_enter Tryz.func39,Tryz.ntmps39
 go_wp2_with (go_at_call 86; refine Calls.ret (TX W.out) ?_; rintro v w2 ⟨rfl,Z⟩)
 go_ret
 exact⟨rfl,z.out.trans (Z.mono z.out.size)⟩
end Go.Proofs.YtfcfpoemojjglaaGreatDoor
