/-
  Part PD of a proof.
-/
import Derived.Test.YtfcfpoemojjglaaGreatDoorPA
import Derived.Test.YtfcfpoemojjglaaGreatDoorPC
set_option maxHeartbeats 16000000
set_option maxRecDepth 100000
set_option linter.unusedVariables false
set_option linter.unusedSimpArgs false
namespace Go.Proofs.YtfcfpoemojjglaaGreatDoor
open Go.RowKit
set_option maxHeartbeats 16000000
set_option maxRecDepth 100000
theorem S1 (cs:Array Value) (w:World):(method 430 144 (.agg cs) "familycheck/word.shape").run Tryz.prog w=.ok (262,.agg cs) w:=by kernel_rfl
theorem S2 (cs:Array Value) (w:World):(method 430 166 (.agg cs) "familycheck/word.shape").run Tryz.prog w=.ok (263,.agg cs) w:=by kernel_rfl
theorem Mg (cs:Array Value) (w:World):(Instr.typeAssert (.iface 144 (.agg cs)) 191 144 true).run Tryz.prog w=.ok (.tuple #[.agg cs,.bool true]) w:=by kernel_rfl
theorem Mi (cs:Array Value) (w:World):(Instr.typeAssert (.iface 166 (.agg cs)) 191 144 true).run Tryz.prog w=.ok (.tuple #[.agg #[.int .i64 0,.int .i64 0,.slice none 0 0,.slice none 0 0,.slice none 0 0],.bool false]) w:=by kernel_rfl
theorem Mh (cs:Array Value) (w:World):(Instr.typeAssert (.iface 166 (.agg cs)) 191 166 true).run Tryz.prog w=.ok (.tuple #[.agg cs,.bool true]) w:=by kernel_rfl
attribute [go_sem] S1 S2 Mg Mi Mh
theorem Il (w:World) (L S:Int) (v2 v3 y:Value):Calls Tryz.prog 262 #[.agg #[.int .i64 L,.int .i64 S,v2,v3,y]] w (Ret fun r w'=>r=.tuple #[.int .i64 L,.int .i64 S]∧Below w.heap.size w w'):=by
 obtain⟨w1,F,h,z,E⟩:=Ae w #[.int .i64 L,.int .i64 S,v2,v3,y] 144
 have C:=z.cell
 go_enter Tryz.func262,Tryz.ntmps262
 go_wp2_with fail
 refine Reg.cP [0,1,0,4,3,31] ?_
 go_wp2_with fail
 exact bodyPost_ret (v:=.tuple #[.int .i64 L,.int .i64 S]) (by simp [results,Tryz.results262,go_sem]) rfl ⟨rfl,(h.trans ((Ap w1).mono h.size))⟩
def De (b:Bool):Int:=if b then 0 else 1
def WA.head (a:WA):Bool:=decide (1≤a.letters)&&decide (a.letters≤8)&&decide (0≤a.states)&&decide (a.states≤400)
theorem WA.ok_eq (a:WA):a.ok=(a.head&&a.start.all (inN a.states)&&a.accept.all (inN a.states)&&a.edges.all a.edgeB):=rfl
theorem Lm (w:World) (l:List Int) (y:l.length≤100):Sl (w.alloc (.cells (l.map (Value.int .i64)).toArray 3)) (w.heap.size+1) 1 Ai (some ⟨w.heap.size,0,none⟩) l:=by
 refine⟨by omega,fun _=>⟨w.heap.size,0,rfl,by omega,fun k d hd j h=>?_⟩⟩
 obtain rfl:j=0:=by omega
 have:=(Blk.new w 3 (l.map (Value.int .i64)).toArray).cell (0+k*1+0)
 rw [this]
 simp [hd,Ai]
theorem TY {w:World} {a:WA} {J M C:Option Addr} {O c2 U:Nat} (W:Sl w w.heap.size 3 DP C a.edges) (F:a.head=false):
  Calls Tryz.prog 86 #[.iface 144 (.agg #[.int .i64 a.letters,.int .i64 a.states,.slice J a.start.length O,.slice M a.accept.length c2,.slice C a.edges.length U])] w (Ret fun r w'=>r=.int .i64 (De a.ok)∧Below w.heap.size w w'):=by
 have al:Hid (a.ok=false):=by show _=_; rw [WA.ok_eq,F]; rfl
 obtain⟨L,S,st,ac,h⟩:=a
 dsimp only at*
 generalize WA.ok ⟨L,S,st,ac,h⟩=OK at*
 have av:=W.1
 have ae:L<1∨(1≤L∧8<L)∨(1≤L∧L≤8∧S<0)∨(1≤L∧L≤8∧0≤S∧400<S):=by simp [WA.head] at F; omega
 clear F
 rcases ae with E | ⟨E,V⟩ | ⟨E,V,d3⟩ | ⟨E,V,d3,d4⟩
 all_goals
  go_enter Tryz.func86,Tryz.ntmps86
  go_wp2_with (go_at_call 262; refine Calls.ret (Il _ _ _ _ _ _) ?_; rintro v w0 ⟨rfl,a3⟩; obtain⟨w1,aw,a4,Z,ai⟩:=Ae w0 #[.int .i64 L,.int .i64 S,.slice J st.length O,.slice M ac.length c2,.slice C h.length U] 144; have au:=Z.cell; have am:=hide (a3.trans (a4.mono a3.size)); clear a4 Z ai)
  go_loopw [5,51] (fun bb I wr=>∃(k:Nat),I=.int .i64 (k:Int)∧bb=.bool false∧k≤h.length∧Hid (Below w.heap.size w wr)∧Below w1.heap.size w1 wr) (fun _ I _=>h.length - (intOf I).toNat)
  case atStart=>exact⟨0,rfl,rfl,Nat.zero_le _,am,Below.refl _ _⟩
  case round=>
   obtain⟨k,rfl,rfl,hk,y,a2⟩:=hrel
   by_cases ak:k<h.length
   ·obtain⟨b,ay,x,rfl,ad,hx,hc⟩:=W.at ak
    have z:=fun j hj=>(y.out.cell (by exact ad)).trans (hc j hj)
    have e0:=z 0 (by omega)
    have e1:=z 1 (by omega)
    have e2:=z 2 (by omega)
    simp only [Nat.add_zero,DP] at e0 e1 e2
    obtain⟨x0,x1,x2⟩:=x
    dsimp only at*
    obtain⟨w2,ax,G,ab,aj⟩:=Ae wr #[.int .i64 x0,.int .i64 x1,.int .i64 x2] 83
    have hf:=hide (y.out.trans (G.mono y.out.size))
    have ag:=hide (a2.trans (G.mono a2.size))
    clear hx hc z G ab aj
    go_wp2_with fail
    exact⟨⟨k+1,by go_num,rfl,by omega,hf,ag.out⟩,by simp [intOf]; omega⟩
   ·go_wp2_with fail
    go_ret
    exact⟨by rw [al.out]; rfl,y.out⟩
theorem Jm (n x y:Int) (c:Nat) (w:World):Calls Tryz.prog 40 #[.int .i64 n,.slice (some ⟨w.heap.size,0,none⟩) 2 c] (w.alloc (.cells #[.int .i64 x,.int .i64 y] 3)) fun e w'=>e=.returned (.bool (inN n x&&inN n y))∧w.alloc (.cells #[.int .i64 x,.int .i64 y] 3)=w':=by
 have:=FM (c:=c) n (Lm w [x,y] (by simp))
 simpa using this
theorem Nl (n x:Int) (c:Nat) (w:World) {g:Nat} (h:g=w.heap.size):Calls Tryz.prog 40 #[.int .i64 n,.slice (some ⟨g,0,none⟩) 1 c] (w.alloc (.cells #[.int .i64 x] 3)) fun e w'=>e=.returned (.bool (inN n x))∧w.alloc (.cells #[.int .i64 x] 3)=w':=by
 subst h
 have:=FM (c:=c) n (Lm w [x] (by simp))
 simpa using this
theorem TZ {w:World} {a:WA} {A1 A2 A3:Option Addr} {c1 c2 c3:Nat} (h1:Sl w w.heap.size 1 Ai A1 a.start) (h2:Sl w w.heap.size 1 Ai A2 a.accept) (h3:Sl w w.heap.size 3 DP A3 a.edges) (hb:a.head=true):
  Calls Tryz.prog 86 #[.iface 144 (.agg #[.int .i64 a.letters,.int .i64 a.states,.slice A1 a.start.length c1,.slice A2 a.accept.length c2,.slice A3 a.edges.length c3])] w (Ret fun r w'=>r=.int .i64 (De a.ok)∧Below w.heap.size w w'):=by
 have an:=hide (WA.ok_eq a)
 rw [hb] at an
 obtain⟨L,S,st,ac,h⟩:=a
 dsimp only at*
 have aT:=h3.1
 simp only [WA.head,Bool.and_eq_true,decide_eq_true_eq] at hb
 obtain⟨⟨⟨d1,d2⟩,d3⟩,d4⟩:=hb
 obtain⟨p,hp⟩:∃p:Edg→Bool,p=WA.edgeB ⟨L,S,st,ac,h⟩:=⟨_,rfl⟩
 have ax:∀e:Edg,p e=(inN S e.frm&&inN S e.to&&inN L e.letter):=fun e=>by rw [hp]; rfl
 have ao:Hid (WA.ok ⟨L,S,st,ac,h⟩=(st.all (inN S)&&ac.all (inN S)&&h.all p)):=by show _=_; rw [an.out,hp]; simp
 have aF:=hide ax
 clear an hp ax
 generalize WA.ok ⟨L,S,st,ac,h⟩=OK at*
 obtain⟨s1,ar⟩:∃b,Hid (st.all (inN S)=b):=⟨_,rfl⟩
 obtain⟨s2,au⟩:∃b,Hid (ac.all (inN S)=b):=⟨_,rfl⟩
 rw [ar.out,au.out] at ao
 cases s1 <;> cases s2
 case true.true=>
  go_enter Tryz.func86,Tryz.ntmps86
  go_wp2_with (first
   | (go_at_call 262; refine Calls.ret (Il _ _ _ _ _ _) ?_; rintro v w0 ⟨rfl,Z⟩; obtain⟨w1,aH,a2,U,aj⟩:=Ae w0 #[.int .i64 L,.int .i64 S,.slice A1 st.length c1,.slice A2 ac.length c2,.slice A3 h.length c3] 144; have aD:=U.cell; have G:=hide (Z.trans (a2.mono Z.size)); clear a2 U aj)
   | (go_at_call 40; refine(FM _ (by first | exact h1.below G.out | exact h2.below G.out)).mono ?_; rintro e w' ⟨rfl,rfl⟩; first | rw [ar.out] | rw [au.out]))
  go_loopw [5,51] (fun bb I wr=>∃(k:Nat) (b:Bool),I=.int .i64 (k:Int)∧bb=.bool b∧k≤h.length∧Hid ((h.take k).all p=b)∧Hid (Below w.heap.size w wr)∧Below w1.heap.size w1 wr) (fun _ I _=>h.length - (intOf I).toNat)
  case atStart=>exact⟨0,true,rfl,rfl,Nat.zero_le _,rfl,G,Below.refl _ _⟩
  case round=>
   obtain⟨k,b,rfl,rfl,hk,hE,y,W⟩:=hrel
   by_cases al:k<h.length
   ·obtain⟨bl,aK,x,rfl,ah,hx,hc⟩:=h3.at al
    have z:=fun j hj=>(y.out.cell (by exact ah)).trans (hc j hj)
    have e0:=z 0 (by omega)
    have e1:=z 1 (by omega)
    have e2:=z 2 (by omega)
    simp only [Nat.add_zero,DP] at e0 e1 e2
    have aG:=hide (aF.out x)
    have am:Hid ((h.take (k+1)).all p=(b&&p x)):=by show _=_; rw [B5 hx,List.all_append,hE.out]; simp
    obtain⟨M,J,O⟩:=x
    dsimp only at*
    obtain⟨w2,aJ,C,V,ak⟩:=Ae wr #[.int .i64 M,.int .i64 J,.int .i64 O] 83
    have aE:=V.cell
    have aS:∀o i,(w2.alloc o).cell? ⟨wr.heap.size,i,none⟩=#[.int .i64 M,.int .i64 J,.int .i64 O][i]?:=fun o i=>(World.cell?_alloc_lt w2 o _ V.lt).trans (aE i)
    have aU:=hide C.size
    have E:=hide (y.out.trans (C.mono y.out.size))
    have F:=hide (W.trans (C.mono W.size))
    clear hx hc z C V ak
    cases b
    ·go_wp2_with fail
     exact⟨⟨k+1,false,by go_num,rfl,by omega,by show _=_; rw [am.out]; rfl,E,F.out⟩,by simp [intOf]; omega⟩
    ·obtain⟨r1,aq⟩:∃r,Hid ((inN S M&&inN S O)=r):=⟨_,rfl⟩
     obtain⟨r2,az⟩:∃r,Hid (inN L J=r):=⟨_,rfl⟩
     have ay:Hid (p ⟨M,J,O⟩=(r1&&r2)):=by show _=_; rw [aG.out,aq.out,az.out]
     cases r1
     ·go_wp2_with (go_at_call 40; refine(Jm _ _ _ _ _).mono ?_; rintro e w' ⟨rfl,rfl⟩; rw [aq.out])
      exact⟨⟨k+1,false,by go_num,rfl,by omega,by show _=_; rw [am.out,ay.out]; rfl,hide (E.out.alloc E.out.size _),F.out.alloc F.out.size _⟩,by simp [intOf]; omega⟩
     ·go_wp2_with fail
      refine(Jm _ _ _ _ _).mono ?_
      rintro e w' ⟨rfl,rfl⟩
      rw [aq.out]
      go_wp2_with fail
      refine(Nl L J _ _ (by simp)).mono ?_
      rintro e w' ⟨rfl,rfl⟩
      rw [az.out]
      go_wp2_with fail
      exact⟨⟨k+1,r2,by go_num,rfl,by omega,by show _=_; rw [am.out,ay.out]; rfl,hide ((E.out.alloc E.out.size _).alloc (by have:=E.out.size; simp; omega) _),(F.out.alloc F.out.size _).alloc (by have:=F.out.size; simp; omega) _⟩,by simp [intOf]; omega⟩
   ·have hA:Hid (h.all p=b):=by show _=_; rw [←hE.out,List.take_of_length_le (by omega)]
    cases b
    all_goals
     go_wp2_with fail
     go_ret
     exact⟨by rw [ao.out,hA.out]; rfl,y.out⟩
 all_goals
  go_enter Tryz.func86,Tryz.ntmps86
  go_wp2_with (first
   | (go_at_call 262; refine Calls.ret (Il _ _ _ _ _ _) ?_; rintro v w0 ⟨rfl,Z⟩; obtain⟨w1,aH,a2,U,aj⟩:=Ae w0 #[.int .i64 L,.int .i64 S,.slice A1 st.length c1,.slice A2 ac.length c2,.slice A3 h.length c3] 144; have aD:=U.cell; have G:=hide (Z.trans (a2.mono Z.size)); clear a2 U aj)
   | (go_at_call 40; refine(FM _ (by first | exact h1.below G.out | exact h2.below G.out)).mono ?_; rintro e w' ⟨rfl,rfl⟩; first | rw [ar.out] | rw [au.out]))
  go_loopw [5,51] (fun bb I wr=>∃(k:Nat),I=.int .i64 (k:Int)∧bb=.bool false∧k≤h.length∧Hid (Below w.heap.size w wr)∧Below w1.heap.size w1 wr) (fun _ I _=>h.length - (intOf I).toNat)
  case atStart=>exact⟨0,rfl,rfl,Nat.zero_le _,G,Below.refl _ _⟩
  case round=>
   obtain⟨k,rfl,rfl,hk,y,W⟩:=hrel
   by_cases al:k<h.length
   ·obtain⟨b,aK,x,rfl,ah,hx,hc⟩:=h3.at al
    have z:=fun j hj=>(y.out.cell (by exact ah)).trans (hc j hj)
    have e0:=z 0 (by omega)
    have e1:=z 1 (by omega)
    have e2:=z 2 (by omega)
    simp only [Nat.add_zero,DP] at e0 e1 e2
    obtain⟨M,J,O⟩:=x
    dsimp only at*
    obtain⟨w2,aJ,C,V,ak⟩:=Ae wr #[.int .i64 M,.int .i64 J,.int .i64 O] 83
    have E:=hide (y.out.trans (C.mono y.out.size))
    have F:=hide (W.trans (C.mono W.size))
    clear hx hc z C V ak
    go_wp2_with fail
    exact⟨⟨k+1,by go_num,rfl,by omega,E,F.out⟩,by simp [intOf]; omega⟩
   ·go_wp2_with fail
    go_ret
    exact⟨by rw [ao.out]; rfl,y.out⟩
theorem TX {v:Value} {a:WA} {w:World} (h:Bj w w.heap.size v a):
  Calls Tryz.prog 86 #[.iface 144 v] w (Ret fun r w'=>r=.int .i64 (De a.ok)∧Below w.heap.size w w'):=by
 obtain⟨E,I,F,c2,G,J,rfl,h1,C,y,M⟩:=h
 cases z:a.head
 ·exact TY y z
 ·exact TZ h1 C y z
theorem Iv {v:Value} {a:WA} {w:World} (h:Bj w w.heap.size v a):
  Calls Tryz.prog 39 #[v] w (Ret fun r w'=>r=.int .i64 (De a.ok)∧Below w.heap.size w w'):=by
 have hI:=hide h
 obtain⟨C,G,E,c2,F,I,rfl,h1,J,M,O⟩:=h
 obtain⟨w1,a3,y,U,Z⟩:=Ae w #[.int .i64 a.letters,.int .i64 a.states,.slice C a.start.length G,.slice E a.accept.length c2,.slice F a.edges.length I] 35
 have a2:=U.cell
 have V:=hide ((hI.out.below y).keep (fun _ _=>rfl) y.size)
 have z:=hide y
 clear h1 J M O Z y
 go_enter Tryz.func39,Tryz.ntmps39
 go_wp2_with (go_at_call 86; refine Calls.ret (TX V.out) ?_; rintro v w2 ⟨rfl,W⟩)
 go_ret
 exact⟨rfl,z.out.trans (W.mono z.out.size)⟩
end Go.Proofs.YtfcfpoemojjglaaGreatDoor
