/-
  Part PD of a proof.
-/
import Derived.Test.YtlakpndhhelliaaGreatDoorPA
import Derived.Test.YtlakpndhhelliaaGreatDoorPC
set_option maxHeartbeats 16000000
set_option maxRecDepth 100000
set_option linter.unusedVariables false
set_option linter.unusedSimpArgs false
namespace Go.Proofs.YtlakpndhhelliaaGreatDoor
open Go.RowKit
set_option maxHeartbeats 16000000
set_option maxRecDepth 100000
theorem Rg (cs:Array Value) (w:World):(method 322 79 (.agg cs) "familycheck/word.shape").run Tryz.prog w=.ok (149,.agg cs) w:=by kernel_rfl
theorem LM (cs:Array Value) (w:World):(method 322 108 (.agg cs) "familycheck/word.shape").run Tryz.prog w=.ok (150,.agg cs) w:=by kernel_rfl
theorem NR (cs:Array Value) (w:World):(Instr.typeAssert (.iface 79 (.agg cs)) 102 79 true).run Tryz.prog w=.ok (.tuple #[.agg cs,.bool true]) w:=by kernel_rfl
theorem Pi (cs:Array Value) (w:World):(Instr.typeAssert (.iface 108 (.agg cs)) 102 79 true).run Tryz.prog w=.ok (.tuple #[.agg #[.int .i64 0,.int .i64 0,.slice none 0 0,.slice none 0 0,.slice none 0 0],.bool false]) w:=by kernel_rfl
theorem N6 (cs:Array Value) (w:World):(Instr.typeAssert (.iface 108 (.agg cs)) 102 108 true).run Tryz.prog w=.ok (.tuple #[.agg cs,.bool true]) w:=by kernel_rfl
attribute [go_sem] Rg LM NR Pi N6
theorem GQ (w:World) (L S:Int) (v2 v3 f:Value):Calls Tryz.prog 149 #[.agg #[.int .i64 L,.int .i64 S,v2,v3,f]] w (Ret fun r w'=>r=.tuple #[.int .i64 L,.int .i64 S]∧Below w.heap.size w w'):=by
 obtain⟨w1,z,h,y,C⟩:=Ag w #[.int .i64 L,.int .i64 S,v2,v3,f] 79
 have E:=y.cell
 go_enter Tryz.func149,Tryz.ntmps149
 go_wp2_with fail
 refine Reg.cP [0,1,0,4,3,31] ?_
 go_wp2_with fail
 exact bodyPost_ret (v:=.tuple #[.int .i64 L,.int .i64 S]) (by simp [results,Tryz.results149,go_sem]) rfl ⟨rfl,(h.trans ((Ap w1).mono h.size))⟩
def DU (b:Bool):Int:=if b then 0 else 1
def WA.head (a:WA):Bool:=decide (1≤a.letters)&&decide (a.letters≤8)&&decide (0≤a.states)&&decide (a.states≤400)
theorem WA.ok_eq (a:WA):a.ok=(a.head&&a.start.all (inN a.states)&&a.accept.all (inN a.states)&&a.edges.all a.edgeB):=rfl
theorem Je (w:World) (l:List Int) (f:l.length≤100):Sl (w.alloc (.cells (l.map (Value.int .i64)).toArray 3)) (w.heap.size+1) 1 Ai (some ⟨w.heap.size,0,none⟩) l:=by
 refine⟨by omega,fun _=>⟨w.heap.size,0,rfl,by omega,fun k d hd j h=>?_⟩⟩
 obtain rfl:j=0:=by omega
 have:=(Blk.new w 3 (l.map (Value.int .i64)).toArray).cell (0+k*1+0)
 rw [this]
 simp [hd,Ai]
theorem NE {w:World} {a:WA} {I J z:Option Addr} {M c2 O:Nat} (U:Sl w w.heap.size 3 DJ z a.edges) (C:a.head=false):
  Calls Tryz.prog 36 #[.iface 79 (.agg #[.int .i64 a.letters,.int .i64 a.states,.slice I a.start.length M,.slice J a.accept.length c2,.slice z a.edges.length O])] w (Ret fun r w'=>r=.int .i64 (DU a.ok)∧Below w.heap.size w w'):=by
 have a5:Hid (a.ok=false):=by show _=_; rw [WA.ok_eq,C]; rfl
 obtain⟨L,S,st,ac,f⟩:=a
 dsimp only at*
 generalize WA.ok ⟨L,S,st,ac,f⟩=OK at*
 have aq:=U.1
 have a6:L<1∨(1≤L∧8<L)∨(1≤L∧L≤8∧S<0)∨(1≤L∧L≤8∧0≤S∧400<S):=by simp [WA.head] at C; omega
 clear C
 rcases a6 with E | ⟨E,V⟩ | ⟨E,V,d3⟩ | ⟨E,V,d3,d4⟩
 all_goals
  go_enter Tryz.func36,Tryz.ntmps36
  go_wp2_with (go_at_call 149; refine Calls.ret (GQ _ _ _ _ _ _) ?_; rintro v w0 ⟨rfl,W⟩; obtain⟨w1,au,Z,a2,a8⟩:=Ag w0 #[.int .i64 L,.int .i64 S,.slice I st.length M,.slice J ac.length c2,.slice z f.length O] 79; have av:=a2.cell; have a9:=hide (W.trans (Z.mono W.size)); clear Z a2 a8)
  go_loopw [5,51] (fun bb F wr=>∃(k:Nat),F=.int .i64 (k:Int)∧bb=.bool false∧k≤f.length∧Hid (Below w.heap.size w wr)∧Below w1.heap.size w1 wr) (fun _ F _=>f.length - (intOf F).toNat)
  case atStart=>exact⟨0,rfl,rfl,Nat.zero_le _,a9,Below.refl _ _⟩
  case round=>
   obtain⟨k,rfl,rfl,hk,h,a3⟩:=hrel
   by_cases ab:k<f.length
   ·obtain⟨b,aw,x,rfl,ad,hx,hc⟩:=U.at ab
    have y:=fun j hj=>(h.out.cell (by exact ad)).trans (hc j hj)
    have e0:=y 0 (by omega)
    have e1:=y 1 (by omega)
    have e2:=y 2 (by omega)
    simp only [Nat.add_zero,DJ] at e0 e1 e2
    obtain⟨x0,x1,x2⟩:=x
    dsimp only at*
    obtain⟨w2,ax,G,am,an⟩:=Ag wr #[.int .i64 x0,.int .i64 x1,.int .i64 x2] 84
    have hf:=hide (h.out.trans (G.mono h.out.size))
    have ap:=hide (a3.trans (G.mono a3.size))
    clear hx hc y G am an
    go_wp2_with fail
    exact⟨⟨k+1,by go_num,rfl,by omega,hf,ap.out⟩,by simp [intOf]; omega⟩
   ·go_wp2_with fail
    go_ret
    exact⟨by rw [a5.out]; rfl,h.out⟩
theorem HO (n x y:Int) (c:Nat) (w:World):Calls Tryz.prog 58 #[.int .i64 n,.slice (some ⟨w.heap.size,0,none⟩) 2 c] (w.alloc (.cells #[.int .i64 x,.int .i64 y] 3)) fun e w'=>e=.returned (.bool (inN n x&&inN n y))∧w.alloc (.cells #[.int .i64 x,.int .i64 y] 3)=w':=by
 have:=FL (c:=c) n (Je w [x,y] (by simp))
 simpa using this
theorem Me (n x:Int) (c:Nat) (w:World) {g:Nat} (f:g=w.heap.size):Calls Tryz.prog 58 #[.int .i64 n,.slice (some ⟨g,0,none⟩) 1 c] (w.alloc (.cells #[.int .i64 x] 3)) fun e w'=>e=.returned (.bool (inN n x))∧w.alloc (.cells #[.int .i64 x] 3)=w':=by
 subst f
 have:=FL (c:=c) n (Je w [x] (by simp))
 simpa using this
theorem Kd {w:World} {a:WA} {A1 A2 A3:Option Addr} {c1 c2 c3:Nat} (h1:Sl w w.heap.size 1 Ai A1 a.start) (h2:Sl w w.heap.size 1 Ai A2 a.accept) (h3:Sl w w.heap.size 3 DJ A3 a.edges) (hb:a.head=true):
  Calls Tryz.prog 36 #[.iface 79 (.agg #[.int .i64 a.letters,.int .i64 a.states,.slice A1 a.start.length c1,.slice A2 a.accept.length c2,.slice A3 a.edges.length c3])] w (Ret fun r w'=>r=.int .i64 (DU a.ok)∧Below w.heap.size w w'):=by
 have ab:=hide (WA.ok_eq a)
 rw [hb] at ab
 obtain⟨L,S,st,ac,f⟩:=a
 dsimp only at*
 have aN:=h3.1
 simp only [WA.head,Bool.and_eq_true,decide_eq_true_eq] at hb
 obtain⟨⟨⟨d1,d2⟩,d3⟩,d4⟩:=hb
 obtain⟨p,hp⟩:∃p:Edg→Bool,p=WA.edgeB ⟨L,S,st,ac,f⟩:=⟨_,rfl⟩
 have aw:∀e:Edg,p e=(inN S e.frm&&inN S e.to&&inN L e.letter):=fun e=>by rw [hp]; rfl
 have ae:Hid (WA.ok ⟨L,S,st,ac,f⟩=(st.all (inN S)&&ac.all (inN S)&&f.all p)):=by show _=_; rw [ab.out,hp]; simp
 have aC:=hide aw
 clear ab hp aw
 generalize WA.ok ⟨L,S,st,ac,f⟩=OK at*
 obtain⟨s1,af⟩:∃b,Hid (st.all (inN S)=b):=⟨_,rfl⟩
 obtain⟨s2,ag⟩:∃b,Hid (ac.all (inN S)=b):=⟨_,rfl⟩
 rw [af.out,ag.out] at ae
 cases s1 <;> cases s2
 case true.true=>
  go_enter Tryz.func36,Tryz.ntmps36
  go_wp2_with (first
   | (go_at_call 149; refine Calls.ret (GQ _ _ _ _ _ _) ?_; rintro v w0 ⟨rfl,O⟩; obtain⟨w1,aF,U,V,ah⟩:=Ag w0 #[.int .i64 L,.int .i64 S,.slice A1 st.length c1,.slice A2 ac.length c2,.slice A3 f.length c3] 79; have aG:=V.cell; have F:=hide (O.trans (U.mono O.size)); clear U V ah)
   | (go_at_call 58; refine(FL _ (by first | exact h1.below F.out | exact h2.below F.out)).mono ?_; rintro e w' ⟨rfl,rfl⟩; first | rw [af.out] | rw [ag.out]))
  go_loopw [5,51] (fun bb G wr=>∃(k:Nat) (b:Bool),G=.int .i64 (k:Int)∧bb=.bool b∧k≤f.length∧Hid ((f.take k).all p=b)∧Hid (Below w.heap.size w wr)∧Below w1.heap.size w1 wr) (fun _ G _=>f.length - (intOf G).toNat)
  case atStart=>exact⟨0,true,rfl,rfl,Nat.zero_le _,rfl,F,Below.refl _ _⟩
  case round=>
   obtain⟨k,b,rfl,rfl,hk,hE,h,W⟩:=hrel
   by_cases aj:k<f.length
   ·obtain⟨bl,aH,x,rfl,ak,hx,Z⟩:=h3.at aj
    have y:=fun j hj=>(h.out.cell (by exact ak)).trans (Z j hj)
    have e0:=y 0 (by omega)
    have e1:=y 1 (by omega)
    have e2:=y 2 (by omega)
    simp only [Nat.add_zero,DJ] at e0 e1 e2
    have aJ:=hide (aC.out x)
    have ap:Hid ((f.take (k+1)).all p=(b&&p x)):=by show _=_; rw [CF hx,List.all_append,hE.out]; simp
    obtain⟨J,I,M⟩:=x
    dsimp only at*
    obtain⟨w2,aK,z,a2,aq⟩:=Ag wr #[.int .i64 J,.int .i64 I,.int .i64 M] 84
    have aL:=a2.cell
    have aT:∀o i,(w2.alloc o).cell? ⟨wr.heap.size,i,none⟩=#[.int .i64 J,.int .i64 I,.int .i64 M][i]?:=fun o i=>(World.cell?_alloc_lt w2 o _ a2.lt).trans (aL i)
    have aU:=hide z.size
    have C:=hide (h.out.trans (z.mono h.out.size))
    have E:=hide (W.trans (z.mono W.size))
    clear hx Z y z a2 aq
    cases b
    ·go_wp2_with fail
     exact⟨⟨k+1,false,by go_num,rfl,by omega,by show _=_; rw [ap.out]; rfl,C,E.out⟩,by simp [intOf]; omega⟩
    ·obtain⟨r1,ar⟩:∃r,Hid ((inN S J&&inN S M)=r):=⟨_,rfl⟩
     obtain⟨r2,aA⟩:∃r,Hid (inN L I=r):=⟨_,rfl⟩
     have aB:Hid (p ⟨J,I,M⟩=(r1&&r2)):=by show _=_; rw [aJ.out,ar.out,aA.out]
     cases r1
     ·go_wp2_with (go_at_call 58; refine(HO _ _ _ _ _).mono ?_; rintro e w' ⟨rfl,rfl⟩; rw [ar.out])
      exact⟨⟨k+1,false,by go_num,rfl,by omega,by show _=_; rw [ap.out,aB.out]; rfl,hide (C.out.alloc C.out.size _),E.out.alloc E.out.size _⟩,by simp [intOf]; omega⟩
     ·go_wp2_with fail
      refine(HO _ _ _ _ _).mono ?_
      rintro e w' ⟨rfl,rfl⟩
      rw [ar.out]
      go_wp2_with fail
      refine(Me L I _ _ (by simp)).mono ?_
      rintro e w' ⟨rfl,rfl⟩
      rw [aA.out]
      go_wp2_with fail
      exact⟨⟨k+1,r2,by go_num,rfl,by omega,by show _=_; rw [ap.out,aB.out]; rfl,hide ((C.out.alloc C.out.size _).alloc (by have:=C.out.size; simp; omega) _),(E.out.alloc E.out.size _).alloc (by have:=E.out.size; simp; omega) _⟩,by simp [intOf]; omega⟩
   ·have hA:Hid (f.all p=b):=by show _=_; rw [←hE.out,List.take_of_length_le (by omega)]
    cases b
    all_goals
     go_wp2_with fail
     go_ret
     exact⟨by rw [ae.out,hA.out]; rfl,h.out⟩
 all_goals
  go_enter Tryz.func36,Tryz.ntmps36
  go_wp2_with (first
   | (go_at_call 149; refine Calls.ret (GQ _ _ _ _ _ _) ?_; rintro v w0 ⟨rfl,O⟩; obtain⟨w1,aF,U,V,ah⟩:=Ag w0 #[.int .i64 L,.int .i64 S,.slice A1 st.length c1,.slice A2 ac.length c2,.slice A3 f.length c3] 79; have aG:=V.cell; have F:=hide (O.trans (U.mono O.size)); clear U V ah)
   | (go_at_call 58; refine(FL _ (by first | exact h1.below F.out | exact h2.below F.out)).mono ?_; rintro e w' ⟨rfl,rfl⟩; first | rw [af.out] | rw [ag.out]))
  go_loopw [5,51] (fun bb G wr=>∃(k:Nat),G=.int .i64 (k:Int)∧bb=.bool false∧k≤f.length∧Hid (Below w.heap.size w wr)∧Below w1.heap.size w1 wr) (fun _ G _=>f.length - (intOf G).toNat)
  case atStart=>exact⟨0,rfl,rfl,Nat.zero_le _,F,Below.refl _ _⟩
  case round=>
   obtain⟨k,rfl,rfl,hk,h,W⟩:=hrel
   by_cases aj:k<f.length
   ·obtain⟨b,aH,x,rfl,ak,hx,Z⟩:=h3.at aj
    have y:=fun j hj=>(h.out.cell (by exact ak)).trans (Z j hj)
    have e0:=y 0 (by omega)
    have e1:=y 1 (by omega)
    have e2:=y 2 (by omega)
    simp only [Nat.add_zero,DJ] at e0 e1 e2
    obtain⟨J,I,M⟩:=x
    dsimp only at*
    obtain⟨w2,aK,z,a2,aq⟩:=Ag wr #[.int .i64 J,.int .i64 I,.int .i64 M] 84
    have C:=hide (h.out.trans (z.mono h.out.size))
    have E:=hide (W.trans (z.mono W.size))
    clear hx Z y z a2 aq
    go_wp2_with fail
    exact⟨⟨k+1,by go_num,rfl,by omega,C,E.out⟩,by simp [intOf]; omega⟩
   ·go_wp2_with fail
    go_ret
    exact⟨by rw [ae.out]; rfl,h.out⟩
theorem KH {v:Value} {a:WA} {w:World} (h:Cb w w.heap.size v a):
  Calls Tryz.prog 36 #[.iface 79 v] w (Ret fun r w'=>r=.int .i64 (DU a.ok)∧Below w.heap.size w w'):=by
 obtain⟨E,F,G,c2,I,J,rfl,z,C,f,M⟩:=h
 cases y:a.head
 ·exact NE f y
 ·exact Kd z C f y
theorem It {v:Value} {a:WA} {w:World} (h:Cb w w.heap.size v a):
  Calls Tryz.prog 17 #[v] w (Ret fun r w'=>r=.int .i64 (DU a.ok)∧Below w.heap.size w w'):=by
 have hI:=hide h
 obtain⟨z,C,E,c2,F,G,rfl,I,J,M,O⟩:=h
 obtain⟨w1,a2,f,U,V⟩:=Ag w #[.int .i64 a.letters,.int .i64 a.states,.slice z a.start.length C,.slice E a.accept.length c2,.slice F a.edges.length G] 39
 have a3:=U.cell
 have W:=hide ((hI.out.below f).keep (fun _ _=>rfl) f.size)
 have y:=hide f
 clear I J M O V f
 go_enter Tryz.func17,Tryz.ntmps17
 go_wp2_with (go_at_call 36; refine Calls.ret (KH W.out) ?_; rintro v w2 ⟨rfl,Z⟩)
 go_ret
 exact⟨rfl,y.out.trans (Z.mono y.out.size)⟩
end Go.Proofs.YtlakpndhhelliaaGreatDoor
