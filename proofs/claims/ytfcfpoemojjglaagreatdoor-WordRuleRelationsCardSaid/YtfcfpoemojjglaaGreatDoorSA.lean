/-
  Part SA of a proof.
-/
import Derived.BigQuiet
import Derived.Test.YtfcfpoemojjglaaGreatDoorPA
import Derived.Test.YtfcfpoemojjglaaGreatDoorPE
import Derived.Test.YtfcfpoemojjglaaGreatDoorPC
import Derived.Test.YtfcfpoemojjglaaGreatDoorPB
set_option maxHeartbeats 16000000
set_option maxRecDepth 100000
set_option linter.unusedVariables false
set_option linter.unusedSimpArgs false
namespace Go.Proofs.YtfcfpoemojjglaaGreatDoor
open Go.RowKit
set_option maxHeartbeats 16000000
set_option maxRecDepth 100000
section
variable {S:Type} [DecidableEq S] {P:Program} {K:TypeId}
theorem VI {enc:S→Value} (F:∀w s t,(Op.equal K (enc s) (enc t)).run P w=.ok (decide (s=t)) w) (s:S) (w:World) (es:List MapEntry):∀(l:List S) (i:Nat),es.map (·.key)=l.map enc→
  (Instr.findAsking K (enc s) es i).run P w=.ok (if s∈l then some (i+l.idxOf s,((es[l.idxOf s]?).map (·.val)).getD .nilFunc) else none) w:=by
 induction es with
 | nil=>
  intro l i h
  have:l=[]:=by cases l <;> simp_all
  subst this
  simp [Instr.findAsking]
 | cons e es ih=>
  intro l i h
  cases l with
  | nil=>simp at h
  | cons t l=>
   simp only [List.map_cons,List.cons.injEq] at h
   obtain⟨h1,E⟩:=h
   unfold Instr.findAsking
   rw [h1]
   simp only [Sem.run_bind,F,Result.andThen_ok]
   by_cases x:s=t
   ·subst x
    simp
   ·simp only [x,decide_false,Bool.false_eq_true,if_false]
    rw [ih l (i+1) E]
    have G:(t::l).idxOf s=l.idxOf s+1:=by
     rw [List.idxOf_cons]
     have:(t==s)=false:=by simpa using fun e=>x e.symm
     rw [this]; rfl
    by_cases y:s∈l
    ·simp only [y,G,List.mem_cons,or_true,if_true,List.getElem?_cons_succ]
     have C:i+1+l.idxOf s=i+(l.idxOf s+1):=by omega
     rw [C]
    ·simp [y,x]
theorem VK {enc:S→Value} {d:TypeDesc} (C:P.underlying K=some d) (I:∀s t,Instr.sameNow d (enc s) (enc t)=none) (E:∀x w s,(Instr.checkKey x 10000 K (enc s)).run P w=.ok () w)
  (y:∀w s t,(Op.equal K (enc s) (enc t)).run P w=.ok (decide (s=t)) w):El P K enc where
 check:=E
 find:=fun w s es l h=>by
  unfold Instr.findKey
  simp only [Sem.run_bind,run_underlying C,Result.andThen_ok]
  cases es with
  | nil=>
   have:l=[]:=by cases l <;> simp_all
   subst this
   simp [Instr.findNow]
  | cons e es=>
   cases l with
   | nil=>simp at h
   | cons t l=>
    have F:=h
    simp only [List.map_cons,List.cons.injEq] at h
    have G:Instr.findNow d (enc s) (e::es) 0=none:=by
     unfold Instr.findNow
     rw [h.1,I]
    rw [G]
    have:=VI y s w (e::es) (t::l) 0 F
    simpa using this
end
end Go.Proofs.YtfcfpoemojjglaaGreatDoor
namespace Go.Proofs.YtfcfpoemojjglaaGreatDoor
open Go.RowKit
def WA.accV (a:WA) (l:List Int):Bool:=a.ok&&l.all (inN a.letters)
def WA.acc (a:WA) (l:List Int):Bool:=a.accV l&&a.lang (l.map Int.toNat)
end Go.Proofs.YtfcfpoemojjglaaGreatDoor
namespace Go.Proofs.YtfcfpoemojjglaaGreatDoor
open Go.RowKit
def Wy (e:Mv):Nat→Value
 | 0=>.int .i64 e.frm
 | 1=>.int .i64 e.inn
 | 2=>.int .i64 e.out
 | _=>.int .i64 e.to
def Wi (w:World) (B:Nat) (v:Value) (t:TR):Prop:=
 ∃A1 c1 A2 c2 A3 c3,v=.agg #[.int .i64 t.letters,.int .i64 t.states,.slice A1 t.start.length c1,.slice A2 t.accept.length c2,.slice A3 t.moves.length c3]∧
  Sl w B 1 Ai A1 t.start∧Sl w B 1 Ai A2 t.accept∧Sl w B 4 Wy A3 t.moves∧t.start.length≤c1
theorem Wi.keep {w w':World} {B B':Nat} {v:Value} {a:TR} (h:Wi w B v a) (hk:∀p:Addr,p.block<B→w'.cell? p=w.cell? p) (x:B≤B'):Wi w' B' v a:=by
 obtain⟨A1,c1,A2,c2,A3,c3,e,h1,y,C,E⟩:=h
 exact⟨A1,c1,A2,c2,A3,c3,e,h1.keep hk x,y.keep hk x,C.keep hk x,E⟩
end Go.Proofs.YtfcfpoemojjglaaGreatDoor
namespace Go.Proofs.YtfcfpoemojjglaaGreatDoor
open Go.RowKit
set_option maxHeartbeats 16000000
set_option maxRecDepth 100000
theorem Xn (w:World) (L S:Int) (x y C:Value):Calls Tryz.prog 263 #[.agg #[.int .i64 L,.int .i64 S,x,y,C]] w (Ret fun r w'=>r=.tuple #[.int .i64 L,.int .i64 S]∧Below w.heap.size w w'):=by
 obtain⟨F,J,h,E,I⟩:=Ae w #[.int .i64 L,.int .i64 S,x,y,C] 166
 have G:=E.cell
 go_enter Tryz.func263,Tryz.ntmps263
 go_wp2_with fail
 refine Reg.cP [0,1,0,4,3,31] ?_
 go_wp2_with fail
 exact bodyPost_ret (v:=.tuple #[.int .i64 L,.int .i64 S]) (by simp [results,Tryz.results263,go_sem]) rfl ⟨rfl,(h.trans ((Ap F).mono h.size))⟩
theorem TR.ok_eq (a:TR):a.ok=(a.head&&a.start.all (inN a.states)&&a.accept.all (inN a.states)&&a.moves.all a.moveB):=rfl
theorem YB (n x y:Int) (c:Nat) (w:World) {g:Nat} (h:g=w.heap.size):Calls Tryz.prog 40 #[.int .i64 n,.slice (some ⟨g,0,none⟩) 2 c] (w.alloc (.cells #[.int .i64 x,.int .i64 y] 3)) fun e w'=>e=.returned (.bool (inN n x&&inN n y))∧w.alloc (.cells #[.int .i64 x,.int .i64 y] 3)=w':=by
 subst h
 exact Jm n x y c w
theorem aAP {w:World} {a:TR} {A1 A2 A3:Option Addr} {c1 c2 c3:Nat} (M:Sl w w.heap.size 4 Wy A3 a.moves) (F:a.head=false):
  Calls Tryz.prog 86 #[.iface 166 (.agg #[.int .i64 a.letters,.int .i64 a.states,.slice A1 a.start.length c1,.slice A2 a.accept.length c2,.slice A3 a.moves.length c3])] w (Ret fun r w'=>r=.int .i64 (De a.ok)∧Below w.heap.size w w'):=by
 have aj:Hid (a.ok=false):=by show _=_; rw [TR.ok_eq,F]; rfl
 obtain⟨L,S,st,ac,h⟩:=a
 dsimp only at*
 generalize TR.ok ⟨L,S,st,ac,h⟩=OK at*
 have au:=M.1
 have ab:L<1∨(1≤L∧8<L)∨(1≤L∧L≤8∧S<0)∨(1≤L∧L≤8∧0≤S∧400<S):=by simp [TR.head] at F; omega
 clear F
 rcases ab with E | ⟨E,J⟩ | ⟨E,J,d3⟩ | ⟨E,J,d3,d4⟩
 all_goals
  go_enter Tryz.func86,Tryz.ntmps86
  go_wp2_with (go_at_call 263; refine Calls.ret (Xn _ _ _ _ _ _) ?_; rintro v w0 ⟨rfl,V⟩; obtain⟨w1,av,W,O,ag⟩:=Ae w0 #[.int .i64 L,.int .i64 S,.slice A1 st.length c1,.slice A2 ac.length c2,.slice A3 h.length c3] 166; have ar:=O.cell; have ak:=hide (V.trans (W.mono V.size)); clear W O ag)
  go_loopw [5,92] (fun bb I wr=>∃(k:Nat),I=.int .i64 (k:Int)∧bb=.bool false∧k≤h.length∧Hid (Below w.heap.size w wr)∧Below w1.heap.size w1 wr) (fun _ I _=>h.length - (intOf I).toNat)
  case atStart=>exact⟨0,rfl,rfl,Nat.zero_le _,ak,Below.refl _ _⟩
  case round=>
   obtain⟨k,rfl,rfl,hk,C,U⟩:=hrel
   by_cases ai:k<h.length
   ·obtain⟨b,off,x,rfl,aa,hx,Z⟩:=M.at ai
    have y:=fun j hj=>(C.out.cell (by exact aa)).trans (Z j hj)
    have e0:=y 0 (by omega)
    have e1:=y 1 (by omega)
    have e2:=y 2 (by omega)
    have e3:=y 3 (by omega)
    simp only [Nat.add_zero,Wy] at e0 e1 e2 e3
    obtain⟨x0,x1,x2,x3⟩:=x
    dsimp only at*
    obtain⟨w2,aw,G,a9,ah⟩:=Ae wr #[.int .i64 x0,.int .i64 x1,.int .i64 x2,.int .i64 x3] 108
    have hf:=hide (C.out.trans (G.mono C.out.size))
    have ae:=hide (U.trans (G.mono U.size))
    clear hx Z y G a9 ah
    go_wp2_with fail
    exact⟨⟨k+1,by go_num,rfl,by omega,hf,ae.out⟩,by simp [intOf]; omega⟩
   ·go_wp2_with fail
    go_ret
    exact⟨by rw [aj.out]; rfl,C.out⟩
theorem aAQ {w:World} {a:TR} {A1 A2 A3:Option Addr} {c1 c2 c3:Nat} (h1:Sl w w.heap.size 1 Ai A1 a.start) (h2:Sl w w.heap.size 1 Ai A2 a.accept) (h3:Sl w w.heap.size 4 Wy A3 a.moves) (hb:a.head=true):
  Calls Tryz.prog 86 #[.iface 166 (.agg #[.int .i64 a.letters,.int .i64 a.states,.slice A1 a.start.length c1,.slice A2 a.accept.length c2,.slice A3 a.moves.length c3])] w (Ret fun r w'=>r=.int .i64 (De a.ok)∧Below w.heap.size w w'):=by
 have am:=hide (TR.ok_eq a)
 rw [hb] at am
 obtain⟨L,S,st,ac,h⟩:=a
 dsimp only at*
 have aQ:=h3.1
 simp only [TR.head,Bool.and_eq_true,decide_eq_true_eq] at hb
 obtain⟨⟨⟨d1,d2⟩,d3⟩,d4⟩:=hb
 obtain⟨p,hp⟩:∃p:Mv→Bool,p=TR.moveB ⟨L,S,st,ac,h⟩:=⟨_,rfl⟩
 have ax:∀e:Mv,p e=(inN S e.frm&&inN S e.to&&(inN L e.inn&&inN L e.out)):=fun e=>by rw [hp]; rfl
 have an:Hid (TR.ok ⟨L,S,st,ac,h⟩=(st.all (inN S)&&ac.all (inN S)&&h.all p)):=by show _=_; rw [am.out,hp]; simp
 have aD:=hide ax
 clear am hp ax
 generalize TR.ok ⟨L,S,st,ac,h⟩=OK at*
 obtain⟨s1,aq⟩:∃b,Hid (st.all (inN S)=b):=⟨_,rfl⟩
 obtain⟨s2,ar⟩:∃b,Hid (ac.all (inN S)=b):=⟨_,rfl⟩
 rw [aq.out,ar.out] at an
 cases s1 <;> cases s2
 case true.true=>
  go_enter Tryz.func86,Tryz.ntmps86
  go_wp2_with (first
   | (go_at_call 263; refine Calls.ret (Xn _ _ _ _ _ _) ?_; rintro v w0 ⟨rfl,a3⟩; obtain⟨w1,aF,a4,W,ai⟩:=Ae w0 #[.int .i64 L,.int .i64 S,.slice A1 st.length c1,.slice A2 ac.length c2,.slice A3 h.length c3] 166; have aB:=W.cell; have I:=hide (a3.trans (a4.mono a3.size)); clear a4 W ai)
   | (go_at_call 40; refine(FM _ (by first | exact h1.below I.out | exact h2.below I.out)).mono ?_; rintro e w' ⟨rfl,rfl⟩; first | rw [aq.out] | rw [ar.out]))
  go_loopw [5,92] (fun bb J wr=>∃(k:Nat) (b:Bool),J=.int .i64 (k:Int)∧bb=.bool b∧k≤h.length∧Hid ((h.take k).all p=b)∧Hid (Below w.heap.size w wr)∧Below w1.heap.size w1 wr) (fun _ J _=>h.length - (intOf J).toNat)
  case atStart=>exact⟨0,true,rfl,rfl,Nat.zero_le _,rfl,I,Below.refl _ _⟩
  case round=>
   obtain⟨k,b,rfl,rfl,hk,hE,C,a2⟩:=hrel
   by_cases ak:k<h.length
   ·obtain⟨bl,off,x,rfl,ag,hx,hc⟩:=h3.at ak
    have y:=fun j hj=>(C.out.cell (by exact ag)).trans (hc j hj)
    have e0:=y 0 (by omega)
    have e1:=y 1 (by omega)
    have e2:=y 2 (by omega)
    have e3:=y 3 (by omega)
    simp only [Nat.add_zero,Wy] at e0 e1 e2 e3
    have aE:=hide (aD.out x)
    have al:Hid ((h.take (k+1)).all p=(b&&p x)):=by show _=_; rw [B5 hx,List.all_append,hE.out]; simp
    obtain⟨U,M,O,V⟩:=x
    dsimp only at*
    obtain⟨w2,aG,E,Z,aj⟩:=Ae wr #[.int .i64 U,.int .i64 M,.int .i64 O,.int .i64 V] 108
    have aC:=Z.cell
    have aP:∀o i,(w2.alloc o).cell? ⟨wr.heap.size,i,none⟩=#[.int .i64 U,.int .i64 M,.int .i64 O,.int .i64 V][i]?:=fun o i=>(World.cell?_alloc_lt w2 o _ Z.lt).trans (aC i)
    have aR:=hide E.size
    have F:=hide (C.out.trans (E.mono C.out.size))
    have G:=hide (a2.trans (E.mono a2.size))
    clear hx hc y E Z aj
    cases b
    ·go_wp2_with fail
     exact⟨⟨k+1,false,by go_num,rfl,by omega,by show _=_; rw [al.out]; rfl,F,G.out⟩,by simp [intOf]; omega⟩
    ·obtain⟨r1,ap⟩:∃r,Hid ((inN S U&&inN S V)=r):=⟨_,rfl⟩
     obtain⟨r2,az⟩:∃r,Hid ((inN L M&&inN L O)=r):=⟨_,rfl⟩
     have ay:Hid (p ⟨U,M,O,V⟩=(r1&&r2)):=by show _=_; rw [aE.out,ap.out,az.out]
     cases r1
     ·go_wp2_with (go_at_call 40; refine(Jm _ _ _ _ _).mono ?_; rintro e w' ⟨rfl,rfl⟩; rw [ap.out])
      exact⟨⟨k+1,false,by go_num,rfl,by omega,by show _=_; rw [al.out,ay.out]; rfl,hide (F.out.alloc F.out.size _),G.out.alloc G.out.size _⟩,by simp [intOf]; omega⟩
     ·go_wp2_with fail
      refine(Jm _ _ _ _ _).mono ?_
      rintro e w' ⟨rfl,rfl⟩
      rw [ap.out]
      go_wp2_with fail
      refine(YB L M O _ _ (by simp)).mono ?_
      rintro e w' ⟨rfl,rfl⟩
      rw [az.out]
      go_wp2_with fail
      exact⟨⟨k+1,r2,by go_num,rfl,by omega,by show _=_; rw [al.out,ay.out]; rfl,hide ((F.out.alloc F.out.size _).alloc (by have:=F.out.size; simp; omega) _),(G.out.alloc G.out.size _).alloc (by have:=G.out.size; simp; omega) _⟩,by simp [intOf]; omega⟩
   ·have hA:Hid (h.all p=b):=by show _=_; rw [←hE.out,List.take_of_length_le (by omega)]
    cases b
    all_goals
     go_wp2_with fail
     go_ret
     exact⟨by rw [an.out,hA.out]; rfl,C.out⟩
 all_goals
  go_enter Tryz.func86,Tryz.ntmps86
  go_wp2_with (first
   | (go_at_call 263; refine Calls.ret (Xn _ _ _ _ _ _) ?_; rintro v w0 ⟨rfl,a3⟩; obtain⟨w1,aF,a4,W,ai⟩:=Ae w0 #[.int .i64 L,.int .i64 S,.slice A1 st.length c1,.slice A2 ac.length c2,.slice A3 h.length c3] 166; have aB:=W.cell; have I:=hide (a3.trans (a4.mono a3.size)); clear a4 W ai)
   | (go_at_call 40; refine(FM _ (by first | exact h1.below I.out | exact h2.below I.out)).mono ?_; rintro e w' ⟨rfl,rfl⟩; first | rw [aq.out] | rw [ar.out]))
  go_loopw [5,92] (fun bb J wr=>∃(k:Nat),J=.int .i64 (k:Int)∧bb=.bool false∧k≤h.length∧Hid (Below w.heap.size w wr)∧Below w1.heap.size w1 wr) (fun _ J _=>h.length - (intOf J).toNat)
  case atStart=>exact⟨0,rfl,rfl,Nat.zero_le _,I,Below.refl _ _⟩
  case round=>
   obtain⟨k,rfl,rfl,hk,C,a2⟩:=hrel
   by_cases ak:k<h.length
   ·obtain⟨b,off,x,rfl,ag,hx,hc⟩:=h3.at ak
    have y:=fun j hj=>(C.out.cell (by exact ag)).trans (hc j hj)
    have e0:=y 0 (by omega)
    have e1:=y 1 (by omega)
    have e2:=y 2 (by omega)
    have e3:=y 3 (by omega)
    simp only [Nat.add_zero,Wy] at e0 e1 e2 e3
    obtain⟨U,M,O,V⟩:=x
    dsimp only at*
    obtain⟨w2,aG,E,Z,aj⟩:=Ae wr #[.int .i64 U,.int .i64 M,.int .i64 O,.int .i64 V] 108
    have F:=hide (C.out.trans (E.mono C.out.size))
    have G:=hide (a2.trans (E.mono a2.size))
    clear hx hc y E Z aj
    go_wp2_with fail
    exact⟨⟨k+1,by go_num,rfl,by omega,F,G.out⟩,by simp [intOf]; omega⟩
   ·go_wp2_with fail
    go_ret
    exact⟨by rw [an.out]; rfl,C.out⟩
theorem aAN {v:Value} {a:TR} {w:World} (h:Wi w w.heap.size v a):
  Calls Tryz.prog 86 #[.iface 166 v] w (Ret fun r w'=>r=.int .i64 (De a.ok)∧Below w.heap.size w w'):=by
 obtain⟨A1,c1,A2,c2,A3,c3,rfl,h1,C,x,E⟩:=h
 cases y:a.head
 ·exact aAP x y
 ·exact aAQ h1 C x y
theorem aAO {v:Value} {a:TR} {w:World} (h:Wi w w.heap.size v a):
  Calls Tryz.prog 59 #[v] w (Ret fun r w'=>r=.int .i64 (De a.ok)∧Below w.heap.size w w'):=by
 have I:=hide h
 obtain⟨A1,c1,A2,c2,A3,c3,rfl,h1,C,E,F⟩:=h
 obtain⟨V,Z,x,G,O⟩:=Ae w #[.int .i64 a.letters,.int .i64 a.states,.slice A1 a.start.length c1,.slice A2 a.accept.length c2,.slice A3 a.moves.length c3] 55
 have W:=G.cell
 have J:=hide (I.out.keep (w':=V) (fun p U=>x.cell U) x.size)
 have y:=hide x
 clear h1 C E F O x
 go_enter Tryz.func59,Tryz.ntmps59
 go_wp2_with (go_at_call 86; refine Calls.ret (aAN J.out) ?_; rintro v w2 ⟨rfl,M⟩)
 go_ret
 exact⟨rfl,y.out.trans (M.mono y.out.size)⟩
end Go.Proofs.YtfcfpoemojjglaaGreatDoor
namespace Go.Proofs.YtfcfpoemojjglaaGreatDoor
open Go.RowKit
set_option maxHeartbeats 16000000
set_option maxRecDepth 100000
theorem X2 {w:World} {g n c3:Nat} {A3:Option Addr} {acc:List Bool} {q:Nat} {b:Bool} (E:Blk w g 76 #[.slice A3 n c3]) (h:Sl w w.heap.size 1 DH A3 acc) (J:n=acc.length) (x:acc[q]?=some b):
  Calls Tryz.prog 62 #[.int .i64 (q:Int),.pointer (some ⟨g,0,none⟩)] w fun e w'=>e=.returned (.bool b)∧w=w':=by
 have U:=E.cell
 have C:=AP x
 have I:=h.1
 obtain⟨M,off,d,rfl,O,hd,y⟩:=h.at C
 have G:d=b:=Option.some.inj (hd.symm.trans x)
 subst G
 have F:=y 0 (by omega)
 simp only [Nat.mul_one,Nat.add_zero,DH] at F
 have V:q<n:=by omega
 have W:n≤9223372036854775807:=by omega
 clear J x hd y h C I
 go_enter Tryz.func62,Tryz.ntmps62
 go_wp2_with fail
 go_ret
 exact⟨rfl,rfl⟩
theorem aAi {w:World} {B g n c3 c:Nat} {A A3:Option Addr} {acc:List Bool} {l:List Int} (Z:Blk w g 76 #[.slice A3 n c3]) (V:Sl w w.heap.size 1 DH A3 acc) (hn:n=acc.length) (h:Sl w B 1 Ai A l) (a5:∀x∈l,inN n x=true):
  Calls Tryz.prog 107 #[.slice A l.length c,.func (.func 62) #[] #[.pointer (some ⟨g,0,none⟩)]] w fun e w'=>e=.returned (.int .i64 (if l.any (fun x=>acc.getD x.toNat false) then ((l.findIdx fun x=>acc.getD x.toNat false:Nat):Int) else -1))∧w=w':=by
 have hm:=h.1
 have a2:=hide Z
 have W:=hide V
 have I:=hide hn
 have hI:=hide a5
 have ai:=GT
 obtain⟨p,J⟩:∃p:Int→Bool,p=fun x=>acc.getD x.toNat false:=⟨_,rfl⟩
 rw [←J]
 have af:=hide J
 obtain⟨R,F⟩:∃R:Int,Hid ((if l.any p then ((l.findIdx p:Nat):Int) else -1)=R):=⟨_,rfl⟩
 rw [F.out]
 clear Z V hn a5 J
 go_enter Tryz.func107,Tryz.ntmps107
 go_wp2_with fail
 go_loop [8] (fun O=>∃(k:Nat),O=.int .i64 (k:Int)∧k≤l.length∧Hid ((l.take k).any p=false)) (fun O=>l.length - (intOf O).toNat)
 case atStart=>exact⟨0,rfl,Nat.zero_le _,rfl⟩
 case round=>
  obtain⟨k,rfl,hk,E⟩:=hrel
  by_cases a6:k<l.length
  ·obtain⟨b,off,x,rfl,ag,hx,hc⟩:=h.at a6
   have ad:=hc 0 (by omega)
   simp only [Nat.mul_one,Nat.add_zero,Ai] at ad
   have y:=hide hx
   clear hx hc
   obtain⟨q,rfl,hq⟩:=CT (hI.out x (List.mem_of_getElem? y.out))
   simp only [Int.toNat_natCast] at hq
   obtain⟨U,G⟩:=An (l:=acc) (i:=q) (by rw [←I.out]; exact hq)
   have a3:=hide G
   have M:Hid (p (q:Int)=U):=by show _=_; rw [af.out]; exact getD_some G
   clear G
   cases U
   ·have aa:Hid ((l.take (k+1)).any p=false):=by show _=_; rw [B5 y.out,List.any_append,E.out]; simp [M.out]
    go_wp2_with (go_at_call 62; refine(X2 a2.out W.out I.out a3.out).mono ?_; rintro e w' ⟨rfl,rfl⟩)
    exact⟨⟨k+1,by go_num,by omega,aa⟩,by simp [intOf]; omega⟩
   ·have C:Hid (l.any p=true):=List.any_eq_true.2 ⟨_,List.mem_of_getElem? y.out,M.out⟩
    have hF:Hid (l.findIdx p=k):=by
     show _=_
     rw [List.findIdx_eq a6]
     refine⟨?_,fun j hj=>?_⟩
     ·have:=(List.getElem?_eq_some_iff.1 y.out).2
      rw [this]; exact M.out
     ·have:=List.any_eq_false.1 E.out l[j] (List.mem_of_getElem? (i:=j) (by rw [List.getElem?_take,if_pos hj,List.getElem?_eq_getElem]))
      simpa using this
    go_wp2_with (go_at_call 62; refine(X2 a2.out W.out I.out a3.out).mono ?_; rintro e w' ⟨rfl,rfl⟩)
    go_ret
    exact⟨by rw [←F.out,C.out,hF.out]; rfl,rfl⟩
  ·have C:Hid (l.any p=false):=by show _=_; rw [←E.out,List.take_of_length_le (by omega)]
   go_wp2_with fail
   go_ret
   exact⟨by rw [←F.out,C.out]; rfl,rfl⟩
theorem Z9 {w:World} {B g n c3 c:Nat} {A A3:Option Addr} {acc:List Bool} {l:List Int} (E:Blk w g 76 #[.slice A3 n c3]) (C:Sl w w.heap.size 1 DH A3 acc) (G:n=acc.length) (h:Sl w B 1 Ai A l) (F:∀x∈l,inN n x=true):
  Calls Tryz.prog 61 #[.slice A l.length c,.func (.func 62) #[] #[.pointer (some ⟨g,0,none⟩)]] w fun e w'=>e=.returned (.bool (l.any (fun x=>acc.getD x.toNat false)))∧w=w':=by
 have y:=aAi (c:=c) E C G h F
 clear E C F G
 obtain⟨r,I⟩:∃r,(l.any (fun x=>acc.getD x.toNat false))=r:=⟨_,rfl⟩
 rw [I] at y ⊢
 cases r
 all_goals
  simp only [Bool.false_eq_true,if_false,if_true] at y
  clear I
  go_enter Tryz.func61,Tryz.ntmps61
  go_wp2_with (go_at_call 107; refine y.mono ?_; rintro e w' ⟨rfl,rfl⟩)
  go_ret
  exact⟨by simp,rfl⟩
def TR.relV (t:TR) (u v:List Int):Bool:=t.ok&&u.all (inN t.letters)&&v.all (inN t.letters)
def TR.relR (t:TR) (u v:List Int):Value:=.tuple #[.bool (t.relV u v&&decide (u.length=v.length)&&t.rel u v),.int .i64 (De (t.relV u v))]
theorem TR.setK_zero (t:TR) (u v:List Int):t.setK u v 0=BN t.n t.start:=by simp [TR.setK]
theorem Yl {vt:Value} {t:TR} {w:World} {B B' c c':Nat} {A A':Option Addr} {u v:List Int} (h:Wi w w.heap.size vt t) (hu:Sl w B 1 Ai A u) (hv:Sl w B' 1 Ai A' v) (hB:B≤w.heap.size) (cJ:B'≤w.heap.size):
  Calls Tryz.prog 23 #[vt,.slice A u.length c,.slice A' v.length c'] w (Ret fun r w'=>r=t.relR u v∧Below w.heap.size w w'):=by
 have c5:=hide h
 obtain⟨A1,c1,A2,c2,A3,c3,rfl,h1,h2,h3,h4⟩:=h
 obtain⟨w1,d6,ah,az,ch⟩:=Ae w #[.int .i64 t.letters,.int .i64 t.states,.slice A1 t.start.length c1,.slice A2 t.accept.length c2,.slice A3 t.moves.length c3] 55
 have bD:=ah.size
 have c8:=az.cell
 have c6:=hide ah
 have bQ:=hide az
 have bG:=hide hu
 have bH:=hide hv
 have bL:=hide h1
 have bM:=hide h2
 have bN:=hide h3
 have l3:=h3.1
 have bI:=aAO (c5.out.keep (w':=w1) (fun p hp=>ah.cell hp) bD)
 have lu:=hu.1
 have lv:=hv.1
 obtain⟨n,hn⟩:∃n,n=u.length:=⟨_,rfl⟩
 obtain⟨n',aM⟩:∃n',n'=v.length:=⟨_,rfl⟩
 have a6:=hide hn
 have am:=hide aM
 rw [←hn] at lu ⊢
 rw [←aM] at lv ⊢
 clear h1 h2 h3 h4 ch ah az hu hv hn aM
 go_enter Tryz.func23,Tryz.ntmps23
 go_wp2_with fail
 refine Calls.ret bI ?_
 rintro r w2 ⟨rfl,aF⟩
 have F:=hide (c6.out.trans (aF.mono bD))
 have aA:=hide (bQ.out.below aF)
 have bo:=aA.out.cell
 clear bI aF c8
 rcases O:t.ok with _ | _
 ·have C:Hid (t.relR u v=.tuple #[.bool false,.int .i64 1]):=by show _=_; unfold TR.relR TR.relV; rw [O]; rfl
  rw [show De false=1 from rfl]
  go_wp2_with fail
  go_ret2
  exact⟨C.out.symm,F.out⟩
 ·have I:=FM (c:=c) t.letters (bG.out.keep (w':=w2) (fun p hp=>F.out.cell (by omega)) (Nat.le_refl _))
  have U:=FM (c:=c') t.letters (bH.out.keep (w':=w2) (fun p hp=>F.out.cell (by omega)) (Nat.le_refl _))
  rw [←a6.out] at I
  rw [←am.out] at U
  rw [show De true=0 from rfl]
  have d0:=hide O
  rcases E:u.all (inN t.letters) with _ | _
  ·have C:Hid (t.relR u v=.tuple #[.bool false,.int .i64 1]):=by show _=_; unfold TR.relR TR.relV; rw [O,E]; rfl
   rw [E] at I
   clear O E
   go_wp2_with fail
   refine I.mono ?_
   rintro e w' ⟨rfl,rfl⟩
   go_wp2_with fail
   go_ret2
   exact⟨C.out.symm,F.out⟩
  ·rcases V:v.all (inN t.letters) with _ | _
   ·have C:Hid (t.relR u v=.tuple #[.bool false,.int .i64 1]):=by show _=_; unfold TR.relR TR.relV; rw [O,E,V]; rfl
    rw [E] at I
    rw [V] at U
    clear O E V
    go_wp2_with fail
    refine I.mono ?_
    rintro e w' ⟨rfl,rfl⟩
    go_wp2_with fail
    refine U.mono ?_
    rintro e w' ⟨rfl,rfl⟩
    go_wp2_with fail
    go_ret2
    exact⟨C.out.symm,F.out⟩
   ·have hV:Hid (t.relV u v=true):=by show _=_; unfold TR.relV; rw [O,E,V]; rfl
    have d4:=hide (fun x (hx:x∈u)=>List.all_eq_true.1 E x hx)
    have d5:=hide (fun x (hx:x∈v)=>List.all_eq_true.1 V x hx)
    rw [E] at I
    rw [V] at U
    obtain⟨⟨o1,o2,o3,o4⟩,bx⟩:=TR.ok_iff.1 O
    have aJ:=hide bx
    clear O E V bx
    by_cases bC:n=n'
    ·subst bC
     obtain⟨S,hS⟩:=Int.eq_ofNat_of_zero_le o3
     have ag:Hid (t.n=S):=by show _=_; unfold TR.n; rw [hS]; rfl
     have bg:=hide hS
     obtain⟨nm,an⟩:∃nm,nm=t.moves.length:=⟨_,rfl⟩
     have bB:=hide an
     have bA:=Q3 (c:=c1) (n:=S) (bL.out.keep (w':=w2) (fun p hp=>F.out.cell hp) F.out.size) (Nat.le_refl _) (by omega) (by rw [←hS]; exact aJ.out.start)
     rw [←an] at bo l3
     rw [hS] at bo
     have b6:Hid (Blk w2 w.heap.size 55 #[.int .i64 t.letters,.int .i64 (S:Int),.slice A1 t.start.length c1,.slice A2 t.accept.length c2,.slice A3 nm c3]):=by
      have:=aA.out
      rw [hS,←an] at this
      exact this
     clear an aA
     go_wp2_with fail
     refine I.mono ?_
     rintro e w' ⟨rfl,rfl⟩
     go_wp2_with fail
     refine U.mono ?_
     rintro e w' ⟨rfl,rfl⟩
     clear I U
     go_wp2_with fail
     refine Calls.ret bA ?_
     rintro vm J ⟨ai,bY,-⟩
     obtain⟨gM,cV,rfl,aC⟩:=bY
     rw [show(BN S t.start).length=S by simp [BN]]
     obtain⟨w4,d8,aj,aB,ci⟩:=Ae J #[.slice (some ⟨gM,0,none⟩) S S] 76
     have aG:=ai.trans (aj.mono ai.size)
     have bk:=hide (F.out.trans (aG.mono F.out.size))
     have b7:=hide (b6.out.below aG)
     have cM:=b7.out.cell
     have bR:=hide aB
     have bd:=hide (aC.below aj)
     have cc:gM<w4.heap.size:=by have:=(aC.below aj).lt; exact this
     have cT:J.heap.size<w4.heap.size:=aB.lt
     have d7:w.heap.size<J.heap.size:=by have:=(b6.out.below ai).lt; exact this
     have ck:Hid (BN S t.start=t.setK u v 0):=by show _=_; rw [TR.setK_zero,ag.out]
     rw [ck.out] at bd
     have bE:∀k,(t.setK u v k).length=S:=fun k=>by rw [TR.setK_len,ag.out]
     have ao:=hide bE
     clear bA ai aj aB ci aC aG bE
     go_wp2_with fail
     go_loopw [43] (fun kk wr=>∃(k gm:Nat),kk=.int .i64 (k:Int)∧k≤n∧gm<wr.heap.size∧J.heap.size≠gm∧Hid (Blk wr J.heap.size 76 #[.slice (some ⟨gm,0,none⟩) S S])∧Hid (Blk wr gm 4 ((t.setK u v k).map Value.bool).toArray)∧Hid (Ac w4 wr (fun k=>k=J.heap.size))) (fun kk _=>n - (intOf kk).toNat)
     case atStart=>exact⟨0,gM,rfl,Nat.zero_le _,cc,by omega,bR,bd,Ac.refl _ _⟩
     case round=>
      obtain⟨k,gm,rfl,hk,cd,cW,aD,hM,hK⟩:=hrel
      have W:=hide (bk.out.trans (hK.out.below (B:=w.heap.size) (by have:=bk.out.size; omega) (fun b hb e=>by omega)))
      have ba:=hide (b7.out.kept hK.out (by omega))
      have cQ:=ba.out.cell
      have cR:=aD.out.cell
      by_cases aK:k<n
      ·obtain⟨x,hx⟩:=An (l:=u) (i:=k) (by rw [←a6.out]; exact aK)
       obtain⟨y,hy⟩:=An (l:=v) (i:=k) (by rw [←am.out]; exact aK)
       obtain⟨bu,ou,rfl,cK,bq⟩:=EZ bG.out hx
       obtain⟨bv,ov,rfl,cL,br⟩:=EZ bH.out hy
       obtain⟨gn,w5,cZ,ak,Z,cU⟩:=HI wr S (by omega)
       rw [HE] at ak
       have bl:=hide (W.out.trans (Z.mono W.out.size))
       have b8:=hide (ba.out.below Z)
       have bS:=hide (aD.out.below Z)
       have bZ:=hide (hM.out.below Z)
       have c4:Hid (Blk w5 gn 4 ((t.nextM (t.setK u v k) x y 0).map Value.bool).toArray):=by
        show Blk _ _ _ _
        rw [TR.nextM_zero,ag.out]
        exact ak
       have cO:=b8.out.cell
       have bV:Hid (Ac w4 w5 (fun k=>k=J.heap.size)):=hK.out.trans (Ac.of_below Z (fun _=>False)) fun _ _ e=>e.elim
       have cl:=hide (TR.setK_step (t:=t) hx hy)
       have ca:=hide bq
       have cb:=hide br
       have d1:=Z.size
       have cX:=ak.lt
       clear hx hy bq br Z ak
       go_wp2_with fail
       go_loopw [52] (fun jj wz=>∃(j:Nat),jj=.int .i64 (j:Int)∧j≤nm∧Hid (Blk wz gn 4 ((t.nextM (t.setK u v k) x y j).map Value.bool).toArray)∧Hid (Ac w5 wz (fun k=>k=gn))) (fun jj _=>nm - (intOf jj).toNat)
       case atStart=>exact⟨0,rfl,Nat.zero_le _,c4,Ac.refl _ _⟩
       case round=>
        rename World=>wz
        obtain⟨j,rfl,hj,hN,a5⟩:=hrel
        have d2:=W.out.size
        have d3:=hK.out.size
        have aa:=hide (bl.out.trans (a5.out.below (B:=w.heap.size) (by have:=bl.out.size; omega) (fun b hb e=>by have:=W.out.size; omega)))
        have bU:=hide (b8.out.kept a5.out (by omega))
        have a8:=hide (bS.out.kept a5.out (by omega))
        have c0:=hide (bZ.out.kept a5.out (by omega))
        have cS:=bU.out.cell
        by_cases cg:j<nm
        ·obtain⟨b,off,e,rfl,c7,aP,hc⟩:=bN.out.at (k:=j) (by rw [←bB.out]; exact cg)
         have ab:=fun i hi=>(aa.out.cell (by exact c7)).trans (hc i hi)
         have q0:=ab 0 (by omega)
         have q1:=ab 1 (by omega)
         have q2:=ab 2 (by omega)
         have q3:=ab 3 (by omega)
         simp only [Nat.add_zero,Wy] at q0 q1 q2 q3
         obtain⟨i1,i2,i3,i4⟩:=aJ.out.move e (List.mem_of_getElem? aP)
         rw [bg.out] at i1 i4
         obtain⟨f,hf,bw⟩:=CT i1
         obtain⟨to,ht,bF⟩:=CT i4
         simp only [Int.toNat_natCast] at bw bF
         have ap:=hide (TR.nextM_step (t:=t) (m:=t.setK u v k) (x:=x) (y:=y) aP (by omega))
         obtain⟨bf,aH⟩:=An (l:=t.setK u v k) (i:=f) (by rw [ao.out]; exact bw)
         obtain⟨bt,bm⟩:=An (l:=t.nextM (t.setK u v k) x y j) (i:=to) (by rw [TR.nextM_len,ag.out]; exact bF)
         have al:Hid ((t.setK u v k).getD e.frm.toNat false=bf):=by show _=_; rw [hf,Int.toNat_natCast,getD_some aH]
         have cn:Hid (e.to.toNat=to):=by show _=_; rw [ht,Int.toNat_natCast]
         obtain⟨wb,d9,G,b9,bz⟩:=Ae wz #[.int .i64 e.frm,.int .i64 e.inn,.int .i64 e.out,.int .i64 e.to] 108
         have sb:=G.size
         have g1:=BX.cell (c0.out.below G) aH
         have g2:=BX.cell (hN.out.below G) bm
         have g3:=(hN.out.below G).frozen to
         have g4:=(hN.out.below G).lt
         have g5:=b9.cell
         have g6:=(a8.out.below G).cell
         have g7:=(aa.out.cell (p:=⟨bu,ou+k,none⟩) (by simp only; omega)).trans ca.out
         have g8:=(aa.out.cell (p:=⟨bv,ov+k,none⟩) (by simp only; omega)).trans cb.out
         have cF:=(G.cell (p:=⟨bu,ou+k,none⟩) (by have:=aa.out.size; simp only; omega)).trans g7
         have cG:=(G.cell (p:=⟨bv,ov+k,none⟩) (by have:=aa.out.size; simp only; omega)).trans g8
         have af:=hide (fun M=>(hN.out.below G).kept ((Ac.refl wb (fun _=>False)).drewN M) id)
         have ae:Hid (∀M,Ac w5 (wb.drewN M) (fun k=>k=gn)):=fun M=>(a5.out.trans bz fun _ _ e=>e.elim).drewN M
         have cj:Hid (∀M,Blk ((wb.drewN M).setCell ⟨gn,to,none⟩ (.bool true)) gn 4 (((t.nextM (t.setK u v k) x y j).set to true).map Value.bool).toArray):=fun M=>by
          have:=(af.out M).set_ to (.bool true)
          rw [HF] at this
          exact this
         have bX:=hide (fun M=>(ae.out M).setCell (p:=⟨gn,to,none⟩) (fun _=>rfl) (.bool true))
         obtain⟨x0,x1,x2,x3⟩:=e
         dsimp only at*
         subst hf ht
         have da:k<u.length:=by rw [←a6.out]; exact aK
         clear aP hc ab i1 i2 i3 i4 aH bm G b9 bz g7 g8
         cases bf with
         | false=>
          have a3:Hid (t.nextM (t.setK u v k) x y (j+1)=t.nextM (t.setK u v k) x y j):=by show _=_; rw [ap.out,al.out]; simp
          go_wp2_with fail
          go_quiet (fail)
          go_wp2_with fail
          exact⟨⟨j+1,by go_num,by omega,by rw [a3.out]; exact af.out _,ae.out _⟩,by simp [intOf]; omega⟩
         | true=>
          by_cases e1:x1=x
          ·by_cases e2:x2=y
           ·have a3:Hid (t.nextM (t.setK u v k) x y (j+1)=(t.nextM (t.setK u v k) x y j).set to true):=by show _=_; rw [ap.out,al.out,cn.out]; simp [e1,e2]
            subst e1 e2
            go_wp2_with fail
            go_quiet (fail)
            go_wp2_with fail
            exact⟨⟨j+1,by go_num,by omega,by rw [a3.out]; exact cj.out _,bX.out _⟩,by simp [intOf]; omega⟩
           ·have a3:Hid (t.nextM (t.setK u v k) x y (j+1)=t.nextM (t.setK u v k) x y j):=by show _=_; rw [ap.out,al.out]; simp [e1,e2]
            subst e1
            go_wp2_with fail
            go_quiet (fail)
            go_wp2_with fail
            exact⟨⟨j+1,by go_num,by omega,by rw [a3.out]; exact af.out _,ae.out _⟩,by simp [intOf]; omega⟩
          ·have a3:Hid (t.nextM (t.setK u v k) x y (j+1)=t.nextM (t.setK u v k) x y j):=by show _=_; rw [ap.out,al.out]; simp [e1]
           go_wp2_with fail
           go_quiet (fail)
           go_wp2_with fail
           exact⟨⟨j+1,by go_num,by omega,by rw [a3.out]; exact af.out _,ae.out _⟩,by simp [intOf]; omega⟩
        ·obtain rfl:nm=j:=by omega
         have cm:Hid (t.nextM (t.setK u v k) x y nm=t.setK u v (k+1)):=by show _=_; rw [cl.out,bB.out]
         have aE:=hN.out
         rw [cm.out] at aE
         have r1:=a8.out.cell
         have r2:=a8.out.frozen
         have r3:=a8.out.lt
         have bW:=hide ((bV.out.trans a5.out fun b hb e=>by omega).setCell (p:=⟨J.heap.size,0,none⟩) (fun _=>rfl) (.slice (some ⟨gn,0,none⟩) S S))
         have bT:=hide (a8.out.set_ 0 (.slice (some ⟨gn,0,none⟩) S S))
         have be:=hide (aE.kept ((Ac.refl wz (fun k=>k=J.heap.size)).setCell (p:=⟨J.heap.size,0,none⟩) (fun _=>rfl) (.slice (some ⟨gn,0,none⟩) S S)) (by omega))
         have ce:=be.out.lt
         clear aE
         go_wp2_with fail
         exact⟨⟨k+1,gn,by go_num,by omega,ce,by omega,bT,be,bW⟩,by simp [intOf]; omega⟩
      ·obtain rfl:n=k:=by omega
       have bh:Sl wr wr.heap.size 1 DH (some ⟨gm,0,none⟩) (t.setK u v n):=by
        obtain⟨A9,c9,e9,h9⟩:=BX.sl (w:=wr) (B:=wr.heap.size) (u:=.slice (some ⟨gm,0,none⟩) S S) (m:=t.setK u v n) ⟨gm,cd,by rw [ao.out],hM.out⟩ (by rw [ao.out]; omega)
        injection e9 with e9
        subst e9
        exact h9
       have bp:=Z9 (c:=c2) aD.out bh (ao.out n).symm (bM.out.keep (w':=wr) (fun p hp=>W.out.cell hp) W.out.size) (by rw [←bg.out]; exact aJ.out.accept)
       have C:Hid (t.relR u v=.tuple #[.bool (t.accept.any fun s=>(t.setK u v n).getD s.toNat false),.int .i64 0]):=by
        show _=_
        unfold TR.relR
        rw [hV.out,decide_eq_true (by rw [←a6.out,←am.out])]
        unfold TR.rel
        rw [←a6.out]
        simp [De]
       generalize (t.accept.any fun s=>(t.setK u v n).getD s.toNat false)=bb at bp C
       clear bh
       go_wp2_with fail
       refine bp.mono ?_
       rintro e w' ⟨rfl,rfl⟩
       go_wp2_with fail
       go_ret2
       exact⟨C.out.symm,W.out⟩
    ·have C:Hid (t.relR u v=.tuple #[.bool false,.int .i64 0]):=by
      show _=_
      unfold TR.relR
      rw [hV.out,decide_eq_false (by rw [←a6.out,←am.out]; exact bC)]
      rfl
     go_wp2_with fail
     refine I.mono ?_
     rintro e w' ⟨rfl,rfl⟩
     go_wp2_with fail
     refine U.mono ?_
     rintro e w' ⟨rfl,rfl⟩
     clear I U
     go_wp2_with fail
     go_ret2
     exact⟨C.out.symm,F.out⟩
end Go.Proofs.YtfcfpoemojjglaaGreatDoor
