/-
  Part SA of a proof.
-/
import Derived.BigQuiet
import Derived.Test.YtfcfpoemojjglaaGreatDoorPA
import Derived.Test.YtfcfpoemojjglaaGreatDoorEA
import Derived.Test.YtfcfpoemojjglaaGreatDoorPD
import Derived.Test.YtfcfpoemojjglaaGreatDoorPB
set_option maxHeartbeats 16000000
set_option maxRecDepth 100000
set_option linter.unusedVariables false
set_option linter.unusedSimpArgs false
namespace Go.Proofs.YtfcfpoemojjglaaGreatDoor
open Go.RowKit
set_option maxHeartbeats 16000000
set_option maxRecDepth 100000
section
variable {S:Type} [DecidableEq S] {P:Program} {K:TypeId}
theorem VI {enc:S→Value} (F:∀w s t,(Op.equal K (enc s) (enc t)).run P w=.ok (decide (s=t)) w) (s:S) (w:World) (es:List MapEntry):∀(l:List S) (i:Nat),es.map (·.key)=l.map enc→
  (Instr.findAsking K (enc s) es i).run P w=.ok (if s∈l then some (i+l.idxOf s,((es[l.idxOf s]?).map (·.val)).getD .nilFunc) else none) w:=by
 induction es with
 | nil=>
  intro l i h
  have:l=[]:=by cases l <;> simp_all
  subst this
  simp [Instr.findAsking]
 | cons e es ih=>
  intro l i h
  cases l with
  | nil=>simp at h
  | cons t l=>
   simp only [List.map_cons,List.cons.injEq] at h
   obtain⟨h1,E⟩:=h
   unfold Instr.findAsking
   rw [h1]
   simp only [Sem.run_bind,F,Result.andThen_ok]
   by_cases y:s=t
   ·subst y
    simp
   ·simp only [y,decide_false,Bool.false_eq_true,if_false]
    rw [ih l (i+1) E]
    have G:(t::l).idxOf s=l.idxOf s+1:=by
     rw [List.idxOf_cons]
     have:(t==s)=false:=by simpa using fun e=>y e.symm
     rw [this]; rfl
    by_cases z:s∈l
    ·simp only [z,G,List.mem_cons,or_true,if_true,List.getElem?_cons_succ]
     have C:i+1+l.idxOf s=i+(l.idxOf s+1):=by omega
     rw [C]
    ·simp [z,y]
theorem VK {enc:S→Value} {d:TypeDesc} (C:P.underlying K=some d) (I:∀s t,Instr.sameNow d (enc s) (enc t)=none) (E:∀y w s,(Instr.checkKey y 10000 K (enc s)).run P w=.ok () w)
  (z:∀w s t,(Op.equal K (enc s) (enc t)).run P w=.ok (decide (s=t)) w):El P K enc where
 check:=E
 find:=fun w s es l h=>by
  unfold Instr.findKey
  simp only [Sem.run_bind,run_underlying C,Result.andThen_ok]
  cases es with
  | nil=>
   have:l=[]:=by cases l <;> simp_all
   subst this
   simp [Instr.findNow]
  | cons e es=>
   cases l with
   | nil=>simp at h
   | cons t l=>
    have F:=h
    simp only [List.map_cons,List.cons.injEq] at h
    have G:Instr.findNow d (enc s) (e::es) 0=none:=by
     unfold Instr.findNow
     rw [h.1,I]
    rw [G]
    have:=VI z s w (e::es) (t::l) 0 F
    simpa using this
end
end Go.Proofs.YtfcfpoemojjglaaGreatDoor
namespace Go.Proofs.YtfcfpoemojjglaaGreatDoor
open Go.RowKit
def WA.accV (a:WA) (l:List Int):Bool:=a.ok&&l.all (inN a.letters)
def WA.acc (a:WA) (l:List Int):Bool:=a.accV l&&a.lang (l.map Int.toNat)
def WA.accR (a:WA) (l:List Int):Value:=.tuple #[.bool (a.acc l),.int .i64 (De (a.accV l))]
section
variable {a:WA} {t:List (List Nat)} {ac:List Bool}
theorem BH.again {L:Nat} {Λ:List Nat→Bool} (y:BH L t ac Λ) {E:List (List Nat)} {z:List Bool} (h:BH (AG L t ac).L E z (AG L t ac).lang):AG (AG L t ac).L E z=AG L t ac:=by
 rw [GF] at h
 obtain⟨rfl,rfl⟩:=h.unique y fun w C=>by rw [Kl y.ok C]; exact y.can.lang w C
 rw [GF]
end
end Go.Proofs.YtfcfpoemojjglaaGreatDoor
namespace Go.Proofs.YtfcfpoemojjglaaGreatDoor
open Go.RowKit
def Q6 (e:Mv):Nat→Value
 | 0=>.int .i64 e.frm
 | 1=>.int .i64 e.inn
 | 2=>.int .i64 e.out
 | _=>.int .i64 e.to
def H6 (w:World) (B:Nat) (v:Value) (t:TR):Prop:=
 ∃A1 c1 A2 c2 A3 c3,v=.agg #[.int .i64 t.letters,.int .i64 t.states,.slice A1 t.start.length c1,.slice A2 t.accept.length c2,.slice A3 t.moves.length c3]∧
  Sl w B 1 Ai A1 t.start∧Sl w B 1 Ai A2 t.accept∧Sl w B 4 Q6 A3 t.moves∧t.start.length≤c1
theorem H6.keep {w w':World} {B B':Nat} {v:Value} {a:TR} (h:H6 w B v a) (hk:∀p:Addr,p.block<B→w'.cell? p=w.cell? p) (y:B≤B'):H6 w' B' v a:=by
 obtain⟨z,F,C,c2,E,G,e,h1,I,J,M⟩:=h
 exact⟨z,F,C,c2,E,G,e,h1.keep hk y,I.keep hk y,J.keep hk y,M⟩
end Go.Proofs.YtfcfpoemojjglaaGreatDoor
namespace Go.Proofs.YtfcfpoemojjglaaGreatDoor
open Go.RowKit
set_option maxHeartbeats 16000000
set_option maxRecDepth 100000
theorem WQ (w:World) (L S:Int) (v2 v3 y:Value):Calls Tryz.prog 263 #[.agg #[.int .i64 L,.int .i64 S,v2,v3,y]] w (Ret fun r w'=>r=.tuple #[.int .i64 L,.int .i64 S]∧Below w.heap.size w w'):=by
 obtain⟨w1,F,h,z,E⟩:=Ae w #[.int .i64 L,.int .i64 S,v2,v3,y] 166
 have C:=z.cell
 go_enter Tryz.func263,Tryz.ntmps263
 go_wp2_with fail
 refine Reg.cP [0,1,0,4,3,31] ?_
 go_wp2_with fail
 exact bodyPost_ret (v:=.tuple #[.int .i64 L,.int .i64 S]) (by simp [results,Tryz.results263,go_sem]) rfl ⟨rfl,(h.trans ((Ap w1).mono h.size))⟩
theorem TR.ok_eq (a:TR):a.ok=(a.head&&a.start.all (inN a.states)&&a.accept.all (inN a.states)&&a.moves.all a.moveB):=rfl
theorem Xt (n x y:Int) (c:Nat) (w:World) {g:Nat} (h:g=w.heap.size):Calls Tryz.prog 40 #[.int .i64 n,.slice (some ⟨g,0,none⟩) 2 c] (w.alloc (.cells #[.int .i64 x,.int .i64 y] 3)) fun e w'=>e=.returned (.bool (inN n x&&inN n y))∧w.alloc (.cells #[.int .i64 x,.int .i64 y] 3)=w':=by
 subst h
 exact Jm n x y c w
theorem YL {w:World} {a:TR} {J M C:Option Addr} {O c2 U:Nat} (W:Sl w w.heap.size 4 Q6 C a.moves) (F:a.head=false):
  Calls Tryz.prog 86 #[.iface 166 (.agg #[.int .i64 a.letters,.int .i64 a.states,.slice J a.start.length O,.slice M a.accept.length c2,.slice C a.moves.length U])] w (Ret fun r w'=>r=.int .i64 (De a.ok)∧Below w.heap.size w w'):=by
 have am:Hid (a.ok=false):=by show _=_; rw [TR.ok_eq,F]; rfl
 obtain⟨L,S,st,ac,h⟩:=a
 dsimp only at*
 generalize TR.ok ⟨L,S,st,ac,h⟩=OK at*
 have ax:=W.1
 have af:L<1∨(1≤L∧8<L)∨(1≤L∧L≤8∧S<0)∨(1≤L∧L≤8∧0≤S∧400<S):=by simp [TR.head] at F; omega
 clear F
 rcases af with E | ⟨E,V⟩ | ⟨E,V,d3⟩ | ⟨E,V,d3,d4⟩
 all_goals
  go_enter Tryz.func86,Tryz.ntmps86
  go_wp2_with (go_at_call 263; refine Calls.ret (WQ _ _ _ _ _ _) ?_; rintro v w0 ⟨rfl,a3⟩; obtain⟨w1,ay,a4,Z,aj⟩:=Ae w0 #[.int .i64 L,.int .i64 S,.slice J st.length O,.slice M ac.length c2,.slice C h.length U] 166; have aw:=Z.cell; have an:=hide (a3.trans (a4.mono a3.size)); clear a4 Z aj)
  go_loopw [5,92] (fun bb I wr=>∃(k:Nat),I=.int .i64 (k:Int)∧bb=.bool false∧k≤h.length∧Hid (Below w.heap.size w wr)∧Below w1.heap.size w1 wr) (fun _ I _=>h.length - (intOf I).toNat)
  case atStart=>exact⟨0,rfl,rfl,Nat.zero_le _,an,Below.refl _ _⟩
  case round=>
   obtain⟨k,rfl,rfl,hk,z,a2⟩:=hrel
   by_cases al:k<h.length
   ·obtain⟨b,aA,x,rfl,ae,hx,hc⟩:=W.at al
    have y:=fun j hj=>(z.out.cell (by exact ae)).trans (hc j hj)
    have e0:=y 0 (by omega)
    have e1:=y 1 (by omega)
    have e2:=y 2 (by omega)
    have e3:=y 3 (by omega)
    simp only [Nat.add_zero,Q6] at e0 e1 e2 e3
    obtain⟨x0,x1,x2,x3⟩:=x
    dsimp only at*
    obtain⟨w2,az,G,ad,ak⟩:=Ae wr #[.int .i64 x0,.int .i64 x1,.int .i64 x2,.int .i64 x3] 108
    have hf:=hide (z.out.trans (G.mono z.out.size))
    have ah:=hide (a2.trans (G.mono a2.size))
    clear hx hc y G ad ak
    go_wp2_with fail
    exact⟨⟨k+1,by go_num,rfl,by omega,hf,ah.out⟩,by simp [intOf]; omega⟩
   ·go_wp2_with fail
    go_ret
    exact⟨by rw [am.out]; rfl,z.out⟩
theorem YM {w:World} {a:TR} {A1 A2 A3:Option Addr} {c1 c2 c3:Nat} (h1:Sl w w.heap.size 1 Ai A1 a.start) (h2:Sl w w.heap.size 1 Ai A2 a.accept) (h3:Sl w w.heap.size 4 Q6 A3 a.moves) (hb:a.head=true):
  Calls Tryz.prog 86 #[.iface 166 (.agg #[.int .i64 a.letters,.int .i64 a.states,.slice A1 a.start.length c1,.slice A2 a.accept.length c2,.slice A3 a.moves.length c3])] w (Ret fun r w'=>r=.int .i64 (De a.ok)∧Below w.heap.size w w'):=by
 have ap:=hide (TR.ok_eq a)
 rw [hb] at ap
 obtain⟨L,S,st,ac,h⟩:=a
 dsimp only at*
 have aV:=h3.1
 simp only [TR.head,Bool.and_eq_true,decide_eq_true_eq] at hb
 obtain⟨⟨⟨d1,d2⟩,d3⟩,d4⟩:=hb
 obtain⟨p,hp⟩:∃p:Mv→Bool,p=TR.moveB ⟨L,S,st,ac,h⟩:=⟨_,rfl⟩
 have az:∀e:Mv,p e=(inN S e.frm&&inN S e.to&&(inN L e.inn&&inN L e.out)):=fun e=>by rw [hp]; rfl
 have aq:Hid (TR.ok ⟨L,S,st,ac,h⟩=(st.all (inN S)&&ac.all (inN S)&&h.all p)):=by show _=_; rw [ap.out,hp]; simp
 have aH:=hide az
 clear ap hp az
 generalize TR.ok ⟨L,S,st,ac,h⟩=OK at*
 obtain⟨s1,av⟩:∃b,Hid (st.all (inN S)=b):=⟨_,rfl⟩
 obtain⟨s2,aw⟩:∃b,Hid (ac.all (inN S)=b):=⟨_,rfl⟩
 rw [av.out,aw.out] at aq
 cases s1 <;> cases s2
 case true.true=>
  go_enter Tryz.func86,Tryz.ntmps86
  go_wp2_with (first
   | (go_at_call 263; refine Calls.ret (WQ _ _ _ _ _ _) ?_; rintro v w0 ⟨rfl,a2⟩; obtain⟨w1,aK,a3,V,al⟩:=Ae w0 #[.int .i64 L,.int .i64 S,.slice A1 st.length c1,.slice A2 ac.length c2,.slice A3 h.length c3] 166; have aF:=V.cell; have G:=hide (a2.trans (a3.mono a2.size)); clear a3 V al)
   | (go_at_call 40; refine(FM _ (by first | exact h1.below G.out | exact h2.below G.out)).mono ?_; rintro e w' ⟨rfl,rfl⟩; first | rw [av.out] | rw [aw.out]))
  go_loopw [5,92] (fun bb I wr=>∃(k:Nat) (b:Bool),I=.int .i64 (k:Int)∧bb=.bool b∧k≤h.length∧Hid ((h.take k).all p=b)∧Hid (Below w.heap.size w wr)∧Below w1.heap.size w1 wr) (fun _ I _=>h.length - (intOf I).toNat)
  case atStart=>exact⟨0,true,rfl,rfl,Nat.zero_le _,rfl,G,Below.refl _ _⟩
  case round=>
   obtain⟨k,b,rfl,rfl,hk,hE,z,Z⟩:=hrel
   by_cases an:k<h.length
   ·obtain⟨bl,aM,x,rfl,aj,hx,hc⟩:=h3.at an
    have y:=fun j hj=>(z.out.cell (by exact aj)).trans (hc j hj)
    have e0:=y 0 (by omega)
    have e1:=y 1 (by omega)
    have e2:=y 2 (by omega)
    have e3:=y 3 (by omega)
    simp only [Nat.add_zero,Q6] at e0 e1 e2 e3
    have aJ:=hide (aH.out x)
    have ao:Hid ((h.take (k+1)).all p=(b&&p x)):=by show _=_; rw [B5 hx,List.all_append,hE.out]; simp
    obtain⟨O,J,M,U⟩:=x
    dsimp only at*
    obtain⟨w2,aL,C,W,am⟩:=Ae wr #[.int .i64 O,.int .i64 J,.int .i64 M,.int .i64 U] 108
    have aG:=W.cell
    have aU:∀o i,(w2.alloc o).cell? ⟨wr.heap.size,i,none⟩=#[.int .i64 O,.int .i64 J,.int .i64 M,.int .i64 U][i]?:=fun o i=>(World.cell?_alloc_lt w2 o _ W.lt).trans (aG i)
    have aW:=hide C.size
    have E:=hide (z.out.trans (C.mono z.out.size))
    have F:=hide (Z.trans (C.mono Z.size))
    clear hx hc y C W am
    cases b
    ·go_wp2_with fail
     exact⟨⟨k+1,false,by go_num,rfl,by omega,by show _=_; rw [ao.out]; rfl,E,F.out⟩,by simp [intOf]; omega⟩
    ·obtain⟨r1,au⟩:∃r,Hid ((inN S O&&inN S U)=r):=⟨_,rfl⟩
     obtain⟨r2,aB⟩:∃r,Hid ((inN L J&&inN L M)=r):=⟨_,rfl⟩
     have aA:Hid (p ⟨O,J,M,U⟩=(r1&&r2)):=by show _=_; rw [aJ.out,au.out,aB.out]
     cases r1
     ·go_wp2_with (go_at_call 40; refine(Jm _ _ _ _ _).mono ?_; rintro e w' ⟨rfl,rfl⟩; rw [au.out])
      exact⟨⟨k+1,false,by go_num,rfl,by omega,by show _=_; rw [ao.out,aA.out]; rfl,hide (E.out.alloc E.out.size _),F.out.alloc F.out.size _⟩,by simp [intOf]; omega⟩
     ·go_wp2_with fail
      refine(Jm _ _ _ _ _).mono ?_
      rintro e w' ⟨rfl,rfl⟩
      rw [au.out]
      go_wp2_with fail
      refine(Xt L J M _ _ (by simp)).mono ?_
      rintro e w' ⟨rfl,rfl⟩
      rw [aB.out]
      go_wp2_with fail
      exact⟨⟨k+1,r2,by go_num,rfl,by omega,by show _=_; rw [ao.out,aA.out]; rfl,hide ((E.out.alloc E.out.size _).alloc (by have:=E.out.size; simp; omega) _),(F.out.alloc F.out.size _).alloc (by have:=F.out.size; simp; omega) _⟩,by simp [intOf]; omega⟩
   ·have hA:Hid (h.all p=b):=by show _=_; rw [←hE.out,List.take_of_length_le (by omega)]
    cases b
    all_goals
     go_wp2_with fail
     go_ret
     exact⟨by rw [aq.out,hA.out]; rfl,z.out⟩
 all_goals
  go_enter Tryz.func86,Tryz.ntmps86
  go_wp2_with (first
   | (go_at_call 263; refine Calls.ret (WQ _ _ _ _ _ _) ?_; rintro v w0 ⟨rfl,a2⟩; obtain⟨w1,aK,a3,V,al⟩:=Ae w0 #[.int .i64 L,.int .i64 S,.slice A1 st.length c1,.slice A2 ac.length c2,.slice A3 h.length c3] 166; have aF:=V.cell; have G:=hide (a2.trans (a3.mono a2.size)); clear a3 V al)
   | (go_at_call 40; refine(FM _ (by first | exact h1.below G.out | exact h2.below G.out)).mono ?_; rintro e w' ⟨rfl,rfl⟩; first | rw [av.out] | rw [aw.out]))
  go_loopw [5,92] (fun bb I wr=>∃(k:Nat),I=.int .i64 (k:Int)∧bb=.bool false∧k≤h.length∧Hid (Below w.heap.size w wr)∧Below w1.heap.size w1 wr) (fun _ I _=>h.length - (intOf I).toNat)
  case atStart=>exact⟨0,rfl,rfl,Nat.zero_le _,G,Below.refl _ _⟩
  case round=>
   obtain⟨k,rfl,rfl,hk,z,Z⟩:=hrel
   by_cases an:k<h.length
   ·obtain⟨b,aM,x,rfl,aj,hx,hc⟩:=h3.at an
    have y:=fun j hj=>(z.out.cell (by exact aj)).trans (hc j hj)
    have e0:=y 0 (by omega)
    have e1:=y 1 (by omega)
    have e2:=y 2 (by omega)
    have e3:=y 3 (by omega)
    simp only [Nat.add_zero,Q6] at e0 e1 e2 e3
    obtain⟨O,J,M,U⟩:=x
    dsimp only at*
    obtain⟨w2,aL,C,W,am⟩:=Ae wr #[.int .i64 O,.int .i64 J,.int .i64 M,.int .i64 U] 108
    have E:=hide (z.out.trans (C.mono z.out.size))
    have F:=hide (Z.trans (C.mono Z.size))
    clear hx hc y C W am
    go_wp2_with fail
    exact⟨⟨k+1,by go_num,rfl,by omega,E,F.out⟩,by simp [intOf]; omega⟩
   ·go_wp2_with fail
    go_ret
    exact⟨by rw [aq.out]; rfl,z.out⟩
theorem YJ {v:Value} {a:TR} {w:World} (h:H6 w w.heap.size v a):
  Calls Tryz.prog 86 #[.iface 166 v] w (Ret fun r w'=>r=.int .i64 (De a.ok)∧Below w.heap.size w w'):=by
 obtain⟨E,I,F,c2,G,J,rfl,h1,C,y,M⟩:=h
 cases z:a.head
 ·exact YL y z
 ·exact YM h1 C y z
theorem YK {v:Value} {a:TR} {w:World} (h:H6 w w.heap.size v a):
  Calls Tryz.prog 59 #[v] w (Ret fun r w'=>r=.int .i64 (De a.ok)∧Below w.heap.size w w'):=by
 have hI:=hide h
 obtain⟨C,G,E,c2,F,I,rfl,h1,J,M,O⟩:=h
 obtain⟨w1,a4,y,U,Z⟩:=Ae w #[.int .i64 a.letters,.int .i64 a.states,.slice C a.start.length G,.slice E a.accept.length c2,.slice F a.moves.length I] 55
 have a3:=U.cell
 have V:=hide (hI.out.keep (w':=w1) (fun p hp=>y.cell hp) y.size)
 have z:=hide y
 clear h1 J M O Z y
 go_enter Tryz.func59,Tryz.ntmps59
 go_wp2_with (go_at_call 86; refine Calls.ret (YJ V.out) ?_; rintro v w2 ⟨rfl,W⟩)
 go_ret
 exact⟨rfl,z.out.trans (W.mono z.out.size)⟩
end Go.Proofs.YtfcfpoemojjglaaGreatDoor
namespace Go.Proofs.YtfcfpoemojjglaaGreatDoor
open Go.RowKit
set_option maxHeartbeats 16000000
set_option maxRecDepth 100000
theorem W9 {w:World} {g n F:Nat} {z:Option Addr} {acc:List Bool} {q:Nat} {b:Bool} (G:Blk w g 76 #[.slice z n F]) (h:Sl w w.heap.size 1 DH z acc) (O:n=acc.length) (y:acc[q]?=some b):
  Calls Tryz.prog 62 #[.int .i64 (q:Int),.pointer (some ⟨g,0,none⟩)] w fun e w'=>e=.returned (.bool b)∧w=w':=by
 have W:=G.cell
 have E:=AP y
 have M:=h.1
 obtain⟨U,a3,d,rfl,V,hd,C⟩:=h.at E
 have J:d=b:=Option.some.inj (hd.symm.trans y)
 subst J
 have I:=C 0 (by omega)
 simp only [Nat.mul_one,Nat.add_zero,DH] at I
 have Z:q<n:=by omega
 have a2:n≤9223372036854775807:=by omega
 clear O y hd C h E M
 go_enter Tryz.func62,Tryz.ntmps62
 go_wp2_with fail
 go_ret
 exact⟨rfl,rfl⟩
theorem Ys {w:World} {B g n c3 c:Nat} {A O:Option Addr} {acc:List Bool} {l:List Int} (Z:Blk w g 76 #[.slice O n c3]) (V:Sl w w.heap.size 1 DH O acc) (hn:n=acc.length) (h:Sl w B 1 Ai A l) (a5:∀x∈l,inN n x=true):
  Calls Tryz.prog 107 #[.slice A l.length c,.func (.func 62) #[] #[.pointer (some ⟨g,0,none⟩)]] w fun e w'=>e=.returned (.int .i64 (if l.any (fun x=>acc.getD x.toNat false) then ((l.findIdx fun x=>acc.getD x.toNat false:Nat):Int) else -1))∧w=w':=by
 have hm:=h.1
 have a2:=hide Z
 have W:=hide V
 have G:=hide hn
 have hI:=hide a5
 have aj:=GT
 obtain⟨p,I⟩:∃p:Int→Bool,p=fun x=>acc.getD x.toNat false:=⟨_,rfl⟩
 rw [←I]
 have ag:=hide I
 obtain⟨R,E⟩:∃R:Int,Hid ((if l.any p then ((l.findIdx p:Nat):Int) else -1)=R):=⟨_,rfl⟩
 rw [E.out]
 clear Z V hn a5 I
 go_enter Tryz.func107,Tryz.ntmps107
 go_wp2_with fail
 go_loop [8] (fun M=>∃(k:Nat),M=.int .i64 (k:Int)∧k≤l.length∧Hid ((l.take k).any p=false)) (fun M=>l.length - (intOf M).toNat)
 case atStart=>exact⟨0,rfl,Nat.zero_le _,rfl⟩
 case round=>
  obtain⟨k,rfl,hk,C⟩:=hrel
  by_cases a6:k<l.length
  ·obtain⟨b,ak,x,rfl,ah,hx,hc⟩:=h.at a6
   have ae:=hc 0 (by omega)
   simp only [Nat.mul_one,Nat.add_zero,Ai] at ae
   have y:=hide hx
   clear hx hc
   obtain⟨q,rfl,hq⟩:=CT (hI.out x (List.mem_of_getElem? y.out))
   simp only [Int.toNat_natCast] at hq
   obtain⟨U,F⟩:=An (l:=acc) (i:=q) (by rw [←G.out]; exact hq)
   have a3:=hide F
   have J:Hid (p (q:Int)=U):=by show _=_; rw [ag.out]; exact getD_some F
   clear F
   cases U
   ·have ab:Hid ((l.take (k+1)).any p=false):=by show _=_; rw [B5 y.out,List.any_append,C.out]; simp [J.out]
    go_wp2_with (go_at_call 62; refine(W9 a2.out W.out G.out a3.out).mono ?_; rintro e w' ⟨rfl,rfl⟩)
    exact⟨⟨k+1,by go_num,by omega,ab⟩,by simp [intOf]; omega⟩
   ·have z:Hid (l.any p=true):=List.any_eq_true.2 ⟨_,List.mem_of_getElem? y.out,J.out⟩
    have hF:Hid (l.findIdx p=k):=by
     show _=_
     rw [List.findIdx_eq a6]
     refine⟨?_,fun j hj=>?_⟩
     ·have:=(List.getElem?_eq_some_iff.1 y.out).2
      rw [this]; exact J.out
     ·have:=List.any_eq_false.1 C.out l[j] (List.mem_of_getElem? (i:=j) (by rw [List.getElem?_take,if_pos hj,List.getElem?_eq_getElem]))
      simpa using this
    go_wp2_with (go_at_call 62; refine(W9 a2.out W.out G.out a3.out).mono ?_; rintro e w' ⟨rfl,rfl⟩)
    go_ret
    exact⟨by rw [←E.out,z.out,hF.out]; rfl,rfl⟩
  ·have z:Hid (l.any p=false):=by show _=_; rw [←C.out,List.take_of_length_le (by omega)]
   go_wp2_with fail
   go_ret
   exact⟨by rw [←E.out,z.out]; rfl,rfl⟩
theorem Yj {w:World} {B g n J c:Nat} {A z:Option Addr} {acc:List Bool} {l:List Int} (E:Blk w g 76 #[.slice z n J]) (C:Sl w w.heap.size 1 DH z acc) (G:n=acc.length) (h:Sl w B 1 Ai A l) (F:∀x∈l,inN n x=true):
  Calls Tryz.prog 61 #[.slice A l.length c,.func (.func 62) #[] #[.pointer (some ⟨g,0,none⟩)]] w fun e w'=>e=.returned (.bool (l.any (fun x=>acc.getD x.toNat false)))∧w=w':=by
 have y:=Ys (c:=c) E C G h F
 clear E C F G
 obtain⟨r,I⟩:∃r,(l.any (fun x=>acc.getD x.toNat false))=r:=⟨_,rfl⟩
 rw [I] at y ⊢
 cases r
 all_goals
  simp only [Bool.false_eq_true,if_false,if_true] at y
  clear I
  go_enter Tryz.func61,Tryz.ntmps61
  go_wp2_with (go_at_call 107; refine y.mono ?_; rintro e w' ⟨rfl,rfl⟩)
  go_ret
  exact⟨by simp,rfl⟩
def TR.relV (t:TR) (u v:List Int):Bool:=t.ok&&u.all (inN t.letters)&&v.all (inN t.letters)
def TR.relR (t:TR) (u v:List Int):Value:=.tuple #[.bool (t.relV u v&&decide (u.length=v.length)&&t.rel u v),.int .i64 (De (t.relV u v))]
theorem TR.setK_zero (t:TR) (u v:List Int):t.setK u v 0=BN t.n t.start:=by simp [TR.setK]
theorem WV {vt:Value} {t:TR} {w:World} {B B' c c':Nat} {A A':Option Addr} {u v:List Int} (h:H6 w w.heap.size vt t) (hu:Sl w B 1 Ai A u) (hv:Sl w B' 1 Ai A' v) (hB:B≤w.heap.size) (cQ:B'≤w.heap.size):
  Calls Tryz.prog 23 #[vt,.slice A u.length c,.slice A' v.length c'] w (Ret fun r w'=>r=t.relR u v∧Below w.heap.size w w'):=by
 have c8:=hide h
 obtain⟨A1,c1,A2,c2,A3,c3,rfl,h1,h2,h3,h4⟩:=h
 obtain⟨w1,db,ai,aA,ck⟩:=Ae w #[.int .i64 t.letters,.int .i64 t.states,.slice A1 t.start.length c1,.slice A2 t.accept.length c2,.slice A3 t.moves.length c3] 55
 have bF:=ai.size
 have cc:=aA.cell
 have ca:=hide ai
 have bT:=hide aA
 have bI:=hide hu
 have bJ:=hide hv
 have bO:=hide h1
 have bP:=hide h2
 have bQ:=hide h3
 have l3:=h3.1
 have bK:=YK (c8.out.keep (w':=w1) (fun p hp=>ai.cell hp) bF)
 have lu:=hu.1
 have lv:=hv.1
 obtain⟨n,hn⟩:∃n,n=u.length:=⟨_,rfl⟩
 obtain⟨n',aN⟩:∃n',n'=v.length:=⟨_,rfl⟩
 have a6:=hide hn
 have an:=hide aN
 rw [←hn] at lu ⊢
 rw [←aN] at lv ⊢
 clear h1 h2 h3 h4 ck ai aA hu hv hn aN
 go_enter Tryz.func23,Tryz.ntmps23
 go_wp2_with fail
 refine Calls.ret bK ?_
 rintro r w2 ⟨rfl,aG⟩
 have F:=hide (ca.out.trans (aG.mono bF))
 have aB:=hide (bT.out.below aG)
 have bq:=aB.out.cell
 clear bK aG cc
 rcases O:t.ok with _ | _
 ·have C:Hid (t.relR u v=.tuple #[.bool false,.int .i64 1]):=by show _=_; unfold TR.relR TR.relV; rw [O]; rfl
  rw [show De false=1 from rfl]
  go_wp2_with fail
  go_ret2
  exact⟨C.out.symm,F.out⟩
 ·have I:=FM (c:=c) t.letters (bI.out.keep (w':=w2) (fun p hp=>F.out.cell (by omega)) (Nat.le_refl _))
  have U:=FM (c:=c') t.letters (bJ.out.keep (w':=w2) (fun p hp=>F.out.cell (by omega)) (Nat.le_refl _))
  rw [←a6.out] at I
  rw [←an.out] at U
  rw [show De true=0 from rfl]
  have d5:=hide O
  rcases E:u.all (inN t.letters) with _ | _
  ·have C:Hid (t.relR u v=.tuple #[.bool false,.int .i64 1]):=by show _=_; unfold TR.relR TR.relV; rw [O,E]; rfl
   rw [E] at I
   clear O E
   go_wp2_with fail
   refine I.mono ?_
   rintro e w' ⟨rfl,rfl⟩
   go_wp2_with fail
   go_ret2
   exact⟨C.out.symm,F.out⟩
  ·rcases V:v.all (inN t.letters) with _ | _
   ·have C:Hid (t.relR u v=.tuple #[.bool false,.int .i64 1]):=by show _=_; unfold TR.relR TR.relV; rw [O,E,V]; rfl
    rw [E] at I
    rw [V] at U
    clear O E V
    go_wp2_with fail
    refine I.mono ?_
    rintro e w' ⟨rfl,rfl⟩
    go_wp2_with fail
    refine U.mono ?_
    rintro e w' ⟨rfl,rfl⟩
    go_wp2_with fail
    go_ret2
    exact⟨C.out.symm,F.out⟩
   ·have hV:Hid (t.relV u v=true):=by show _=_; unfold TR.relV; rw [O,E,V]; rfl
    have d9:=hide (fun x (hx:x∈u)=>List.all_eq_true.1 E x hx)
    have da:=hide (fun x (hx:x∈v)=>List.all_eq_true.1 V x hx)
    rw [E] at I
    rw [V] at U
    obtain⟨⟨o1,o2,o3,o4⟩,bA⟩:=TR.ok_iff.1 O
    have aK:=hide bA
    clear O E V bA
    by_cases bE:n=n'
    ·subst bE
     obtain⟨S,hS⟩:=Int.eq_ofNat_of_zero_le o3
     have ah:Hid (t.n=S):=by show _=_; unfold TR.n; rw [hS]; rfl
     have bi:=hide hS
     obtain⟨nm,ao⟩:∃nm,nm=t.moves.length:=⟨_,rfl⟩
     have bD:=hide ao
     have bC:=Q3 (c:=c1) (n:=S) (bO.out.keep (w':=w2) (fun p hp=>F.out.cell hp) F.out.size) (Nat.le_refl _) (by omega) (by rw [←hS]; exact aK.out.start)
     rw [←ao] at bq l3
     rw [hS] at bq
     have b8:Hid (Blk w2 w.heap.size 55 #[.int .i64 t.letters,.int .i64 (S:Int),.slice A1 t.start.length c1,.slice A2 t.accept.length c2,.slice A3 nm c3]):=by
      have:=aB.out
      rw [hS,←ao] at this
      exact this
     clear ao aB
     go_wp2_with fail
     refine I.mono ?_
     rintro e w' ⟨rfl,rfl⟩
     go_wp2_with fail
     refine U.mono ?_
     rintro e w' ⟨rfl,rfl⟩
     clear I U
     go_wp2_with fail
     refine Calls.ret bC ?_
     rintro vm J ⟨aj,c4,-⟩
     obtain⟨gM,d0,rfl,aD⟩:=c4
     rw [show(BN S t.start).length=S by simp [BN]]
     obtain⟨w4,de,ak,aC,cm⟩:=Ae J #[.slice (some ⟨gM,0,none⟩) S S] 76
     have aH:=aj.trans (ak.mono aj.size)
     have bm:=hide (F.out.trans (aH.mono F.out.size))
     have b9:=hide (b8.out.below aH)
     have cT:=b9.out.cell
     have bU:=hide aC
     have bg:=hide (aD.below ak)
     have cf:gM<w4.heap.size:=by have:=(aD.below ak).lt; exact this
     have cY:J.heap.size<w4.heap.size:=aC.lt
     have dc:w.heap.size<J.heap.size:=by have:=(b8.out.below aj).lt; exact this
     have co:Hid (BN S t.start=t.setK u v 0):=by show _=_; rw [TR.setK_zero,ah.out]
     rw [co.out] at bg
     have bG:∀k,(t.setK u v k).length=S:=fun k=>by rw [TR.setK_len,ah.out]
     have ap:=hide bG
     clear bC aj ak aC cm aD aH bG
     go_wp2_with fail
     go_loopw [43] (fun kk wr=>∃(k gm:Nat),kk=.int .i64 (k:Int)∧k≤n∧gm<wr.heap.size∧J.heap.size≠gm∧Hid (Blk wr J.heap.size 76 #[.slice (some ⟨gm,0,none⟩) S S])∧Hid (Blk wr gm 4 ((t.setK u v k).map Value.bool).toArray)∧Hid (Ac w4 wr (fun k=>k=J.heap.size))) (fun kk _=>n - (intOf kk).toNat)
     case atStart=>exact⟨0,gM,rfl,Nat.zero_le _,cf,by omega,bU,bg,Ac.refl _ _⟩
     case round=>
      obtain⟨k,gm,rfl,hk,cg,d1,aE,hM,hK⟩:=hrel
      have W:=hide (bm.out.trans (hK.out.below (B:=w.heap.size) (by have:=bm.out.size; omega) (fun b hb e=>by omega)))
      have bd:=hide (b9.out.kept hK.out (by omega))
      have cV:=bd.out.cell
      have cW:=aE.out.cell
      by_cases aL:k<n
      ·obtain⟨x,hx⟩:=An (l:=u) (i:=k) (by rw [←a6.out]; exact aL)
       obtain⟨y,hy⟩:=An (l:=v) (i:=k) (by rw [←an.out]; exact aL)
       obtain⟨bu,ou,rfl,cR,bs⟩:=EZ bI.out hx
       obtain⟨bv,ov,rfl,cS,bw⟩:=EZ bJ.out hy
       obtain⟨z,w5,d4,al,Z,cZ⟩:=HI wr S (by omega)
       rw [HE] at al
       have bn:=hide (W.out.trans (Z.mono W.out.size))
       have ba:=hide (bd.out.below Z)
       have bV:=hide (aE.out.below Z)
       have c5:=hide (hM.out.below Z)
       have c7:Hid (Blk w5 z 4 ((t.nextM (t.setK u v k) x y 0).map Value.bool).toArray):=by
        show Blk _ _ _ _
        rw [TR.nextM_zero,ah.out]
        exact al
       have cU:=ba.out.cell
       have bY:Hid (Ac w4 w5 (fun k=>k=J.heap.size)):=hK.out.trans (Ac.of_below Z (fun _=>False)) fun _ _ e=>e.elim
       have cp:=hide (TR.setK_step (t:=t) hx hy)
       have cd:=hide bs
       have ce:=hide bw
       have d6:=Z.size
       have d2:=al.lt
       clear hx hy bs bw Z al
       go_wp2_with fail
       go_loopw [52] (fun jj wz=>∃(j:Nat),jj=.int .i64 (j:Int)∧j≤nm∧Hid (Blk wz z 4 ((t.nextM (t.setK u v k) x y j).map Value.bool).toArray)∧Hid (Ac w5 wz (fun k=>k=z))) (fun jj _=>nm - (intOf jj).toNat)
       case atStart=>exact⟨0,rfl,Nat.zero_le _,c7,Ac.refl _ _⟩
       case round=>
        rename World=>wz
        obtain⟨j,rfl,hj,hN,a5⟩:=hrel
        have d7:=W.out.size
        have d8:=hK.out.size
        have aa:=hide (bn.out.trans (a5.out.below (B:=w.heap.size) (by have:=bn.out.size; omega) (fun b hb e=>by have:=W.out.size; omega)))
        have bX:=hide (ba.out.kept a5.out (by omega))
        have a8:=hide (bV.out.kept a5.out (by omega))
        have c6:=hide (c5.out.kept a5.out (by omega))
        have cX:=bX.out.cell
        by_cases cj:j<nm
        ·obtain⟨b,dk,e,rfl,cb,aQ,hc⟩:=bQ.out.at (k:=j) (by rw [←bD.out]; exact cj)
         have ab:=fun i hi=>(aa.out.cell (by exact cb)).trans (hc i hi)
         have q0:=ab 0 (by omega)
         have q1:=ab 1 (by omega)
         have q2:=ab 2 (by omega)
         have q3:=ab 3 (by omega)
         simp only [Nat.add_zero,Q6] at q0 q1 q2 q3
         obtain⟨i1,i2,i3,i4⟩:=aK.out.move e (List.mem_of_getElem? aQ)
         rw [bi.out] at i1 i4
         obtain⟨f,hf,bz⟩:=CT i1
         obtain⟨to,ht,bH⟩:=CT i4
         simp only [Int.toNat_natCast] at bz bH
         have aq:=hide (TR.nextM_step (t:=t) (m:=t.setK u v k) (x:=x) (y:=y) aQ (by omega))
         obtain⟨bf,aJ⟩:=An (l:=t.setK u v k) (i:=f) (by rw [ap.out]; exact bz)
         obtain⟨bt,bo⟩:=An (l:=t.nextM (t.setK u v k) x y j) (i:=to) (by rw [TR.nextM_len,ah.out]; exact bH)
         have am:Hid ((t.setK u v k).getD e.frm.toNat false=bf):=by show _=_; rw [hf,Int.toNat_natCast,getD_some aJ]
         have cr:Hid (e.to.toNat=to):=by show _=_; rw [ht,Int.toNat_natCast]
         obtain⟨wb,df,G,bc,bB⟩:=Ae wz #[.int .i64 e.frm,.int .i64 e.inn,.int .i64 e.out,.int .i64 e.to] 108
         have sb:=G.size
         have g1:=BX.cell (c6.out.below G) aJ
         have g2:=BX.cell (hN.out.below G) bo
         have g3:=(hN.out.below G).frozen to
         have g4:=(hN.out.below G).lt
         have g5:=bc.cell
         have g6:=(a8.out.below G).cell
         have g7:=(aa.out.cell (p:=⟨bu,ou+k,none⟩) (by simp only; omega)).trans cd.out
         have g8:=(aa.out.cell (p:=⟨bv,ov+k,none⟩) (by simp only; omega)).trans ce.out
         have cL:=(G.cell (p:=⟨bu,ou+k,none⟩) (by have:=aa.out.size; simp only; omega)).trans g7
         have cM:=(G.cell (p:=⟨bv,ov+k,none⟩) (by have:=aa.out.size; simp only; omega)).trans g8
         have ag:=hide (fun M=>(hN.out.below G).kept ((Ac.refl wb (fun _=>False)).drewN M) id)
         have af:Hid (∀M,Ac w5 (wb.drewN M) (fun k=>k=z)):=fun M=>(a5.out.trans bB fun _ _ e=>e.elim).drewN M
         have cn:Hid (∀M,Blk ((wb.drewN M).setCell ⟨z,to,none⟩ (.bool true)) z 4 (((t.nextM (t.setK u v k) x y j).set to true).map Value.bool).toArray):=fun M=>by
          have:=(ag.out M).set_ to (.bool true)
          rw [HF] at this
          exact this
         have c0:=hide (fun M=>(af.out M).setCell (p:=⟨z,to,none⟩) (fun _=>rfl) (.bool true))
         obtain⟨x0,x1,x2,x3⟩:=e
         dsimp only at*
         subst hf ht
         have dg:k<u.length:=by rw [←a6.out]; exact aL
         clear aQ hc ab i1 i2 i3 i4 aJ bo G bc bB g7 g8
         cases bf with
         | false=>
          have a3:Hid (t.nextM (t.setK u v k) x y (j+1)=t.nextM (t.setK u v k) x y j):=by show _=_; rw [aq.out,am.out]; simp
          go_wp2_with fail
          go_quiet (fail)
          go_wp2_with fail
          exact⟨⟨j+1,by go_num,by omega,by rw [a3.out]; exact ag.out _,af.out _⟩,by simp [intOf]; omega⟩
         | true=>
          by_cases e1:x1=x
          ·by_cases e2:x2=y
           ·have a3:Hid (t.nextM (t.setK u v k) x y (j+1)=(t.nextM (t.setK u v k) x y j).set to true):=by show _=_; rw [aq.out,am.out,cr.out]; simp [e1,e2]
            subst e1 e2
            go_wp2_with fail
            go_quiet (fail)
            go_wp2_with fail
            exact⟨⟨j+1,by go_num,by omega,by rw [a3.out]; exact cn.out _,c0.out _⟩,by simp [intOf]; omega⟩
           ·have a3:Hid (t.nextM (t.setK u v k) x y (j+1)=t.nextM (t.setK u v k) x y j):=by show _=_; rw [aq.out,am.out]; simp [e1,e2]
            subst e1
            go_wp2_with fail
            go_quiet (fail)
            go_wp2_with fail
            exact⟨⟨j+1,by go_num,by omega,by rw [a3.out]; exact ag.out _,af.out _⟩,by simp [intOf]; omega⟩
          ·have a3:Hid (t.nextM (t.setK u v k) x y (j+1)=t.nextM (t.setK u v k) x y j):=by show _=_; rw [aq.out,am.out]; simp [e1]
           go_wp2_with fail
           go_quiet (fail)
           go_wp2_with fail
           exact⟨⟨j+1,by go_num,by omega,by rw [a3.out]; exact ag.out _,af.out _⟩,by simp [intOf]; omega⟩
        ·obtain rfl:nm=j:=by omega
         have cq:Hid (t.nextM (t.setK u v k) x y nm=t.setK u v (k+1)):=by show _=_; rw [cp.out,bD.out]
         have aF:=hN.out
         rw [cq.out] at aF
         have r1:=a8.out.cell
         have r2:=a8.out.frozen
         have r3:=a8.out.lt
         have bZ:=hide ((bY.out.trans a5.out fun b hb e=>by omega).setCell (p:=⟨J.heap.size,0,none⟩) (fun _=>rfl) (.slice (some ⟨z,0,none⟩) S S))
         have bW:=hide (a8.out.set_ 0 (.slice (some ⟨z,0,none⟩) S S))
         have bh:=hide (aF.kept ((Ac.refl wz (fun k=>k=J.heap.size)).setCell (p:=⟨J.heap.size,0,none⟩) (fun _=>rfl) (.slice (some ⟨z,0,none⟩) S S)) (by omega))
         have ch:=bh.out.lt
         clear aF
         go_wp2_with fail
         exact⟨⟨k+1,z,by go_num,by omega,ch,by omega,bW,bh,bZ⟩,by simp [intOf]; omega⟩
      ·obtain rfl:n=k:=by omega
       have bj:Sl wr wr.heap.size 1 DH (some ⟨gm,0,none⟩) (t.setK u v n):=by
        obtain⟨A9,c9,e9,h9⟩:=BX.sl (w:=wr) (B:=wr.heap.size) (u:=.slice (some ⟨gm,0,none⟩) S S) (m:=t.setK u v n) ⟨gm,cg,by rw [ap.out],hM.out⟩ (by rw [ap.out]; omega)
        injection e9 with e9
        subst e9
        exact h9
       have br:=Yj (c:=c2) aE.out bj (ap.out n).symm (bP.out.keep (w':=wr) (fun p hp=>W.out.cell hp) W.out.size) (by rw [←bi.out]; exact aK.out.accept)
       have C:Hid (t.relR u v=.tuple #[.bool (t.accept.any fun s=>(t.setK u v n).getD s.toNat false),.int .i64 0]):=by
        show _=_
        unfold TR.relR
        rw [hV.out,decide_eq_true (by rw [←a6.out,←an.out])]
        unfold TR.rel
        rw [←a6.out]
        simp [De]
       generalize (t.accept.any fun s=>(t.setK u v n).getD s.toNat false)=bb at br C
       clear bj
       go_wp2_with fail
       refine br.mono ?_
       rintro e w' ⟨rfl,rfl⟩
       go_wp2_with fail
       go_ret2
       exact⟨C.out.symm,W.out⟩
    ·have C:Hid (t.relR u v=.tuple #[.bool false,.int .i64 0]):=by
      show _=_
      unfold TR.relR
      rw [hV.out,decide_eq_false (by rw [←a6.out,←an.out]; exact bE)]
      rfl
     go_wp2_with fail
     refine I.mono ?_
     rintro e w' ⟨rfl,rfl⟩
     go_wp2_with fail
     refine U.mono ?_
     rintro e w' ⟨rfl,rfl⟩
     clear I U
     go_wp2_with fail
     go_ret2
     exact⟨C.out.symm,F.out⟩
end Go.Proofs.YtfcfpoemojjglaaGreatDoor
