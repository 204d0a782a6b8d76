/-
  Part CC of a proof.
-/
import Derived.Test.YtfcfpoemojjglaaGreatDoorAA
import Derived.Test.YtfcfpoemojjglaaGreatDoorPA
set_option maxHeartbeats 16000000
set_option maxRecDepth 100000
set_option linter.unusedVariables false
set_option linter.unusedSimpArgs false
namespace Go.Proofs.YtfcfpoemojjglaaGreatDoor.K
open Go.RowKit
theorem Ch {w:World} {g:Nat} {t:TypeId} {l:List Int} (h:Blk w g t (l.map (Value.int .i64)).toArray) (z:l.length≤9223372036854775807):Sl w w.heap.size 1 Ai (some ⟨g,0,none⟩) l:=by
 refine⟨z,fun _=>⟨g,0,rfl,h.lt,fun k d hd j C=>?_⟩⟩
 have y:j=0:=by omega
 subst y
 rw [h.cell]
 simp [hd,Ai]
theorem Gx (m:Int) (g:Thr):Aj id [AD g.msg m,Ad (!(decide (1≤g.coef)&&decide (g.coef≤100))) 1,Ad (!Bg g.bound) 4]=B7 m g:=by
 simp [Aj,Bk,B7,AD]
theorem P5 {w:World} {cs:List Value} {p:Am} {A:Option Addr} {c:Nat} {l:List Thr} (h:At w w.heap.size cs p) (hl:Sl w w.heap.size 6 CS A l):
  Calls Tryz.prog 210 #[.agg cs.toArray,.slice A l.length c] w (Ret fun r w'=>r=.int .i64 (Dy p.messages.length l)∧Below w.heap.size w w'):=by
 obtain⟨A1,c1,A2,c2,A3,c3,A4,c4,A5,c5,A6,c6,A7,c7,rfl,-,h2,-,-,-,-,-⟩:=h
 have aW:=h2.1
 have aX:=hl.1
 obtain⟨w1,aZ,a7,ah,aO⟩:=Ae w #[.string p.name,.int .i64 p.topo,.slice A1 p.states.length c1,.slice A2 p.messages.length c2,.slice A3 p.values.length c3,.int .i64 p.fault,.slice A4 p.res.length c4,.slice A5 p.initial.length c5,.slice A6 p.leader.length c6,.slice A7 p.rules.length c7] 27
 have a8:=a7.size
 have hH:=hide ((hl.below a7).mono (B':=w1.heap.size) a8)
 have a9:=hide a7
 have aL:=hide ah
 clear a7 h2 hl aO ah
 go_enter Tryz.func210,Tryz.ntmps210
 go_wp2_with fail
 go_loopw [10] (fun ii wr=>∃(k:Nat),ii=.int .i64 (k:Int)∧k≤l.length∧Below w1.heap.size w1 wr∧Hid (Aj (B7 p.messages.length) (l.take k)=0)) (fun ii _=>l.length - (intOf ii).toNat)
 case atStart=>exact⟨0,rfl,Nat.zero_le _,Below.refl _ _,rfl⟩
 case round=>
  obtain⟨k,rfl,hk,hB,hE⟩:=hrel
  by_cases aQ:k<l.length
  case neg=>
   have e:k=l.length:=by omega
   have a6:=hE.out
   rw [e,List.take_length] at a6
   have aS:=hide a6
   have ai:=hide (a9.out.trans (hB.mono a8))
   have hm:=hide (show Ad (decide (2<l.length)) 4=Dy p.messages.length l by unfold Dy; rw [a6,AY])
   clear a6 e hB
   by_cases q:2<(l.length:Int)
   ·have a3:=hide (show Ad true 4=Dy p.messages.length l by rw [←hm.out,decide_eq_true (by omega)])
    go_wp2_with (go_at_call 121; refine(Ce _ _ _).mono ?_; rintro r w' ⟨rfl,rfl⟩; rw [a3.out])
    go_ret
    exact⟨rfl,ai.out⟩
   ·have a3:=hide (show Ad false 4=Dy p.messages.length l by rw [←hm.out,decide_eq_false (by omega)])
    go_wp2_with (go_at_call 121; refine(Ce _ _ _).mono ?_; rintro r w' ⟨rfl,rfl⟩; rw [a3.out])
    go_ret
    exact⟨rfl,ai.out⟩
  obtain⟨b,b0,g,hA,aT,he,M⟩:=(hH.out.below hB).at aQ
  have d0:=M 0 (by omega)
  have d1:=M 1 (by omega)
  have d2:=M 2 (by omega)
  have d3:=M 3 (by omega)
  have d4:=M 4 (by omega)
  have d5:=M 5 (by omega)
  simp only [Nat.add_zero,CS] at d0 d1 d2 d3 d4 d5
  have aa:=hide he
  subst hA
  clear M he
  obtain⟨w2,a3,aj,aK,aP⟩:=Ae wr #[.int .i64 g.msg,.int .i64 g.coef,.int .i64 g.bound.c,.int .i64 g.bound.n,.int .i64 g.bound.t,.int .i64 g.bound.f] 217
  have aN:=hide a3
  have aV:=aK.cell
  have aJ:=(aL.out.below hB).below aj
  have aU:=aJ.cell
  have G:=hide (hB.trans (aj.mono hB.size))
  clear a3 aP
  go_wp2_with fail
  rw [aN.out]
  obtain⟨e,a4⟩:∃e,B7 p.messages.length g=e:=⟨_,rfl⟩
  by_cases Z:e=0
  ·have V:=hide (show B7 p.messages.length g=0 by rw [a4,Z])
   clear a4 Z
   by_cases q1:g.coef<1
   ·have O:=hide (show Aj id [AD g.msg p.messages.length,Ad true 1,Ad (!Bg g.bound) 4]=0 from by
     rw [show true=(!(decide (1≤g.coef)&&decide (g.coef≤100))) from by simp; omega,Gx]
     exact V.out)
    refine Reg.cI [0,1,0,4,12,31,0,64,192,511,1023,2047,4095,8191,16383,0,32768,131071,262143,524287,1048575,2097151,4194303] [0,1,2,3,4,6,7,8,15,16,5,9,10,11,12,13,14,17,18,19,20,21,22] ?_
    refine Reg.wI [0,1,2,3,4,6,7,8,15,16] [5,9,10,11,12,13,14,17,18,19,20,21,22] rfl fun Qf y=>?_
    go_wp2_with fail
    first | refine y _ _ ⟨rfl,?_⟩ | refine⟨rfl,?_⟩
    try clear y
    refine Reg.aI 5 [9,10,11,12,13,14,17,18,19,20,21,22] [7,16] rfl fun Qf y=>?_
    simp only [gT,gS,gZ]
    go_wp2_with (go_at_call 173; refine(Cu _ _ _).mono ?_; rintro r w' ⟨rfl,rfl⟩)
    first | refine y _ _ ⟨Reg.same_below (Below.refl _ _) [7,16] rfl,?_⟩ | refine⟨Reg.same_below (Below.refl _ _) [7,16] rfl,?_⟩
    try clear y
    refine Reg.wI [9,10,11,12,13] [14,17,18,19,20,21,22] rfl fun Qf y=>?_
    go_wp2_with fail
    first | refine y _ _ ⟨rfl,?_⟩ | refine⟨rfl,?_⟩
    try clear y
    refine Reg.aI 14 [17,18,19,20,21,22] [16] rfl fun Qf y=>?_
    simp only [gT,gS,gZ]
    go_wp2_with (go_at_call 121; refine(Ce _ _ _).mono ?_; rintro r w' ⟨rfl,rfl⟩)
    first | refine y _ _ ⟨Reg.same_below (Below.refl _ _) [16] rfl,?_⟩ | refine⟨Reg.same_below (Below.refl _ _) [16] rfl,?_⟩
    try clear y
    refine Reg.aI 17 [18,19,20,21,22] [] rfl fun Qf y=>?_
    simp only [gT,gS,gZ]
    go_wp2_with (go_at_call 169; refine Calls.ret (FJ g.bound _) ?_; rintro r W ⟨rfl,z⟩)
    first | refine y _ _ ⟨Reg.nm,?_⟩ | refine⟨Reg.nm,?_⟩
    try clear y
    obtain⟨w4,ad,E,C,U⟩:=Ae W #[.int .i64 (AD g.msg p.messages.length),.int .i64 (Ad true 1),.int .i64 (Ad (!Bg g.bound) 4)] 36
    have I:=hide (Ch (l:=[AD g.msg p.messages.length,Ad true 1,Ad (!Bg g.bound) 4]) C (by simp))
    have J:=hide (G.out.trans (((Ap w2).trans (z.trans (E.mono z.size))).mono G.out.size))
    clear C U E z
    refine Reg.wI [18] [19,20,21,22] rfl fun Qf y=>?_
    go_wp2_with fail
    first | refine y _ _ ⟨rfl,?_⟩ | refine⟨rfl,?_⟩
    try clear y
    refine Reg.aI 19 [20,21,22] [] rfl fun Qf y=>?_
    simp only [gT,gS,gZ]
    go_wp2_with (go_at_call 121; refine(Ce _ _ _).mono ?_; rintro r w' ⟨rfl,rfl⟩)
    first | refine y _ _ ⟨Reg.nm,?_⟩ | refine⟨Reg.nm,?_⟩
    try clear y
    refine Reg.wI [20] [21,22] rfl fun Qf y=>?_
    go_wp2_with fail
    first | refine y _ _ ⟨rfl,?_⟩ | refine⟨rfl,?_⟩
    try clear y
    refine Reg.aI 21 [22] [] rfl fun Qf y=>?_
    simp only [gT,gS,gZ]
    go_wp2_with (go_at_call 120; refine(Ci (l:=[AD g.msg p.messages.length,Ad true 1,Ad (!Bg g.bound) 4]) I.out).mono ?_; rintro r w' ⟨rfl,rfl⟩; rw [O.out])
    first | refine y _ _ ⟨Reg.nm,?_⟩ | refine⟨Reg.nm,?_⟩
    try clear y
    refine Reg.wI [22] [] rfl fun Qf y=>?_
    go_wp2_with fail
    first | refine y _ _ ⟨rfl,?_⟩ | refine⟨rfl,?_⟩
    try clear y
    first | refine Reg.restI_end ?_ | skip
    go_wp2_with fail
    refine⟨⟨k+1,by go_num,by omega,J.out,?_⟩,by simp [intOf]; omega⟩
    show _=_
    rw [CD _ aa.out hE.out]
    exact V.out
   ·have O:=hide (show Aj id [AD g.msg p.messages.length,Ad (decide (100<g.coef)) 1,Ad (!Bg g.bound) 4]=0 from by
     rw [show(decide (100<g.coef))=(!(decide (1≤g.coef)&&decide (g.coef≤100))) from by rw [Bool.eq_iff_iff]; simp; omega,Gx]
     exact V.out)
    refine Reg.cI [0,1,0,4,12,31,0,64,192,511,1023,2047,4095,8191,16383,0,32768,131071,262143,524287,1048575,2097151,4194303] [0,1,2,3,4,6,7,8,15,16,5,9,10,11,12,13,14,17,18,19,20,21,22] ?_
    refine Reg.wI [0,1,2,3,4,6,7,8,15,16] [5,9,10,11,12,13,14,17,18,19,20,21,22] rfl fun Qf y=>?_
    go_wp2_with fail
    first | refine y _ _ ⟨rfl,?_⟩ | refine⟨rfl,?_⟩
    try clear y
    refine Reg.aI 5 [9,10,11,12,13,14,17,18,19,20,21,22] [7,16] rfl fun Qf y=>?_
    simp only [gT,gS,gZ]
    go_wp2_with (go_at_call 173; refine(Cu _ _ _).mono ?_; rintro r w' ⟨rfl,rfl⟩)
    first | refine y _ _ ⟨Reg.same_below (Below.refl _ _) [7,16] rfl,?_⟩ | refine⟨Reg.same_below (Below.refl _ _) [7,16] rfl,?_⟩
    try clear y
    refine Reg.wI [9,10,11,12,13] [14,17,18,19,20,21,22] rfl fun Qf y=>?_
    go_wp2_with fail
    first | refine y _ _ ⟨rfl,?_⟩ | refine⟨rfl,?_⟩
    try clear y
    refine Reg.aI 14 [17,18,19,20,21,22] [16] rfl fun Qf y=>?_
    simp only [gT,gS,gZ]
    go_wp2_with (go_at_call 121; refine(Ce _ _ _).mono ?_; rintro r w' ⟨rfl,rfl⟩)
    first | refine y _ _ ⟨Reg.same_below (Below.refl _ _) [16] rfl,?_⟩ | refine⟨Reg.same_below (Below.refl _ _) [16] rfl,?_⟩
    try clear y
    refine Reg.aI 17 [18,19,20,21,22] [] rfl fun Qf y=>?_
    simp only [gT,gS,gZ]
    go_wp2_with (go_at_call 169; refine Calls.ret (FJ g.bound _) ?_; rintro r W ⟨rfl,z⟩)
    first | refine y _ _ ⟨Reg.nm,?_⟩ | refine⟨Reg.nm,?_⟩
    try clear y
    obtain⟨w4,ad,E,C,U⟩:=Ae W #[.int .i64 (AD g.msg p.messages.length),.int .i64 (Ad (decide (100<g.coef)) 1),.int .i64 (Ad (!Bg g.bound) 4)] 36
    have I:=hide (Ch (l:=[AD g.msg p.messages.length,Ad (decide (100<g.coef)) 1,Ad (!Bg g.bound) 4]) C (by simp))
    have J:=hide (G.out.trans (((Ap w2).trans (z.trans (E.mono z.size))).mono G.out.size))
    clear C U E z
    refine Reg.wI [18] [19,20,21,22] rfl fun Qf y=>?_
    go_wp2_with fail
    first | refine y _ _ ⟨rfl,?_⟩ | refine⟨rfl,?_⟩
    try clear y
    refine Reg.aI 19 [20,21,22] [] rfl fun Qf y=>?_
    simp only [gT,gS,gZ]
    go_wp2_with (go_at_call 121; refine(Ce _ _ _).mono ?_; rintro r w' ⟨rfl,rfl⟩)
    first | refine y _ _ ⟨Reg.nm,?_⟩ | refine⟨Reg.nm,?_⟩
    try clear y
    refine Reg.wI [20] [21,22] rfl fun Qf y=>?_
    go_wp2_with fail
    first | refine y _ _ ⟨rfl,?_⟩ | refine⟨rfl,?_⟩
    try clear y
    refine Reg.aI 21 [22] [] rfl fun Qf y=>?_
    simp only [gT,gS,gZ]
    go_wp2_with (go_at_call 120; refine(Ci (l:=[AD g.msg p.messages.length,Ad (decide (100<g.coef)) 1,Ad (!Bg g.bound) 4]) I.out).mono ?_; rintro r w' ⟨rfl,rfl⟩; rw [O.out])
    first | refine y _ _ ⟨Reg.nm,?_⟩ | refine⟨Reg.nm,?_⟩
    try clear y
    refine Reg.wI [22] [] rfl fun Qf y=>?_
    go_wp2_with fail
    first | refine y _ _ ⟨rfl,?_⟩ | refine⟨rfl,?_⟩
    try clear y
    first | refine Reg.restI_end ?_ | skip
    go_wp2_with fail
    refine⟨⟨k+1,by go_num,by omega,J.out,?_⟩,by simp [intOf]; omega⟩
    show _=_
    rw [CD _ aa.out hE.out]
    exact V.out
  ·have V:=hide a4
   have am:=hide (show Dy p.messages.length l=e by
    unfold Dy
    rw [Ct _ aa.out hE.out (by rw [a4]; exact Z),a4,BF Z])
   have hq:(e != 0)=true:=by simp [Z]
   clear a4 Z
   by_cases q1:g.coef<1
   ·have O:=hide (show Aj id [AD g.msg p.messages.length,Ad true 1,Ad (!Bg g.bound) 4]=e from by
     rw [show true=(!(decide (1≤g.coef)&&decide (g.coef≤100))) from by simp; omega,Gx]
     exact V.out)
    refine Reg.cI [0,1,0,4,12,31,0,64,192,511,1023,2047,4095,8191,16383,0,32768,131071,262143,524287,1048575,2097151,4194303] [0,1,2,3,4,6,7,8,15,16,5,9,10,11,12,13,14,17,18,19,20,21,22] ?_
    refine Reg.wI [0,1,2,3,4,6,7,8,15,16] [5,9,10,11,12,13,14,17,18,19,20,21,22] rfl fun Qf y=>?_
    go_wp2_with fail
    first | refine y _ _ ⟨rfl,?_⟩ | refine⟨rfl,?_⟩
    try clear y
    refine Reg.aI 5 [9,10,11,12,13,14,17,18,19,20,21,22] [7,16] rfl fun Qf y=>?_
    simp only [gT,gS,gZ]
    go_wp2_with (go_at_call 173; refine(Cu _ _ _).mono ?_; rintro r w' ⟨rfl,rfl⟩)
    first | refine y _ _ ⟨Reg.same_below (Below.refl _ _) [7,16] rfl,?_⟩ | refine⟨Reg.same_below (Below.refl _ _) [7,16] rfl,?_⟩
    try clear y
    refine Reg.wI [9,10,11,12,13] [14,17,18,19,20,21,22] rfl fun Qf y=>?_
    go_wp2_with fail
    first | refine y _ _ ⟨rfl,?_⟩ | refine⟨rfl,?_⟩
    try clear y
    refine Reg.aI 14 [17,18,19,20,21,22] [16] rfl fun Qf y=>?_
    simp only [gT,gS,gZ]
    go_wp2_with (go_at_call 121; refine(Ce _ _ _).mono ?_; rintro r w' ⟨rfl,rfl⟩)
    first | refine y _ _ ⟨Reg.same_below (Below.refl _ _) [16] rfl,?_⟩ | refine⟨Reg.same_below (Below.refl _ _) [16] rfl,?_⟩
    try clear y
    refine Reg.aI 17 [18,19,20,21,22] [] rfl fun Qf y=>?_
    simp only [gT,gS,gZ]
    go_wp2_with (go_at_call 169; refine Calls.ret (FJ g.bound _) ?_; rintro r W ⟨rfl,z⟩)
    first | refine y _ _ ⟨Reg.nm,?_⟩ | refine⟨Reg.nm,?_⟩
    try clear y
    obtain⟨w4,ad,E,C,U⟩:=Ae W #[.int .i64 (AD g.msg p.messages.length),.int .i64 (Ad true 1),.int .i64 (Ad (!Bg g.bound) 4)] 36
    have I:=hide (Ch (l:=[AD g.msg p.messages.length,Ad true 1,Ad (!Bg g.bound) 4]) C (by simp))
    have J:=hide (G.out.trans (((Ap w2).trans (z.trans (E.mono z.size))).mono G.out.size))
    clear C U E z
    refine Reg.wI [18] [19,20,21,22] rfl fun Qf y=>?_
    go_wp2_with fail
    first | refine y _ _ ⟨rfl,?_⟩ | refine⟨rfl,?_⟩
    try clear y
    refine Reg.aI 19 [20,21,22] [] rfl fun Qf y=>?_
    simp only [gT,gS,gZ]
    go_wp2_with (go_at_call 121; refine(Ce _ _ _).mono ?_; rintro r w' ⟨rfl,rfl⟩)
    first | refine y _ _ ⟨Reg.nm,?_⟩ | refine⟨Reg.nm,?_⟩
    try clear y
    refine Reg.wI [20] [21,22] rfl fun Qf y=>?_
    go_wp2_with fail
    first | refine y _ _ ⟨rfl,?_⟩ | refine⟨rfl,?_⟩
    try clear y
    refine Reg.aI 21 [22] [] rfl fun Qf y=>?_
    simp only [gT,gS,gZ]
    go_wp2_with (go_at_call 120; refine(Ci (l:=[AD g.msg p.messages.length,Ad true 1,Ad (!Bg g.bound) 4]) I.out).mono ?_; rintro r w' ⟨rfl,rfl⟩; rw [O.out])
    first | refine y _ _ ⟨Reg.nm,?_⟩ | refine⟨Reg.nm,?_⟩
    try clear y
    refine Reg.wI [22] [] rfl fun Qf y=>?_
    go_wp2_with fail
    first | refine y _ _ ⟨rfl,?_⟩ | refine⟨rfl,?_⟩
    try clear y
    first | refine Reg.restI_end ?_ | skip
    go_wp2_with fail
    go_ret
    exact⟨by rw [am.out]; rfl,a9.out.trans (J.out.mono a8)⟩
   ·have O:=hide (show Aj id [AD g.msg p.messages.length,Ad (decide (100<g.coef)) 1,Ad (!Bg g.bound) 4]=e from by
     rw [show(decide (100<g.coef))=(!(decide (1≤g.coef)&&decide (g.coef≤100))) from by rw [Bool.eq_iff_iff]; simp; omega,Gx]
     exact V.out)
    refine Reg.cI [0,1,0,4,12,31,0,64,192,511,1023,2047,4095,8191,16383,0,32768,131071,262143,524287,1048575,2097151,4194303] [0,1,2,3,4,6,7,8,15,16,5,9,10,11,12,13,14,17,18,19,20,21,22] ?_
    refine Reg.wI [0,1,2,3,4,6,7,8,15,16] [5,9,10,11,12,13,14,17,18,19,20,21,22] rfl fun Qf y=>?_
    go_wp2_with fail
    first | refine y _ _ ⟨rfl,?_⟩ | refine⟨rfl,?_⟩
    try clear y
    refine Reg.aI 5 [9,10,11,12,13,14,17,18,19,20,21,22] [7,16] rfl fun Qf y=>?_
    simp only [gT,gS,gZ]
    go_wp2_with (go_at_call 173; refine(Cu _ _ _).mono ?_; rintro r w' ⟨rfl,rfl⟩)
    first | refine y _ _ ⟨Reg.same_below (Below.refl _ _) [7,16] rfl,?_⟩ | refine⟨Reg.same_below (Below.refl _ _) [7,16] rfl,?_⟩
    try clear y
    refine Reg.wI [9,10,11,12,13] [14,17,18,19,20,21,22] rfl fun Qf y=>?_
    go_wp2_with fail
    first | refine y _ _ ⟨rfl,?_⟩ | refine⟨rfl,?_⟩
    try clear y
    refine Reg.aI 14 [17,18,19,20,21,22] [16] rfl fun Qf y=>?_
    simp only [gT,gS,gZ]
    go_wp2_with (go_at_call 121; refine(Ce _ _ _).mono ?_; rintro r w' ⟨rfl,rfl⟩)
    first | refine y _ _ ⟨Reg.same_below (Below.refl _ _) [16] rfl,?_⟩ | refine⟨Reg.same_below (Below.refl _ _) [16] rfl,?_⟩
    try clear y
    refine Reg.aI 17 [18,19,20,21,22] [] rfl fun Qf y=>?_
    simp only [gT,gS,gZ]
    go_wp2_with (go_at_call 169; refine Calls.ret (FJ g.bound _) ?_; rintro r W ⟨rfl,z⟩)
    first | refine y _ _ ⟨Reg.nm,?_⟩ | refine⟨Reg.nm,?_⟩
    try clear y
    obtain⟨w4,ad,E,C,U⟩:=Ae W #[.int .i64 (AD g.msg p.messages.length),.int .i64 (Ad (decide (100<g.coef)) 1),.int .i64 (Ad (!Bg g.bound) 4)] 36
    have I:=hide (Ch (l:=[AD g.msg p.messages.length,Ad (decide (100<g.coef)) 1,Ad (!Bg g.bound) 4]) C (by simp))
    have J:=hide (G.out.trans (((Ap w2).trans (z.trans (E.mono z.size))).mono G.out.size))
    clear C U E z
    refine Reg.wI [18] [19,20,21,22] rfl fun Qf y=>?_
    go_wp2_with fail
    first | refine y _ _ ⟨rfl,?_⟩ | refine⟨rfl,?_⟩
    try clear y
    refine Reg.aI 19 [20,21,22] [] rfl fun Qf y=>?_
    simp only [gT,gS,gZ]
    go_wp2_with (go_at_call 121; refine(Ce _ _ _).mono ?_; rintro r w' ⟨rfl,rfl⟩)
    first | refine y _ _ ⟨Reg.nm,?_⟩ | refine⟨Reg.nm,?_⟩
    try clear y
    refine Reg.wI [20] [21,22] rfl fun Qf y=>?_
    go_wp2_with fail
    first | refine y _ _ ⟨rfl,?_⟩ | refine⟨rfl,?_⟩
    try clear y
    refine Reg.aI 21 [22] [] rfl fun Qf y=>?_
    simp only [gT,gS,gZ]
    go_wp2_with (go_at_call 120; refine(Ci (l:=[AD g.msg p.messages.length,Ad (decide (100<g.coef)) 1,Ad (!Bg g.bound) 4]) I.out).mono ?_; rintro r w' ⟨rfl,rfl⟩; rw [O.out])
    first | refine y _ _ ⟨Reg.nm,?_⟩ | refine⟨Reg.nm,?_⟩
    try clear y
    refine Reg.wI [22] [] rfl fun Qf y=>?_
    go_wp2_with fail
    first | refine y _ _ ⟨rfl,?_⟩ | refine⟨rfl,?_⟩
    try clear y
    first | refine Reg.restI_end ?_ | skip
    go_wp2_with fail
    go_ret
    exact⟨by rw [am.out]; rfl,a9.out.trans (J.out.mono a8)⟩
end Go.Proofs.YtfcfpoemojjglaaGreatDoor.K
