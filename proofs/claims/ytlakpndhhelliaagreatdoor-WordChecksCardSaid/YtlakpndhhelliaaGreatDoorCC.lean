/-
  Part CC of a proof.
-/
import Derived.Test.YtlakpndhhelliaaGreatDoorAA
import Derived.Test.YtlakpndhhelliaaGreatDoorPA
set_option maxHeartbeats 16000000
set_option maxRecDepth 100000
set_option linter.unusedVariables false
set_option linter.unusedSimpArgs false
namespace Go.Proofs.YtlakpndhhelliaaGreatDoor.K
open Go.RowKit
theorem B0 {w:World} {g:Nat} {t:TypeId} {l:List Int} (f:Blk w g t (l.map (Value.int .i64)).toArray) (h:l.length≤9223372036854775807):Sl w w.heap.size 1 Ai (some ⟨g,0,none⟩) l:=by
 refine⟨h,fun _=>⟨g,0,rfl,f.lt,fun k d hd j z=>?_⟩⟩
 have y:j=0:=by omega
 subst y
 rw [f.cell]
 simp [hd,Ai]
theorem FN (m:Int) (g:Thr):Ah id [Aw g.msg m,Ac (!(decide (1≤g.coef)&&decide (g.coef≤100))) 1,Ac (!AR g.bound) 4]=BS m g:=by
 simp [Ah,Be,BS,Aw]
theorem NT {w:World} {cs:List Value} {p:Ao} {A:Option Addr} {c:Nat} {l:List Thr} (h:Ax w w.heap.size cs p) (hl:Sl w w.heap.size 6 CC A l):
  Calls Tryz.prog 76 #[.agg cs.toArray,.slice A l.length c] w (Ret fun r w'=>r=.int .i64 (Db p.messages.length l)∧Below w.heap.size w w'):=by
 obtain⟨A1,c1,A2,c2,A3,c3,A4,c4,A5,c5,A6,c6,A7,c7,rfl,-,h2,-,-,-,-,-⟩:=h
 have aS:=h2.1
 have aT:=hl.1
 obtain⟨w1,aU,a4,ag,aB⟩:=Ag w #[.string p.name,.int .i64 p.topo,.slice A1 p.states.length c1,.slice A2 p.messages.length c2,.slice A3 p.values.length c3,.int .i64 p.fault,.slice A4 p.res.length c4,.slice A5 p.initial.length c5,.slice A6 p.leader.length c6,.slice A7 p.rules.length c7] 27
 have a5:=a4.size
 have hH:=hide ((hl.below a4).mono (B':=w1.heap.size) a5)
 have a9:=hide a4
 have aD:=hide ag
 clear a4 h2 hl aB ag
 go_enter Tryz.func76,Tryz.ntmps76
 go_wp2_with fail
 go_loopw [10] (fun ii wr=>∃(k:Nat),ii=.int .i64 (k:Int)∧k≤l.length∧Below w1.heap.size w1 wr∧Hid (Ah (BS p.messages.length) (l.take k)=0)) (fun ii _=>l.length - (intOf ii).toNat)
 case atStart=>exact⟨0,rfl,Nat.zero_le _,Below.refl _ _,rfl⟩
 case round=>
  obtain⟨k,rfl,hk,W,hE⟩:=hrel
  by_cases aE:k<l.length
  case neg=>
   have e:k=l.length:=by omega
   have a7:=hE.out
   rw [e,List.take_length] at a7
   have aV:=hide a7
   have ah:=hide (a9.out.trans (W.mono a5))
   have hm:=hide (show Ac (decide (2<l.length)) 4=Db p.messages.length l by unfold Db; rw [a7,BI])
   clear a7 e W
   by_cases q:2<(l.length:Int)
   ·have Z:=hide (show Ac true 4=Db p.messages.length l by rw [←hm.out,decide_eq_true (by omega)])
    go_wp2_with (go_at_call 27; refine(BZ _ _ _).mono ?_; rintro r w' ⟨rfl,rfl⟩; rw [Z.out])
    go_ret
    exact⟨rfl,ah.out⟩
   ·have Z:=hide (show Ac false 4=Db p.messages.length l by rw [←hm.out,decide_eq_false (by omega)])
    go_wp2_with (go_at_call 27; refine(BZ _ _ _).mono ?_; rintro r w' ⟨rfl,rfl⟩; rw [Z.out])
    go_ret
    exact⟨rfl,ah.out⟩
  obtain⟨b,aW,g,hA,aX,he,G⟩:=(hH.out.below W).at aE
  have d0:=G 0 (by omega)
  have d1:=G 1 (by omega)
  have d2:=G 2 (by omega)
  have d3:=G 3 (by omega)
  have d4:=G 4 (by omega)
  have d5:=G 5 (by omega)
  simp only [Nat.add_zero,CC] at d0 d1 d2 d3 d4 d5
  have ab:=hide he
  subst hA
  clear G he
  obtain⟨w2,Z,ak,aN,aO⟩:=Ag wr #[.int .i64 g.msg,.int .i64 g.coef,.int .i64 g.bound.c,.int .i64 g.bound.n,.int .i64 g.bound.t,.int .i64 g.bound.f] 128
  have aP:=hide Z
  have aY:=aN.cell
  have aQ:=(aD.out.below W).below ak
  have aZ:=aQ.cell
  have F:=hide (W.trans (ak.mono W.size))
  clear Z aO
  go_wp2_with fail
  rw [aP.out]
  obtain⟨e,a2⟩:∃e,BS p.messages.length g=e:=⟨_,rfl⟩
  by_cases h0:e=0
  ·have I:=hide (show BS p.messages.length g=0 by rw [a2,h0])
   clear a2 h0
   by_cases q1:g.coef<1
   ·have J:=hide (show Ah id [Aw g.msg p.messages.length,Ac true 1,Ac (!AR g.bound) 4]=0 from by
     rw [show true=(!(decide (1≤g.coef)&&decide (g.coef≤100))) from by simp; omega,FN]
     exact I.out)
    refine Reg.cI [0,1,0,4,12,31,0,64,192,511,1023,2047,4095,8191,16383,0,32768,131071,262143,524287,1048575,2097151,4194303] [0,1,2,3,4,6,7,8,15,16,5,9,10,11,12,13,14,17,18,19,20,21,22] ?_
    refine Reg.wI [0,1,2,3,4,6,7,8,15,16] [5,9,10,11,12,13,14,17,18,19,20,21,22] rfl fun Qf y=>?_
    go_wp2_with fail
    first | refine y _ _ ⟨rfl,?_⟩ | refine⟨rfl,?_⟩
    try clear y
    refine Reg.aI 5 [9,10,11,12,13,14,17,18,19,20,21,22] [7,16] rfl fun Qf y=>?_
    simp only [gT,gS,gZ]
    go_wp2_with (go_at_call 52; refine(Cl _ _ _).mono ?_; rintro r w' ⟨rfl,rfl⟩)
    first | refine y _ _ ⟨Reg.same_below (Below.refl _ _) [7,16] rfl,?_⟩ | refine⟨Reg.same_below (Below.refl _ _) [7,16] rfl,?_⟩
    try clear y
    refine Reg.wI [9,10,11,12,13] [14,17,18,19,20,21,22] rfl fun Qf y=>?_
    go_wp2_with fail
    first | refine y _ _ ⟨rfl,?_⟩ | refine⟨rfl,?_⟩
    try clear y
    refine Reg.aI 14 [17,18,19,20,21,22] [16] rfl fun Qf y=>?_
    simp only [gT,gS,gZ]
    go_wp2_with (go_at_call 27; refine(BZ _ _ _).mono ?_; rintro r w' ⟨rfl,rfl⟩)
    first | refine y _ _ ⟨Reg.same_below (Below.refl _ _) [16] rfl,?_⟩ | refine⟨Reg.same_below (Below.refl _ _) [16] rfl,?_⟩
    try clear y
    refine Reg.aI 17 [18,19,20,21,22] [] rfl fun Qf y=>?_
    simp only [gT,gS,gZ]
    go_wp2_with (go_at_call 47; refine Calls.ret (Fr g.bound _) ?_; rintro r M ⟨rfl,z⟩)
    first | refine y _ _ ⟨Reg.nm,?_⟩ | refine⟨Reg.nm,?_⟩
    try clear y
    obtain⟨w4,ae,C,E,O⟩:=Ag M #[.int .i64 (Aw g.msg p.messages.length),.int .i64 (Ac true 1),.int .i64 (Ac (!AR g.bound) 4)] 33
    have U:=hide (B0 (l:=[Aw g.msg p.messages.length,Ac true 1,Ac (!AR g.bound) 4]) E (by simp))
    have V:=hide (F.out.trans (((Ap w2).trans (z.trans (C.mono z.size))).mono F.out.size))
    clear E O C z
    refine Reg.wI [18] [19,20,21,22] rfl fun Qf y=>?_
    go_wp2_with fail
    first | refine y _ _ ⟨rfl,?_⟩ | refine⟨rfl,?_⟩
    try clear y
    refine Reg.aI 19 [20,21,22] [] rfl fun Qf y=>?_
    simp only [gT,gS,gZ]
    go_wp2_with (go_at_call 27; refine(BZ _ _ _).mono ?_; rintro r w' ⟨rfl,rfl⟩)
    first | refine y _ _ ⟨Reg.nm,?_⟩ | refine⟨Reg.nm,?_⟩
    try clear y
    refine Reg.wI [20] [21,22] rfl fun Qf y=>?_
    go_wp2_with fail
    first | refine y _ _ ⟨rfl,?_⟩ | refine⟨rfl,?_⟩
    try clear y
    refine Reg.aI 21 [22] [] rfl fun Qf y=>?_
    simp only [gT,gS,gZ]
    go_wp2_with (go_at_call 26; refine(B7 (l:=[Aw g.msg p.messages.length,Ac true 1,Ac (!AR g.bound) 4]) U.out).mono ?_; rintro r w' ⟨rfl,rfl⟩; rw [J.out])
    first | refine y _ _ ⟨Reg.nm,?_⟩ | refine⟨Reg.nm,?_⟩
    try clear y
    refine Reg.wI [22] [] rfl fun Qf y=>?_
    go_wp2_with fail
    first | refine y _ _ ⟨rfl,?_⟩ | refine⟨rfl,?_⟩
    try clear y
    first | refine Reg.restI_end ?_ | skip
    go_wp2_with fail
    refine⟨⟨k+1,by go_num,by omega,V.out,?_⟩,by simp [intOf]; omega⟩
    show _=_
    rw [Cq _ ab.out hE.out]
    exact I.out
   ·have J:=hide (show Ah id [Aw g.msg p.messages.length,Ac (decide (100<g.coef)) 1,Ac (!AR g.bound) 4]=0 from by
     rw [show(decide (100<g.coef))=(!(decide (1≤g.coef)&&decide (g.coef≤100))) from by rw [Bool.eq_iff_iff]; simp; omega,FN]
     exact I.out)
    refine Reg.cI [0,1,0,4,12,31,0,64,192,511,1023,2047,4095,8191,16383,0,32768,131071,262143,524287,1048575,2097151,4194303] [0,1,2,3,4,6,7,8,15,16,5,9,10,11,12,13,14,17,18,19,20,21,22] ?_
    refine Reg.wI [0,1,2,3,4,6,7,8,15,16] [5,9,10,11,12,13,14,17,18,19,20,21,22] rfl fun Qf y=>?_
    go_wp2_with fail
    first | refine y _ _ ⟨rfl,?_⟩ | refine⟨rfl,?_⟩
    try clear y
    refine Reg.aI 5 [9,10,11,12,13,14,17,18,19,20,21,22] [7,16] rfl fun Qf y=>?_
    simp only [gT,gS,gZ]
    go_wp2_with (go_at_call 52; refine(Cl _ _ _).mono ?_; rintro r w' ⟨rfl,rfl⟩)
    first | refine y _ _ ⟨Reg.same_below (Below.refl _ _) [7,16] rfl,?_⟩ | refine⟨Reg.same_below (Below.refl _ _) [7,16] rfl,?_⟩
    try clear y
    refine Reg.wI [9,10,11,12,13] [14,17,18,19,20,21,22] rfl fun Qf y=>?_
    go_wp2_with fail
    first | refine y _ _ ⟨rfl,?_⟩ | refine⟨rfl,?_⟩
    try clear y
    refine Reg.aI 14 [17,18,19,20,21,22] [16] rfl fun Qf y=>?_
    simp only [gT,gS,gZ]
    go_wp2_with (go_at_call 27; refine(BZ _ _ _).mono ?_; rintro r w' ⟨rfl,rfl⟩)
    first | refine y _ _ ⟨Reg.same_below (Below.refl _ _) [16] rfl,?_⟩ | refine⟨Reg.same_below (Below.refl _ _) [16] rfl,?_⟩
    try clear y
    refine Reg.aI 17 [18,19,20,21,22] [] rfl fun Qf y=>?_
    simp only [gT,gS,gZ]
    go_wp2_with (go_at_call 47; refine Calls.ret (Fr g.bound _) ?_; rintro r M ⟨rfl,z⟩)
    first | refine y _ _ ⟨Reg.nm,?_⟩ | refine⟨Reg.nm,?_⟩
    try clear y
    obtain⟨w4,ae,C,E,O⟩:=Ag M #[.int .i64 (Aw g.msg p.messages.length),.int .i64 (Ac (decide (100<g.coef)) 1),.int .i64 (Ac (!AR g.bound) 4)] 33
    have U:=hide (B0 (l:=[Aw g.msg p.messages.length,Ac (decide (100<g.coef)) 1,Ac (!AR g.bound) 4]) E (by simp))
    have V:=hide (F.out.trans (((Ap w2).trans (z.trans (C.mono z.size))).mono F.out.size))
    clear E O C z
    refine Reg.wI [18] [19,20,21,22] rfl fun Qf y=>?_
    go_wp2_with fail
    first | refine y _ _ ⟨rfl,?_⟩ | refine⟨rfl,?_⟩
    try clear y
    refine Reg.aI 19 [20,21,22] [] rfl fun Qf y=>?_
    simp only [gT,gS,gZ]
    go_wp2_with (go_at_call 27; refine(BZ _ _ _).mono ?_; rintro r w' ⟨rfl,rfl⟩)
    first | refine y _ _ ⟨Reg.nm,?_⟩ | refine⟨Reg.nm,?_⟩
    try clear y
    refine Reg.wI [20] [21,22] rfl fun Qf y=>?_
    go_wp2_with fail
    first | refine y _ _ ⟨rfl,?_⟩ | refine⟨rfl,?_⟩
    try clear y
    refine Reg.aI 21 [22] [] rfl fun Qf y=>?_
    simp only [gT,gS,gZ]
    go_wp2_with (go_at_call 26; refine(B7 (l:=[Aw g.msg p.messages.length,Ac (decide (100<g.coef)) 1,Ac (!AR g.bound) 4]) U.out).mono ?_; rintro r w' ⟨rfl,rfl⟩; rw [J.out])
    first | refine y _ _ ⟨Reg.nm,?_⟩ | refine⟨Reg.nm,?_⟩
    try clear y
    refine Reg.wI [22] [] rfl fun Qf y=>?_
    go_wp2_with fail
    first | refine y _ _ ⟨rfl,?_⟩ | refine⟨rfl,?_⟩
    try clear y
    first | refine Reg.restI_end ?_ | skip
    go_wp2_with fail
    refine⟨⟨k+1,by go_num,by omega,V.out,?_⟩,by simp [intOf]; omega⟩
    show _=_
    rw [Cq _ ab.out hE.out]
    exact I.out
  ·have I:=hide a2
   have al:=hide (show Db p.messages.length l=e by
    unfold Db
    rw [Cd _ ab.out hE.out (by rw [a2]; exact h0),a2,Bz h0])
   have hq:(e != 0)=true:=by simp [h0]
   clear a2 h0
   by_cases q1:g.coef<1
   ·have J:=hide (show Ah id [Aw g.msg p.messages.length,Ac true 1,Ac (!AR g.bound) 4]=e from by
     rw [show true=(!(decide (1≤g.coef)&&decide (g.coef≤100))) from by simp; omega,FN]
     exact I.out)
    refine Reg.cI [0,1,0,4,12,31,0,64,192,511,1023,2047,4095,8191,16383,0,32768,131071,262143,524287,1048575,2097151,4194303] [0,1,2,3,4,6,7,8,15,16,5,9,10,11,12,13,14,17,18,19,20,21,22] ?_
    refine Reg.wI [0,1,2,3,4,6,7,8,15,16] [5,9,10,11,12,13,14,17,18,19,20,21,22] rfl fun Qf y=>?_
    go_wp2_with fail
    first | refine y _ _ ⟨rfl,?_⟩ | refine⟨rfl,?_⟩
    try clear y
    refine Reg.aI 5 [9,10,11,12,13,14,17,18,19,20,21,22] [7,16] rfl fun Qf y=>?_
    simp only [gT,gS,gZ]
    go_wp2_with (go_at_call 52; refine(Cl _ _ _).mono ?_; rintro r w' ⟨rfl,rfl⟩)
    first | refine y _ _ ⟨Reg.same_below (Below.refl _ _) [7,16] rfl,?_⟩ | refine⟨Reg.same_below (Below.refl _ _) [7,16] rfl,?_⟩
    try clear y
    refine Reg.wI [9,10,11,12,13] [14,17,18,19,20,21,22] rfl fun Qf y=>?_
    go_wp2_with fail
    first | refine y _ _ ⟨rfl,?_⟩ | refine⟨rfl,?_⟩
    try clear y
    refine Reg.aI 14 [17,18,19,20,21,22] [16] rfl fun Qf y=>?_
    simp only [gT,gS,gZ]
    go_wp2_with (go_at_call 27; refine(BZ _ _ _).mono ?_; rintro r w' ⟨rfl,rfl⟩)
    first | refine y _ _ ⟨Reg.same_below (Below.refl _ _) [16] rfl,?_⟩ | refine⟨Reg.same_below (Below.refl _ _) [16] rfl,?_⟩
    try clear y
    refine Reg.aI 17 [18,19,20,21,22] [] rfl fun Qf y=>?_
    simp only [gT,gS,gZ]
    go_wp2_with (go_at_call 47; refine Calls.ret (Fr g.bound _) ?_; rintro r M ⟨rfl,z⟩)
    first | refine y _ _ ⟨Reg.nm,?_⟩ | refine⟨Reg.nm,?_⟩
    try clear y
    obtain⟨w4,ae,C,E,O⟩:=Ag M #[.int .i64 (Aw g.msg p.messages.length),.int .i64 (Ac true 1),.int .i64 (Ac (!AR g.bound) 4)] 33
    have U:=hide (B0 (l:=[Aw g.msg p.messages.length,Ac true 1,Ac (!AR g.bound) 4]) E (by simp))
    have V:=hide (F.out.trans (((Ap w2).trans (z.trans (C.mono z.size))).mono F.out.size))
    clear E O C z
    refine Reg.wI [18] [19,20,21,22] rfl fun Qf y=>?_
    go_wp2_with fail
    first | refine y _ _ ⟨rfl,?_⟩ | refine⟨rfl,?_⟩
    try clear y
    refine Reg.aI 19 [20,21,22] [] rfl fun Qf y=>?_
    simp only [gT,gS,gZ]
    go_wp2_with (go_at_call 27; refine(BZ _ _ _).mono ?_; rintro r w' ⟨rfl,rfl⟩)
    first | refine y _ _ ⟨Reg.nm,?_⟩ | refine⟨Reg.nm,?_⟩
    try clear y
    refine Reg.wI [20] [21,22] rfl fun Qf y=>?_
    go_wp2_with fail
    first | refine y _ _ ⟨rfl,?_⟩ | refine⟨rfl,?_⟩
    try clear y
    refine Reg.aI 21 [22] [] rfl fun Qf y=>?_
    simp only [gT,gS,gZ]
    go_wp2_with (go_at_call 26; refine(B7 (l:=[Aw g.msg p.messages.length,Ac true 1,Ac (!AR g.bound) 4]) U.out).mono ?_; rintro r w' ⟨rfl,rfl⟩; rw [J.out])
    first | refine y _ _ ⟨Reg.nm,?_⟩ | refine⟨Reg.nm,?_⟩
    try clear y
    refine Reg.wI [22] [] rfl fun Qf y=>?_
    go_wp2_with fail
    first | refine y _ _ ⟨rfl,?_⟩ | refine⟨rfl,?_⟩
    try clear y
    first | refine Reg.restI_end ?_ | skip
    go_wp2_with fail
    go_ret
    exact⟨by rw [al.out]; rfl,a9.out.trans (V.out.mono a5)⟩
   ·have J:=hide (show Ah id [Aw g.msg p.messages.length,Ac (decide (100<g.coef)) 1,Ac (!AR g.bound) 4]=e from by
     rw [show(decide (100<g.coef))=(!(decide (1≤g.coef)&&decide (g.coef≤100))) from by rw [Bool.eq_iff_iff]; simp; omega,FN]
     exact I.out)
    refine Reg.cI [0,1,0,4,12,31,0,64,192,511,1023,2047,4095,8191,16383,0,32768,131071,262143,524287,1048575,2097151,4194303] [0,1,2,3,4,6,7,8,15,16,5,9,10,11,12,13,14,17,18,19,20,21,22] ?_
    refine Reg.wI [0,1,2,3,4,6,7,8,15,16] [5,9,10,11,12,13,14,17,18,19,20,21,22] rfl fun Qf y=>?_
    go_wp2_with fail
    first | refine y _ _ ⟨rfl,?_⟩ | refine⟨rfl,?_⟩
    try clear y
    refine Reg.aI 5 [9,10,11,12,13,14,17,18,19,20,21,22] [7,16] rfl fun Qf y=>?_
    simp only [gT,gS,gZ]
    go_wp2_with (go_at_call 52; refine(Cl _ _ _).mono ?_; rintro r w' ⟨rfl,rfl⟩)
    first | refine y _ _ ⟨Reg.same_below (Below.refl _ _) [7,16] rfl,?_⟩ | refine⟨Reg.same_below (Below.refl _ _) [7,16] rfl,?_⟩
    try clear y
    refine Reg.wI [9,10,11,12,13] [14,17,18,19,20,21,22] rfl fun Qf y=>?_
    go_wp2_with fail
    first | refine y _ _ ⟨rfl,?_⟩ | refine⟨rfl,?_⟩
    try clear y
    refine Reg.aI 14 [17,18,19,20,21,22] [16] rfl fun Qf y=>?_
    simp only [gT,gS,gZ]
    go_wp2_with (go_at_call 27; refine(BZ _ _ _).mono ?_; rintro r w' ⟨rfl,rfl⟩)
    first | refine y _ _ ⟨Reg.same_below (Below.refl _ _) [16] rfl,?_⟩ | refine⟨Reg.same_below (Below.refl _ _) [16] rfl,?_⟩
    try clear y
    refine Reg.aI 17 [18,19,20,21,22] [] rfl fun Qf y=>?_
    simp only [gT,gS,gZ]
    go_wp2_with (go_at_call 47; refine Calls.ret (Fr g.bound _) ?_; rintro r M ⟨rfl,z⟩)
    first | refine y _ _ ⟨Reg.nm,?_⟩ | refine⟨Reg.nm,?_⟩
    try clear y
    obtain⟨w4,ae,C,E,O⟩:=Ag M #[.int .i64 (Aw g.msg p.messages.length),.int .i64 (Ac (decide (100<g.coef)) 1),.int .i64 (Ac (!AR g.bound) 4)] 33
    have U:=hide (B0 (l:=[Aw g.msg p.messages.length,Ac (decide (100<g.coef)) 1,Ac (!AR g.bound) 4]) E (by simp))
    have V:=hide (F.out.trans (((Ap w2).trans (z.trans (C.mono z.size))).mono F.out.size))
    clear E O C z
    refine Reg.wI [18] [19,20,21,22] rfl fun Qf y=>?_
    go_wp2_with fail
    first | refine y _ _ ⟨rfl,?_⟩ | refine⟨rfl,?_⟩
    try clear y
    refine Reg.aI 19 [20,21,22] [] rfl fun Qf y=>?_
    simp only [gT,gS,gZ]
    go_wp2_with (go_at_call 27; refine(BZ _ _ _).mono ?_; rintro r w' ⟨rfl,rfl⟩)
    first | refine y _ _ ⟨Reg.nm,?_⟩ | refine⟨Reg.nm,?_⟩
    try clear y
    refine Reg.wI [20] [21,22] rfl fun Qf y=>?_
    go_wp2_with fail
    first | refine y _ _ ⟨rfl,?_⟩ | refine⟨rfl,?_⟩
    try clear y
    refine Reg.aI 21 [22] [] rfl fun Qf y=>?_
    simp only [gT,gS,gZ]
    go_wp2_with (go_at_call 26; refine(B7 (l:=[Aw g.msg p.messages.length,Ac (decide (100<g.coef)) 1,Ac (!AR g.bound) 4]) U.out).mono ?_; rintro r w' ⟨rfl,rfl⟩; rw [J.out])
    first | refine y _ _ ⟨Reg.nm,?_⟩ | refine⟨Reg.nm,?_⟩
    try clear y
    refine Reg.wI [22] [] rfl fun Qf y=>?_
    go_wp2_with fail
    first | refine y _ _ ⟨rfl,?_⟩ | refine⟨rfl,?_⟩
    try clear y
    first | refine Reg.restI_end ?_ | skip
    go_wp2_with fail
    go_ret
    exact⟨by rw [al.out]; rfl,a9.out.trans (V.out.mono a5)⟩
end Go.Proofs.YtlakpndhhelliaaGreatDoor.K
