/-
  Part CC of a proof.
-/
import Derived.Test.YtfcfpoemojjglaaGreatDoorAA
import Derived.Test.YtfcfpoemojjglaaGreatDoorPA
set_option maxHeartbeats 16000000
set_option maxRecDepth 100000
set_option linter.unusedVariables false
set_option linter.unusedSimpArgs false
namespace Go.Proofs.YtfcfpoemojjglaaGreatDoor.K
open Go.RowKit
theorem Ch {w:World} {g:Nat} {t:TypeId} {l:List Int} (h:Blk w g t (l.map (Value.int .i64)).toArray) (E:l.length<=9223372036854775807):Sl w w.heap.size 1 Ai (some ⟨g,0,none⟩) l:=by
 refine⟨E,fun _=>⟨g,0,rfl,h.lt,fun k d y j G=>?_⟩⟩;have C:j=0:=by omega
 subst C;rw [h.cell];simp [y,Ai]
theorem Gx (m:Int) (g:Thr):Aj id [AD g.msg m,Ad (!(decide (1<=g.coef)&&decide (g.coef<=100))) 1,Ad (!Bg g.bound) 4]=B7 m g:=by
 simp [Aj,Bk,B7,AD]
theorem P5 {w:World} {cs:List Value} {p:Am} {A:Option Addr} {c:Nat} {l:List Thr} (h:At w w.heap.size cs p) (hl:Sl w w.heap.size 6 CS A l):
  Calls Tryz.prog 210 #[.agg cs.toArray,.slice A l.length c] w (Ret fun r w'=>r=.int .i64 (Dy p.messages.length l)/\Below w.heap.size w w'):=by
 obtain⟨A1,c1,A2,c2,A3,c3,A4,c4,A5,c5,A6,c6,A7,c7,rfl,-,h2,-,-,-,-,-⟩:=h;have aQ:=h2.1;have aR:=hl.1;obtain⟨w1,aT,a6,ag,aG⟩:=Ae w #[.string p.name,.int .i64 p.topo,.slice A1 p.states.length c1,.slice A2 p.messages.length c2,.slice A3 p.values.length c3,.int .i64 p.fault,.slice A4 p.res.length c4,.slice A5 p.initial.length c5,.slice A6 p.leader.length c6,.slice A7 p.rules.length c7] 27;have a7:=a6.size;have hH:=hide ((hl.below a6).mono (B':=w1.heap.size) a7);have a8:=hide a6;have aD:=hide ag;clear a6 h2 hl aG ag;go_enter Tryz.func210,Tryz.ntmps210;go_wp2_with fail;go_loopw [10] (fun ii wr=>∃(k:Nat),ii=.int .i64 (k:Int)/\k<=l.length/\Below w1.heap.size w1 wr/\Hid (Aj (B7 p.messages.length) (l.take k)=0)) (fun ii _=>l.length - (intOf ii).toNat)
 case atStart=>exact⟨0,rfl,Nat.zero_le _,Below.refl _ _,rfl⟩
 case round=>
  obtain⟨k,rfl,hk,Z,hE⟩:=hrel;by_cases aJ:k<l.length
  case neg=>
   have e:k=l.length:=by omega
   have a5:=hE.out;rw [e,List.take_length] at a5;have aL:=hide a5;have ah:=hide (a8.out.trans (Z.mono a7));have hm:=hide (show Ad (decide (2<l.length)) 4=Dy p.messages.length l by unfold Dy; rw [a5,AY]);clear a5 e Z;by_cases q:2<(l.length:Int)
   ·have a2:=hide (show Ad true 4=Dy p.messages.length l by rw [<-hm.out,decide_eq_true (by omega)]);go_wp2_with (go_at_call 121; refine(Ce _ _ _).mono ?_; rintro r w' ⟨rfl,rfl⟩; rw [a2.out]);go_ret;exact⟨rfl,ah.out⟩
   ·have a2:=hide (show Ad false 4=Dy p.messages.length l by rw [<-hm.out,decide_eq_false (by omega)]);go_wp2_with (go_at_call 121; refine(Ce _ _ _).mono ?_; rintro r w' ⟨rfl,rfl⟩; rw [a2.out]);go_ret;exact⟨rfl,ah.out⟩
  obtain⟨b,aU,g,hA,aM,he,J⟩:=(hH.out.below Z).at aJ;have d0:=J 0 (by omega);have d1:=J 1 (by omega);have d2:=J 2 (by omega);have d3:=J 3 (by omega);have d4:=J 4 (by omega);have d5:=J 5 (by omega);simp only [Nat.add_zero,CS] at d0 d1 d2 d3 d4 d5;have a9:=hide he;subst hA;clear J he;obtain⟨w2,a2,ai,aC,aH⟩:=Ae wr #[.int .i64 g.msg,.int .i64 g.coef,.int .i64 g.bound.c,.int .i64 g.bound.n,.int .i64 g.bound.t,.int .i64 g.bound.f] 217;have aF:=hide a2;have aO:=aC.cell;have aB:=(aD.out.below Z).below ai;have aN:=aB.cell;have E:=hide (Z.trans (ai.mono Z.size));clear a2 aH;go_wp2_with fail;rw [aF.out];obtain⟨e,a3⟩:∃e,B7 p.messages.length g=e:=⟨_,rfl⟩;by_cases W:e=0
  ·have U:=hide (show B7 p.messages.length g=0 by rw [a3,W]);clear a3 W;by_cases q1:g.coef<1
   ·have M:=hide (show Aj id [AD g.msg p.messages.length,Ad true 1,Ad (!Bg g.bound) 4]=0 from by
     rw [show true=(!(decide (1<=g.coef)&&decide (g.coef<=100))) from by simp; omega,Gx];exact U.out)
    refine Reg.cI [0,1,0,4,12,31,0,64,192,511,1023,2047,4095,8191,16383,0,32768,131071,262143,524287,1048575,2097151,4194303] [0,1,2,3,4,6,7,8,15,16,5,9,10,11,12,13,14,17,18,19,20,21,22] ?_;refine Reg.wI [0,1,2,3,4,6,7,8,15,16] [5,9,10,11,12,13,14,17,18,19,20,21,22] rfl fun Qf d=>?_;go_wp2_with fail;first | refine d _ _ ⟨rfl,?_⟩ | refine⟨rfl,?_⟩
    (try clear d);refine Reg.aI 5 [9,10,11,12,13,14,17,18,19,20,21,22] [7,16] rfl fun Qf d=>?_;simp only [gT,gS,gZ];go_wp2_with (go_at_call 173; refine(Cu _ _ _).mono ?_; rintro r w' ⟨rfl,rfl⟩);first | refine d _ _ ⟨Reg.same_below (Below.refl _ _) [7,16] rfl,?_⟩ | refine⟨Reg.same_below (Below.refl _ _) [7,16] rfl,?_⟩
    (try clear d);refine Reg.wI [9,10,11,12,13] [14,17,18,19,20,21,22] rfl fun Qf d=>?_;go_wp2_with fail;first | refine d _ _ ⟨rfl,?_⟩ | refine⟨rfl,?_⟩
    (try clear d);refine Reg.aI 14 [17,18,19,20,21,22] [16] rfl fun Qf d=>?_;simp only [gT,gS,gZ];go_wp2_with (go_at_call 121; refine(Ce _ _ _).mono ?_; rintro r w' ⟨rfl,rfl⟩);first | refine d _ _ ⟨Reg.same_below (Below.refl _ _) [16] rfl,?_⟩ | refine⟨Reg.same_below (Below.refl _ _) [16] rfl,?_⟩
    (try clear d);refine Reg.aI 17 [18,19,20,21,22] [] rfl fun Qf d=>?_;simp only [gT,gS,gZ];go_wp2_with (go_at_call 169; refine Calls.ret (FJ g.bound _) ?_; rintro r V ⟨rfl,j⟩);first | refine d _ _ ⟨Reg.nm,?_⟩ | refine⟨Reg.nm,?_⟩
    (try clear d);obtain⟨w4,ab,C,y,O⟩:=Ae V #[.int .i64 (AD g.msg p.messages.length),.int .i64 (Ad true 1),.int .i64 (Ad (!Bg g.bound) 4)] 36;have G:=hide (Ch (l:=[AD g.msg p.messages.length,Ad true 1,Ad (!Bg g.bound) 4]) y (by simp));have I:=hide (E.out.trans (((Ap w2).trans (j.trans (C.mono j.size))).mono E.out.size));clear y O C j;refine Reg.wI [18] [19,20,21,22] rfl fun Qf d=>?_;go_wp2_with fail;first | refine d _ _ ⟨rfl,?_⟩ | refine⟨rfl,?_⟩
    (try clear d);refine Reg.aI 19 [20,21,22] [] rfl fun Qf d=>?_;simp only [gT,gS,gZ];go_wp2_with (go_at_call 121; refine(Ce _ _ _).mono ?_; rintro r w' ⟨rfl,rfl⟩);first | refine d _ _ ⟨Reg.nm,?_⟩ | refine⟨Reg.nm,?_⟩
    (try clear d);refine Reg.wI [20] [21,22] rfl fun Qf d=>?_;go_wp2_with fail;first | refine d _ _ ⟨rfl,?_⟩ | refine⟨rfl,?_⟩
    (try clear d);refine Reg.aI 21 [22] [] rfl fun Qf d=>?_;simp only [gT,gS,gZ];go_wp2_with (go_at_call 120; refine(Ci (l:=[AD g.msg p.messages.length,Ad true 1,Ad (!Bg g.bound) 4]) G.out).mono ?_; rintro r w' ⟨rfl,rfl⟩; rw [M.out]);first | refine d _ _ ⟨Reg.nm,?_⟩ | refine⟨Reg.nm,?_⟩
    (try clear d);refine Reg.wI [22] [] rfl fun Qf d=>?_;go_wp2_with fail;first | refine d _ _ ⟨rfl,?_⟩ | refine⟨rfl,?_⟩
    (try clear d);first | refine Reg.restI_end ?_ | skip
    go_wp2_with fail;refine⟨⟨k+1,by go_num,by omega,I.out,?_⟩,by simp [intOf]; omega⟩;show _=_
    rw [CD _ a9.out hE.out];exact U.out
   ·have M:=hide (show Aj id [AD g.msg p.messages.length,Ad (decide (100<g.coef)) 1,Ad (!Bg g.bound) 4]=0 from by
     rw [show(decide (100<g.coef))=(!(decide (1<=g.coef)&&decide (g.coef<=100))) from by rw [Bool.eq_iff_iff]; simp; omega,Gx];exact U.out)
    refine Reg.cI [0,1,0,4,12,31,0,64,192,511,1023,2047,4095,8191,16383,0,32768,131071,262143,524287,1048575,2097151,4194303] [0,1,2,3,4,6,7,8,15,16,5,9,10,11,12,13,14,17,18,19,20,21,22] ?_;refine Reg.wI [0,1,2,3,4,6,7,8,15,16] [5,9,10,11,12,13,14,17,18,19,20,21,22] rfl fun Qf d=>?_;go_wp2_with fail;first | refine d _ _ ⟨rfl,?_⟩ | refine⟨rfl,?_⟩
    (try clear d);refine Reg.aI 5 [9,10,11,12,13,14,17,18,19,20,21,22] [7,16] rfl fun Qf d=>?_;simp only [gT,gS,gZ];go_wp2_with (go_at_call 173; refine(Cu _ _ _).mono ?_; rintro r w' ⟨rfl,rfl⟩);first | refine d _ _ ⟨Reg.same_below (Below.refl _ _) [7,16] rfl,?_⟩ | refine⟨Reg.same_below (Below.refl _ _) [7,16] rfl,?_⟩
    (try clear d);refine Reg.wI [9,10,11,12,13] [14,17,18,19,20,21,22] rfl fun Qf d=>?_;go_wp2_with fail;first | refine d _ _ ⟨rfl,?_⟩ | refine⟨rfl,?_⟩
    (try clear d);refine Reg.aI 14 [17,18,19,20,21,22] [16] rfl fun Qf d=>?_;simp only [gT,gS,gZ];go_wp2_with (go_at_call 121; refine(Ce _ _ _).mono ?_; rintro r w' ⟨rfl,rfl⟩);first | refine d _ _ ⟨Reg.same_below (Below.refl _ _) [16] rfl,?_⟩ | refine⟨Reg.same_below (Below.refl _ _) [16] rfl,?_⟩
    (try clear d);refine Reg.aI 17 [18,19,20,21,22] [] rfl fun Qf d=>?_;simp only [gT,gS,gZ];go_wp2_with (go_at_call 169; refine Calls.ret (FJ g.bound _) ?_; rintro r V ⟨rfl,j⟩);first | refine d _ _ ⟨Reg.nm,?_⟩ | refine⟨Reg.nm,?_⟩
    (try clear d);obtain⟨w4,ab,C,y,O⟩:=Ae V #[.int .i64 (AD g.msg p.messages.length),.int .i64 (Ad (decide (100<g.coef)) 1),.int .i64 (Ad (!Bg g.bound) 4)] 36;have G:=hide (Ch (l:=[AD g.msg p.messages.length,Ad (decide (100<g.coef)) 1,Ad (!Bg g.bound) 4]) y (by simp));have I:=hide (E.out.trans (((Ap w2).trans (j.trans (C.mono j.size))).mono E.out.size));clear y O C j;refine Reg.wI [18] [19,20,21,22] rfl fun Qf d=>?_;go_wp2_with fail;first | refine d _ _ ⟨rfl,?_⟩ | refine⟨rfl,?_⟩
    (try clear d);refine Reg.aI 19 [20,21,22] [] rfl fun Qf d=>?_;simp only [gT,gS,gZ];go_wp2_with (go_at_call 121; refine(Ce _ _ _).mono ?_; rintro r w' ⟨rfl,rfl⟩);first | refine d _ _ ⟨Reg.nm,?_⟩ | refine⟨Reg.nm,?_⟩
    (try clear d);refine Reg.wI [20] [21,22] rfl fun Qf d=>?_;go_wp2_with fail;first | refine d _ _ ⟨rfl,?_⟩ | refine⟨rfl,?_⟩
    (try clear d);refine Reg.aI 21 [22] [] rfl fun Qf d=>?_;simp only [gT,gS,gZ];go_wp2_with (go_at_call 120; refine(Ci (l:=[AD g.msg p.messages.length,Ad (decide (100<g.coef)) 1,Ad (!Bg g.bound) 4]) G.out).mono ?_; rintro r w' ⟨rfl,rfl⟩; rw [M.out]);first | refine d _ _ ⟨Reg.nm,?_⟩ | refine⟨Reg.nm,?_⟩
    (try clear d);refine Reg.wI [22] [] rfl fun Qf d=>?_;go_wp2_with fail;first | refine d _ _ ⟨rfl,?_⟩ | refine⟨rfl,?_⟩
    (try clear d);first | refine Reg.restI_end ?_ | skip
    go_wp2_with fail;refine⟨⟨k+1,by go_num,by omega,I.out,?_⟩,by simp [intOf]; omega⟩;show _=_
    rw [CD _ a9.out hE.out];exact U.out
  ·have U:=hide a3;have ak:=hide (show Dy p.messages.length l=e by
    unfold Dy;rw [Ct _ a9.out hE.out (by rw [a3]; exact W),a3,BF W])
   have hq:(e != 0)=true:=by simp [W]
   clear a3 W;by_cases q1:g.coef<1
   ·have M:=hide (show Aj id [AD g.msg p.messages.length,Ad true 1,Ad (!Bg g.bound) 4]=e from by
     rw [show true=(!(decide (1<=g.coef)&&decide (g.coef<=100))) from by simp; omega,Gx];exact U.out)
    refine Reg.cI [0,1,0,4,12,31,0,64,192,511,1023,2047,4095,8191,16383,0,32768,131071,262143,524287,1048575,2097151,4194303] [0,1,2,3,4,6,7,8,15,16,5,9,10,11,12,13,14,17,18,19,20,21,22] ?_;refine Reg.wI [0,1,2,3,4,6,7,8,15,16] [5,9,10,11,12,13,14,17,18,19,20,21,22] rfl fun Qf d=>?_;go_wp2_with fail;first | refine d _ _ ⟨rfl,?_⟩ | refine⟨rfl,?_⟩
    (try clear d);refine Reg.aI 5 [9,10,11,12,13,14,17,18,19,20,21,22] [7,16] rfl fun Qf d=>?_;simp only [gT,gS,gZ];go_wp2_with (go_at_call 173; refine(Cu _ _ _).mono ?_; rintro r w' ⟨rfl,rfl⟩);first | refine d _ _ ⟨Reg.same_below (Below.refl _ _) [7,16] rfl,?_⟩ | refine⟨Reg.same_below (Below.refl _ _) [7,16] rfl,?_⟩
    (try clear d);refine Reg.wI [9,10,11,12,13] [14,17,18,19,20,21,22] rfl fun Qf d=>?_;go_wp2_with fail;first | refine d _ _ ⟨rfl,?_⟩ | refine⟨rfl,?_⟩
    (try clear d);refine Reg.aI 14 [17,18,19,20,21,22] [16] rfl fun Qf d=>?_;simp only [gT,gS,gZ];go_wp2_with (go_at_call 121; refine(Ce _ _ _).mono ?_; rintro r w' ⟨rfl,rfl⟩);first | refine d _ _ ⟨Reg.same_below (Below.refl _ _) [16] rfl,?_⟩ | refine⟨Reg.same_below (Below.refl _ _) [16] rfl,?_⟩
    (try clear d);refine Reg.aI 17 [18,19,20,21,22] [] rfl fun Qf d=>?_;simp only [gT,gS,gZ];go_wp2_with (go_at_call 169; refine Calls.ret (FJ g.bound _) ?_; rintro r V ⟨rfl,j⟩);first | refine d _ _ ⟨Reg.nm,?_⟩ | refine⟨Reg.nm,?_⟩
    (try clear d);obtain⟨w4,ab,C,y,O⟩:=Ae V #[.int .i64 (AD g.msg p.messages.length),.int .i64 (Ad true 1),.int .i64 (Ad (!Bg g.bound) 4)] 36;have G:=hide (Ch (l:=[AD g.msg p.messages.length,Ad true 1,Ad (!Bg g.bound) 4]) y (by simp));have I:=hide (E.out.trans (((Ap w2).trans (j.trans (C.mono j.size))).mono E.out.size));clear y O C j;refine Reg.wI [18] [19,20,21,22] rfl fun Qf d=>?_;go_wp2_with fail;first | refine d _ _ ⟨rfl,?_⟩ | refine⟨rfl,?_⟩
    (try clear d);refine Reg.aI 19 [20,21,22] [] rfl fun Qf d=>?_;simp only [gT,gS,gZ];go_wp2_with (go_at_call 121; refine(Ce _ _ _).mono ?_; rintro r w' ⟨rfl,rfl⟩);first | refine d _ _ ⟨Reg.nm,?_⟩ | refine⟨Reg.nm,?_⟩
    (try clear d);refine Reg.wI [20] [21,22] rfl fun Qf d=>?_;go_wp2_with fail;first | refine d _ _ ⟨rfl,?_⟩ | refine⟨rfl,?_⟩
    (try clear d);refine Reg.aI 21 [22] [] rfl fun Qf d=>?_;simp only [gT,gS,gZ];go_wp2_with (go_at_call 120; refine(Ci (l:=[AD g.msg p.messages.length,Ad true 1,Ad (!Bg g.bound) 4]) G.out).mono ?_; rintro r w' ⟨rfl,rfl⟩; rw [M.out]);first | refine d _ _ ⟨Reg.nm,?_⟩ | refine⟨Reg.nm,?_⟩
    (try clear d);refine Reg.wI [22] [] rfl fun Qf d=>?_;go_wp2_with fail;first | refine d _ _ ⟨rfl,?_⟩ | refine⟨rfl,?_⟩
    (try clear d);first | refine Reg.restI_end ?_ | skip
    go_wp2_with fail;go_ret;exact⟨by rw [ak.out]; rfl,a8.out.trans (I.out.mono a7)⟩
   ·have M:=hide (show Aj id [AD g.msg p.messages.length,Ad (decide (100<g.coef)) 1,Ad (!Bg g.bound) 4]=e from by
     rw [show(decide (100<g.coef))=(!(decide (1<=g.coef)&&decide (g.coef<=100))) from by rw [Bool.eq_iff_iff]; simp; omega,Gx];exact U.out)
    refine Reg.cI [0,1,0,4,12,31,0,64,192,511,1023,2047,4095,8191,16383,0,32768,131071,262143,524287,1048575,2097151,4194303] [0,1,2,3,4,6,7,8,15,16,5,9,10,11,12,13,14,17,18,19,20,21,22] ?_;refine Reg.wI [0,1,2,3,4,6,7,8,15,16] [5,9,10,11,12,13,14,17,18,19,20,21,22] rfl fun Qf d=>?_;go_wp2_with fail;first | refine d _ _ ⟨rfl,?_⟩ | refine⟨rfl,?_⟩
    (try clear d);refine Reg.aI 5 [9,10,11,12,13,14,17,18,19,20,21,22] [7,16] rfl fun Qf d=>?_;simp only [gT,gS,gZ];go_wp2_with (go_at_call 173; refine(Cu _ _ _).mono ?_; rintro r w' ⟨rfl,rfl⟩);first | refine d _ _ ⟨Reg.same_below (Below.refl _ _) [7,16] rfl,?_⟩ | refine⟨Reg.same_below (Below.refl _ _) [7,16] rfl,?_⟩
    (try clear d);refine Reg.wI [9,10,11,12,13] [14,17,18,19,20,21,22] rfl fun Qf d=>?_;go_wp2_with fail;first | refine d _ _ ⟨rfl,?_⟩ | refine⟨rfl,?_⟩
    (try clear d);refine Reg.aI 14 [17,18,19,20,21,22] [16] rfl fun Qf d=>?_;simp only [gT,gS,gZ];go_wp2_with (go_at_call 121; refine(Ce _ _ _).mono ?_; rintro r w' ⟨rfl,rfl⟩);first | refine d _ _ ⟨Reg.same_below (Below.refl _ _) [16] rfl,?_⟩ | refine⟨Reg.same_below (Below.refl _ _) [16] rfl,?_⟩
    (try clear d);refine Reg.aI 17 [18,19,20,21,22] [] rfl fun Qf d=>?_;simp only [gT,gS,gZ];go_wp2_with (go_at_call 169; refine Calls.ret (FJ g.bound _) ?_; rintro r V ⟨rfl,j⟩);first | refine d _ _ ⟨Reg.nm,?_⟩ | refine⟨Reg.nm,?_⟩
    (try clear d);obtain⟨w4,ab,C,y,O⟩:=Ae V #[.int .i64 (AD g.msg p.messages.length),.int .i64 (Ad (decide (100<g.coef)) 1),.int .i64 (Ad (!Bg g.bound) 4)] 36;have G:=hide (Ch (l:=[AD g.msg p.messages.length,Ad (decide (100<g.coef)) 1,Ad (!Bg g.bound) 4]) y (by simp));have I:=hide (E.out.trans (((Ap w2).trans (j.trans (C.mono j.size))).mono E.out.size));clear y O C j;refine Reg.wI [18] [19,20,21,22] rfl fun Qf d=>?_;go_wp2_with fail;first | refine d _ _ ⟨rfl,?_⟩ | refine⟨rfl,?_⟩
    (try clear d);refine Reg.aI 19 [20,21,22] [] rfl fun Qf d=>?_;simp only [gT,gS,gZ];go_wp2_with (go_at_call 121; refine(Ce _ _ _).mono ?_; rintro r w' ⟨rfl,rfl⟩);first | refine d _ _ ⟨Reg.nm,?_⟩ | refine⟨Reg.nm,?_⟩
    (try clear d);refine Reg.wI [20] [21,22] rfl fun Qf d=>?_;go_wp2_with fail;first | refine d _ _ ⟨rfl,?_⟩ | refine⟨rfl,?_⟩
    (try clear d);refine Reg.aI 21 [22] [] rfl fun Qf d=>?_;simp only [gT,gS,gZ];go_wp2_with (go_at_call 120; refine(Ci (l:=[AD g.msg p.messages.length,Ad (decide (100<g.coef)) 1,Ad (!Bg g.bound) 4]) G.out).mono ?_; rintro r w' ⟨rfl,rfl⟩; rw [M.out]);first | refine d _ _ ⟨Reg.nm,?_⟩ | refine⟨Reg.nm,?_⟩
    (try clear d);refine Reg.wI [22] [] rfl fun Qf d=>?_;go_wp2_with fail;first | refine d _ _ ⟨rfl,?_⟩ | refine⟨rfl,?_⟩
    (try clear d);first | refine Reg.restI_end ?_ | skip
    go_wp2_with fail;go_ret;exact⟨by rw [ak.out]; rfl,a8.out.trans (I.out.mono a7)⟩
end Go.Proofs.YtfcfpoemojjglaaGreatDoor.K
