/-
  Part CC of a proof.
-/
import Derived.Test.YtjejejmeddkciaaGreatDoorAA
import Derived.Test.YtjejejmeddkciaaGreatDoorPA
set_option maxHeartbeats 16000000
set_option maxRecDepth 100000
set_option linter.unusedVariables false
set_option linter.unusedSimpArgs false
namespace Go.Proofs.YtjejejmeddkciaaGreatDoor.K
open Go.RowKit
theorem Ch {w:World} {g:Nat} {t:TypeId} {l:List Int} (h:Blk w g t (l.map (Value.int .i64)).toArray) (F:l.length<=9223372036854775807):Sl w w.heap.size 1 Ai (some ⟨g,0,none⟩) l:=by
 refine⟨F,fun _=>⟨g,0,rfl,h.lt,fun k d C j G=>?_⟩⟩;have E:j=0:=by omega
 subst E;rw [h.cell];simp [C,Ai]
theorem Gx (m:Int) (g:Thr):Aj id [AD g.msg m,Ad (!(decide (1<=g.coef)&&decide (g.coef<=100))) 1,Ad (!Bg g.bound) 4]=B7 m g:=by
 simp [Aj,Bk,B7,AD]
theorem P5 {w:World} {cs:List Value} {p:Am} {A:Option Addr} {c:Nat} {l:List Thr} (h:At w w.heap.size cs p) (hl:Sl w w.heap.size 6 CS A l):
  Calls Tryz.prog 175 #[.agg cs.toArray,.slice A l.length c] w (Ret fun r w'=>r=.int .i64 (Dy p.messages.length l)/\Below w.heap.size w w'):=by
 obtain⟨A1,c1,A2,c2,A3,c3,A4,c4,A5,c5,A6,c6,A7,c7,rfl,-,h2,-,-,-,-,-⟩:=h;have aV:=h2.1;have aW:=hl.1;obtain⟨w1,aY,a7,ai,aM⟩:=Ae w #[.string p.name,.int .i64 p.topo,.slice A1 p.states.length c1,.slice A2 p.messages.length c2,.slice A3 p.values.length c3,.int .i64 p.fault,.slice A4 p.res.length c4,.slice A5 p.initial.length c5,.slice A6 p.leader.length c6,.slice A7 p.rules.length c7] 27;have a8:=a7.size;have hH:=hide ((hl.below a7).mono (B':=w1.heap.size) a8);have a9:=hide a7;have aJ:=hide ai;clear a7 h2 hl aM ai;go_enter Tryz.func175,Tryz.ntmps175;go_wp2_with fail;go_loopw [10] (fun ii wr=>∃(k:Nat),ii=.int .i64 (k:Int)/\k<=l.length/\Below w1.heap.size w1 wr/\Hid (Aj (B7 p.messages.length) (l.take k)=0)) (fun ii _=>l.length - (intOf ii).toNat)
 case atStart=>exact⟨0,rfl,Nat.zero_le _,Below.refl _ _,rfl⟩
 case round=>
  obtain⟨k,rfl,hk,hB,hE⟩:=hrel;by_cases aO:k<l.length
  case neg=>
   have e:k=l.length:=by omega
   have a6:=hE.out;rw [e,List.take_length] at a6;have aQ:=hide a6;have aj:=hide (a9.out.trans (hB.mono a8));have hm:=hide (show Ad (decide (2<l.length)) 4=Dy p.messages.length l by unfold Dy;rw [a6,AY]);clear a6 e hB;by_cases q:2<(l.length:Int)
   ·have a3:=hide (show Ad true 4=Dy p.messages.length l by rw [<-hm.out,decide_eq_true (by omega)]);go_wp2_with (go_at_call 90;refine(Ce _ _ _).mono ?_;rintro r w' ⟨rfl,rfl⟩;rw [a3.out]);go_ret;exact⟨rfl,aj.out⟩
   ·have a3:=hide (show Ad false 4=Dy p.messages.length l by rw [<-hm.out,decide_eq_false (by omega)]);go_wp2_with (go_at_call 90;refine(Ce _ _ _).mono ?_;rintro r w' ⟨rfl,rfl⟩;rw [a3.out]);go_ret;exact⟨rfl,aj.out⟩
  obtain⟨b,off,g,hA,aR,he,O⟩:=(hH.out.below hB).at aO;have d0:=O 0 (by omega);have d1:=O 1 (by omega);have d2:=O 2 (by omega);have d3:=O 3 (by omega);have d4:=O 4 (by omega);have d5:=O 5 (by omega);simp only [Nat.add_zero,CS] at d0 d1 d2 d3 d4 d5;have aa:=hide he;subst hA;clear O he;obtain⟨w2,a3,ak,aH,aN⟩:=Ae wr #[.int .i64 g.msg,.int .i64 g.coef,.int .i64 g.bound.c,.int .i64 g.bound.n,.int .i64 g.bound.t,.int .i64 g.bound.f] 208;have aL:=hide a3;have aT:=aH.cell;have aG:=(aJ.out.below hB).below ak;have aS:=aG.cell;have I:=hide (hB.trans (ak.mono hB.size));clear a3 aN;go_wp2_with fail;rw [aL.out];obtain⟨e,a4⟩:∃e,B7 p.messages.length g=e:=⟨_,rfl⟩;by_cases h0:e=0
  ·have W:=hide (show B7 p.messages.length g=0 by rw [a4,h0]);clear a4 h0;by_cases q1:g.coef<1
   ·have U:=hide (show Aj id [AD g.msg p.messages.length,Ad true 1,Ad (!Bg g.bound) 4]=0 from by
     rw [show true=(!(decide (1<=g.coef)&&decide (g.coef<=100))) from by simp;omega,Gx];exact W.out)
    refine Reg.cI [0,1,0,4,12,31,0,64,192,511,1023,2047,4095,8191,16383,0,32768,131071,262143,524287,1048575,2097151,4194303] [0,1,2,3,4,6,7,8,15,16,5,9,10,11,12,13,14,17,18,19,20,21,22] ?_;refine Reg.wI [0,1,2,3,4,6,7,8,15,16] [5,9,10,11,12,13,14,17,18,19,20,21,22] rfl fun Qf C=>?_;go_wp2_with fail;first|refine C _ _ ⟨rfl,?_⟩|refine⟨rfl,?_⟩
    (try clear C);refine Reg.aI 5 [9,10,11,12,13,14,17,18,19,20,21,22] [7,16] rfl fun Qf C=>?_;simp only [gT,gS,gZ];go_wp2_with (go_at_call 145;refine(Cu _ _ _).mono ?_;rintro r w' ⟨rfl,rfl⟩);first|refine C _ _ ⟨Reg.same_below (Below.refl _ _) [7,16] rfl,?_⟩|refine⟨Reg.same_below (Below.refl _ _) [7,16] rfl,?_⟩
    (try clear C);refine Reg.wI [9,10,11,12,13] [14,17,18,19,20,21,22] rfl fun Qf C=>?_;go_wp2_with fail;first|refine C _ _ ⟨rfl,?_⟩|refine⟨rfl,?_⟩
    (try clear C);refine Reg.aI 14 [17,18,19,20,21,22] [16] rfl fun Qf C=>?_;simp only [gT,gS,gZ];go_wp2_with (go_at_call 90;refine(Ce _ _ _).mono ?_;rintro r w' ⟨rfl,rfl⟩);first|refine C _ _ ⟨Reg.same_below (Below.refl _ _) [16] rfl,?_⟩|refine⟨Reg.same_below (Below.refl _ _) [16] rfl,?_⟩
    (try clear C);refine Reg.aI 17 [18,19,20,21,22] [] rfl fun Qf C=>?_;simp only [gT,gS,gZ];go_wp2_with (go_at_call 141;refine Calls.ret (FJ g.bound _) ?_;rintro r Z ⟨rfl,E⟩);first|refine C _ _ ⟨Reg.nm,?_⟩|refine⟨Reg.nm,?_⟩
    (try clear C);obtain⟨w4,ad,G,F,V⟩:=Ae Z #[.int .i64 (AD g.msg p.messages.length),.int .i64 (Ad true 1),.int .i64 (Ad (!Bg g.bound) 4)] 40;have J:=hide (Ch (l:=[AD g.msg p.messages.length,Ad true 1,Ad (!Bg g.bound) 4]) F (by simp));have M:=hide (I.out.trans (((Ap w2).trans (E.trans (G.mono E.size))).mono I.out.size));clear F V G E;refine Reg.wI [18] [19,20,21,22] rfl fun Qf C=>?_;go_wp2_with fail;first|refine C _ _ ⟨rfl,?_⟩|refine⟨rfl,?_⟩
    (try clear C);refine Reg.aI 19 [20,21,22] [] rfl fun Qf C=>?_;simp only [gT,gS,gZ];go_wp2_with (go_at_call 90;refine(Ce _ _ _).mono ?_;rintro r w' ⟨rfl,rfl⟩);first|refine C _ _ ⟨Reg.nm,?_⟩|refine⟨Reg.nm,?_⟩
    (try clear C);refine Reg.wI [20] [21,22] rfl fun Qf C=>?_;go_wp2_with fail;first|refine C _ _ ⟨rfl,?_⟩|refine⟨rfl,?_⟩
    (try clear C);refine Reg.aI 21 [22] [] rfl fun Qf C=>?_;simp only [gT,gS,gZ];go_wp2_with (go_at_call 89;refine(Ci (l:=[AD g.msg p.messages.length,Ad true 1,Ad (!Bg g.bound) 4]) J.out).mono ?_;rintro r w' ⟨rfl,rfl⟩;rw [U.out]);first|refine C _ _ ⟨Reg.nm,?_⟩|refine⟨Reg.nm,?_⟩
    (try clear C);refine Reg.wI [22] [] rfl fun Qf C=>?_;go_wp2_with fail;first|refine C _ _ ⟨rfl,?_⟩|refine⟨rfl,?_⟩
    (try clear C);first|refine Reg.restI_end ?_|skip
    go_wp2_with fail;refine⟨⟨k+1,by go_num,by omega,M.out,?_⟩,by simp [intOf];omega⟩;show _=_
    rw [CD _ aa.out hE.out];exact W.out
   ·have U:=hide (show Aj id [AD g.msg p.messages.length,Ad (decide (100<g.coef)) 1,Ad (!Bg g.bound) 4]=0 from by
     rw [show(decide (100<g.coef))=(!(decide (1<=g.coef)&&decide (g.coef<=100))) from by rw [Bool.eq_iff_iff];simp;omega,Gx];exact W.out)
    refine Reg.cI [0,1,0,4,12,31,0,64,192,511,1023,2047,4095,8191,16383,0,32768,131071,262143,524287,1048575,2097151,4194303] [0,1,2,3,4,6,7,8,15,16,5,9,10,11,12,13,14,17,18,19,20,21,22] ?_;refine Reg.wI [0,1,2,3,4,6,7,8,15,16] [5,9,10,11,12,13,14,17,18,19,20,21,22] rfl fun Qf C=>?_;go_wp2_with fail;first|refine C _ _ ⟨rfl,?_⟩|refine⟨rfl,?_⟩
    (try clear C);refine Reg.aI 5 [9,10,11,12,13,14,17,18,19,20,21,22] [7,16] rfl fun Qf C=>?_;simp only [gT,gS,gZ];go_wp2_with (go_at_call 145;refine(Cu _ _ _).mono ?_;rintro r w' ⟨rfl,rfl⟩);first|refine C _ _ ⟨Reg.same_below (Below.refl _ _) [7,16] rfl,?_⟩|refine⟨Reg.same_below (Below.refl _ _) [7,16] rfl,?_⟩
    (try clear C);refine Reg.wI [9,10,11,12,13] [14,17,18,19,20,21,22] rfl fun Qf C=>?_;go_wp2_with fail;first|refine C _ _ ⟨rfl,?_⟩|refine⟨rfl,?_⟩
    (try clear C);refine Reg.aI 14 [17,18,19,20,21,22] [16] rfl fun Qf C=>?_;simp only [gT,gS,gZ];go_wp2_with (go_at_call 90;refine(Ce _ _ _).mono ?_;rintro r w' ⟨rfl,rfl⟩);first|refine C _ _ ⟨Reg.same_below (Below.refl _ _) [16] rfl,?_⟩|refine⟨Reg.same_below (Below.refl _ _) [16] rfl,?_⟩
    (try clear C);refine Reg.aI 17 [18,19,20,21,22] [] rfl fun Qf C=>?_;simp only [gT,gS,gZ];go_wp2_with (go_at_call 141;refine Calls.ret (FJ g.bound _) ?_;rintro r Z ⟨rfl,E⟩);first|refine C _ _ ⟨Reg.nm,?_⟩|refine⟨Reg.nm,?_⟩
    (try clear C);obtain⟨w4,ad,G,F,V⟩:=Ae Z #[.int .i64 (AD g.msg p.messages.length),.int .i64 (Ad (decide (100<g.coef)) 1),.int .i64 (Ad (!Bg g.bound) 4)] 40;have J:=hide (Ch (l:=[AD g.msg p.messages.length,Ad (decide (100<g.coef)) 1,Ad (!Bg g.bound) 4]) F (by simp));have M:=hide (I.out.trans (((Ap w2).trans (E.trans (G.mono E.size))).mono I.out.size));clear F V G E;refine Reg.wI [18] [19,20,21,22] rfl fun Qf C=>?_;go_wp2_with fail;first|refine C _ _ ⟨rfl,?_⟩|refine⟨rfl,?_⟩
    (try clear C);refine Reg.aI 19 [20,21,22] [] rfl fun Qf C=>?_;simp only [gT,gS,gZ];go_wp2_with (go_at_call 90;refine(Ce _ _ _).mono ?_;rintro r w' ⟨rfl,rfl⟩);first|refine C _ _ ⟨Reg.nm,?_⟩|refine⟨Reg.nm,?_⟩
    (try clear C);refine Reg.wI [20] [21,22] rfl fun Qf C=>?_;go_wp2_with fail;first|refine C _ _ ⟨rfl,?_⟩|refine⟨rfl,?_⟩
    (try clear C);refine Reg.aI 21 [22] [] rfl fun Qf C=>?_;simp only [gT,gS,gZ];go_wp2_with (go_at_call 89;refine(Ci (l:=[AD g.msg p.messages.length,Ad (decide (100<g.coef)) 1,Ad (!Bg g.bound) 4]) J.out).mono ?_;rintro r w' ⟨rfl,rfl⟩;rw [U.out]);first|refine C _ _ ⟨Reg.nm,?_⟩|refine⟨Reg.nm,?_⟩
    (try clear C);refine Reg.wI [22] [] rfl fun Qf C=>?_;go_wp2_with fail;first|refine C _ _ ⟨rfl,?_⟩|refine⟨rfl,?_⟩
    (try clear C);first|refine Reg.restI_end ?_|skip
    go_wp2_with fail;refine⟨⟨k+1,by go_num,by omega,M.out,?_⟩,by simp [intOf];omega⟩;show _=_
    rw [CD _ aa.out hE.out];exact W.out
  ·have W:=hide a4;have an:=hide (show Dy p.messages.length l=e by
    unfold Dy;rw [Ct _ aa.out hE.out (by rw [a4];exact h0),a4,BF h0])
   have hq:(e != 0)=true:=by simp [h0]
   clear a4 h0;by_cases q1:g.coef<1
   ·have U:=hide (show Aj id [AD g.msg p.messages.length,Ad true 1,Ad (!Bg g.bound) 4]=e from by
     rw [show true=(!(decide (1<=g.coef)&&decide (g.coef<=100))) from by simp;omega,Gx];exact W.out)
    refine Reg.cI [0,1,0,4,12,31,0,64,192,511,1023,2047,4095,8191,16383,0,32768,131071,262143,524287,1048575,2097151,4194303] [0,1,2,3,4,6,7,8,15,16,5,9,10,11,12,13,14,17,18,19,20,21,22] ?_;refine Reg.wI [0,1,2,3,4,6,7,8,15,16] [5,9,10,11,12,13,14,17,18,19,20,21,22] rfl fun Qf C=>?_;go_wp2_with fail;first|refine C _ _ ⟨rfl,?_⟩|refine⟨rfl,?_⟩
    (try clear C);refine Reg.aI 5 [9,10,11,12,13,14,17,18,19,20,21,22] [7,16] rfl fun Qf C=>?_;simp only [gT,gS,gZ];go_wp2_with (go_at_call 145;refine(Cu _ _ _).mono ?_;rintro r w' ⟨rfl,rfl⟩);first|refine C _ _ ⟨Reg.same_below (Below.refl _ _) [7,16] rfl,?_⟩|refine⟨Reg.same_below (Below.refl _ _) [7,16] rfl,?_⟩
    (try clear C);refine Reg.wI [9,10,11,12,13] [14,17,18,19,20,21,22] rfl fun Qf C=>?_;go_wp2_with fail;first|refine C _ _ ⟨rfl,?_⟩|refine⟨rfl,?_⟩
    (try clear C);refine Reg.aI 14 [17,18,19,20,21,22] [16] rfl fun Qf C=>?_;simp only [gT,gS,gZ];go_wp2_with (go_at_call 90;refine(Ce _ _ _).mono ?_;rintro r w' ⟨rfl,rfl⟩);first|refine C _ _ ⟨Reg.same_below (Below.refl _ _) [16] rfl,?_⟩|refine⟨Reg.same_below (Below.refl _ _) [16] rfl,?_⟩
    (try clear C);refine Reg.aI 17 [18,19,20,21,22] [] rfl fun Qf C=>?_;simp only [gT,gS,gZ];go_wp2_with (go_at_call 141;refine Calls.ret (FJ g.bound _) ?_;rintro r Z ⟨rfl,E⟩);first|refine C _ _ ⟨Reg.nm,?_⟩|refine⟨Reg.nm,?_⟩
    (try clear C);obtain⟨w4,ad,G,F,V⟩:=Ae Z #[.int .i64 (AD g.msg p.messages.length),.int .i64 (Ad true 1),.int .i64 (Ad (!Bg g.bound) 4)] 40;have J:=hide (Ch (l:=[AD g.msg p.messages.length,Ad true 1,Ad (!Bg g.bound) 4]) F (by simp));have M:=hide (I.out.trans (((Ap w2).trans (E.trans (G.mono E.size))).mono I.out.size));clear F V G E;refine Reg.wI [18] [19,20,21,22] rfl fun Qf C=>?_;go_wp2_with fail;first|refine C _ _ ⟨rfl,?_⟩|refine⟨rfl,?_⟩
    (try clear C);refine Reg.aI 19 [20,21,22] [] rfl fun Qf C=>?_;simp only [gT,gS,gZ];go_wp2_with (go_at_call 90;refine(Ce _ _ _).mono ?_;rintro r w' ⟨rfl,rfl⟩);first|refine C _ _ ⟨Reg.nm,?_⟩|refine⟨Reg.nm,?_⟩
    (try clear C);refine Reg.wI [20] [21,22] rfl fun Qf C=>?_;go_wp2_with fail;first|refine C _ _ ⟨rfl,?_⟩|refine⟨rfl,?_⟩
    (try clear C);refine Reg.aI 21 [22] [] rfl fun Qf C=>?_;simp only [gT,gS,gZ];go_wp2_with (go_at_call 89;refine(Ci (l:=[AD g.msg p.messages.length,Ad true 1,Ad (!Bg g.bound) 4]) J.out).mono ?_;rintro r w' ⟨rfl,rfl⟩;rw [U.out]);first|refine C _ _ ⟨Reg.nm,?_⟩|refine⟨Reg.nm,?_⟩
    (try clear C);refine Reg.wI [22] [] rfl fun Qf C=>?_;go_wp2_with fail;first|refine C _ _ ⟨rfl,?_⟩|refine⟨rfl,?_⟩
    (try clear C);first|refine Reg.restI_end ?_|skip
    go_wp2_with fail;go_ret;exact⟨by rw [an.out];rfl,a9.out.trans (M.out.mono a8)⟩
   ·have U:=hide (show Aj id [AD g.msg p.messages.length,Ad (decide (100<g.coef)) 1,Ad (!Bg g.bound) 4]=e from by
     rw [show(decide (100<g.coef))=(!(decide (1<=g.coef)&&decide (g.coef<=100))) from by rw [Bool.eq_iff_iff];simp;omega,Gx];exact W.out)
    refine Reg.cI [0,1,0,4,12,31,0,64,192,511,1023,2047,4095,8191,16383,0,32768,131071,262143,524287,1048575,2097151,4194303] [0,1,2,3,4,6,7,8,15,16,5,9,10,11,12,13,14,17,18,19,20,21,22] ?_;refine Reg.wI [0,1,2,3,4,6,7,8,15,16] [5,9,10,11,12,13,14,17,18,19,20,21,22] rfl fun Qf C=>?_;go_wp2_with fail;first|refine C _ _ ⟨rfl,?_⟩|refine⟨rfl,?_⟩
    (try clear C);refine Reg.aI 5 [9,10,11,12,13,14,17,18,19,20,21,22] [7,16] rfl fun Qf C=>?_;simp only [gT,gS,gZ];go_wp2_with (go_at_call 145;refine(Cu _ _ _).mono ?_;rintro r w' ⟨rfl,rfl⟩);first|refine C _ _ ⟨Reg.same_below (Below.refl _ _) [7,16] rfl,?_⟩|refine⟨Reg.same_below (Below.refl _ _) [7,16] rfl,?_⟩
    (try clear C);refine Reg.wI [9,10,11,12,13] [14,17,18,19,20,21,22] rfl fun Qf C=>?_;go_wp2_with fail;first|refine C _ _ ⟨rfl,?_⟩|refine⟨rfl,?_⟩
    (try clear C);refine Reg.aI 14 [17,18,19,20,21,22] [16] rfl fun Qf C=>?_;simp only [gT,gS,gZ];go_wp2_with (go_at_call 90;refine(Ce _ _ _).mono ?_;rintro r w' ⟨rfl,rfl⟩);first|refine C _ _ ⟨Reg.same_below (Below.refl _ _) [16] rfl,?_⟩|refine⟨Reg.same_below (Below.refl _ _) [16] rfl,?_⟩
    (try clear C);refine Reg.aI 17 [18,19,20,21,22] [] rfl fun Qf C=>?_;simp only [gT,gS,gZ];go_wp2_with (go_at_call 141;refine Calls.ret (FJ g.bound _) ?_;rintro r Z ⟨rfl,E⟩);first|refine C _ _ ⟨Reg.nm,?_⟩|refine⟨Reg.nm,?_⟩
    (try clear C);obtain⟨w4,ad,G,F,V⟩:=Ae Z #[.int .i64 (AD g.msg p.messages.length),.int .i64 (Ad (decide (100<g.coef)) 1),.int .i64 (Ad (!Bg g.bound) 4)] 40;have J:=hide (Ch (l:=[AD g.msg p.messages.length,Ad (decide (100<g.coef)) 1,Ad (!Bg g.bound) 4]) F (by simp));have M:=hide (I.out.trans (((Ap w2).trans (E.trans (G.mono E.size))).mono I.out.size));clear F V G E;refine Reg.wI [18] [19,20,21,22] rfl fun Qf C=>?_;go_wp2_with fail;first|refine C _ _ ⟨rfl,?_⟩|refine⟨rfl,?_⟩
    (try clear C);refine Reg.aI 19 [20,21,22] [] rfl fun Qf C=>?_;simp only [gT,gS,gZ];go_wp2_with (go_at_call 90;refine(Ce _ _ _).mono ?_;rintro r w' ⟨rfl,rfl⟩);first|refine C _ _ ⟨Reg.nm,?_⟩|refine⟨Reg.nm,?_⟩
    (try clear C);refine Reg.wI [20] [21,22] rfl fun Qf C=>?_;go_wp2_with fail;first|refine C _ _ ⟨rfl,?_⟩|refine⟨rfl,?_⟩
    (try clear C);refine Reg.aI 21 [22] [] rfl fun Qf C=>?_;simp only [gT,gS,gZ];go_wp2_with (go_at_call 89;refine(Ci (l:=[AD g.msg p.messages.length,Ad (decide (100<g.coef)) 1,Ad (!Bg g.bound) 4]) J.out).mono ?_;rintro r w' ⟨rfl,rfl⟩;rw [U.out]);first|refine C _ _ ⟨Reg.nm,?_⟩|refine⟨Reg.nm,?_⟩
    (try clear C);refine Reg.wI [22] [] rfl fun Qf C=>?_;go_wp2_with fail;first|refine C _ _ ⟨rfl,?_⟩|refine⟨rfl,?_⟩
    (try clear C);first|refine Reg.restI_end ?_|skip
    go_wp2_with fail;go_ret;exact⟨by rw [an.out];rfl,a9.out.trans (M.out.mono a8)⟩
end Go.Proofs.YtjejejmeddkciaaGreatDoor.K
