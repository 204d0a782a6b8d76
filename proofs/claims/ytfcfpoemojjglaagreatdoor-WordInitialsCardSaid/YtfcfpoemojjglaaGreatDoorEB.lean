/-
  Part EB of a proof.
-/
import Derived.Test.YtfcfpoemojjglaaGreatDoorPA
import Derived.Test.YtfcfpoemojjglaaGreatDoorEA
set_option maxHeartbeats 16000000
set_option maxRecDepth 100000
set_option linter.unusedVariables false
set_option linter.unusedSimpArgs false
namespace Go.Proofs.YtfcfpoemojjglaaGreatDoor
open Go.RowKit
set_option maxHeartbeats 16000000
set_option maxRecDepth 100000
theorem SW {α:Type} {xs ys:List α} {i:Nat} {x:α} (y:xs[i]?=some x) (z:ys[i]?=some x) (h:xs.take i=ys.take i):xs.take (i+1)=ys.take (i+1):=by
 rw [List.take_add_one,List.take_add_one,h,y,z]
theorem SV {α:Type} {xs ys:List α} {i:Nat} (h:xs.take i=ys.take i) (y:xs.length≤i) (z:ys.length≤i):xs=ys:=by
 rw [List.take_of_length_le y,List.take_of_length_le z] at h
 exact h
theorem Qb {α:Type} {xs ys:List α} {i:Nat} {x y:α} (C:xs[i]?=some x) (z:ys[i]?=some y) (h:x≠y):xs≠ys:=by
 rintro rfl
 rw [C] at z
 exact h (Option.some.inj z)
def Cf:List Int→List Int→Int
 | [],[]=>0
 | [],_::_=>-1
 | _::_,[]=>1
 | x::xs,y::ys=>if x<y then -1 else if y<x then 1 else Cf xs ys
theorem IW:∀{xs ys:List Int},Cf xs ys=0↔xs=ys
 | [],[]=>by simp [Cf]
 | [],_::_=>by simp [Cf]
 | _::_,[]=>by simp [Cf]
 | x::xs,y::ys=>by
  have z:=IW (xs:=xs) (ys:=ys)
  unfold Cf
  rcases Int.lt_trichotomy x y with h | h | h
  ·rw [if_pos h]
   constructor
   ·intro e; omega
   ·intro e; injection e with e _; omega
  ·subst h
   rw [if_neg (by omega),if_neg (by omega),z]
   constructor
   ·intro e; rw [e]
   ·intro e; injection e
  ·rw [if_neg (by omega),if_pos h]
   constructor
   ·intro e; omega
   ·intro e; injection e with e _; omega
theorem Mo {xs ys:List Int} {i:Nat} {x y:Int} (C:xs[i]?=some x) (E:ys[i]?=some y):Cf (xs.drop i) (ys.drop i)=if x<y then -1 else if y<x then 1 else Cf (xs.drop (i+1)) (ys.drop (i+1)):=by
 obtain⟨h,rfl⟩:=List.getElem?_eq_some_iff.1 C
 obtain⟨z,rfl⟩:=List.getElem?_eq_some_iff.1 E
 rw [List.drop_eq_getElem_cons h,List.drop_eq_getElem_cons z,Cf]
theorem Mq {w:World} {U V c1 c2:Nat} {M O:Option Addr} {xs ys:List Int} (W:Sl w U 1 Ai M xs) (Z:Sl w V 1 Ai O ys) (ae:U≤w.heap.size) (af:V≤w.heap.size):
  Calls Tryz.prog 67 #[.slice M xs.length c1,.slice O ys.length c2] w (Ret fun r w'=>r=.int .i64 (Cf xs ys)∧Below w.heap.size w w'):=by
 have hn:=W.1
 have hm:=Z.1
 go_enter Tryz.func67,Tryz.ntmps67
 go_wp2_with fail
 go_loopw [5] (fun J wr=>∃(i:Nat),J=.int .i64 (i:Int)∧i≤xs.length∧i≤ys.length∧Below w.heap.size w wr∧Hid (Cf xs ys=Cf (xs.drop i) (ys.drop i))) (fun J _=>xs.length - (intOf J).toNat)
 case atStart=>exact⟨0,rfl,Nat.zero_le _,Nat.zero_le _,Below.refl _ _,by show _=_; simp⟩
 case round=>
  obtain⟨i,rfl,hi,aj,z,C⟩:=hrel
  by_cases a4:i<xs.length
  ·by_cases I:i<ys.length
   ·obtain⟨b1,o1,x,rfl,ag,hx,a2⟩:=W.at a4
    obtain⟨b2,o2,y,rfl,ah,hy,a3⟩:=Z.at I
    have e1:=(z.cell (by show b1<_; omega)).trans (a2 0 (by omega))
    have e2:=(z.cell (by show b2<_; omega)).trans (a3 0 (by omega))
    simp only [Nat.mul_one,Nat.add_zero,Ai] at e1 e2
    have ad:=hide (z.trans ((As wr).mono z.size))
    have a6:=hide ((z.trans ((As wr).mono z.size)).trans ((As wr.drew).mono z.size))
    have G:=hide (C.out.trans (Mo hx hy))
    clear hx hy a2 a3 C
    rcases Int.lt_trichotomy x y with E | E | E
    ·have h:Hid (Cf xs ys= -1):=by show _=_; rw [G.out,if_pos E]
     go_wp2_with fail
     refine Reg.cP [0,0,3,7,0,0,48,112,255] ?_
     go_wp2_with fail
     go_ret
     exact⟨by rw [h.out]; first | done | rfl,ad.out⟩
    ·subst E
     have h:Hid (Cf xs ys=Cf (xs.drop (i+1)) (ys.drop (i+1))):=by show _=_; rw [G.out,if_neg (by omega),if_neg (by omega)]
     go_wp2_with fail
     refine Reg.cP [0,0,3,7,0,0,48,112,255] ?_
     go_wp2_with fail
     refine Reg.cP [0,0,3,7,0,0,48,112,255] ?_
     go_wp2_with fail
     exact⟨⟨i+1,by simp,by omega,by omega,a6.out,h⟩,by simp [intOf]; omega⟩
    ·have h:Hid (Cf xs ys=1):=by show _=_; rw [G.out,if_neg (by omega),if_pos E]
     have am:¬x<y:=by omega
     go_wp2_with fail
     refine Reg.cP [0,0,3,7,0,0,48,112,255] ?_
     go_wp2_with fail
     refine Reg.cP [0,0,3,7,0,0,48,112,255] ?_
     go_wp2_with fail
     go_ret
     exact⟨by rw [h.out]; first | done | rfl,a6.out⟩
   ·have h:Hid (Cf xs ys=1):=by
     show _=_
     rw [C.out,(List.drop_eq_nil_of_le (by omega):ys.drop i=[]),List.drop_eq_getElem_cons a4,Cf]
    have ab:ys.length<xs.length:=by omega
    have a5:¬xs.length<ys.length:=by omega
    go_wp2_with fail
    go_ret
    exact⟨by rw [h.out]; first | done | rfl,z⟩
  ·by_cases I:i<ys.length
   ·have h:Hid (Cf xs ys= -1):=by
     show _=_
     rw [C.out,(List.drop_eq_nil_of_le (by omega):xs.drop i=[]),List.drop_eq_getElem_cons I,Cf]
    have a5:xs.length<ys.length:=by omega
    go_wp2_with fail
    go_ret
    exact⟨by rw [h.out]; first | done | rfl,z⟩
   ·have h:Hid (Cf xs ys=0):=by
     show _=_
     rw [C.out,(List.drop_eq_nil_of_le (by omega):xs.drop i=[]),(List.drop_eq_nil_of_le (by omega):ys.drop i=[]),Cf]
    have a5:¬xs.length<ys.length:=by omega
    have ab:¬ys.length<xs.length:=by omega
    go_wp2_with fail
    go_ret
    exact⟨by rw [h.out]; first | done | rfl,z⟩
theorem Ky {w:World} {C E c1 c2:Nat} {h y:Option Addr} {xs ys:List Int} (J:Sl w C 1 Ai h xs) (M:Sl w E 1 Ai y ys) (O:C≤w.heap.size) (U:E≤w.heap.size):
  Calls Tryz.prog 26 #[.slice h xs.length c1,.slice y ys.length c2] w (Ret fun r w'=>r=.bool (decide (xs=ys))∧Below w.heap.size w w'):=by
 have I:=Mq (c1:=c1) (c2:=c2) J M O U
 have W:=hide (IW (xs:=xs) (ys:=ys))
 generalize Cf xs ys=z at*
 go_enter Tryz.func26,Tryz.ntmps26
 go_wp2_with fail
 refine Calls.ret I ?_
 rintro v w2 ⟨rfl,G⟩
 have V:=hide G
 clear G I
 go_wp2_with fail
 go_ret
 exact⟨congrArg Value.bool (decide_eq_decide.2 W.out),V.out⟩
theorem RS {v1 v2:Value} {a b:WA} {w:World} (h:Bk w w.heap.size v1 a) (h':Bk w w.heap.size v2 b):
  Calls Tryz.prog 13 #[v1,v2] w (Ret fun r w'=>r=.bool (decide (a=b))∧Below w.heap.size w w'):=by
 obtain⟨A1,c1,A2,c2,A3,c3,rfl,h1,h2,h3,-⟩:=h
 obtain⟨A4,c4,A5,c5,A6,c6,rfl,h4,h5,h6,-⟩:=h'
 obtain⟨C,G,st,ac,O⟩:=a
 obtain⟨Lb,Sb,st',J,U⟩:=b
 simp only at h1 h2 h3 h4 h5 h6 ⊢
 obtain⟨Z,ad⟩:∃n,O.length=n:=⟨_,rfl⟩
 obtain⟨m2,ab⟩:∃n,U.length=n:=⟨_,rfl⟩
 have b2:Z≤9223372036854775807:=ad ▸ h3.1
 have b3:m2≤9223372036854775807:=ab ▸ h6.1
 rw [ad,ab]
 have af:=hide ad
 have ae:=hide ab
 clear ad ab
 obtain⟨w1,bD,aD,b9,bw⟩:=Ag w #[.int .i64 C,.int .i64 G,.slice A1 st.length c1,.slice A2 ac.length c2,.slice A3 Z c3] 35
 obtain⟨w2,bE,aE,al,bi⟩:=Ag w1 #[.int .i64 Lb,.int .i64 Sb,.slice A4 st'.length c4,.slice A5 J.length c5,.slice A6 m2 c6] 35
 have bl:=aD.size
 have bC:=aE.size
 have V:=aD.trans (aE.mono bl)
 have ak:=b9.kept bi id
 have br:=ak.cell
 have bs:=al.cell
 by_cases g1:C=Lb
 case neg=>
  have W:Hid ((⟨C,G,st,ac,O⟩:WA)≠⟨Lb,Sb,st',J,U⟩):=fun e=>g1 (congrArg WA.letters e)
  go_enter Tryz.func13,Tryz.ntmps13
  go_wp2_with fail
  go_ret
  exact⟨congrArg Value.bool (decide_eq_false W.out).symm,V⟩
 subst g1
 by_cases g2:G=Sb
 case neg=>
  have W:Hid ((⟨C,G,st,ac,O⟩:WA)≠⟨C,Sb,st',J,U⟩):=fun e=>g2 (congrArg WA.states e)
  go_enter Tryz.func13,Tryz.ntmps13
  go_wp2_with fail
  go_ret
  exact⟨congrArg Value.bool (decide_eq_false W.out).symm,V⟩
 subst g2
 by_cases g3:Z=m2
 case neg=>
  have W:Hid ((⟨C,G,st,ac,O⟩:WA)≠⟨C,G,st',J,U⟩):=fun e=>g3 (by rw [←af.out,←ae.out]; exact congrArg (fun a=>a.edges.length) e)
  go_enter Tryz.func13,Tryz.ntmps13
  go_wp2_with fail
  go_ret
  exact⟨congrArg Value.bool (decide_eq_false W.out).symm,V⟩
 subst g3
 go_enter Tryz.func13,Tryz.ntmps13
 go_wp2_with fail
 go_loopw [5] (fun ii wr=>∃(i:Nat),ii=.int .i64 (i:Int)∧i≤Z∧Below w2.heap.size w2 wr∧Hid (O.take i=U.take i)) (fun ii _=>Z - (intOf ii).toNat)
 case atStart=>exact⟨0,rfl,Nat.zero_le _,Below.refl _ _,by show _=_; simp⟩
 case round=>
  obtain⟨i,rfl,hi,E,hT⟩:=hrel
  have aJ:=(ak.kept (Ac.of_below E (fun _=>False)) id).cell
  have aL:=(al.kept (Ac.of_below E (fun _=>False)) id).cell
  by_cases bx:i<Z
  ·obtain⟨b1,o1,x,rfl,be,hx,aF⟩:=h3.at (k:=i) (by have:=af.out; omega)
   obtain⟨b2,o2,y,rfl,bf,hy,aG⟩:=h6.at (k:=i) (by have:=ae.out; omega)
   have ax:=hide hx
   have ay:=hide hy
   have e1:=fun j hj=>(E.cell (by show b1<_; omega)).trans ((V.cell (by exact be)).trans (aF j hj))
   have M:=fun j hj=>(E.cell (by show b2<_; omega)).trans ((V.cell (by exact bf)).trans (aG j hj))
   have aZ:=e1 0 (by omega)
   have b0:=e1 1 (by omega)
   have b4:=e1 2 (by omega)
   have b5:=M 0 (by omega)
   have b6:=M 1 (by omega)
   have b7:=M 2 (by omega)
   simp only [Nat.add_zero,DO] at aZ b0 b4 b5 b6 b7
   have aN:=hide (E.trans ((As wr).mono E.size))
   clear hx hy aF aG e1 M
   by_cases a2:x=y
   ·subst a2
    go_wp2_with fail
    refine Reg.cP [0,1,0,7,15,0,32,0,224,480,1023] ?_
    go_wp2_with fail
    exact⟨⟨i+1,by simp,by omega,aN.out,SW ax.out ay.out hT.out⟩,by simp [intOf]; omega⟩
   ·have W:Hid ((⟨C,G,st,ac,O⟩:WA)≠⟨C,G,st',J,U⟩):=fun e=>Qb ax.out ay.out a2 (congrArg WA.edges e)
    have bk:x.frm≠y.frm∨x.frm=y.frm∧(x.letter≠y.letter∨x.letter=y.letter∧x.to≠y.to):=by
     rcases x with⟨x1,x2,x3⟩; rcases y with⟨y1,y2,y3⟩
     simp only [Edg.mk.injEq] at a2
     simp only
     by_cases e:x1=y1
     ·refine Or.inr ⟨e,?_⟩
      by_cases M:x2=y2
      ·exact Or.inr ⟨M,fun e'=>a2 ⟨e,M,e'⟩⟩
      ·exact Or.inl M
     ·exact Or.inl e
    clear a2
    rcases bk with e | ⟨e,e' | ⟨e',bq⟩⟩
    all_goals
     go_wp2_with fail
     refine Reg.cP [0,1,0,7,15,0,32,0,224,480,1023] ?_
     go_wp2_with fail
     go_ret
     exact⟨congrArg Value.bool (decide_eq_false W.out).symm,V.trans (aN.out.mono (by omega))⟩
  ·have bd:Hid (O=U):=SV hT.out (by have:=af.out; omega) (by have:=ae.out; omega)
   have bB:=E.size
   have I:=V.trans (E.mono (by omega))
   have az:=(h1.below I).mono I.size
   have aA:=(h2.below I).mono I.size
   have aB:=(h4.below I).mono I.size
   have aC:=(h5.below I).mono I.size
   have aa:=Ky (c1:=c1) (c2:=c4) az aB (Nat.le_refl _) (Nat.le_refl _)
   have bj:=hide (fun(wx:World) (z:Below wr.heap.size wr wx)=>Ky (w:=wx) (c1:=c2) (c2:=c5) ((aA.below z).mono z.size) ((aC.below z).mono z.size) (Nat.le_refl _) (Nat.le_refl _))
   have a9:=hide I
   have aM:Hid (decide ((⟨C,G,st,ac,O⟩:WA)=⟨C,G,st',J,U⟩)=(decide (st=st')&&decide (ac=J))):=by
    show _=_
    rw [bd.out,Bool.eq_iff_iff]
    simp only [decide_eq_true_eq,Bool.and_eq_true,WA.mk.injEq,true_and,and_true]
   have bz:=h1.1
   have bA:=h4.1
   have ba:=hide (ak.kept (Ac.of_below E (fun _=>False)) id)
   have bb:=hide (al.kept (Ac.of_below E (fun _=>False)) id)
   clear az aA aB aC I h1 h2 h3 h4 h5 h6 E hT
   generalize decide (st=st')=d1 at*
   generalize decide (ac=J)=d2 at*
   cases d1
   ·go_wp2_with fail
    refine Calls.ret aa ?_
    rintro v w9 ⟨rfl,z⟩
    have bg:=hide z
    clear z aa aJ aL
    go_wp2_with fail
    go_ret
    exact⟨by rw [aM.out]; rfl,a9.out.trans (bg.out.mono a9.out.size)⟩
   ·go_wp2_with fail
    refine Calls.ret aa ?_
    rintro v w9 ⟨rfl,z⟩
    have aK:Hid (Below wr.heap.size wr w9):=z
    have aH:=bj.out w9 z
    have bt:=(ba.out.kept (Ac.of_below z (fun _=>False)) id).cell
    have bu:=(bb.out.kept (Ac.of_below z (fun _=>False)) id).cell
    clear z aa aJ aL
    go_wp2_with fail
    refine Calls.ret aH ?_
    rintro v bH ⟨rfl,z⟩
    have bh:=hide (a9.out.trans ((aK.out.trans (z.mono aK.out.size)).mono a9.out.size))
    clear z aH
    go_wp2_with fail
    go_ret
    exact⟨by rw [aM.out]; rfl,bh.out⟩
end Go.Proofs.YtfcfpoemojjglaaGreatDoor
