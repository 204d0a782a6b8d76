/-
  Part SM of a proof.
-/
import Derived.Test.YtfcfpoemojjglaaGreatDoorPA
import Derived.Test.YtfcfpoemojjglaaGreatDoorSL
import Derived.Test.YtfcfpoemojjglaaGreatDoorSA
import Derived.Test.YtfcfpoemojjglaaGreatDoorPM
import Derived.Test.YtfcfpoemojjglaaGreatDoorCX
set_option maxHeartbeats 16000000
set_option maxRecDepth 100000
set_option linter.unusedVariables false
set_option linter.unusedSimpArgs false
namespace Go.Proofs.YtfcfpoemojjglaaGreatDoor
open Go.RowKit
open K (Am Az At AW C0 Ah A0 Ab AC Ad orE Dv DY)
attribute [-go_sem] loadCellsFrom storeCells
set_option maxHeartbeats 16000000
set_option maxRecDepth 100000
theorem WH (w:World) (vs:Array Value) (C:vs.size=5) (h1:vs.all (·.oneCell')=true):∃w1,Below w.heap.size w w1∧Blk w1 w.heap.size 55 vs∧∀c:Array Value,c.size=5→(storeCells ⟨w.heap.size,0,none⟩ vs.toList 0).run Tryz.prog (w.alloc (.cells c 55))=.ok () w1:=by
 obtain⟨w1,E,y,h,-⟩:=Ae w vs 55
 exact⟨w1,y,h,fun c z=>by rw [←E]; exact Dv w 55 5 (by kernel_rfl) C h1 c z⟩
theorem X7 {w:World} {cs:List Value} {p:Am} {A A':Option Addr} {c c':Nat} {u v:List Int} (h:At w w.heap.size cs p) (hf:p.Fits) (hu:Sl w w.heap.size 1 Ai A u) (hv:Sl w w.heap.size 1 Ai A' v) (hT:A0 w) (hP:BV w):
  Calls Tryz.prog 8 #[.agg cs.toArray,.agg #[.slice A u.length c,.slice A' v.length c']] w (Ret fun r w'=>r=.bool true∧Below w.heap.size w w'):=by
 obtain⟨A1,c1,A2,c2,A3,c3,A4,c4,A5,c5,A6,c6,A7,c7,aH,q0,q1,q2,q3,q4,q5,q6,q7,q8,q9,-⟩:=h.cells
 obtain⟨nu,ar⟩:∃n,n=u.length:=⟨_,rfl⟩
 obtain⟨nv,au⟩:∃n,n=v.length:=⟨_,rfl⟩
 rw [←ar,←au]
 obtain⟨w1,de,a9,aw,-⟩:=Ae w cs.toArray 27
 obtain⟨w2,df,ao,ay,-⟩:=Ae w1 #[.slice A nu c,.slice A' nv c'] 51
 have am:=a9.trans (ao.mono a9.size)
 have cd:=Ah (aw.below ao) aH
 have bX:=ay.cell
 have bh:=hide (K.Mp (h.keep (w':=w2) (B':=w2.heap.size) (fun _ C=>am.cell C) am.size) hf)
 have bP:=hide (aw.below ao)
 have bQ:=hide ay
 have aJ:=hide aH
 have bf:=hide am
 have d6:=hide hT
 have al:=hide hP
 have bC:=hide hu
 have bD:=hide hv
 have bt:=hide ar
 have bu:=hide au
 have co:=hu.1
 have cp:=hv.1
 rw [←ar] at co
 rw [←au] at cp
 obtain⟨nr,aF⟩:∃n,n=p.rules.length:=⟨_,rfl⟩
 rw [←aF] at q9
 have cJ:=hide q9
 have aG:=hide aF
 have d5:=hide h
 have aP:p.Small→Hid (∀F,Below w.heap.size w F→Calls Tryz.prog 27 #[.agg cs.toArray] F (Ret fun v w'=>Wv F (Hg p) (TR.sum (p.states.length:Int) (AL p)) v w')):=fun U=>hide fun F E=>
  YH (h.keep (fun _ C=>E.cell C) E.size) U (hT.below E) Xb
 have aN:p.Small→Hg p=0→Hid (∀F (i:Nat) r,Below w.heap.size w F→p.rules[i]?=some r→Calls Tryz.prog 21 #[.agg cs.toArray,.int .i64 (i:Int)] F (Ret fun v w'=>Wv F 0 (C1 p r).tr v w')):=fun U I=>hide fun F i r E hr=>
  YC (h.keep (fun _ C=>E.cell C) E.size) U (hT.below E) I hr
 have aK:p.Small→Hg p≠0→Hid (∀F,Below w.heap.size w F→Calls Tryz.prog 28 #[.agg cs.toArray] F (Ret fun v w'=>Below F.heap.size F w'∧v=.tuple #[.agg Wg,.int .i64 (Hg p)])):=fun U I=>hide fun F E=>
  Yk (h.keep (fun _ C=>E.cell C) E.size) U (hT.below E) I
 generalize cs.toArray=pc at*
 clear h hf hu hv hT hP a9 aw ao ay am aH q0 q1 q2 q3 q4 q5 q6 q7 q8 q9 ar au aF
 go_enter Tryz.func8,Tryz.ntmps8
 go_wp2_with fail
 refine Calls.ret bh.out ?_
 rintro r w3 ⟨⟨b1,rfl,a9⟩,ap⟩
 have bW:=hide a9
 have a2:=hide (bf.out.trans (ap.mono bf.out.size))
 have ax:=hide (bP.out.below ap)
 have b6:=hide (bQ.out.below ap)
 have bo:=Ah ax.out aJ.out
 have bY:=b6.out.cell
 have bn:=hide (Er (al.out.below a2.out))
 clear a9 ap cd bX bh
 by_cases ad:b1=true∨(b1=false∧100<nu)∨(b1=false∧¬100<nu∧100<nv)
 ·rcases ad with rfl | ⟨rfl,h1⟩ | ⟨rfl,h1,h2⟩
  all_goals
   try have g1:(100:Int)<(nu:Int):=by omega
   try have d2:¬(100:Int)<(nu:Int):=by omega
   try have g2:(100:Int)<(nv:Int):=by omega
   go_wp2_with fail
   refine Calls.ret bn.out ?_
   rintro r W ⟨rfl,J⟩
   have a5:=hide (a2.out.trans (J.mono a2.out.size))
   clear J
   go_wp2_with fail
   go_ret
   exact⟨rfl,a5.out⟩
 ·have hs:b1=false∧¬100<nu∧¬100<nv:=by
   cases b1
   ·refine⟨rfl,fun x=>ad (.inr (.inl ⟨rfl,x⟩)),fun x=>ad (.inr (.inr ⟨rfl,fun y=>ad (.inr (.inl ⟨rfl,y⟩)),x⟩))⟩
   ·exact absurd (.inl rfl) ad
  obtain⟨rfl,h1,h2⟩:=hs
  clear ad
  have g1:¬(100:Int)<(nu:Int):=by omega
  have g2:¬(100:Int)<(nv:Int):=by omega
  have U:=bW.out rfl
  have af:=hide ((aP U).out w3 a2.out)
  have db:nr≤30:=by rw [aG.out]; exact U.rules
  by_cases I:Hg p=0
  case neg=>
   have bv:=aK U I
   have bk:=hide I
   obtain⟨e,bl⟩:∃e,e=Hg p:=⟨_,rfl⟩
   rw [←bl] at af bv bk I
   have d9:(e != 0)=true:=by simp [I]
   clear aP aN aK bl I
   go_wp2_with fail
   refine Calls.ret af.out ?_
   rintro r W ⟨J,⟨-,rfl⟩ | ⟨h0,-⟩⟩
   case inr=>exact absurd h0 bk.out
   have a5:=hide (a2.out.trans (J.mono a2.out.size))
   obtain⟨Z,V,ai,ag⟩:=WH W Wg rfl (by simp [Value.oneCell'])
   have aQ:∀c:Array Value,c.size=5→(storeCells ⟨W.heap.size,0,none⟩ [.int .i64 0,.int .i64 0,.slice none 0 0,.slice none 0 0,.slice none 0 0] 0).run Tryz.prog (W.alloc (.cells c 55))=.ok () Z:=ag
   have M:=hide (a5.out.trans (V.mono a5.out.size))
   have ce:=Ah ((ax.out.below J).below (V.mono (Nat.le_refl _))) aJ.out
   have ci:=hide (bv.out Z M.out)
   clear ag ai V J bo
   go_wp2_with fail
   refine Calls.ret ci.out ?_
   rintro r w6 ⟨a3,rfl⟩
   have O:=hide (M.out.trans (a3.mono M.out.size))
   obtain⟨w7,G,bT,bA⟩:=WH w6 Wg rfl (by simp [Value.oneCell'])
   have dc:∀c:Array Value,c.size=5→(storeCells ⟨w6.heap.size,0,none⟩ [.int .i64 0,.int .i64 0,.slice none 0 0,.slice none 0 0,.slice none 0 0] 0).run Tryz.prog (w6.alloc (.cells c 55))=.ok () w7:=bA
   have a6:=hide (O.out.trans (G.mono O.out.size))
   have cb:=hide (Er (al.out.below a6.out))
   clear bA bT G a3 ce aQ
   go_wp2_with fail
   refine Calls.ret cb.out ?_
   rintro r w8 ⟨rfl,aa⟩
   have a8:=hide (a6.out.trans (aa.mono a6.out.size))
   clear aa
   go_wp2_with fail
   go_ret
   exact⟨rfl,a8.out⟩
  case pos=>
   have ae:=hide (Yn I)
   have cj:=aN U I
   rw [I] at af
   obtain⟨T,be⟩:∃T,T=TR.sum (p.states.length:Int) (AL p):=⟨_,rfl⟩
   rw [←be] at ae af
   clear aP aN aK be
   go_wp2_with fail
   refine Calls.ret af.out ?_
   rintro r W ⟨J,⟨h0,-⟩ | ⟨-,d,rfl,hD⟩⟩
   case inl=>exact absurd rfl h0
   have a5:=hide (a2.out.trans (J.mono a2.out.size))
   obtain⟨E1,k1,E2,k2,E3,k3,hd,-⟩:=hD W (Ac.refl _ _)
   subst hd
   obtain⟨Z,V,ai,ag⟩:=WH W #[.int .i64 T.letters,.int .i64 T.states,.slice E1 T.start.length k1,.slice E2 T.accept.length k2,.slice E3 T.moves.length k3] rfl (by simp [Value.oneCell'])
   have bb:=hD Z (Ac.of_below V _)
   have M:=hide (a5.out.trans (V.mono a5.out.size))
   have b4:=hide ((ax.out.below J).below V)
   have az:=hide ((b6.out.below J).below V)
   have aA:=hide ai
   have bp:=Ah ai (n:=5) rfl
   have bZ:=az.out.cell
   have hrel:=WV (c:=c) (c':=c') bb (bC.out.keep (w':=Z) (B':=Z.heap.size) (fun _ C=>M.out.cell C) M.out.size) (bD.out.keep (w':=Z) (B':=Z.heap.size) (fun _ C=>M.out.cell C) M.out.size) (Nat.le_refl _) (Nat.le_refl _)
   rw [←bt.out,←bu.out] at hrel
   obtain⟨x,E⟩:∃x,x=(T.relV u v&&decide (u.length=v.length)&&T.rel u v):=⟨_,rfl⟩
   have ba:T.relR u v=.tuple #[.bool x,.int .i64 (De (T.relV u v))]:=by rw [E]; rfl
   rw [ba] at hrel
   have aM:=hide hrel
   have cr:=hide E
   obtain⟨TL,bd⟩:∃z,z=T.letters:=⟨_,rfl⟩
   obtain⟨TS,aD⟩:∃z,z=T.states:=⟨_,rfl⟩
   have bV:=hide aD
   obtain⟨n1,bq⟩:∃z,z=T.start.length:=⟨_,rfl⟩
   obtain⟨n2,br⟩:∃z,z=T.accept.length:=⟨_,rfl⟩
   obtain⟨n3,bs⟩:∃z,z=T.moves.length:=⟨_,rfl⟩
   rw [←bd,←aD,←bq,←br,←bs] at ag aM bp aA ⊢
   have aQ:∀c:Array Value,c.size=5→(storeCells ⟨W.heap.size,0,none⟩ [.int .i64 TL,.int .i64 TS,.slice E1 n1 k1,.slice E2 n2 k2,.slice E3 n3 k3] 0).run Tryz.prog (W.alloc (.cells c 55))=.ok () Z:=ag
   clear ag hD bb ai V J bo bY bn hrel ba E bd aD bq br bs af
   go_wp2_with fail
   refine Calls.ret aM.out ?_
   rintro r w6 ⟨rfl,a3⟩
   have O:=hide (M.out.trans (a3.mono M.out.size))
   have bO:=hide (b4.out.below a3)
   have b7:=hide (az.out.below a3)
   have bR:=hide (aA.out.below a3)
   clear a3 aM aQ bp bZ b4 az aA
   cases aO:T.relV u v
   case false=>
    rw [show De false=1 from rfl]
    have ca:=hide (Er (al.out.below O.out))
    clear aO
    go_wp2_with fail
    refine Calls.ret ca.out ?_
    rintro r w7 ⟨rfl,G⟩
    have a6:=hide (O.out.trans (G.mono O.out.size))
    clear G
    go_wp2_with fail
    go_ret
    exact⟨rfl,a6.out⟩
   case true=>
    rw [show De true=0 from rfl]
    have bz:=hide aO
    have cn:Hid (∀t∈AL p,t.relV u v=true):=hide (fun t ht=>by
     have h1:=bz.out
     unfold TR.relV at h1 ⊢
     rw [ae.out.2.1] at h1
     rw [(ae.out.2.2.2.1 t ht).1,(ae.out.2.2.2.1 t ht).2]
     simp only [Bool.and_eq_true,Bool.true_and] at h1 ⊢
     exact⟨h1.1.2,h1.2⟩)
    have ct:Hid (x=(AL p).any fun t=>decide (u.length=v.length)&&t.rel u v):=hide (by
     rw [cr.out,bz.out,Bool.true_and]
     by_cases hl:u.length=v.length
     ·rw [ae.out.2.2.2.2 u v hl]
      simp [hl]
     ·simp [hl])
    clear aO
    go_wp2_with fail
    go_loopw [11,12] (fun yy ii wr=>∃(i:Nat) (y:Bool),yy=.bool y∧ii=.int .i64 (i:Int)∧i≤nr∧Hid (y=((AL p).take i).any fun t=>decide (u.length=v.length)&&t.rel u v)∧Hid (Below w6.heap.size w6 wr)) (fun _ ii _=>nr - (intOf ii).toNat)
    case atStart=>exact⟨0,false,rfl,rfl,Nat.zero_le _,by show _=_; simp,Below.refl _ _⟩
    case round=>
     obtain⟨i,y,rfl,rfl,hi,hy,ab⟩:=hrel
     have an:=hide (O.out.trans (ab.out.mono O.out.size))
     have b5:=hide (bO.out.below ab.out)
     have d4:=hide (b7.out.below ab.out)
     have bS:=hide (bR.out.below ab.out)
     have c8:=(b5.out.cell 9).trans cJ.out
     by_cases ch:i<nr
     ·obtain⟨r,hr⟩:=An (l:=p.rules) (i:=i) (by rw [←aG.out]; exact ch)
      have bx:Hid ((AL p)[i]?=some (C1 p r).tr):=hide (by unfold AL; rw [List.getElem?_map,hr]; rfl)
      have cg:=Ah b5.out aJ.out
      have bj:=hide (cj.out wr i r an.out hr)
      have cq:=hide (cn.out _ (List.mem_of_getElem? bx.out))
      have aT:Hid ((((AL p).take (i+1)).any fun t=>decide (u.length=v.length)&&t.rel u v)=(y||(decide (u.length=v.length)&&(C1 p r).tr.rel u v))):=hide (by rw [B5 bx.out,List.any_append,←hy.out]; simp)
      obtain⟨z,hz⟩:∃z,z=(decide (u.length=v.length)&&(C1 p r).tr.rel u v):=⟨_,rfl⟩
      rw [←hz] at aT
      have bU:Hid ((C1 p r).tr.relR u v=.tuple #[.bool z,.int .i64 0]):=hide (by
       show Value.tuple #[.bool ((C1 p r).tr.relV u v&&decide (u.length=v.length)&&(C1 p r).tr.rel u v),.int .i64 (De ((C1 p r).tr.relV u v))]=_
       rw [cq.out,Bool.true_and,hz]
       rfl)
      generalize (C1 p r).tr=t at*
      clear hr hz
      go_wp2_with fail
      refine Calls.ret bj.out ?_
      rintro q w7 ⟨G,⟨h0,-⟩ | ⟨-,d7,rfl,aC⟩⟩
      case inl=>exact absurd rfl h0
      obtain⟨F1,m1,F2,m2,F3,m3,c9,-⟩:=aC w7 (Ac.refl _ _)
      subst c9
      obtain⟨w8,aa,b8,bB⟩:=WH w7 #[.int .i64 t.letters,.int .i64 t.states,.slice F1 t.start.length m1,.slice F2 t.accept.length m2,.slice F3 t.moves.length m3] rfl (by simp [Value.oneCell'])
      have bc:=aC w8 (Ac.of_below aa _)
      have aq:=hide (ab.out.trans ((G.trans (aa.mono G.size)).mono ab.out.size))
      have a8:=hide (O.out.trans (aq.out.mono O.out.size))
      have cf:=Ah b8 (n:=5) rfl
      have c0:=(b7.out.below aq.out).cell
      have aL:=WV (c:=c) (c':=c') bc (bC.out.keep (w':=w8) (B':=w8.heap.size) (fun _ C=>a8.out.cell C) a8.out.size) (bD.out.keep (w':=w8) (B':=w8.heap.size) (fun _ C=>a8.out.cell C) a8.out.size) (Nat.le_refl _) (Nat.le_refl _)
      rw [←bt.out,←bu.out,bU.out] at aL
      have bw:=hide aL
      generalize t.letters=tl at*
      generalize t.states=ts at*
      generalize t.start.length=j1 at*
      generalize t.accept.length=j2 at*
      generalize t.moves.length=j3 at*
      have cm:∀c:Array Value,c.size=5→(storeCells ⟨w7.heap.size,0,none⟩ [.int .i64 tl,.int .i64 ts,.slice F1 j1 m1,.slice F2 j2 m2,.slice F3 j3 m3] 0).run Tryz.prog (w7.alloc (.cells c 55))=.ok () w8:=bB
      clear bB aC bc b8 aa G aL cg bj c8
      go_wp2_with fail
      refine Calls.ret bw.out ?_
      rintro q w9 ⟨rfl,bg⟩
      have bi:=hide (aq.out.trans (bg.mono aq.out.size))
      clear bg bw cm cf c0
      cases y
      ·go_wp2_with fail
       exact⟨⟨i+1,z,by simp,by go_num,by omega,by show _=_; rw [aT.out]; simp,bi.out⟩,by simp [intOf]; omega⟩
      ·go_wp2_with fail
       exact⟨⟨i+1,true,by simp,by go_num,by omega,by show _=_; rw [aT.out]; simp,bi.out⟩,by simp [intOf]; omega⟩
     ·obtain rfl:nr=i:=by omega
      have cu:Hid (y=x):=hide (by rw [hy.out,ct.out,List.take_of_length_le (by unfold AL; rw [List.length_map,←aG.out]; exact Nat.le_refl _)])
      have dg:(x==y)=true:=by rw [cu.out]; simp
      have d8:=bS.out.cell
      have d3:TS≤400:=by rw [bV.out]; exact ae.out.2.2.1
      have cc:=hide (Er (al.out.below an.out))
      go_wp2_with fail
      refine Calls.ret cc.out ?_
      rintro r w7 ⟨rfl,G⟩
      have a6:=hide (an.out.trans (G.mono an.out.size))
      clear G
      go_wp2_with fail
      go_ret
      exact⟨rfl,a6.out⟩
end Go.Proofs.YtfcfpoemojjglaaGreatDoor
