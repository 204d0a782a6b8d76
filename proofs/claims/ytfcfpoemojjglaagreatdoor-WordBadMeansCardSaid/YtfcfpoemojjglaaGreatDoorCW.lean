/-
  Part CW of a proof.
-/
import Derived.Test.YtfcfpoemojjglaaGreatDoorPA
import Derived.Test.YtfcfpoemojjglaaGreatDoorCU
import Derived.Test.YtfcfpoemojjglaaGreatDoorCV
set_option maxHeartbeats 16000000
set_option maxRecDepth 100000
set_option linter.unusedVariables false
set_option linter.unusedSimpArgs false
namespace Go.Proofs.YtfcfpoemojjglaaGreatDoor.K
open Go.RowKit
attribute [-go_sem] loadCellsFrom storeCells
theorem ret_eq {P:Program} {f:FuncId} {args:Array Value} {w:World} {a b:Int} {K:World→Prop} (h:Calls P f args w (Ret fun v w'=>v=.int .i64 a∧K w')) (e:b=a):Calls P f args w (Ret fun v w'=>v=.int .i64 b∧K w'):=by
 subst e
 exact h
theorem propValidate_any {w:World} {cs ds:List Value} {p:Am} {q:AB} (h:At w w.heap.size cs p) (C:Ba w w.heap.size ds q) (G:p.Small) (I:q.Small) (E:SpOK w):
  Calls Tryz.prog 71 #[.agg cs.toArray,.agg ds.toArray] w (Ret fun v w'=>v=.int .i64 (propE nameOK p q)∧Below w.heap.size w w'):=by
 by_cases y:protE nameOK p=0
 case neg=>exact ret_eq (T4 h C G I E (hide rfl) (by simpa using y)) (Ky y)
 cases z:nameOK q.name with
 | false=>exact ret_eq (T5 h C G I E y z) (Kx y z)
 | true=>
  by_cases O:q.kind=1
  ·by_cases W:q.goal.length=0
   ·by_cases M:setE q.start (p.states.length:Int)=0
    ·exact Ub h C G I E y z O W M
    ·exact ret_eq (Ua h C G I E y z O W (hide rfl) (by simpa using M)) (by rw [HZ y z O W,BF M])
   ·exact ret_eq (T7 h C G I E y z O W) (Kv y z O W)
  ·by_cases J:q.kind=2
   ·by_cases U:q.bad.length=0
    ·by_cases V:q.adj.length=0
     ·by_cases M:setE q.start (p.states.length:Int)=0
      ·exact Ud h C G I E y z J U V M
      ·exact ret_eq (Uc h C G I E y z J U V (hide rfl) (by simpa using M)) (by rw [H7 y z J U V,BF M])
     ·exact ret_eq (T9 h C G I E y z J U V) (GJ y z J (.inr V))
    ·exact ret_eq (T8 h C G I E y z J U) (GJ y z J (.inl U))
   ·exact ret_eq (T6 h C G I E y z O J) (Kw y z O J)
end Go.Proofs.YtfcfpoemojjglaaGreatDoor.K
namespace Go.Proofs.YtfcfpoemojjglaaGreatDoor.K
open Go.RowKit
def Fu (w:World) (g:Nat) (b0 b1 b2 b3 b4:Bool):World:=((((w.setCell ⟨g,0,none⟩ (.bool b0)).setCell ⟨g,1,none⟩ (.bool b1)).setCell ⟨g,2,none⟩ (.bool b2)).setCell ⟨g,3,none⟩ (.bool b3)).setCell ⟨g,4,none⟩ (.bool b4)
theorem Tp {w:World} {g:Nat} {t:TypeId} {a0 a1 z C E:Value} (h:Blk w g t #[a0,a1,z,C,E]) (y b1 b2 b3 b4:Bool):
  (storeCells ⟨g,0,none⟩ [.bool y,.bool b1,.bool b2,.bool b3,.bool b4] 0).run Tryz.prog w=.ok () (Fu w g y b1 b2 b3 b4):=by
 have I:=h.cell
 have G:=h.frozen
 unfold Fu
 simp [storeCells,go_sem,I,G]
theorem SW {w:World} {g:Nat} {e:TypeId} {a0 a1 z C E:Value} (h:Blk w g e #[a0,a1,z,C,E]) (y b1 b2 b3 b4:Bool):Blk (Fu w g y b1 b2 b3 b4) g e #[.bool y,.bool b1,.bool b2,.bool b3,.bool b4]∧Ac w (Fu w g y b1 b2 b3 b4) (fun k=>k=g):=
 ⟨((((h.set_ 0 (.bool y)).set_ 1 (.bool b1)).set_ 2 (.bool b2)).set_ 3 (.bool b3)).set_ 4 (.bool b4),
  (((((Ac.refl w (fun k=>k=g)).setCell (p:=⟨g,0,none⟩) (fun _=>rfl) _).setCell (p:=⟨g,1,none⟩) (fun _=>rfl) _).setCell (p:=⟨g,2,none⟩) (fun _=>rfl) _).setCell (p:=⟨g,3,none⟩) (fun _=>rfl) _).setCell (p:=⟨g,4,none⟩) (fun _=>rfl) _⟩
attribute [-go_sem] loadCellsFrom storeCells
theorem Fc.cells4 {w:World} {B:Nat} {rc:Array Value} {r:Az} (h:Fc w B rc r):∃A c y E,rc[1]?=some (.int .i64 r.kind)∧rc[2]?=some (.int .i64 r.fr)∧rc[3]?=some (.int .i64 r.to)∧rc[8]?=some (.slice A r.ex.length c)∧rc[9]?=some (.slice y r.fa.length E):=by
 obtain⟨J,c1,M,c2,z,G,C,I,O,Z,U,c6,V,c7,W,c8,e,_⟩:=h.is
 refine⟨z,G,C,I,?_,?_,?_,?_,?_⟩ <;> (rw [←Array.getElem?_toList,e]; rfl)
theorem MT {w wr:World} {g:Nat} {kt:Int} {I:Array Value} {h y z C E:Bool} (M:Blk wr g 155 #[.bool false,.bool false,.bool false,.bool false,.bool false]) (G:Below w.heap.size w wr) (hg:w.heap.size≤g) (J:z=(kt==2||kt==3))
  (Z:I[2]?.getD undef=.pointer (some ⟨g,0,none⟩)) (a2:I[3]?.getD undef=.int .i64 0):
  bodyPost Tryz.prog Tryz.f102 (Ret fun v w'=>(∃b0 b1 b2 b4:Bool,v=.tuple #[.agg #[.bool b0,.bool b1,.bool (kt==2||kt==3),.bool b2,.bool b4],.int .i64 0])∧Below w.heap.size w w') Exit.ret { tmps:=I,defers:=[] } (Fu wr g h y z C E):=by
 obtain⟨U,V⟩:=SW M h y z C E
 have O:=G.trans (V.below G.size (fun b G e=>by omega))
 have W:=Ah (n:=5) U rfl
 generalize Fu wr g h y z C E=wF at*
 exact bodyPost_ret (v:=.tuple #[.agg #[.bool h,.bool y,.bool z,.bool C,.bool E],.int .i64 0]) (by simp [results,Tryz.results102,go_sem,W,Z,a2]) rfl ⟨⟨h,y,C,E,by rw [J]⟩,O⟩
theorem MY {w:World} {cs:List Value} {p:Am} (h:At w w.heap.size cs p) (y:p.Small) (hT:SpOK w) (he:protE nameOK p=0):
    Calls Tryz.prog 102 #[.agg cs.toArray] w (Ret fun v w'=>(∃b0 b1 b2 b4:Bool,v=.tuple #[.agg #[.bool b0,.bool b1,.bool (p.topo==2||p.topo==3),.bool b2,.bool b4],.int .i64 0])∧Below w.heap.size w w'):=by
  obtain⟨A1,c1,A2,c2,A3,c3,A4,c4,A5,c5,A6,c6,A7,c7,a4,bO,be,bf,bg,bh,bP,bi,bQ,bR,bj,h1,h2,h3,h4,h5,h6,h7,aW⟩:=h.cells
  have b7:=y.states
  have b8:=y.messages
  have b9:=y.values
  have ba:=y.res
  have bb:=y.rules
  have bm:=hide y
  have aQ:=hide h7
  obtain⟨w1,bV,I,W,aY⟩:=Ae w cs.toArray 27
  obtain⟨w2,bW,C,a7,a2⟩:=Ae w1 #[.bool false,.bool false,.bool false,.bool false,.bool false] 155
  have ay:=I.size
  have bN:=W.lt
  have U:=hide (show C0 w2 w.heap.size cs.toArray p from⟨h.keep (fun _ J=>(C.cell (by omega)).trans (I.cell J)) (by have:=C.size; omega),W.below C,(hT.below I).below C⟩)
  have ae:=hide (I.trans (C.mono ay))
  have aO:=hide a7
  generalize bk:cs.toArray=pc at*
  obtain⟨nr,an⟩:∃n,n=p.res.length:=⟨_,rfl⟩
  obtain⟨nm,am⟩:∃n,n=p.messages.length:=⟨_,rfl⟩
  obtain⟨nv,ap⟩:∃n,n=p.values.length:=⟨_,rfl⟩
  obtain⟨ns,ao⟩:∃n,n=p.states.length:=⟨_,rfl⟩
  obtain⟨nu,a3⟩:∃n,n=p.rules.length:=⟨_,rfl⟩
  have bd:=hide a3
  simp only [←an,←am,←ap,←ao,←a3] at bf bg bh bi bj b7 b8 b9 ba bb aW
  obtain⟨kt,aj⟩:∃n,n=p.topo:=⟨_,rfl⟩
  rw [←aj] at be ⊢
  have bS:=hide a4
  have az:∀O,Hid (C0 O w.heap.size pc p)→Calls Tryz.prog 117 #[.agg pc] O (Ret fun v w'=>v=.int .i64 0∧Below O.heap.size O w'):=fun O hx=>by
    have:=Kt hx.out.pr bm.out hx.out.tab
    rw [he] at this
    exact this
  have bn:=hide az
  have bF:=U.out.b.cell
  have bK:=Ah U.out.b a4
  clear h1 h2 h3 h4 h5 h6 h7 h y I C W a7 aY a2 bk hT a4 he an am ap ao a3 aj az
  have bD:((0:Int) != 0)=false:=rfl
  go_enter Tryz.func102,Tryz.ntmps102
  go_wp2_with (go_at_call 117; refine Calls.ret (bn.out _ U) ?_; rintro v w3 ⟨rfl,V⟩; have aa:=hide (U.out.at V); have bG:=aa.out.b.cell; have a8:=hide (aO.out.below V); have ab:=hide (ae.out.trans (V.mono ae.out.size)); clear V)
  go_loopw [5,6,20] (fun v5 v6 ii wr=>∃(k:Nat) (b5 b6:Bool),v5=.bool b5∧v6=.bool b6∧ii=.int .i64 (k:Int)∧k≤nu∧Hid (Below w3.heap.size w3 wr)) (fun _ _ ii _=>nu - (intOf ii).toNat)
  case atStart=>exact⟨0,true,false,rfl,rfl,rfl,Nat.zero_le _,Below.refl _ _⟩
  case round=>
    obtain⟨k,b5,b6,rfl,rfl,rfl,hk,E⟩:=hrel
    have aR:=hide (aa.out.at E.out)
    have bH:=aR.out.b.cell
    have Z:=hide (ab.out.trans (E.out.mono ab.out.size))
    by_cases bM:k<nu
    · obtain⟨r,hr⟩:∃r,p.rules[k]?=some r:=⟨_,List.getElem?_eq_getElem (by have:=bd.out; omega)⟩
      obtain⟨b,bZ,rc,hA,bE,G,aX,bL⟩:=Du (aQ.out.keep (w':=wr) (B':=w.heap.size) (R':=AW wr w.heap.size) (fun _ J=>Z.out.cell J) (fun _ _ h=>h.keep (fun _ J=>Z.out.cell J) (Nat.le_refl _)) (Nat.le_refl _)) hr
      obtain⟨M,bo,ad,z,b3⟩:=Ae wr rc 99
      have bl:=Dv wr 99 18 (by kernel_rfl) G.size G.one
      rw [bo] at bl
      obtain⟨E1,f1,E2,f2,ar,au,av,aw,ax⟩:=G.cells4
      have bT:=G.size
      have aT:M.cell? ⟨wr.heap.size,1,none⟩=some (.int .i64 r.kind):=by rw [z.cell,ar]
      have aU:M.cell? ⟨wr.heap.size,2,none⟩=some (.int .i64 r.fr):=by rw [z.cell,au]
      have aV:M.cell? ⟨wr.heap.size,3,none⟩=some (.int .i64 r.to):=by rw [z.cell,av]
      obtain⟨ne,ak⟩:∃n,n=r.ex.length:=⟨_,rfl⟩
      obtain⟨nf,al⟩:∃n,n=r.fa.length:=⟨_,rfl⟩
      have bI:M.cell? ⟨wr.heap.size,8,none⟩=some (.slice E1 ne f1):=by rw [z.cell,aw,ak]
      have bJ:M.cell? ⟨wr.heap.size,9,none⟩=some (.slice E2 nf f2):=by rw [z.cell,ax,al]
      obtain⟨kk,ah⟩:∃n,n=r.kind:=⟨_,rfl⟩
      obtain⟨kf,ag⟩:∃n,n=r.fr:=⟨_,rfl⟩
      obtain⟨ko,ai⟩:∃n,n=r.to:=⟨_,rfl⟩
      rw [←ah] at aT
      rw [←ag] at aU
      rw [←ai] at aV
      have aS:=hide (E.out.trans (ad.mono E.out.size))
      subst hA
      clear aX G b3 z hr ar au av aw ax ad ak al ah ag ai
      cases b5 <;> cases b6
      all_goals
        go_wp2_with fail
        all_goals exact⟨⟨k+1,_,_,rfl,rfl,by go_num,by omega,aS.out⟩,by simp [intOf]; omega⟩
    · have bU:=Tp (a8.out.below E.out)
      have aP:=hide (a8.out.below E.out)
      go_wp2_with fail
      all_goals
        refine MT aP.out Z.out ay ?_ rfl rfl
        first
          | rfl
          | (simp; omega)
          | (rename_i hq; subst hq; rfl)
          | (have a2:kt≠2:=by omega
             have aZ:kt≠3:=by omega
             simp [a2,aZ])
end Go.Proofs.YtfcfpoemojjglaaGreatDoor.K
namespace Go.Proofs.YtfcfpoemojjglaaGreatDoor.K
open Go.RowKit
attribute [-go_sem] loadCellsFrom storeCells
def checkW (ok:ByteArray→Bool) (p:Am) (q:AB):Int:=orE (propE ok p q) (Ad (!(p.topo==2||p.topo==3)||q.kind != 1) 7)
theorem P9 {w:World} {cs:List Value} {p:Am} (h:At w w.heap.size cs p) (ad:p.Small) (hT:SpOK w) (he:protE nameOK p=0):
  Calls Tryz.prog 54 #[.agg cs.toArray] w (Ret fun v w'=>v=.int .i64 (Ad (!(p.topo==2||p.topo==3)) 7)∧Below w.heap.size w w'):=by
 obtain⟨A1,c1,A2,c2,A3,c3,A4,c4,A5,c5,A6,c6,A7,c7,ab,aj,ak,-⟩:=h.cells
 obtain⟨w1,aC,I,a6,ah⟩:=Ae w cs.toArray 27
 have V:=hide (show C0 w1 w.heap.size cs.toArray p from⟨h.keep (fun _ hp=>I.cell hp) I.size,a6,hT.below I⟩)
 have U:=hide I
 generalize al:cs.toArray=pc at*
 have a2:∀O,Hid (C0 O w.heap.size pc p)→Calls Tryz.prog 102 #[.agg pc] O (Ret fun v w'=>(∃y b1 b2 b4:Bool,v=.tuple #[.agg #[.bool y,.bool b1,.bool (p.topo==2||p.topo==3),.bool b2,.bool b4],.int .i64 0])∧Below O.heap.size O w'):=fun O hx=>MY hx.out.pr ad hx.out.tab he
 have hl:=Ah V.out.b ab
 obtain⟨bt,a8⟩:∃b,b=(p.topo==2||p.topo==3):=⟨_,rfl⟩
 rw [←a8] at a2 ⊢
 have a9:=hide a2
 clear h ad hT he I a6 ah al a2 a8 ab aj ak
 cases bt
 ·go_enter Tryz.func54,Tryz.ntmps54
  go_wp2_with (go_at_call 102; refine Calls.ret (a9.out _ V) ?_; rintro v C ⟨⟨y,b1,b2,b4,rfl⟩,J⟩; have G:=hide (U.out.trans (J.mono U.out.size)); obtain⟨w5,a4,M,E,a3⟩:=Ae C #[.bool y,.bool b1,.bool false,.bool b2,.bool b4] 155; have ag:=E.cell; have W:=hide (G.out.trans (M.mono G.out.size)); have am:∀z:Array Value,z.size=5→(storeCells ⟨C.heap.size,0,none⟩ [.bool y,.bool b1,.bool false,.bool b2,.bool b4] 0).run Tryz.prog (C.alloc (.cells z 155))=.ok () w5:=(fun z Z=>by rw [←a4]; exact Dv C 155 5 (by kernel_rfl) (rc:=#[.bool y,.bool b1,.bool false,.bool b2,.bool b4]) rfl (by simp [Value.oneCell']) z Z); clear J M E a3)
  go_ret
  exact⟨rfl,W.out⟩
 ·go_enter Tryz.func54,Tryz.ntmps54
  go_wp2_with (go_at_call 102; refine Calls.ret (a9.out _ V) ?_; rintro v C ⟨⟨y,b1,b2,b4,rfl⟩,J⟩; have G:=hide (U.out.trans (J.mono U.out.size)); obtain⟨w5,a4,M,E,a3⟩:=Ae C #[.bool y,.bool b1,.bool true,.bool b2,.bool b4] 155; have ag:=E.cell; have W:=hide (G.out.trans (M.mono G.out.size)); have am:∀z:Array Value,z.size=5→(storeCells ⟨C.heap.size,0,none⟩ [.bool y,.bool b1,.bool true,.bool b2,.bool b4] 0).run Tryz.prog (C.alloc (.cells z 155))=.ok () w5:=(fun z Z=>by rw [←a4]; exact Dv C 155 5 (by kernel_rfl) (rc:=#[.bool y,.bool b1,.bool true,.bool b2,.bool b4]) rfl (by simp [Value.oneCell']) z Z); clear J M E a3)
  go_ret
  exact⟨rfl,W.out⟩
theorem check_any {w:World} {cs ds:List Value} {p:Am} {q:AB} (h:At w w.heap.size cs p) (U:Ba w w.heap.size ds q) (ad:p.Small) (ao:q.Small) (hT:SpOK w):
  Calls Tryz.prog 32 #[.agg cs.toArray,.agg ds.toArray] w (Ret fun v w'=>v=.int .i64 (checkW nameOK p q)∧Below w.heap.size w w'):=by
 obtain⟨B1,d1,B2,d2,B3,d3,B4,d4,an,aF,aG,aH,aJ,aK,ab,k1,k2,k3,k4⟩:=U.cells
 obtain⟨A1,c1,A2,c2,A3,c3,A4,c4,A5,c5,A6,c6,A7,c7,aa,aB,aC,-⟩:=h.cells
 obtain⟨w1,bj,Z,ae,ax⟩:=Ae w cs.toArray 27
 obtain⟨w2,bk,a2,af,ay⟩:=Ae w1 ds.toArray 30
 have C:=hide (Z.trans (a2.mono Z.size))
 have J:=hide (show PQX w2 w.heap.size w1.heap.size cs.toArray ds.toArray p q from⟨h.keep (fun _ hp=>C.out.cell hp) C.out.size,U.keep (fun _ hp=>C.out.cell hp) C.out.size,ae.below a2,af,hT.below C.out⟩)
 generalize aD:cs.toArray=pc at*
 generalize aL:ds.toArray=qc at*
 obtain⟨G,a6⟩:∃e,Hid (propE nameOK p q=e):=⟨_,rfl⟩
 have ap:∀y,Hid (PQX y w.heap.size w1.heap.size pc qc p q)→Calls Tryz.prog 71 #[.agg pc,.agg qc] y (Ret fun v w'=>v=.int .i64 G∧Below y.heap.size y w'):=fun y E=>by
  rw [←a6.out]
  exact propValidate_any E.out.pr E.out.qr ad ao E.out.tab
 have aM:=hide ap
 have ak:protE nameOK p=0→∀y,Hid (PQX y w.heap.size w1.heap.size pc qc p q)→Calls Tryz.prog 54 #[.agg pc] y (Ret fun v w'=>v=.int .i64 (Ad (!(p.topo==2||p.topo==3)) 7)∧Below y.heap.size y w'):=fun he y E=>P9 E.out.pr ad E.out.tab he
 have al:=hide ak
 have bg:=Ah J.out.b2 aa
 have bi:=Ah J.out.b3 an
 obtain⟨M,a8⟩:∃n,n=q.kind:=⟨_,rfl⟩
 rw [←a8] at aG
 obtain⟨O,a5⟩:∃b,b=(p.topo==2||p.topo==3):=⟨_,rfl⟩
 rw [←a5] at al
 have aj:=hide (show checkW nameOK p q=orE G (Ad (!O||M != 1) 7) from by
  unfold checkW
  rw [a6.out,a5,a8])
 have aE:=hide aa
 clear k1 k2 k3 k4 h U ad ao Z a2 ae af ax ay aD aL hT aa an ap ak aF aH aJ aK ab a8 a5 aB aC
 go_enter Tryz.func32,Tryz.ntmps32
 go_wp2_with fail
 refine Calls.ret (aM.out _ J) ?_
 rintro v w3 ⟨rfl,a3⟩
 have V:=hide (J.out.at a3)
 have bh:=Ah V.out.b2 aE.out
 have W:=hide (C.out.trans (a3.mono C.out.size))
 clear a3
 by_cases z:G=0
 case neg=>
  have ab:(G != 0)=true:=by simp [z]
  have aq:=hide z
  clear z
  go_wp2_with fail
  go_ret
  exact⟨congrArg (Value.int .i64) (aj.out.trans (BF aq.out)).symm,W.out⟩
 have ab:(G != 0)=false:=by simp [z]
 have ai:=hide (show checkW nameOK p q=Ad (!O||M != 1) 7 from aj.out.trans (by rw [z]; rfl))
 have am:protE nameOK p=0:=by
  have I:=a6.out
  rw [z] at I
  unfold propE orE at I
  split at I
  ·assumption
  ·exact absurd I ‹_›
 have au:=hide (al.out am _ V)
 clear z am
 go_wp2_with fail
 refine Calls.ret au.out ?_
 rintro v w4 ⟨rfl,a4⟩
 have ar:=hide (V.out.at a4)
 have bf:=ar.out.b3.cell
 have ah:=hide (W.out.trans (a4.mono W.out.size))
 clear a4
 cases O
 ·have g1:(Ad (!false) 7 != 0)=true:=rfl
  have a7:=hide (show checkW nameOK p q=7 from ai.out.trans rfl)
  rw [show Ad (!false) 7=7 from rfl]
  go_wp2_with fail
  go_ret
  exact⟨congrArg (Value.int .i64) a7.out.symm,ah.out⟩
 ·rw [show Ad (!true) 7=0 from rfl]
  have a7:=hide (show checkW nameOK p q=Ad (M != 1) 7 from ai.out.trans (by rw [Bool.not_true,Bool.false_or]))
  cases az:(M != 1)
  all_goals
   have aw:=hide (a7.out)
   have aA:=hide az
   go_wp2_with fail
   go_ret
   exact⟨congrArg (Value.int .i64) (aw.out.trans (by rw [aA.out]; rfl)).symm,ah.out⟩
end Go.Proofs.YtfcfpoemojjglaaGreatDoor.K
