/-
  Part CW of a proof.
-/
import Derived.Test.YtlakpndhhelliaaGreatDoorPA
import Derived.Test.YtlakpndhhelliaaGreatDoorCU
import Derived.Test.YtlakpndhhelliaaGreatDoorCV
set_option maxHeartbeats 16000000
set_option maxRecDepth 100000
set_option linter.unusedVariables false
set_option linter.unusedSimpArgs false
namespace Go.Proofs.YtlakpndhhelliaaGreatDoor.K
open Go.RowKit
attribute [-go_sem] loadCellsFrom storeCells
theorem ret_eq {P:Program} {f:FuncId} {args:Array Value} {w:World} {a b:Int} {K:World→Prop} (h:Calls P f args w (Ret fun v w'=>v=.int .i64 a∧K w')) (e:b=a):Calls P f args w (Ret fun v w'=>v=.int .i64 b∧K w'):=by
 subst e
 exact h
theorem LV {w:World} {cs ds:List Value} {p:Ao} {q:Bd} (h:Ax w w.heap.size cs p) (z:BE w w.heap.size ds q) (C:p.Small) (E:q.Small) (F:AL w):
  Calls Tryz.prog 12 #[.agg cs.toArray,.agg ds.toArray] w (Ret fun v w'=>v=.int .i64 (AJ Ab p q)∧Below w.heap.size w w'):=by
 by_cases f:At Ab p=0
 case neg=>exact ret_eq (Nw h z C E F (hide rfl) (by simpa using f)) (IR f)
 cases y:Ab q.name with
 | false=>exact ret_eq (O1 h z C E F f y) (Iz f y)
 | true=>
  by_cases I:q.kind=1
  ·by_cases O:q.goal.length=0
   ·by_cases J:Aa q.start (p.states.length:Int)=0
    ·exact Q8 h z C E F f y I O J
    ·exact ret_eq (Lh h z C E F f y I O (hide rfl) (by simpa using J)) (by rw [G5 f y I O,Bz J])
   ·exact ret_eq (QB h z C E F f y I O) (Jx f y I O)
  ·by_cases G:q.kind=2
   ·by_cases M:q.bad.length=0
    ·by_cases U:q.adj.length=0
     ·by_cases J:Aa q.start (p.states.length:Int)=0
      ·exact Lc h z C E F f y G M U J
      ·exact ret_eq (Kz h z C E F f y G M U (hide rfl) (by simpa using J)) (by rw [GF f y G M U,Bz J])
     ·exact ret_eq (Po h z C E F f y G M U) (F4 f y G (.inr U))
    ·exact ret_eq (Mb h z C E F f y G M) (F4 f y G (.inl M))
   ·exact ret_eq (Nq h z C E F f y I G) (Jc f y I G)
end Go.Proofs.YtlakpndhhelliaaGreatDoor.K
namespace Go.Proofs.YtlakpndhhelliaaGreatDoor.K
open Go.RowKit
def Ev (w:World) (g:Nat) (b0 b1 b2 b3 b4:Bool):World:=((((w.setCell ⟨g,0,none⟩ (.bool b0)).setCell ⟨g,1,none⟩ (.bool b1)).setCell ⟨g,2,none⟩ (.bool b2)).setCell ⟨g,3,none⟩ (.bool b3)).setCell ⟨g,4,none⟩ (.bool b4)
theorem O3 {w:World} {g:Nat} {t:TypeId} {a0 a1 y z C:Value} (h:Blk w g t #[a0,a1,y,z,C]) (f b1 b2 b3 b4:Bool):
  (storeCells ⟨g,0,none⟩ [.bool f,.bool b1,.bool b2,.bool b3,.bool b4] 0).run Tryz.prog w=.ok () (Ev w g f b1 b2 b3 b4):=by
 have E:=h.cell
 have F:=h.frozen
 unfold Ev
 simp [storeCells,go_sem,E,F]
theorem Lo {w:World} {g:Nat} {e:TypeId} {a0 a1 y z C:Value} (h:Blk w g e #[a0,a1,y,z,C]) (f b1 b2 b3 b4:Bool):Blk (Ev w g f b1 b2 b3 b4) g e #[.bool f,.bool b1,.bool b2,.bool b3,.bool b4]∧Ae w (Ev w g f b1 b2 b3 b4) (fun k=>k=g):=
 ⟨((((h.set_ 0 (.bool f)).set_ 1 (.bool b1)).set_ 2 (.bool b2)).set_ 3 (.bool b3)).set_ 4 (.bool b4),
  (((((Ae.refl w (fun k=>k=g)).setCell (p:=⟨g,0,none⟩) (fun _=>rfl) _).setCell (p:=⟨g,1,none⟩) (fun _=>rfl) _).setCell (p:=⟨g,2,none⟩) (fun _=>rfl) _).setCell (p:=⟨g,3,none⟩) (fun _=>rfl) _).setCell (p:=⟨g,4,none⟩) (fun _=>rfl) _⟩
attribute [-go_sem] loadCellsFrom storeCells
theorem ED.cells4 {w:World} {B:Nat} {rc:Array Value} {r:As} (h:ED w B rc r):∃A c f y,rc[1]?=some (.int .i64 r.kind)∧rc[2]?=some (.int .i64 r.fr)∧rc[3]?=some (.int .i64 r.to)∧rc[8]?=some (.slice A r.ex.length c)∧rc[9]?=some (.slice f r.fa.length y):=by
 obtain⟨G,I,J,c2,z,C,E,F,M,O,U,V,W,Z,A8,c8,e,_⟩:=h.is
 refine⟨z,C,E,F,?_,?_,?_,?_,?_⟩ <;> (rw [←Array.getElem?_toList,e]; rfl)
theorem M8 {w wr:World} {g:Nat} {kt:Int} {E:Array Value} {f h y z C:Bool} (G:Blk wr g 74 #[.bool false,.bool false,.bool false,.bool false,.bool false]) (F:Below w.heap.size w wr) (Z:w.heap.size≤g) (I:y=(kt==2||kt==3))
  (J:E[2]?.getD undef=.pointer (some ⟨g,0,none⟩)) (M:E[3]?.getD undef=.int .i64 0):
  bodyPost Tryz.prog Tryz.f30 (Ret fun v w'=>(∃b0 b1 b2 b4:Bool,v=.tuple #[.agg #[.bool b0,.bool b1,.bool (kt==2||kt==3),.bool b2,.bool b4],.int .i64 0])∧Below w.heap.size w w') Exit.ret { tmps:=E,defers:=[] } (Ev wr g f h y z C):=by
 obtain⟨O,U⟩:=Lo G f h y z C
 have V:=F.trans (U.below F.size (fun b F e=>by omega))
 have W:=Am (n:=5) O rfl
 generalize Ev wr g f h y z C=wF at*
 exact bodyPost_ret (v:=.tuple #[.agg #[.bool f,.bool h,.bool y,.bool z,.bool C],.int .i64 0]) (by simp [results,Tryz.results30,go_sem,W,J,M]) rfl ⟨⟨f,h,z,C,by rw [I]⟩,V⟩
theorem Kn {w:World} {cs:List Value} {p:Ao} (h:Ax w w.heap.size cs p) (f:p.Small) (hT:AL w) (he:At Ab p=0):
    Calls Tryz.prog 30 #[.agg cs.toArray] w (Ret fun v w'=>(∃b0 b1 b2 b4:Bool,v=.tuple #[.agg #[.bool b0,.bool b1,.bool (p.topo==2||p.topo==3),.bool b2,.bool b4],.int .i64 0])∧Below w.heap.size w w'):=by
  obtain⟨A1,c1,A2,c2,A3,c3,A4,c4,A5,c5,A6,c6,A7,c7,U,bB,aA,aB,aC,aD,bC,aE,bD,bE,aF,h1,h2,h3,h4,h5,h6,h7,aN⟩:=h.cells
  have aO:=f.states
  have aP:=f.messages
  have aQ:=f.values
  have aR:=f.res
  have aS:=f.rules
  have aT:=hide f
  have aU:=hide h7
  obtain⟨w1,bF,E,V,aV⟩:=Ag w cs.toArray 27
  obtain⟨w2,bG,y,a7,W⟩:=Ag w1 #[.bool false,.bool false,.bool false,.bool false,.bool false] 74
  have a8:=E.size
  have bH:=V.lt
  have M:=hide (show CK w2 w.heap.size cs.toArray p from⟨h.keep (fun _ F=>(y.cell (by omega)).trans (E.cell F)) (by have:=y.size; omega),V.below y,(hT.below E).below y⟩)
  have a9:=hide (E.trans (y.mono a8))
  have aW:=hide a7
  generalize aX:cs.toArray=pc at*
  obtain⟨nr,aa⟩:∃n,n=p.res.length:=⟨_,rfl⟩
  obtain⟨nm,ab⟩:∃n,n=p.messages.length:=⟨_,rfl⟩
  obtain⟨nv,ad⟩:∃n,n=p.values.length:=⟨_,rfl⟩
  obtain⟨ns,ae⟩:∃n,n=p.states.length:=⟨_,rfl⟩
  obtain⟨nu,Z⟩:∃n,n=p.rules.length:=⟨_,rfl⟩
  have aY:=hide Z
  simp only [←aa,←ab,←ad,←ae,←Z] at aB aC aD aE aF aO aP aQ aR aS aN
  obtain⟨kt,af⟩:∃n,n=p.topo:=⟨_,rfl⟩
  rw [←af] at aA ⊢
  have bI:=hide U
  have ag:∀G,Hid (CK G w.heap.size pc p)→Calls Tryz.prog 22 #[.agg pc] G (Ret fun v w'=>v=.int .i64 0∧Below G.heap.size G w'):=fun G hx=>by
    have:=Dt hx.out.pr aT.out hx.out.tab
    rw [he] at this
    exact this
  have aZ:=hide ag
  have bJ:=M.out.b.cell
  have bK:=Am M.out.b U
  clear h1 h2 h3 h4 h5 h6 h7 h f E y V a7 aV W aX hT U he aa ab ad ae Z af ag
  have bL:((0:Int) != 0)=false:=rfl
  go_enter Tryz.func30,Tryz.ntmps30
  go_wp2_with (go_at_call 22; refine Calls.ret (aZ.out _ M) ?_; rintro v w3 ⟨rfl,O⟩; have aj:=hide (M.out.at O); have bM:=aj.out.b.cell; have ak:=hide (aW.out.below O); have al:=hide (a9.out.trans (O.mono a9.out.size)); clear O)
  go_loopw [5,6,20] (fun v5 v6 ii wr=>∃(k:Nat) (b5 b6:Bool),v5=.bool b5∧v6=.bool b6∧ii=.int .i64 (k:Int)∧k≤nu∧Hid (Below w3.heap.size w3 wr)) (fun _ _ ii _=>nu - (intOf ii).toNat)
  case atStart=>exact⟨0,true,false,rfl,rfl,rfl,Nat.zero_le _,Below.refl _ _⟩
  case round=>
    obtain⟨k,b5,b6,rfl,rfl,rfl,hk,z⟩:=hrel
    have b7:=hide (aj.out.at z.out)
    have bN:=b7.out.b.cell
    have a3:=hide (al.out.trans (z.out.mono al.out.size))
    by_cases bO:k<nu
    · obtain⟨r,hr⟩:∃r,p.rules[k]?=some r:=⟨_,List.getElem?_eq_getElem (by have:=aY.out; omega)⟩
      obtain⟨b,bP,rc,hA,bQ,I,b9,bR⟩:=BU (aU.out.keep (w':=wr) (B':=w.heap.size) (R':=AB wr w.heap.size) (fun _ F=>a3.out.cell F) (fun _ _ h=>h.keep (fun _ F=>a3.out.cell F) (Nat.le_refl _)) (Nat.le_refl _)) hr
      obtain⟨J,ba,an,C,bb⟩:=Ag wr rc 48
      have bc:=Cf wr 48 18 (by kernel_rfl) I.size I.one
      rw [ba] at bc
      obtain⟨E1,f1,E2,f2,ao,ap,aq,ar,au⟩:=I.cells4
      have bS:=I.size
      have bh:J.cell? ⟨wr.heap.size,1,none⟩=some (.int .i64 r.kind):=by rw [C.cell,ao]
      have bi:J.cell? ⟨wr.heap.size,2,none⟩=some (.int .i64 r.fr):=by rw [C.cell,ap]
      have bj:J.cell? ⟨wr.heap.size,3,none⟩=some (.int .i64 r.to):=by rw [C.cell,aq]
      obtain⟨ne,av⟩:∃n,n=r.ex.length:=⟨_,rfl⟩
      obtain⟨nf,aw⟩:∃n,n=r.fa.length:=⟨_,rfl⟩
      have bT:J.cell? ⟨wr.heap.size,8,none⟩=some (.slice E1 ne f1):=by rw [C.cell,ar,av]
      have bU:J.cell? ⟨wr.heap.size,9,none⟩=some (.slice E2 nf f2):=by rw [C.cell,au,aw]
      obtain⟨kk,ax⟩:∃n,n=r.kind:=⟨_,rfl⟩
      obtain⟨kf,ay⟩:∃n,n=r.fr:=⟨_,rfl⟩
      obtain⟨ko,az⟩:∃n,n=r.to:=⟨_,rfl⟩
      rw [←ax] at bh
      rw [←ay] at bi
      rw [←az] at bj
      have bk:=hide (z.out.trans (an.mono z.out.size))
      subst hA
      clear b9 I bb C hr ao ap aq ar au an av aw ax ay az
      cases b5 <;> cases b6
      all_goals
        go_wp2_with fail
        all_goals exact⟨⟨k+1,_,_,rfl,rfl,by go_num,by omega,bk.out⟩,by simp [intOf]; omega⟩
    · have bX:=O3 (ak.out.below z.out)
      have bl:=hide (ak.out.below z.out)
      go_wp2_with fail
      all_goals
        refine M8 bl.out a3.out a8 ?_ rfl rfl
        first
          | rfl
          | (simp; omega)
          | (rename_i hq; subst hq; rfl)
          | (have W:kt≠2:=by omega
             have bm:kt≠3:=by omega
             simp [W,bm])
end Go.Proofs.YtlakpndhhelliaaGreatDoor.K
namespace Go.Proofs.YtlakpndhhelliaaGreatDoor.K
open Go.RowKit
attribute [-go_sem] loadCellsFrom storeCells
def Dp (ok:ByteArray→Bool) (p:Ao) (q:Bd):Int:=orE (AJ ok p q) (Ac (!(p.topo==2||p.topo==3)||q.kind != 1) 7)
theorem ON {w:World} {cs:List Value} {p:Ao} (h:Ax w w.heap.size cs p) (a4:p.Small) (hT:AL w) (he:At Ab p=0):
  Calls Tryz.prog 13 #[.agg cs.toArray] w (Ret fun v w'=>v=.int .i64 (Ac (!(p.topo==2||p.topo==3)) 7)∧Below w.heap.size w w'):=by
 obtain⟨A1,c1,A2,c2,A3,c3,A4,c4,A5,c5,A6,c6,A7,c7,a7,ad,ae,-⟩:=h.cells
 obtain⟨w1,aA,C,a8,af⟩:=Ag w cs.toArray 27
 have O:=hide (show CK w1 w.heap.size cs.toArray p from⟨h.keep (fun _ hp=>C.cell hp) C.size,a8,hT.below C⟩)
 have M:=hide C
 generalize ah:cs.toArray=pc at*
 have U:∀E,Hid (CK E w.heap.size pc p)→Calls Tryz.prog 30 #[.agg pc] E (Ret fun v w'=>(∃f b1 b2 b4:Bool,v=.tuple #[.agg #[.bool f,.bool b1,.bool (p.topo==2||p.topo==3),.bool b2,.bool b4],.int .i64 0])∧Below E.heap.size E w'):=fun E hx=>Kn hx.out.pr a4 hx.out.tab he
 have hl:=Am O.out.b a7
 obtain⟨bt,aa⟩:∃b,b=(p.topo==2||p.topo==3):=⟨_,rfl⟩
 rw [←aa] at U ⊢
 have ab:=hide U
 clear h a4 hT he C a8 af ah U aa a7 ad ae
 cases bt
 ·go_enter Tryz.func13,Tryz.ntmps13
  go_wp2_with (go_at_call 30; refine Calls.ret (ab.out _ O) ?_; rintro v y ⟨⟨f,b1,b2,b4,rfl⟩,F⟩; have G:=hide (M.out.trans (F.mono M.out.size)); obtain⟨V,W,I,J,Z⟩:=Ag y #[.bool f,.bool b1,.bool false,.bool b2,.bool b4] 74; have aj:=J.cell; have a2:=hide (G.out.trans (I.mono G.out.size)); have ak:∀z:Array Value,z.size=5→(storeCells ⟨y.heap.size,0,none⟩ [.bool f,.bool b1,.bool false,.bool b2,.bool b4] 0).run Tryz.prog (y.alloc (.cells z 74))=.ok () V:=(fun z hc=>by rw [←W]; exact Cf y 74 5 (by kernel_rfl) (rc:=#[.bool f,.bool b1,.bool false,.bool b2,.bool b4]) rfl (by simp [Value.oneCell']) z hc); clear F I J Z)
  go_ret
  exact⟨rfl,a2.out⟩
 ·go_enter Tryz.func13,Tryz.ntmps13
  go_wp2_with (go_at_call 30; refine Calls.ret (ab.out _ O) ?_; rintro v y ⟨⟨f,b1,b2,b4,rfl⟩,F⟩; have G:=hide (M.out.trans (F.mono M.out.size)); obtain⟨V,W,I,J,Z⟩:=Ag y #[.bool f,.bool b1,.bool true,.bool b2,.bool b4] 74; have aj:=J.cell; have a2:=hide (G.out.trans (I.mono G.out.size)); have ak:∀z:Array Value,z.size=5→(storeCells ⟨y.heap.size,0,none⟩ [.bool f,.bool b1,.bool true,.bool b2,.bool b4] 0).run Tryz.prog (y.alloc (.cells z 74))=.ok () V:=(fun z hc=>by rw [←W]; exact Cf y 74 5 (by kernel_rfl) (rc:=#[.bool f,.bool b1,.bool true,.bool b2,.bool b4]) rfl (by simp [Value.oneCell']) z hc); clear F I J Z)
  go_ret
  exact⟨rfl,a2.out⟩
theorem ND {w:World} {cs ds:List Value} {p:Ao} {q:Bd} (h:Ax w w.heap.size cs p) (J:BE w w.heap.size ds q) (M:p.Small) (ab:q.Small) (hT:AL w):
  Calls Tryz.prog 6 #[.agg cs.toArray,.agg ds.toArray] w (Ret fun v w'=>v=.int .i64 (Dp Ab p q)∧Below w.heap.size w w'):=by
 obtain⟨B1,d1,B2,d2,B3,d3,B4,d4,ae,ao,ap,aq,ar,au,O,k1,k2,k3,k4⟩:=J.cells
 obtain⟨A1,c1,A2,c2,A3,c3,A4,c4,A5,c5,A6,c6,A7,c7,U,az,aA,-⟩:=h.cells
 obtain⟨w1,bc,V,af,aB⟩:=Ag w cs.toArray 27
 obtain⟨w2,bd,W,ag,aC⟩:=Ag w1 ds.toArray 30
 have y:=hide (V.trans (W.mono V.size))
 have F:=hide (show PQX w2 w.heap.size w1.heap.size cs.toArray ds.toArray p q from⟨h.keep (fun _ Z=>y.out.cell Z) y.out.size,J.keep (fun _ Z=>y.out.cell Z) y.out.size,af.below W,ag,hT.below y.out⟩)
 generalize aD:cs.toArray=pc at*
 generalize aE:ds.toArray=qc at*
 obtain⟨E,a2⟩:∃e,Hid (AJ Ab p q=e):=⟨_,rfl⟩
 have ah:∀f,Hid (PQX f w.heap.size w1.heap.size pc qc p q)→Calls Tryz.prog 12 #[.agg pc,.agg qc] f (Ret fun v w'=>v=.int .i64 E∧Below f.heap.size f w'):=fun f C=>by
  rw [←a2.out]
  exact LV C.out.pr C.out.qr M ab C.out.tab
 have aF:=hide ah
 have ai:At Ab p=0→∀f,Hid (PQX f w.heap.size w1.heap.size pc qc p q)→Calls Tryz.prog 13 #[.agg pc] f (Ret fun v w'=>v=.int .i64 (Ac (!(p.topo==2||p.topo==3)) 7)∧Below f.heap.size f w'):=fun he f C=>ON C.out.pr M C.out.tab he
 have aj:=hide ai
 have be:=Am F.out.b2 U
 have bf:=Am F.out.b3 ae
 obtain⟨G,a3⟩:∃n,n=q.kind:=⟨_,rfl⟩
 rw [←a3] at ap
 obtain⟨bt,a5⟩:∃b,b=(p.topo==2||p.topo==3):=⟨_,rfl⟩
 rw [←a5] at aj
 have ak:=hide (show Dp Ab p q=orE E (Ac (!bt||G != 1) 7) from by
  unfold Dp
  rw [a2.out,a5,a3])
 have aH:=hide U
 clear k1 k2 k3 k4 h J M ab V W af ag aB aC aD aE hT U ae ah ai ao aq ar au O a3 a5 az aA
 go_enter Tryz.func6,Tryz.ntmps6
 go_wp2_with fail
 refine Calls.ret (aF.out _ F) ?_
 rintro v w3 ⟨rfl,a6⟩
 have a7:=hide (F.out.at a6)
 have bh:=Am a7.out.b2 aH.out
 have a8:=hide (y.out.trans (a6.mono y.out.size))
 clear a6
 by_cases z:E=0
 case neg=>
  have O:(E != 0)=true:=by simp [z]
  have aJ:=hide z
  clear z
  go_wp2_with fail
  go_ret
  exact⟨congrArg (Value.int .i64) (ak.out.trans (Bz aJ.out)).symm,a8.out⟩
 have O:(E != 0)=false:=by simp [z]
 have al:=hide (show Dp Ab p q=Ac (!bt||G != 1) 7 from ak.out.trans (by rw [z]; rfl))
 have am:At Ab p=0:=by
  have I:=a2.out
  rw [z] at I
  unfold AJ orE at I
  split at I
  ·assumption
  ·exact absurd I ‹_›
 have aK:=hide (aj.out am _ a7)
 clear z am
 go_wp2_with fail
 refine Calls.ret aK.out ?_
 rintro v w4 ⟨rfl,a9⟩
 have aL:=hide (a7.out.at a9)
 have bj:=aL.out.b3.cell
 have an:=hide (a8.out.trans (a9.mono a8.out.size))
 clear a9
 cases bt
 ·have g1:(Ac (!false) 7 != 0)=true:=rfl
  have aa:=hide (show Dp Ab p q=7 from al.out.trans rfl)
  rw [show Ac (!false) 7=7 from rfl]
  go_wp2_with fail
  go_ret
  exact⟨congrArg (Value.int .i64) aa.out.symm,an.out⟩
 ·rw [show Ac (!true) 7=0 from rfl]
  have aa:=hide (show Dp Ab p q=Ac (G != 1) 7 from al.out.trans (by rw [Bool.not_true,Bool.false_or]))
  cases aM:(G != 1)
  all_goals
   have aN:=hide (aa.out)
   have aO:=hide aM
   go_wp2_with fail
   go_ret
   exact⟨congrArg (Value.int .i64) (aN.out.trans (by rw [aO.out]; rfl)).symm,an.out⟩
end Go.Proofs.YtlakpndhhelliaaGreatDoor.K
