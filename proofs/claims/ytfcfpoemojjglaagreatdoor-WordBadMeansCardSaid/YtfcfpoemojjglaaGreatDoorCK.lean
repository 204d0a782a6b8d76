/-
  Part CK of a proof.
-/
import Derived.Test.YtfcfpoemojjglaaGreatDoorPA
import Derived.Test.YtfcfpoemojjglaaGreatDoorCJ
import Derived.Test.YtfcfpoemojjglaaGreatDoorCI
set_option maxHeartbeats 16000000
set_option maxRecDepth 100000
set_option linter.unusedVariables false
set_option linter.unusedSimpArgs false
namespace Go.Proofs.YtfcfpoemojjglaaGreatDoor.K
open Go.RowKit
attribute [-go_sem] loadCellsFrom storeCells
theorem SD {w:World} {cs:List Value} {p:Am} {r:Az} {i:Nat} {M:Bool} (h:At w w.heap.size cs p) (hr:p.rules[i]?=some r) (hs:r.Small) (cu:r.name.size≤500) (W:p.Small) (hT:SpOK w) (bs:Hid (((p.rules.take i).any fun x=>decide (x.name=r.name))=M)) (af:Hid (nameOK r.name=false∨M=true)):
  Calls Tryz.prog 138 #[.agg cs.toArray,.int .i64 (i:Int)] w (Ret fun v w'=>v=.int .i64 (BC nameOK p.topo (p.states.length:Int) (p.messages.length:Int) (p.values.length:Int) M r)∧Below w.heap.size w w'):=by
 obtain⟨A1,c1,A2,c2,A3,c3,A4,c4,A5,c5,A6,c6,A7,c7,aN,cv,cw,al,be,bf,cx,cy,cz,cA,cB,-,-,-,-,-,-,h7,b0⟩:=h.cells
 have b3:=AP hr
 have b8:=W.states
 have b9:=W.messages
 have ba:=W.values
 have ct:=W.rules
 have aY:=hide h7
 obtain⟨w1,d2,a5,ar,b4⟩:=Ae w cs.toArray 27
 have J:=a5.trans ((Ap w1).mono a5.size)
 have a3:Blk w1.drew w.heap.size 27 cs.toArray:=ar
 obtain⟨b,d3,rc,hA,cg,O,b1,b7⟩:=Du (h7.keep (w':=w1.drew) (B':=w.heap.size) (R':=AW w1.drew w.heap.size) (fun _ y=>J.cell y) (fun _ _ h=>h.keep (fun _ y=>J.cell y) (Nat.le_refl _)) (Nat.le_refl _)) hr
 obtain⟨w2,bv,a6,au,b6⟩:=Ae w1.drew rc 99
 have av:Blk w2 w1.heap.size 99 rc:=au
 have am:=Dv w1.drew 99 18 (by kernel_rfl) O.size O.one
 rw [bv] at am
 have br:∀c:Array Value,c.size=18→(storeCells ⟨w1.heap.size,0,none⟩ rc.toList 0).run Tryz.prog (w1.alloc (.cells c 99)).drew=.ok () w2:=am
 clear am
 have ab:=a3.below a6
 have I:=hide (J.trans (a6.mono J.size))
 have ad:=hide (show Cp w2 w.heap.size w1.heap.size cs.toArray rc p r from⟨h.keep (fun _ y=>I.out.cell y) I.out.size,O.is.keep (fun _ y=>a6.cell (by show _<w1.heap.size; have:=a5.size; omega)) I.out.size,ab,av,hT.below I.out⟩)
 have aO:=O.is.cells
 simp only [Array.toArray_toList] at aO
 obtain⟨E1,f1,E2,f2,E3,f3,E4,f4,E5,f5,E6,f6,E7,f7,E8,f8,⟨aP,cE,cF,cR,cS,cT,cU,cV,cW,cX,cY,cG,cH,cJ,cK,cL,cM,cO,cQ⟩,⟨aA,aB,aC,aD,aE,aF,aG,aH⟩⟩:=aO
 have E:∀{D:Type} {sz:Nat} {enc:D→Nat→Value} {A:Option Addr} {ds:List D},Sl w1.drew w.heap.size sz enc A ds→Sl w w.heap.size sz enc A ds:=fun h=>h.keep (fun _ y=>(J.cell y).symm) (Nat.le_refl _)
 have c8:=hide (E aA)
 have c9:=hide (E aB)
 have ca:=hide (E aC)
 have cb:=hide (E aD)
 have cc:=hide (E aE)
 have cd:=hide (E aF)
 have ce:=hide (E aG)
 have cf:=hide (E aH)
 have ci:=a3.cell
 have aX:=hide a3
 have aW:=hide ab
 generalize bg:cs.toArray=pc at*
 have cD:=hide aN
 obtain⟨bi,bj,bk,bl,bm,bn,bp,bq⟩:=hs
 have d1:=hide (show r.Small from⟨bi,bj,bk,bl,bm,bn,bp,bq⟩)
 have cZ:=hide hr
 have cq:=b0
 have bb:=hide (show i<p.rules.length from b3)
 obtain⟨ns,aj⟩:∃n,n=p.states.length:=⟨_,rfl⟩
 obtain⟨nm,ai⟩:∃n,n=p.messages.length:=⟨_,rfl⟩
 obtain⟨nv,ak⟩:∃n,n=p.values.length:=⟨_,rfl⟩
 have c0:=hide (show ns=p.states.length∧nm=p.messages.length∧nv=p.values.length from⟨aj,ai,ak⟩)
 rw [←aj] at al b8 ⊢
 rw [←ai] at be b9 ⊢
 rw [←ak] at bf ba ⊢
 obtain⟨EV,ay⟩:∃e,Hid (BC nameOK p.topo (ns:Int) (nm:Int) (nv:Int) M r=e):=⟨_,rfl⟩
 rw [ay.out]
 subst hA
 clear b1 O b4 b6 a5 a6 J ar au av a3 ab aN bg hr h h7 aj ai ak hT W aA aB aC aD aE aF aG aH E
 have az:=hide (show EV=2 from ay.out.symm.trans (by
  rcases af.out with G | G
  ·exact Sj G _
  ·rw [G]; exact Sk))
 obtain⟨bo,aL⟩:∃b,Hid (nameOK r.name=b):=⟨_,rfl⟩
 rw [aL.out] at af
 go_enter Tryz.func138,Tryz.ntmps138
 go_wp2_with fail
 refine Reg.cI [0,1,0,7,15,0,32,96,0,287,1023] [0,1,2,3,4,5,6,7,8,9,10] ?_
 refine Reg.wI [0,1,2,3,4,5,6,7,8] [9,10] rfl fun Qf C=>?_
 go_wp2_with fail
 first | refine C _ _ ⟨rfl,?_⟩ | refine⟨rfl,?_⟩ | refine C _ _ ⟨by simp [Reg.fineT,Reg.intOp,Region.wanted,yielded,Reg.intFine,Reg.isInt,Act.eval],?_⟩
 try clear C
 refine Reg.aI 9 [10] [6] rfl fun Qf C=>?_
 simp only [gT,gS,gZ]
 go_wp2_with fail
 first | refine C _ _ ⟨?_,?_⟩ | refine⟨?_,?_⟩
 ·intro z hz q V
  simp only [List.mem_cons,List.not_mem_nil,or_false] at hz
  subst hz
  injection V with V
  subst V
  exact Reg.same_load1 rfl rfl (((aX.out.kept ((Ac.refl _ (fun _=>False)).alloc _) id).cell 2).trans al) ((aW.out.cell 2).trans al) Tryz.underlying22 rfl
 try clear C
 refine Reg.wI [10] [] rfl fun Qf C=>?_
 go_wp2_with fail
 first | refine C _ _ ⟨rfl,?_⟩ | refine⟨rfl,?_⟩ | refine C _ _ ⟨by simp [Reg.fineT,Reg.intOp,Region.wanted,yielded,Reg.intFine,Reg.isInt,Act.eval],?_⟩
 try clear C
 first | refine Reg.restI_end ?_ | skip
 have d0:=hide aP
 clear aP br b7
 have cj:=ad.out.b2.cell
 have cn:=ad.out.b5.cell
 go_wp2_with fail
 refine Calls.ret (Cm r.name _ (by omega)) ?_
 rintro v w3 ⟨rfl,ah⟩
 rw [aL.out]
 have ae:=hide (ad.out.at ah)
 have ck:=ae.out.b2.cell
 have co:=ae.out.b5.cell
 have ag:=hide (I.out.trans (ah.mono I.out.size))
 clear ah
 cases bo
 ·go_wp2_with fail
  go_ret
  exact⟨congrArg (Value.int .i64) az.out.symm,ag.out⟩
 obtain rfl:M=true:=af.out.elim (fun h=>by cases h) id
 go_wp2_with fail
 go_loopw [7] (fun ii wr=>∃(k:Nat),ii=.int .i64 (k:Int)∧k≤i∧Hid (Below w3.heap.size w3 wr)∧Hid ((p.rules.take k).all (fun x=>!decide (x.name=r.name))=true)) (fun ii _=>i - (intOf ii).toNat)
 case atStart=>exact⟨0,rfl,Nat.zero_le _,Below.refl _ _,by show _=_; simp⟩
 case round=>
  obtain⟨k,rfl,hk,a7,hE⟩:=hrel
  have aK:=hide (ae.out.at a7.out)
  have cm:=aK.out.b2.cell
  have cp:=aK.out.b5.cell
  have a4:=hide (ag.out.trans (a7.out.mono ag.out.size))
  by_cases cr:k<i
  ·obtain⟨x,Z⟩:∃x,p.rules[k]?=some x:=⟨_,List.getElem?_eq_getElem (by have:=bb.out; omega)⟩
   obtain⟨b',d4,xc,aq,ch,aw,aM,-⟩:=Du (aY.out.keep (w':=wr) (B':=w.heap.size) (R':=AW wr w.heap.size) (fun _ y=>a4.out.cell y) (fun _ _ h=>h.keep (fun _ y=>a4.out.cell y) (Nat.le_refl _)) (Nat.le_refl _)) Z
   have e1:=Option.some.inj aq
   injection e1 with e1 e2 _
   subst e1 e2
   have a2:=aw.is.cells
   simp only [Array.toArray_toList] at a2
   obtain⟨-,-,-,-,-,-,-,-,-,-,-,-,-,-,-,-,⟨-,a2,-⟩,-⟩:=a2
   have bx:=aM 0 _ a2
   simp only [Nat.add_zero] at bx
   have bw:=hide Z
   clear aM aw Z a2 aq
   by_cases U:x.name=r.name
   ·have V:(x.name.toList==r.name.toList)=true:=by rw [DM]; exact decide_eq_true U
    clear U
    go_wp2_with fail
    refine Reg.cP [0,1,0,7,15,31,0,64,255] ?_
    go_wp2_with fail
    go_ret
    exact⟨congrArg (Value.int .i64) az.out.symm,a4.out.trans ((Ap wr).mono a4.out.size)⟩
   ·have V:(x.name.toList==r.name.toList)=false:=by rw [DM]; exact decide_eq_false U
    have bd:=hide (Cq (p:=fun x:Az=>!decide (x.name=r.name)) bw.out hE.out (by simp [U]))
    have aZ:=hide (a7.out.trans ((Ap wr).mono a7.out.size))
    clear U
    go_wp2_with fail
    refine Reg.cP [0,1,0,7,15,31,0,64,255] ?_
    go_wp2_with fail
    exact⟨⟨k+1,by go_num,by omega,aZ.out,bd.out⟩,by simp [intOf]; omega⟩
  ·exfalso
   have G:=bs.out
   have h2:=hE.out
   rw [show k=i by omega] at h2
   rw [List.any_eq_true] at G
   obtain⟨x,Z,hv⟩:=G
   have h3:=List.all_eq_true.1 h2 x Z
   rw [hv] at h3
   cases h3
theorem SE {w:World} {cs:List Value} {p:Am} {r:Az} {i:Nat} (h:At w w.heap.size cs p) (hr:p.rules[i]?=some r) (hs:r.Small) (cE:r.name.size≤500) (Z:p.Small) (hT:SpOK w) (bE:Hid (((p.rules.take i).any fun x=>decide (x.name=r.name))=false)) (aa:Hid (nameOK r.name=true)) (b8:Hid (inC r.kind 1 5=false∨inC r.kind 1 5=true∧((decide (r.kind≤3) != (p.topo==1))=true∨(decide (r.kind≤3) != (p.topo==1))=false∧B9 p.topo r=true))):
  Calls Tryz.prog 138 #[.agg cs.toArray,.int .i64 (i:Int)] w (Ret fun v w'=>v=.int .i64 (BC nameOK p.topo (p.states.length:Int) (p.messages.length:Int) (p.values.length:Int) false r)∧Below w.heap.size w w'):=by
 obtain⟨A1,c1,A2,c2,A3,c3,A4,c4,A5,c5,A6,c6,A7,c7,aT,cF,cG,aq,bp,bq,cH,cJ,cK,cL,cM,-,-,-,-,-,-,h7,ba⟩:=h.cells
 have bf:=AP hr
 have bk:=Z.states
 have bl:=Z.messages
 have bm:=Z.values
 have cD:=Z.rules
 have b6:=hide h7
 obtain⟨w1,d8,a7,az,bg⟩:=Ae w cs.toArray 27
 have U:=a7.trans ((Ap w1).mono a7.size)
 have a4:Blk w1.drew w.heap.size 27 cs.toArray:=az
 obtain⟨b,d9,rc,hA,cp,V,be,bi⟩:=Du (h7.keep (w':=w1.drew) (B':=w.heap.size) (R':=AW w1.drew w.heap.size) (fun _ C=>U.cell C) (fun _ _ h=>h.keep (fun _ C=>U.cell C) (Nat.le_refl _)) (Nat.le_refl _)) hr
 obtain⟨w2,bF,a8,aA,bh⟩:=Ae w1.drew rc 99
 have aB:Blk w2 w1.heap.size 99 rc:=aA
 have av:=Dv w1.drew 99 18 (by kernel_rfl) V.size V.one
 rw [bF] at av
 have bD:∀c:Array Value,c.size=18→(storeCells ⟨w1.heap.size,0,none⟩ rc.toList 0).run Tryz.prog (w1.alloc (.cells c 99)).drew=.ok () w2:=av
 clear av
 have ai:=a4.below a8
 have M:=hide (U.trans (a8.mono U.size))
 have aj:=hide (show Cp w2 w.heap.size w1.heap.size cs.toArray rc p r from⟨h.keep (fun _ C=>M.out.cell C) M.out.size,V.is.keep (fun _ C=>a8.cell (by show _<w1.heap.size; have:=a7.size; omega)) M.out.size,ai,aB,hT.below M.out⟩)
 have aU:=V.is.cells
 simp only [Array.toArray_toList] at aU
 obtain⟨E1,f1,E2,f2,E3,f3,E4,f4,E5,f5,E6,f6,E7,f7,E8,f8,⟨aV,cO,cQ,cZ,d0,d1,d2,d3,d4,d5,d6,cR,cS,cT,cU,cV,cW,cX,cY⟩,⟨aE,aF,aG,aH,aJ,aK,aL,aM⟩⟩:=aU
 have J:∀{D:Type} {sz:Nat} {enc:D→Nat→Value} {A:Option Addr} {ds:List D},Sl w1.drew w.heap.size sz enc A ds→Sl w w.heap.size sz enc A ds:=fun h=>h.keep (fun _ C=>(U.cell C).symm) (Nat.le_refl _)
 have cg:=hide (J aE)
 have ch:=hide (J aF)
 have ci:=hide (J aG)
 have cj:=hide (J aH)
 have ck:=hide (J aJ)
 have cm:=hide (J aK)
 have cn:=hide (J aL)
 have co:=hide (J aM)
 have cr:=a4.cell
 have b4:=hide a4
 have b3:=hide ai
 generalize br:cs.toArray=pc at*
 have ar:=hide aT
 obtain⟨bt,bu,bv,bw,bx,bz,bA,bB⟩:=hs
 have bC:=hide (show r.Small from⟨bt,bu,bv,bw,bx,bz,bA,bB⟩)
 have d7:=hide hr
 have cB:=ba
 have bn:=hide (show i<p.rules.length from bf)
 obtain⟨ns,ao⟩:∃n,n=p.states.length:=⟨_,rfl⟩
 obtain⟨nm,an⟩:∃n,n=p.messages.length:=⟨_,rfl⟩
 obtain⟨nv,ap⟩:∃n,n=p.values.length:=⟨_,rfl⟩
 have cf:=hide (show ns=p.states.length∧nm=p.messages.length∧nv=p.values.length from⟨ao,an,ap⟩)
 rw [←ao] at aq bk ⊢
 rw [←an] at bp bl ⊢
 rw [←ap] at bq bm ⊢
 obtain⟨EV,a5⟩:∃e,Hid (BC nameOK p.topo (ns:Int) (nm:Int) (nv:Int) false r=e):=⟨_,rfl⟩
 rw [a5.out]
 subst hA
 clear be V bg bh a7 a8 U az aA aB a4 ai aT br hr h h7 ao an ap hT Z aE aF aG aH aJ aK aL aM J
 go_enter Tryz.func138,Tryz.ntmps138
 go_wp2_with fail
 refine Reg.cI [0,1,0,7,15,0,32,96,0,287,1023] [0,1,2,3,4,5,6,7,8,9,10] ?_
 refine Reg.wI [0,1,2,3,4,5,6,7,8] [9,10] rfl fun Qf G=>?_
 go_wp2_with fail
 first | refine G _ _ ⟨rfl,?_⟩ | refine⟨rfl,?_⟩ | refine G _ _ ⟨by simp [Reg.fineT,Reg.intOp,Region.wanted,yielded,Reg.intFine,Reg.isInt,Act.eval],?_⟩
 try clear G
 refine Reg.aI 9 [10] [6] rfl fun Qf G=>?_
 simp only [gT,gS,gZ]
 go_wp2_with fail
 first | refine G _ _ ⟨?_,?_⟩ | refine⟨?_,?_⟩
 ·intro z hz q hq
  simp only [List.mem_cons,List.not_mem_nil,or_false] at hz
  subst hz
  injection hq with hq
  subst hq
  exact Reg.same_load1 rfl rfl (((b4.out.kept ((Ac.refl _ (fun _=>False)).alloc _) id).cell 2).trans aq) ((b3.out.cell 2).trans aq) Tryz.underlying22 rfl
 try clear G
 refine Reg.wI [10] [] rfl fun Qf G=>?_
 go_wp2_with fail
 first | refine G _ _ ⟨rfl,?_⟩ | refine⟨rfl,?_⟩ | refine G _ _ ⟨by simp [Reg.fineT,Reg.intOp,Region.wanted,yielded,Reg.intFine,Reg.isInt,Act.eval],?_⟩
 try clear G
 first | refine Reg.restI_end ?_ | skip
 have au:=hide aV
 clear aV bD bi
 have ct:=aj.out.b2.cell
 have cx:=aj.out.b5.cell
 go_wp2_with fail
 go_wp2_with (go_at_call 96; refine Calls.ret (Cm r.name _ (by omega)) ?_; rintro v w3 ⟨rfl,al⟩; rw [aa.out]; have ak:=hide (aj.out.at al); have cu:=ak.out.b2.cell; have cy:=ak.out.b5.cell; have aP:=hide (M.out.trans (al.mono M.out.size)); clear al)
 go_loopw [7] (fun ii wr=>∃(k:Nat),ii=.int .i64 (k:Int)∧k≤i∧Hid (Below w3.heap.size w3 wr)∧Hid ((p.rules.take k).all (fun x=>!decide (x.name=r.name))=true)) (fun ii _=>i - (intOf ii).toNat)
 case atStart=>exact⟨0,rfl,Nat.zero_le _,Below.refl _ _,by show _=_; simp⟩
 case round=>
  obtain⟨k,rfl,hk,a9,hE⟩:=hrel
  have E:=hide (ak.out.at a9.out)
  have cv:=E.out.b2.cell
  have cz:=E.out.b5.cell
  have O:=hide (aP.out.trans (a9.out.mono aP.out.size))
  by_cases bj:k<i
  ·obtain⟨x,hx⟩:∃x,p.rules[k]?=some x:=⟨_,List.getElem?_eq_getElem (by have:=bn.out; omega)⟩
   obtain⟨b',da,xc,ay,cq,aC,aQ,-⟩:=Du (b6.out.keep (w':=wr) (B':=w.heap.size) (R':=AW wr w.heap.size) (fun _ C=>O.out.cell C) (fun _ _ h=>h.keep (fun _ C=>O.out.cell C) (Nat.le_refl _)) (Nat.le_refl _)) hx
   have e1:=Option.some.inj ay
   injection e1 with e1 e2 _
   subst e1 e2
   have a2:=aC.is.cells
   simp only [Array.toArray_toList] at a2
   obtain⟨-,-,-,-,-,-,-,-,-,-,-,-,-,-,-,-,⟨-,a2,-⟩,-⟩:=a2
   have bG:=aQ 0 _ a2
   simp only [Nat.add_zero] at bG
   have aW:=hide hx
   clear aQ aC hx a2 ay
   by_cases a6:x.name=r.name
   ·exfalso
    have h1:=bE.out
    rw [List.any_eq_false] at h1
    refine h1 x (List.mem_of_getElem? (i:=k) ?_) (decide_eq_true a6)
    rw [List.getElem?_take,if_pos bj]
    exact aW.out
   ·have hq:(x.name.toList==r.name.toList)=false:=by rw [DM]; exact decide_eq_false a6
    have bo:=hide (Cq (p:=fun x:Az=>!decide (x.name=r.name)) aW.out hE.out (by simp [a6]))
    have b9:=hide (a9.out.trans ((Ap wr).mono a9.out.size))
    clear a6
    go_wp2_with fail
    refine Reg.cP [0,1,0,7,15,31,0,64,255] ?_
    go_wp2_with fail
    exact⟨⟨k+1,by go_num,by omega,b9.out,bo.out⟩,by simp [intOf]; omega⟩
  ·clear hE
   rcases b8.out with y | ⟨y,I | ⟨I,ae⟩⟩
   ·replace y:=hide y
    have W:=hide (show EV=6 from a5.out.symm.trans (Ib aa.out (by rw [show(decide (1≤r.kind)&&decide (r.kind≤5))=false from y.out]; rfl)))
    have aR:=Ah E.out.b2 ar.out
    have aS:=Ah E.out.b5 au.out
    go_wp2_with (first
     | (go_at_call 98; refine(within2_any _ _ _ _).mono ?_; rintro e w' ⟨rfl,rfl⟩; rw [y.out]))
    go_ret
    exact⟨congrArg (Value.int .i64) (W.out).symm,O.out⟩
   ·replace y:=hide y
    have W:=hide (show EV=6 from a5.out.symm.trans (Ib aa.out (by rw [show(decide (1≤r.kind)&&decide (r.kind≤5))=true from y.out,show(decide (r.kind≤3) != decide (p.topo=1))=true from I]; rfl)))
    have bb:¬(decide (r.kind≤3)=(p.topo==1)):=fun e=>by rw [e] at I; simp at I
    have bd:=hide I
    clear I
    have aR:=Ah E.out.b2 ar.out
    have aS:=Ah E.out.b5 au.out
    go_wp2_with (first
     | (go_at_call 98; refine(within2_any _ _ _ _).mono ?_; rintro e w' ⟨rfl,rfl⟩; rw [y.out]))
    go_ret
    exact⟨congrArg (Value.int .i64) (W.out).symm,O.out⟩
   ·replace y:=hide y
    replace ae:=hide ae
    have W:=hide (show EV=6 from a5.out.symm.trans (Ib aa.out (by rw [show(decide (1≤r.kind)&&decide (r.kind≤5))=true from y.out,show(decide (r.kind≤3) != decide (p.topo=1))=false from I,ae.out]; rfl)))
    have bb:decide (r.kind≤3)=(p.topo==1):=by cases h1:decide (r.kind≤3) <;> cases h2:(p.topo==1) <;> simp [h1,h2] at I ⊢
    have bd:=hide I
    clear I
    have aR:=Ah E.out.b2 ar.out
    have aS:=Ah E.out.b5 au.out
    go_wp2_with (first
     | (go_at_call 98; refine(within2_any _ _ _ _).mono ?_; rintro e w' ⟨rfl,rfl⟩; rw [y.out])
     | (go_at_call 192; refine Calls.ret (FD E.out.pr E.out.ru bC.out) ?_; rintro v w5 ⟨rfl,am⟩; rw [ae.out]; have aO:=hide (E.out.at am); have cw:=aO.out.b2.cell; have cA:=aO.out.b5.cell; have b7:=hide (O.out.trans (am.mono O.out.size)); clear am))
    go_ret
    exact⟨congrArg (Value.int .i64) (W.out).symm,b7.out⟩
end Go.Proofs.YtfcfpoemojjglaaGreatDoor.K
namespace Go.Proofs.YtfcfpoemojjglaaGreatDoor.K
open Go.RowKit
attribute [-go_sem] loadCellsFrom storeCells
theorem SH {w:World} {cs:List Value} {p:Am} {r:Az} {i:Nat} (h:At w w.heap.size cs p) (hr:p.rules[i]?=some r) (hs:r.Small) (el:r.name.size≤500) (am:p.Small) (hT:SpOK w) (dh:Hid (((p.rules.take i).any fun x=>decide (x.name=r.name))=false)) (bK:Hid (nameOK r.name=true)) (bI:Hid (inC r.kind 1 5=true)) (aC:(decide (r.kind≤3) != (p.topo==1))=false) (bi:Hid (B9 p.topo r=false)) (V:r.kind=4):
  Calls Tryz.prog 138 #[.agg cs.toArray,.int .i64 (i:Int)] w (Ret fun v w'=>v=.int .i64 (BC nameOK p.topo (p.states.length:Int) (p.messages.length:Int) (p.values.length:Int) false r)∧Below w.heap.size w w'):=by
 obtain⟨A1,c1,A2,c2,A3,c3,A4,c4,A5,c5,A6,c6,A7,c7,bM,em,en,bg,cY,cZ,eo,ep,eq,er,et,-,-,-,-,-,-,h7,cH⟩:=h.cells
 have cM:=AP hr
 have cT:=am.states
 have cU:=am.messages
 have cV:=am.values
 have ei:=am.rules
 have cr:=hide h7
 obtain⟨w1,eO,az,bk,cO⟩:=Ae w cs.toArray 27
 have ag:=az.trans ((Ap w1).mono az.size)
 have aq:Blk w1.drew w.heap.size 27 cs.toArray:=bk
 obtain⟨b,eP,rc,hA,dR,hC,cJ,cR⟩:=Du (h7.keep (w':=w1.drew) (B':=w.heap.size) (R':=AW w1.drew w.heap.size) (fun _ C=>ag.cell C) (fun _ _ h=>h.keep (fun _ C=>ag.cell C) (Nat.le_refl _)) (Nat.le_refl _)) hr
 obtain⟨w2,di,aA,bl,cQ⟩:=Ae w1.drew rc 99
 have bm:Blk w2 w1.heap.size 99 rc:=bl
 have bh:=Dv w1.drew 99 18 (by kernel_rfl) hC.size hC.one
 rw [di] at bh
 have df:∀c:Array Value,c.size=18→(storeCells ⟨w1.heap.size,0,none⟩ rc.toList 0).run Tryz.prog (w1.alloc (.cells c 99)).drew=.ok () w2:=bh
 clear bh
 have aS:=aq.below aA
 have ad:=hide (ag.trans (aA.mono ag.size))
 have aU:=hide (show Cp w2 w.heap.size w1.heap.size cs.toArray rc p r from⟨h.keep (fun _ C=>ad.out.cell C) ad.out.size,hC.is.keep (fun _ C=>aA.cell (by show _<w1.heap.size; have:=az.size; omega)) ad.out.size,aS,bm,hT.below ad.out⟩)
 have bN:=hC.is.cells
 simp only [Array.toArray_toList] at bN
 obtain⟨E1,f1,E2,f2,E3,f3,E4,f4,E5,f5,E6,f6,E7,f7,E8,f8,⟨bP,eu,ev,eG,eH,eI,eJ,eK,d2,eL,eM,ew,ey,ez,eA,eB,eD,eE,eF⟩,⟨bq,br,bs,bt,bu,bv,bw,bx⟩⟩:=bN
 have M:∀{D:Type} {sz:Nat} {enc:D→Nat→Value} {A:Option Addr} {ds:List D},Sl w1.drew w.heap.size sz enc A ds→Sl w w.heap.size sz enc A ds:=fun h=>h.keep (fun _ C=>(ag.cell C).symm) (Nat.le_refl _)
 have dP:=hide (M bq)
 have dQ:=hide (M br)
 have ct:=hide (M bs)
 have cu:=hide (M bt)
 have cv:=hide (M bu)
 have cw:=hide (M bv)
 have cx:=hide (M bw)
 have cy:=hide (M bx)
 have dT:=aq.cell
 have cp:=hide aq
 have co:=hide aS
 generalize d0:cs.toArray=pc at*
 have d1:=hide bM
 obtain⟨d5,d6,d7,d8,d9,da,db,dc⟩:=hs
 have de:=hide (show r.Small from⟨d5,d6,d7,d8,d9,da,db,dc⟩)
 have eN:=hide hr
 have ec:=cH
 have cW:=hide (show i<p.rules.length from cM)
 obtain⟨ns,be⟩:∃n,n=p.states.length:=⟨_,rfl⟩
 obtain⟨nm,bd⟩:∃n,n=p.messages.length:=⟨_,rfl⟩
 obtain⟨nv,bf⟩:∃n,n=p.values.length:=⟨_,rfl⟩
 have dO:=hide (show ns=p.states.length∧nm=p.messages.length∧nv=p.values.length from⟨be,bd,bf⟩)
 rw [←be] at bg cT ⊢
 rw [←bd] at cY cU ⊢
 rw [←bf] at cZ cV ⊢
 obtain⟨EV,bp⟩:∃e,Hid (BC nameOK p.topo (ns:Int) (nm:Int) (nv:Int) false r=e):=⟨_,rfl⟩
 rw [bp.out]
 subst hA
 clear cJ hC cO cQ az aA ag bk bl bm aq aS bM d0 hr h h7 be bd bf hT am bq br bs bt bu bv bw bx M
 have cq:=hide (show KOK nameOK p.topo r from⟨bK.out,bI.out,aC,bi.out⟩)
 have bA:=hide (DF bi.out)
 have cK:∀y,Below w.heap.size w y→Calls Tryz.prog 97 #[.slice E3 r.ex.length f3,.int .i64 (ns:Int)] y (Ret fun v w'=>v=.int .i64 (setE r.ex (ns:Int))∧Below y.heap.size y w'):=fun y E=>B0 (by omega) (ct.out.keep (fun _ C=>E.cell C) E.size)
 have cL:∀y,Below w.heap.size w y→Calls Tryz.prog 97 #[.slice E4 r.fa.length f4,.int .i64 (ns:Int)] y (Ret fun v w'=>v=.int .i64 (setE r.fa (ns:Int))∧Below y.heap.size y w'):=fun y E=>B0 (by omega) (cu.out.keep (fun _ C=>E.cell C) E.size)
 have dg:∀y,Below w.heap.size w y→Calls Tryz.prog 97 #[.slice E5 r.send.length f5,.int .i64 (nm:Int)] y (Ret fun v w'=>v=.int .i64 (setE r.send (nm:Int))∧Below y.heap.size y w'):=fun y E=>B0 (by omega) (cv.out.keep (fun _ C=>E.cell C) E.size)
 have bJ:∀y,Below w.heap.size w y→Calls Tryz.prog 97 #[.slice E6 r.left.length f6,.int .i64 (ns:Int)] y (Ret fun v w'=>v=.int .i64 (setE r.left (ns:Int))∧Below y.heap.size y w'):=fun y E=>B0 (by omega) (cw.out.keep (fun _ C=>E.cell C) E.size)
 have bO:∀y,Below w.heap.size w y→Calls Tryz.prog 97 #[.slice E7 r.right.length f7,.int .i64 (ns:Int)] y (Ret fun v w'=>v=.int .i64 (setE r.right (ns:Int))∧Below y.heap.size y w'):=fun y E=>B0 (by omega) (cx.out.keep (fun _ C=>E.cell C) E.size)
 have bL:∀y,Below w.heap.size w y→Calls Tryz.prog 97 #[.slice E8 r.parent.length f8,.int .i64 (ns:Int)] y (Ret fun v w'=>v=.int .i64 (setE r.parent (ns:Int))∧Below y.heap.size y w'):=fun y E=>B0 (by omega) (cy.out.keep (fun _ C=>E.cell C) E.size)
 have ed:decide (r.kind≤3)=(p.topo==1):=by cases h1:decide (r.kind≤3) <;> cases h2:(p.topo==1) <;> simp [h1,h2] at aC ⊢
 have ee:=hide aC
 clear aC
 go_enter Tryz.func138,Tryz.ntmps138
 go_wp2_with fail
 refine Reg.cI [0,1,0,7,15,0,32,96,0,287,1023] [0,1,2,3,4,5,6,7,8,9,10] ?_
 refine Reg.wI [0,1,2,3,4,5,6,7,8] [9,10] rfl fun Qf I=>?_
 go_wp2_with fail
 first | refine I _ _ ⟨rfl,?_⟩ | refine⟨rfl,?_⟩ | refine I _ _ ⟨by simp [Reg.fineT,Reg.intOp,Region.wanted,yielded,Reg.intFine,Reg.isInt,Act.eval],?_⟩
 try clear I
 refine Reg.aI 9 [10] [6] rfl fun Qf I=>?_
 simp only [gT,gS,gZ]
 go_wp2_with fail
 first | refine I _ _ ⟨?_,?_⟩ | refine⟨?_,?_⟩
 ·intro z hz q hq
  simp only [List.mem_cons,List.not_mem_nil,or_false] at hz
  subst hz
  injection hq with hq
  subst hq
  exact Reg.same_load1 rfl rfl (((cp.out.kept ((Ac.refl _ (fun _=>False)).alloc _) id).cell 2).trans bg) ((co.out.cell 2).trans bg) Tryz.underlying22 rfl
 try clear I
 refine Reg.wI [10] [] rfl fun Qf I=>?_
 go_wp2_with fail
 first | refine I _ _ ⟨rfl,?_⟩ | refine⟨rfl,?_⟩ | refine I _ _ ⟨by simp [Reg.fineT,Reg.intOp,Region.wanted,yielded,Reg.intFine,Reg.isInt,Act.eval],?_⟩
 try clear I
 first | refine Reg.restI_end ?_ | skip
 have d3:=hide bP
 clear bP df cR
 have dU:=aU.out.b2.cell
 have e4:=aU.out.b5.cell
 go_wp2_with fail
 go_wp2_with (go_at_call 96; refine Calls.ret (Cm r.name _ (by omega)) ?_; rintro v w3 ⟨rfl,b4⟩; rw [bK.out]; have aV:=hide (aU.out.at b4); have dV:=aV.out.b2.cell; have e5:=aV.out.b5.cell; have bE:=hide (ad.out.trans (b4.mono ad.out.size)); clear b4)
 go_loopw [7] (fun ii wr=>∃(k:Nat),ii=.int .i64 (k:Int)∧k≤i∧Hid (Below w3.heap.size w3 wr)∧Hid ((p.rules.take k).all (fun x=>!decide (x.name=r.name))=true)) (fun ii _=>i - (intOf ii).toNat)
 case atStart=>exact⟨0,rfl,Nat.zero_le _,Below.refl _ _,by show _=_; simp⟩
 case round=>
  obtain⟨k,rfl,hk,aB,hE⟩:=hrel
  have W:=hide (aV.out.at aB.out)
  have dW:=W.out.b2.cell
  have e6:=W.out.b5.cell
  have ax:=hide (bE.out.trans (aB.out.mono bE.out.size))
  by_cases cS:k<i
  ·obtain⟨x,E⟩:∃x,p.rules[k]?=some x:=⟨_,List.getElem?_eq_getElem (by have:=cW.out; omega)⟩
   obtain⟨b',eQ,xc,bj,dS,bn,bG,-⟩:=Du (cr.out.keep (w':=wr) (B':=w.heap.size) (R':=AW wr w.heap.size) (fun _ C=>ax.out.cell C) (fun _ _ h=>h.keep (fun _ C=>ax.out.cell C) (Nat.le_refl _)) (Nat.le_refl _)) E
   have e1:=Option.some.inj bj
   injection e1 with e1 e2 _
   subst e1 e2
   have an:=bn.is.cells
   simp only [Array.toArray_toList] at an
   obtain⟨-,-,-,-,-,-,-,-,-,-,-,-,-,-,-,-,⟨-,an,-⟩,-⟩:=an
   have dj:=bG 0 _ an
   simp only [Nat.add_zero] at dj
   have bQ:=hide E
   clear bG bn E an bj
   by_cases ar:x.name=r.name
   ·exfalso
    have h1:=dh.out
    rw [List.any_eq_false] at h1
    refine h1 x (List.mem_of_getElem? (i:=k) ?_) (decide_eq_true ar)
    rw [List.getElem?_take,if_pos cS]
    exact bQ.out
   ·have hq:(x.name.toList==r.name.toList)=false:=by rw [DM]; exact decide_eq_false ar
    have cX:=hide (Cq (p:=fun x:Az=>!decide (x.name=r.name)) bQ.out hE.out (by simp [ar]))
    have cz:=hide (aB.out.trans ((Ap wr).mono aB.out.size))
    clear ar
    go_wp2_with fail
    refine Reg.cP [0,1,0,7,15,31,0,64,255] ?_
    go_wp2_with fail
    exact⟨⟨k+1,by go_num,by omega,cz.out,cX.out⟩,by simp [intOf]; omega⟩
  ·clear hE
   have aT:=hide (bp.out.symm.trans (Sh cq.out V (by omega)))
   have q1:(r.kind==1)=false:=by rw [V]; rfl
   have q2:(r.kind==2)=false:=by rw [V]; rfl
   have q3:(r.kind==3)=false:=by rw [V]; rfl
   have q4:(r.kind==4)=true:=by rw [V]; rfl
   have q5:(r.kind==5)=false:=by rw [V]; rfl
   have eS:(r.kind==2||r.kind==5)=false:=by rw [q2,q5]; rfl
   have bH:=hide V
   clear V
   have aL:=hide (show r.guards=[]∧r.ex=[]∧r.fa=[]∧r.send=[] from bA.out.g (by rw [bH.out]; decide))
   have bS:=hide (show r.rd= -1∧r.wr= -1 from bA.out.v (by rw [bH.out]; decide))
   have ef:=Ah W.out.b2 d1.out
   have eg:=Ah W.out.b5 d3.out
   go_wp2_with (first
    | (go_at_call 98; refine(within2_any _ _ _ _).mono ?_; rintro e w' ⟨rfl,rfl⟩; rw [bI.out])
    | (go_at_call 192; refine Calls.ret (FD W.out.pr W.out.ru de.out) ?_; rintro v w5 ⟨rfl,b6⟩; rw [bi.out]; have aW:=hide (W.out.at b6); have dX:=aW.out.b2.cell; have e7:=aW.out.b5.cell; have ay:=hide (ax.out.trans (b6.mono ax.out.size)); clear b6))
   obtain⟨ng,ba⟩:∃n,n=r.guards.length:=⟨_,rfl⟩
   have bb:=hide (show ng=0 from by rw [ba,aL.out.1]; rfl)
   rw [←ba] at d2
   have ej:¬(2:Int)<(ng:Int):=by have:=bb.out; omega
   have ek:ng≤60:=by have:=bb.out; omega
   clear ba
   cases aG:inC r.fr 0 ((ns:Int) - 1)
   case false=>
    have a7:=hide aG
    clear aG
    refine(within2_any _ _ _ _).mono ?_; rintro e w' ⟨rfl,rfl⟩; rw [a7.out]; go_wp2_with fail
    go_ret
    exact⟨congrArg (Value.int .i64) (aT.out.trans (by rw [show inN r.fr (ns:Int)=false from a7.out]; rfl)).symm,ay.out⟩
   have a7:=hide aG
   clear aG
   refine(within2_any _ _ _ _).mono ?_; rintro e w' ⟨rfl,rfl⟩; rw [a7.out]; go_wp2_with fail
   cases aK:inC r.to 0 ((ns:Int) - 1)
   case false=>
    have aj:=hide aK
    clear aK
    refine(within2_any _ _ _ _).mono ?_; rintro e w' ⟨rfl,rfl⟩; rw [aj.out]; go_wp2_with fail
    go_ret
    exact⟨congrArg (Value.int .i64) (aT.out.trans (by rw [show inN r.fr (ns:Int)=true from a7.out,show inN r.to (ns:Int)=false from aj.out]; rfl)).symm,ay.out⟩
   have aj:=hide aK
   clear aK
   refine(within2_any _ _ _ _).mono ?_; rintro e w' ⟨rfl,rfl⟩; rw [aj.out]; go_wp2_with fail
   have bB:=hide (show EV=orE (setE r.left (ns:Int)) (orE (setE r.right (ns:Int)) (orE (setE r.parent (ns:Int)) (Ad (!inC r.at_ 0 2||(!decide (r.at_=0)&&decide (p.topo=3))) 1))) from aT.out.trans (by rw [show inN r.fr (ns:Int)=true from a7.out,show inN r.to (ns:Int)=true from aj.out]; rfl))
   go_loopw [10] (fun ii wr=>∃(k:Nat),ii=.int .i64 (k:Int)∧k≤ng∧Hid (Below w5.heap.size w5 wr)) (fun ii _=>ng - (intOf ii).toNat)
   case atStart=>exact⟨0,rfl,Nat.zero_le _,Below.refl _ _⟩
   case round=>
    obtain⟨k,rfl,hk,bF⟩:=hrel
    have aX:=hide (aW.out.at bF.out)
    have dY:=aX.out.b2.cell
    have e8:=aX.out.b5.cell
    have b0:=hide (ay.out.trans (bF.out.mono ay.out.size))
    by_cases eh:k<ng
    ·exfalso
     have:=bb.out
     omega
    ·go_wp2_with fail
     have cd:=hide (show setE r.ex (ns:Int)=0 from by rw [aL.out.2.1]; rfl)
     refine Calls.ret (cK _ b0.out) ?_; rintro v w7 ⟨rfl,b7⟩; rw [cd.out]; have aY:=hide (aX.out.at b7); have dZ:=aY.out.b2.cell; have e9:=aY.out.b5.cell; have b1:=hide (b0.out.trans (b7.mono b0.out.size)); clear b7; go_wp2_with fail
     have Y1:(r.rd != -1)=false:=by rw [bS.out.1]; rfl
     have Y2:(r.wr != -1)=false:=by rw [bS.out.2]; rfl
     have ce:=hide (show setE r.fa (ns:Int)=0 from by rw [aL.out.2.2.1]; rfl)
     refine Calls.ret (cL _ b1.out) ?_; rintro v w8 ⟨rfl,b8⟩; rw [ce.out]; have aZ:=hide (aY.out.at b8); have e0:=aZ.out.b2.cell; have ea:=aZ.out.b5.cell; have b3:=hide (b1.out.trans (b8.mono b1.out.size)); clear b8; go_wp2_with fail
     have cf:=hide (show setE r.send (nm:Int)=0 from by rw [aL.out.2.2.2]; rfl)
     refine Calls.ret (dg _ b3.out) ?_; rintro v w9 ⟨rfl,b9⟩; rw [cf.out]; have av:=hide (aZ.out.at b9); have e3:=av.out.b2.cell; have eb:=av.out.b5.cell; have ae:=hide (b3.out.trans (b9.mono b3.out.size)); clear b9; go_wp2_with fail
     obtain⟨aO,aD⟩:∃e,Hid (setE r.left (ns:Int)=e):=⟨_,rfl⟩
     by_cases a8:aO=0
     case neg=>
      have dm:(aO != 0)=true:=by simp [a8]
      have G:=hide a8
      clear a8
      refine Calls.ret (bJ _ ae.out) ?_; rintro v wa ⟨rfl,a3⟩; rw [aD.out]; have Z:=hide (av.out.at a3); have cA:=Z.out.b2.cell; have cE:=Z.out.b5.cell; have O:=hide (ae.out.trans (a3.mono ae.out.size)); clear a3; go_wp2_with fail
      go_ret
      exact⟨congrArg (Value.int .i64) (bB.out.trans (by rw [aD.out]; exact BF G.out)).symm,O.out⟩
     have dm:(aO != 0)=false:=by simp [a8]
     have ca:=hide a8
     clear a8
     have bC:=hide (show EV=orE (setE r.right (ns:Int)) (orE (setE r.parent (ns:Int)) (Ad (!inC r.at_ 0 2||(!decide (r.at_=0)&&decide (p.topo=3))) 1)) from bB.out.trans (by rw [aD.out,ca.out]; rfl))
     refine Calls.ret (bJ _ ae.out) ?_; rintro v wa ⟨rfl,a3⟩; rw [aD.out]; have Z:=hide (av.out.at a3); have cA:=Z.out.b2.cell; have cE:=Z.out.b5.cell; have O:=hide (ae.out.trans (a3.mono ae.out.size)); clear a3; go_wp2_with fail
     obtain⟨aQ,aF⟩:∃e,Hid (setE r.right (ns:Int)=e):=⟨_,rfl⟩
     by_cases aa:aQ=0
     case neg=>
      have dp:(aQ != 0)=true:=by simp [aa]
      have G:=hide aa
      clear aa
      refine Calls.ret (bO _ O.out) ?_; rintro v wb ⟨rfl,a4⟩; rw [aF.out]; have a2:=hide (Z.out.at a4); have cB:=a2.out.b2.cell; have cF:=a2.out.b5.cell; have U:=hide (O.out.trans (a4.mono O.out.size)); clear a4; go_wp2_with fail
      go_ret
      exact⟨congrArg (Value.int .i64) (bC.out.trans (by rw [aF.out]; exact BF G.out)).symm,U.out⟩
     have dp:(aQ != 0)=false:=by simp [aa]
     have cc:=hide aa
     clear aa
     have bD:=hide (show EV=orE (setE r.parent (ns:Int)) (Ad (!inC r.at_ 0 2||(!decide (r.at_=0)&&decide (p.topo=3))) 1) from bC.out.trans (by rw [aF.out,cc.out]; rfl))
     refine Calls.ret (bO _ O.out) ?_; rintro v wb ⟨rfl,a4⟩; rw [aF.out]; have a2:=hide (Z.out.at a4); have cB:=a2.out.b2.cell; have cF:=a2.out.b5.cell; have U:=hide (O.out.trans (a4.mono O.out.size)); clear a4; go_wp2_with fail
     obtain⟨aP,aE⟩:∃e,Hid (setE r.parent (ns:Int)=e):=⟨_,rfl⟩
     by_cases a9:aP=0
     case neg=>
      have dn:(aP != 0)=true:=by simp [a9]
      have G:=hide a9
      clear a9
      refine Calls.ret (bL _ U.out) ?_; rintro v wc ⟨rfl,a5⟩; rw [aE.out]; have al:=hide (a2.out.at a5); have cD:=al.out.b2.cell; have cG:=al.out.b5.cell; have af:=hide (U.out.trans (a5.mono U.out.size)); clear a5; go_wp2_with fail
      go_ret
      exact⟨congrArg (Value.int .i64) (bD.out.trans (by rw [aE.out]; exact BF G.out)).symm,af.out⟩
     have dn:(aP != 0)=false:=by simp [a9]
     have cb:=hide a9
     clear a9
     have au:=hide (show EV=Ad (!inC r.at_ 0 2||(!decide (r.at_=0)&&decide (p.topo=3))) 1 from bD.out.trans (by rw [aE.out,cb.out]; rfl))
     refine Calls.ret (bL _ U.out) ?_; rintro v wc ⟨rfl,a5⟩; rw [aE.out]; have al:=hide (a2.out.at a5); have cD:=al.out.b2.cell; have cG:=al.out.b5.cell; have af:=hide (U.out.trans (a5.mono U.out.size)); clear a5; go_wp2_with fail
     have dN:=hide (show True from trivial)
     cases aw:inC r.at_ 0 2
     case false=>
      have J:=hide aw
      clear aw
      refine(within2_any _ _ _ _).mono ?_; rintro e w' ⟨rfl,rfl⟩; rw [J.out]; go_wp2_with fail
      go_ret
      exact⟨congrArg (Value.int .i64) (au.out.trans (by rw [J.out]; rfl)).symm,af.out⟩
     have J:=hide aw
     clear aw
     by_cases ab:r.at_=0
     case pos=>
      have G0:(r.at_ != 0)=false:=by simp [ab]
      have G:=hide ab
      clear ab
      refine(within2_any _ _ _ _).mono ?_; rintro e w' ⟨rfl,rfl⟩; rw [J.out]; go_wp2_with fail
      go_ret
      exact⟨congrArg (Value.int .i64) (au.out.trans (by rw [J.out,decide_eq_true G.out]; rfl)).symm,af.out⟩
     have G0:(r.at_ != 0)=true:=by simp [ab]
     have G:=hide ab
     clear ab
     by_cases ah:p.topo=3
     case pos=>
      have G1:(p.topo==3)=true:=by simp [ah]
      have H1:=hide ah
      clear ah
      refine(within2_any _ _ _ _).mono ?_; rintro e w' ⟨rfl,rfl⟩; rw [J.out]; go_wp2_with fail
      go_ret
      exact⟨congrArg (Value.int .i64) (au.out.trans (by rw [J.out,decide_eq_false G.out,decide_eq_true H1.out]; rfl)).symm,af.out⟩
     have G1:(p.topo==3)=false:=by simp [ah]
     have H1:=hide ah
     clear ah
     refine(within2_any _ _ _ _).mono ?_; rintro e w' ⟨rfl,rfl⟩; rw [J.out]; go_wp2_with fail
     go_ret
     exact⟨congrArg (Value.int .i64) (au.out.trans (by rw [J.out,decide_eq_false G.out,decide_eq_false H1.out]; rfl)).symm,af.out⟩
end Go.Proofs.YtfcfpoemojjglaaGreatDoor.K
