/-
  Part CK of a proof.
-/
import Derived.Test.YtfcfpoemojjglaaGreatDoorPA
import Derived.Test.YtfcfpoemojjglaaGreatDoorCJ
import Derived.Test.YtfcfpoemojjglaaGreatDoorCI
set_option maxHeartbeats 16000000
set_option maxRecDepth 100000
set_option linter.unusedVariables false
set_option linter.unusedSimpArgs false
namespace Go.Proofs.YtfcfpoemojjglaaGreatDoor.K
open Go.RowKit
attribute [-go_sem] loadCellsFrom storeCells
theorem SD {w:World} {cs:List Value} {p:Am} {r:Az} {i:Nat} {J:Bool} (h:At w w.heap.size cs p) (hr:p.rules[i]?=some r) (hs:r.Small) (cn:r.name.size≤500) (V:p.Small) (hT:SpOK w) (bs:Hid (((p.rules.take i).any fun x=>decide (x.name=r.name))=J)) (ad:Hid (nameOK r.name=false∨J=true)):
  Calls Tryz.prog 138 #[.agg cs.toArray,.int .i64 (i:Int)] w (Ret fun v w'=>v=.int .i64 (BC nameOK p.topo (p.states.length:Int) (p.messages.length:Int) (p.values.length:Int) J r)∧Below w.heap.size w w'):=by
 obtain⟨A1,c1,A2,c2,A3,c3,A4,c4,A5,c5,A6,c6,A7,c7,aM,co,cp,aj,be,bf,cq,cr,ct,cu,cv,-,-,-,-,-,-,h7,aZ⟩:=h.cells
 have b4:=AP hr
 have b9:=V.states
 have ba:=V.messages
 have bb:=V.values
 have cm:=V.rules
 have aX:=hide h7
 obtain⟨C,cW,a4,aq,b6⟩:=Ae w cs.toArray 27
 have I:=a4.trans ((Ap C).mono a4.size)
 have a2:Blk C.drew w.heap.size 27 cs.toArray:=aq
 obtain⟨b,off,rc,hA,cb,M,b0,b8⟩:=Du (h7.keep (w':=C.drew) (B':=w.heap.size) (R':=AW C.drew w.heap.size) (fun _ y=>I.cell y) (fun _ _ h=>h.keep (fun _ y=>I.cell y) (Nat.le_refl _)) (Nat.le_refl _)) hr
 obtain⟨w2,bv,a5,ar,b7⟩:=Ae C.drew rc 99
 have au:Blk w2 C.heap.size 99 rc:=ar
 have ak:=Dv C.drew 99 18 (by kernel_rfl) M.size M.one
 rw [bv] at ak
 have br:∀c:Array Value,c.size=18→(storeCells ⟨C.heap.size,0,none⟩ rc.toList 0).run Tryz.prog (C.alloc (.cells c 99)).drew=.ok () w2:=ak
 clear ak
 have aa:=a2.below a5
 have G:=hide (I.trans (a5.mono I.size))
 have ab:=hide (show Cp w2 w.heap.size C.heap.size cs.toArray rc p r from⟨h.keep (fun _ y=>G.out.cell y) G.out.size,M.is.keep (fun _ y=>a5.cell (by show _<C.heap.size; have:=a4.size; omega)) G.out.size,aa,au,hT.below G.out⟩)
 have aN:=M.is.cells
 simp only [Array.toArray_toList] at aN
 obtain⟨E1,f1,E2,f2,E3,f3,E4,f4,E5,f5,E6,f6,E7,f7,E8,f8,⟨aO,cx,cy,cJ,cK,cL,cM,cO,cQ,cR,cS,cz,cA,cB,cD,cE,cF,cG,cH⟩,⟨az,aA,aB,aC,aD,aE,aF,aG⟩⟩:=aN
 have F:∀{D:Type} {sz:Nat} {enc:D→Nat→Value} {A:Option Addr} {ds:List D},Sl C.drew w.heap.size sz enc A ds→Sl w w.heap.size sz enc A ds:=fun h=>h.keep (fun _ y=>(I.cell y).symm) (Nat.le_refl _)
 have bW:=hide (F az)
 have bX:=hide (F aA)
 have bY:=hide (F aB)
 have bZ:=hide (F aC)
 have c0:=hide (F aD)
 have c8:=hide (F aE)
 have c9:=hide (F aF)
 have ca:=hide (F aG)
 have cd:=a2.cell
 have aW:=hide a2
 have aV:=hide aa
 generalize bg:cs.toArray=pc at*
 have cw:=hide aM
 obtain⟨bi,bj,bk,bl,bm,bn,bp,bq⟩:=hs
 have cV:=hide (show r.Small from⟨bi,bj,bk,bl,bm,bn,bp,bq⟩)
 have cT:=hide hr
 have ck:=aZ
 have bc:=hide (show i<p.rules.length from b4)
 obtain⟨ns,ah⟩:∃n,n=p.states.length:=⟨_,rfl⟩
 obtain⟨nm,ag⟩:∃n,n=p.messages.length:=⟨_,rfl⟩
 obtain⟨nv,ai⟩:∃n,n=p.values.length:=⟨_,rfl⟩
 have bV:=hide (show ns=p.states.length∧nm=p.messages.length∧nv=p.values.length from⟨ah,ag,ai⟩)
 rw [←ah] at aj b9 ⊢
 rw [←ag] at be ba ⊢
 rw [←ai] at bf bb ⊢
 obtain⟨EV,ax⟩:∃e,Hid (BC nameOK p.topo (ns:Int) (nm:Int) (nv:Int) J r=e):=⟨_,rfl⟩
 rw [ax.out]
 subst hA
 clear b0 M b6 b7 a4 a5 I aq ar au a2 aa aM bg hr h h7 ah ag ai hT V az aA aB aC aD aE aF aG F
 have ay:=hide (show EV=2 from ax.out.symm.trans (by
  rcases ad.out with h1 | h1
  ·exact Sj h1 _
  ·rw [h1]; exact Sk))
 obtain⟨bo,aK⟩:∃b,Hid (nameOK r.name=b):=⟨_,rfl⟩
 rw [aK.out] at ad
 go_enter Tryz.func138,Tryz.ntmps138
 go_wp2_with fail
 refine Reg.cI [0,1,0,7,15,0,32,96,0,287,1023] [0,1,2,3,4,5,6,7,8,9,10] ?_
 refine Reg.wI [0,1,2,3,4,5,6,7,8] [9,10] rfl fun Qf E=>?_
 go_wp2_with fail
 first | refine E _ _ ⟨rfl,?_⟩ | refine⟨rfl,?_⟩ | refine E _ _ ⟨by simp [Reg.fineT,Reg.intOp,Region.wanted,yielded,Reg.intFine,Reg.isInt,Act.eval],?_⟩
 try clear E
 refine Reg.aI 9 [10] [6] rfl fun Qf E=>?_
 simp only [gT,gS,gZ]
 go_wp2_with fail
 first | refine E _ _ ⟨?_,?_⟩ | refine⟨?_,?_⟩
 ·intro z hz q U
  simp only [List.mem_cons,List.not_mem_nil,or_false] at hz
  subst hz
  injection U with U
  subst U
  exact Reg.same_load1 rfl rfl (((aW.out.kept ((Ac.refl _ (fun _=>False)).alloc _) id).cell 2).trans aj) ((aV.out.cell 2).trans aj) Tryz.underlying22 rfl
 try clear E
 refine Reg.wI [10] [] rfl fun Qf E=>?_
 go_wp2_with fail
 first | refine E _ _ ⟨rfl,?_⟩ | refine⟨rfl,?_⟩ | refine E _ _ ⟨by simp [Reg.fineT,Reg.intOp,Region.wanted,yielded,Reg.intFine,Reg.isInt,Act.eval],?_⟩
 try clear E
 first | refine Reg.restI_end ?_ | skip
 have cU:=hide aO
 clear aO br b8
 have ce:=ab.out.b2.cell
 have ch:=ab.out.b5.cell
 go_wp2_with fail
 refine Calls.ret (Cm r.name _ (by omega)) ?_
 rintro v w3 ⟨rfl,af⟩
 rw [aK.out]
 have ac:=hide (ab.out.at af)
 have cf:=ac.out.b2.cell
 have ci:=ac.out.b5.cell
 have ae:=hide (G.out.trans (af.mono G.out.size))
 clear af
 cases bo
 ·go_wp2_with fail
  go_ret
  exact⟨congrArg (Value.int .i64) ay.out.symm,ae.out⟩
 obtain rfl:J=true:=ad.out.elim (fun h=>by cases h) id
 go_wp2_with fail
 go_loopw [7] (fun ii wr=>∃(k:Nat),ii=.int .i64 (k:Int)∧k≤i∧Hid (Below w3.heap.size w3 wr)∧Hid ((p.rules.take k).all (fun x=>!decide (x.name=r.name))=true)) (fun ii _=>i - (intOf ii).toNat)
 case atStart=>exact⟨0,rfl,Nat.zero_le _,Below.refl _ _,by show _=_; simp⟩
 case round=>
  obtain⟨k,rfl,hk,a6,hE⟩:=hrel
  have aJ:=hide (ac.out.at a6.out)
  have cg:=aJ.out.b2.cell
  have cj:=aJ.out.b5.cell
  have a3:=hide (ae.out.trans (a6.out.mono ae.out.size))
  by_cases cl:k<i
  ·obtain⟨x,W⟩:∃x,p.rules[k]?=some x:=⟨_,List.getElem?_eq_getElem (by have:=bc.out; omega)⟩
   obtain⟨b',cX,xc,ap,cc,av,aL,-⟩:=Du (aX.out.keep (w':=wr) (B':=w.heap.size) (R':=AW wr w.heap.size) (fun _ y=>a3.out.cell y) (fun _ _ h=>h.keep (fun _ y=>a3.out.cell y) (Nat.le_refl _)) (Nat.le_refl _)) W
   have e1:=Option.some.inj ap
   injection e1 with e1 e2 _
   subst e1 e2
   have Z:=av.is.cells
   simp only [Array.toArray_toList] at Z
   obtain⟨-,-,-,-,-,-,-,-,-,-,-,-,-,-,-,-,⟨-,Z,-⟩,-⟩:=Z
   have bx:=aL 0 _ Z
   simp only [Nat.add_zero] at bx
   have bw:=hide W
   clear aL av W Z ap
   by_cases O:x.name=r.name
   ·have U:(x.name.toList==r.name.toList)=true:=by rw [DM]; exact decide_eq_true O
    clear O
    go_wp2_with fail
    refine Reg.cP [0,1,0,7,15,31,0,64,255] ?_
    go_wp2_with fail
    go_ret
    exact⟨congrArg (Value.int .i64) ay.out.symm,a3.out.trans ((Ap wr).mono a3.out.size)⟩
   ·have U:(x.name.toList==r.name.toList)=false:=by rw [DM]; exact decide_eq_false O
    have bd:=hide (Cq (p:=fun x:Az=>!decide (x.name=r.name)) bw.out hE.out (by simp [O]))
    have aY:=hide (a6.out.trans ((Ap wr).mono a6.out.size))
    clear O
    go_wp2_with fail
    refine Reg.cP [0,1,0,7,15,31,0,64,255] ?_
    go_wp2_with fail
    exact⟨⟨k+1,by go_num,by omega,aY.out,bd.out⟩,by simp [intOf]; omega⟩
  ·exfalso
   have h1:=bs.out
   have h2:=hE.out
   rw [show k=i by omega] at h2
   rw [List.any_eq_true] at h1
   obtain⟨x,W,hv⟩:=h1
   have h3:=List.all_eq_true.1 h2 x W
   rw [hv] at h3
   cases h3
theorem SE {w:World} {cs:List Value} {p:Am} {r:Az} {i:Nat} (h:At w w.heap.size cs p) (hr:p.rules[i]?=some r) (hs:r.Small) (cx:r.name.size≤500) (Z:p.Small) (hT:SpOK w) (bE:Hid (((p.rules.take i).any fun x=>decide (x.name=r.name))=false)) (a9:Hid (nameOK r.name=true)) (b9:Hid (inC r.kind 1 5=false∨inC r.kind 1 5=true∧((decide (r.kind≤3) != (p.topo==1))=true∨(decide (r.kind≤3) != (p.topo==1))=false∧B9 p.topo r=true))):
  Calls Tryz.prog 138 #[.agg cs.toArray,.int .i64 (i:Int)] w (Ret fun v w'=>v=.int .i64 (BC nameOK p.topo (p.states.length:Int) (p.messages.length:Int) (p.values.length:Int) false r)∧Below w.heap.size w w'):=by
 obtain⟨A1,c1,A2,c2,A3,c3,A4,c4,A5,c5,A6,c6,A7,c7,aS,cy,cz,ao,bp,bq,cA,cB,cD,cE,cF,-,-,-,-,-,-,h7,bb⟩:=h.cells
 have bf:=AP hr
 have bk:=Z.states
 have bl:=Z.messages
 have bm:=Z.values
 have cw:=Z.rules
 have b7:=hide h7
 obtain⟨E,d2,a6,ay,bg⟩:=Ae w cs.toArray 27
 have U:=a6.trans ((Ap E).mono a6.size)
 have a3:Blk E.drew w.heap.size 27 cs.toArray:=ay
 obtain⟨b,off,rc,hA,cj,V,be,bi⟩:=Du (h7.keep (w':=E.drew) (B':=w.heap.size) (R':=AW E.drew w.heap.size) (fun _ C=>U.cell C) (fun _ _ h=>h.keep (fun _ C=>U.cell C) (Nat.le_refl _)) (Nat.le_refl _)) hr
 obtain⟨w2,bF,a7,az,bh⟩:=Ae E.drew rc 99
 have aA:Blk w2 E.heap.size 99 rc:=az
 have ar:=Dv E.drew 99 18 (by kernel_rfl) V.size V.one
 rw [bF] at ar
 have bD:∀c:Array Value,c.size=18→(storeCells ⟨E.heap.size,0,none⟩ rc.toList 0).run Tryz.prog (E.alloc (.cells c 99)).drew=.ok () w2:=ar
 clear ar
 have ag:=a3.below a7
 have M:=hide (U.trans (a7.mono U.size))
 have ah:=hide (show Cp w2 w.heap.size E.heap.size cs.toArray rc p r from⟨h.keep (fun _ C=>M.out.cell C) M.out.size,V.is.keep (fun _ C=>a7.cell (by show _<E.heap.size; have:=a6.size; omega)) M.out.size,ag,aA,hT.below M.out⟩)
 have aT:=V.is.cells
 simp only [Array.toArray_toList] at aT
 obtain⟨E1,f1,E2,f2,E3,f3,E4,f4,E5,f5,E6,f6,E7,f7,E8,f8,⟨aU,cG,cH,cT,cU,cV,cW,cX,cY,cZ,d0,cJ,cK,cL,cM,cO,cQ,cR,cS⟩,⟨aD,aE,aF,aG,aH,aJ,aK,aL⟩⟩:=aT
 have J:∀{D:Type} {sz:Nat} {enc:D→Nat→Value} {A:Option Addr} {ds:List D},Sl E.drew w.heap.size sz enc A ds→Sl w w.heap.size sz enc A ds:=fun h=>h.keep (fun _ C=>(U.cell C).symm) (Nat.le_refl _)
 have cb:=hide (J aD)
 have cc:=hide (J aE)
 have cd:=hide (J aF)
 have ce:=hide (J aG)
 have cf:=hide (J aH)
 have cg:=hide (J aJ)
 have ch:=hide (J aK)
 have ci:=hide (J aL)
 have cl:=a3.cell
 have b6:=hide a3
 have b4:=hide ag
 generalize br:cs.toArray=pc at*
 have ap:=hide aS
 obtain⟨bt,bu,bv,bw,bx,bz,bA,bB⟩:=hs
 have bC:=hide (show r.Small from⟨bt,bu,bv,bw,bx,bz,bA,bB⟩)
 have d1:=hide hr
 have cv:=bb
 have bn:=hide (show i<p.rules.length from bf)
 obtain⟨ns,am⟩:∃n,n=p.states.length:=⟨_,rfl⟩
 obtain⟨nm,al⟩:∃n,n=p.messages.length:=⟨_,rfl⟩
 obtain⟨nv,an⟩:∃n,n=p.values.length:=⟨_,rfl⟩
 have ca:=hide (show ns=p.states.length∧nm=p.messages.length∧nv=p.values.length from⟨am,al,an⟩)
 rw [←am] at ao bk ⊢
 rw [←al] at bp bl ⊢
 rw [←an] at bq bm ⊢
 obtain⟨EV,a4⟩:∃e,Hid (BC nameOK p.topo (ns:Int) (nm:Int) (nv:Int) false r=e):=⟨_,rfl⟩
 rw [a4.out]
 subst hA
 clear be V bg bh a6 a7 U ay az aA a3 ag aS br hr h h7 am al an hT Z aD aE aF aG aH aJ aK aL J
 go_enter Tryz.func138,Tryz.ntmps138
 go_wp2_with fail
 refine Reg.cI [0,1,0,7,15,0,32,96,0,287,1023] [0,1,2,3,4,5,6,7,8,9,10] ?_
 refine Reg.wI [0,1,2,3,4,5,6,7,8] [9,10] rfl fun Qf G=>?_
 go_wp2_with fail
 first | refine G _ _ ⟨rfl,?_⟩ | refine⟨rfl,?_⟩ | refine G _ _ ⟨by simp [Reg.fineT,Reg.intOp,Region.wanted,yielded,Reg.intFine,Reg.isInt,Act.eval],?_⟩
 try clear G
 refine Reg.aI 9 [10] [6] rfl fun Qf G=>?_
 simp only [gT,gS,gZ]
 go_wp2_with fail
 first | refine G _ _ ⟨?_,?_⟩ | refine⟨?_,?_⟩
 ·intro z hz q hq
  simp only [List.mem_cons,List.not_mem_nil,or_false] at hz
  subst hz
  injection hq with hq
  subst hq
  exact Reg.same_load1 rfl rfl (((b6.out.kept ((Ac.refl _ (fun _=>False)).alloc _) id).cell 2).trans ao) ((b4.out.cell 2).trans ao) Tryz.underlying22 rfl
 try clear G
 refine Reg.wI [10] [] rfl fun Qf G=>?_
 go_wp2_with fail
 first | refine G _ _ ⟨rfl,?_⟩ | refine⟨rfl,?_⟩ | refine G _ _ ⟨by simp [Reg.fineT,Reg.intOp,Region.wanted,yielded,Reg.intFine,Reg.isInt,Act.eval],?_⟩
 try clear G
 first | refine Reg.restI_end ?_ | skip
 have aq:=hide aU
 clear aU bD bi
 have cm:=ah.out.b2.cell
 have cq:=ah.out.b5.cell
 go_wp2_with fail
 go_wp2_with (go_at_call 96; refine Calls.ret (Cm r.name _ (by omega)) ?_; rintro v w3 ⟨rfl,aj⟩; rw [a9.out]; have ai:=hide (ah.out.at aj); have cn:=ai.out.b2.cell; have cr:=ai.out.b5.cell; have aO:=hide (M.out.trans (aj.mono M.out.size)); clear aj)
 go_loopw [7] (fun ii wr=>∃(k:Nat),ii=.int .i64 (k:Int)∧k≤i∧Hid (Below w3.heap.size w3 wr)∧Hid ((p.rules.take k).all (fun x=>!decide (x.name=r.name))=true)) (fun ii _=>i - (intOf ii).toNat)
 case atStart=>exact⟨0,rfl,Nat.zero_le _,Below.refl _ _,by show _=_; simp⟩
 case round=>
  obtain⟨k,rfl,hk,a8,hE⟩:=hrel
  have F:=hide (ai.out.at a8.out)
  have co:=F.out.b2.cell
  have ct:=F.out.b5.cell
  have O:=hide (aO.out.trans (a8.out.mono aO.out.size))
  by_cases bj:k<i
  ·obtain⟨x,hx⟩:∃x,p.rules[k]?=some x:=⟨_,List.getElem?_eq_getElem (by have:=bn.out; omega)⟩
   obtain⟨b',d3,xc,ax,ck,aB,aP,-⟩:=Du (b7.out.keep (w':=wr) (B':=w.heap.size) (R':=AW wr w.heap.size) (fun _ C=>O.out.cell C) (fun _ _ h=>h.keep (fun _ C=>O.out.cell C) (Nat.le_refl _)) (Nat.le_refl _)) hx
   have e1:=Option.some.inj ax
   injection e1 with e1 e2 _
   subst e1 e2
   have a2:=aB.is.cells
   simp only [Array.toArray_toList] at a2
   obtain⟨-,-,-,-,-,-,-,-,-,-,-,-,-,-,-,-,⟨-,a2,-⟩,-⟩:=a2
   have bG:=aP 0 _ a2
   simp only [Nat.add_zero] at bG
   have aV:=hide hx
   clear aP aB hx a2 ax
   by_cases a5:x.name=r.name
   ·exfalso
    have h1:=bE.out
    rw [List.any_eq_false] at h1
    refine h1 x (List.mem_of_getElem? (i:=k) ?_) (decide_eq_true a5)
    rw [List.getElem?_take,if_pos bj]
    exact aV.out
   ·have hq:(x.name.toList==r.name.toList)=false:=by rw [DM]; exact decide_eq_false a5
    have bo:=hide (Cq (p:=fun x:Az=>!decide (x.name=r.name)) aV.out hE.out (by simp [a5]))
    have ba:=hide (a8.out.trans ((Ap wr).mono a8.out.size))
    clear a5
    go_wp2_with fail
    refine Reg.cP [0,1,0,7,15,31,0,64,255] ?_
    go_wp2_with fail
    exact⟨⟨k+1,by go_num,by omega,ba.out,bo.out⟩,by simp [intOf]; omega⟩
  ·clear hE
   rcases b9.out with y | ⟨y,I | ⟨I,ac⟩⟩
   ·replace y:=hide y
    have W:=hide (show EV=6 from a4.out.symm.trans (Ib a9.out (by rw [show(decide (1≤r.kind)&&decide (r.kind≤5))=false from y.out]; rfl)))
    have aQ:=Ah F.out.b2 ap.out
    have aR:=Ah F.out.b5 aq.out
    go_wp2_with (first
     | (go_at_call 98; refine(within2_any _ _ _ _).mono ?_; rintro e w' ⟨rfl,rfl⟩; rw [y.out]))
    go_ret
    exact⟨congrArg (Value.int .i64) (W.out).symm,O.out⟩
   ·replace y:=hide y
    have W:=hide (show EV=6 from a4.out.symm.trans (Ib a9.out (by rw [show(decide (1≤r.kind)&&decide (r.kind≤5))=true from y.out,show(decide (r.kind≤3) != decide (p.topo=1))=true from I]; rfl)))
    have bc:¬(decide (r.kind≤3)=(p.topo==1)):=fun e=>by rw [e] at I; simp at I
    have bd:=hide I
    clear I
    have aQ:=Ah F.out.b2 ap.out
    have aR:=Ah F.out.b5 aq.out
    go_wp2_with (first
     | (go_at_call 98; refine(within2_any _ _ _ _).mono ?_; rintro e w' ⟨rfl,rfl⟩; rw [y.out]))
    go_ret
    exact⟨congrArg (Value.int .i64) (W.out).symm,O.out⟩
   ·replace y:=hide y
    replace ac:=hide ac
    have W:=hide (show EV=6 from a4.out.symm.trans (Ib a9.out (by rw [show(decide (1≤r.kind)&&decide (r.kind≤5))=true from y.out,show(decide (r.kind≤3) != decide (p.topo=1))=false from I,ac.out]; rfl)))
    have bc:decide (r.kind≤3)=(p.topo==1):=by cases h1:decide (r.kind≤3) <;> cases h2:(p.topo==1) <;> simp [h1,h2] at I ⊢
    have bd:=hide I
    clear I
    have aQ:=Ah F.out.b2 ap.out
    have aR:=Ah F.out.b5 aq.out
    go_wp2_with (first
     | (go_at_call 98; refine(within2_any _ _ _ _).mono ?_; rintro e w' ⟨rfl,rfl⟩; rw [y.out])
     | (go_at_call 192; refine Calls.ret (FD F.out.pr F.out.ru bC.out) ?_; rintro v w5 ⟨rfl,ak⟩; rw [ac.out]; have aN:=hide (F.out.at ak); have cp:=aN.out.b2.cell; have cu:=aN.out.b5.cell; have b8:=hide (O.out.trans (ak.mono O.out.size)); clear ak))
    go_ret
    exact⟨congrArg (Value.int .i64) (W.out).symm,b8.out⟩
end Go.Proofs.YtfcfpoemojjglaaGreatDoor.K
namespace Go.Proofs.YtfcfpoemojjglaaGreatDoor.K
open Go.RowKit
attribute [-go_sem] loadCellsFrom storeCells
theorem SH {w:World} {cs:List Value} {p:Am} {r:Az} {i:Nat} (h:At w w.heap.size cs p) (hr:p.rules[i]?=some r) (hs:r.Small) (ee:r.name.size≤500) (al:p.Small) (hT:SpOK w) (dh:Hid (((p.rules.take i).any fun x=>decide (x.name=r.name))=false)) (bK:Hid (nameOK r.name=true)) (bI:Hid (inC r.kind 1 5=true)) (aA:(decide (r.kind≤3) != (p.topo==1))=false) (bh:Hid (B9 p.topo r=false)) (V:r.kind=4):
  Calls Tryz.prog 138 #[.agg cs.toArray,.int .i64 (i:Int)] w (Ret fun v w'=>v=.int .i64 (BC nameOK p.topo (p.states.length:Int) (p.messages.length:Int) (p.values.length:Int) false r)∧Below w.heap.size w w'):=by
 obtain⟨A1,c1,A2,c2,A3,c3,A4,c4,A5,c5,A6,c6,A7,c7,bM,ef,eg,bf,cY,cZ,eh,ei,ej,ek,el,-,-,-,-,-,-,h7,cH⟩:=h.cells
 have cM:=AP hr
 have cT:=al.states
 have cU:=al.messages
 have cV:=al.values
 have eb:=al.rules
 have cr:=hide h7
 obtain⟨F,eG,ax,bk,cO⟩:=Ae w cs.toArray 27
 have af:=ax.trans ((Ap F).mono ax.size)
 have ao:Blk F.drew w.heap.size 27 cs.toArray:=bk
 obtain⟨b,off,rc,hA,dK,hC,cJ,cR⟩:=Du (h7.keep (w':=F.drew) (B':=w.heap.size) (R':=AW F.drew w.heap.size) (fun _ C=>af.cell C) (fun _ _ h=>h.keep (fun _ C=>af.cell C) (Nat.le_refl _)) (Nat.le_refl _)) hr
 obtain⟨w2,di,ay,bl,cQ⟩:=Ae F.drew rc 99
 have bm:Blk w2 F.heap.size 99 rc:=bl
 have bg:=Dv F.drew 99 18 (by kernel_rfl) hC.size hC.one
 rw [di] at bg
 have df:∀c:Array Value,c.size=18→(storeCells ⟨F.heap.size,0,none⟩ rc.toList 0).run Tryz.prog (F.alloc (.cells c 99)).drew=.ok () w2:=bg
 clear bg
 have aQ:=ao.below ay
 have ac:=hide (af.trans (ay.mono af.size))
 have aS:=hide (show Cp w2 w.heap.size F.heap.size cs.toArray rc p r from⟨h.keep (fun _ C=>ac.out.cell C) ac.out.size,hC.is.keep (fun _ C=>ay.cell (by show _<F.heap.size; have:=ax.size; omega)) ac.out.size,aQ,bm,hT.below ac.out⟩)
 have bN:=hC.is.cells
 simp only [Array.toArray_toList] at bN
 obtain⟨E1,f1,E2,f2,E3,f3,E4,f4,E5,f5,E6,f6,E7,f7,E8,f8,⟨bP,em,en,ey,ez,eA,eB,eC,d2,eD,eE,eo,ep,eq,er,et,eu,ev,ew⟩,⟨bq,br,bs,bt,bu,bv,bw,bx⟩⟩:=bN
 have M:∀{D:Type} {sz:Nat} {enc:D→Nat→Value} {A:Option Addr} {ds:List D},Sl F.drew w.heap.size sz enc A ds→Sl w w.heap.size sz enc A ds:=fun h=>h.keep (fun _ C=>(af.cell C).symm) (Nat.le_refl _)
 have dI:=hide (M bq)
 have dJ:=hide (M br)
 have ct:=hide (M bs)
 have cu:=hide (M bt)
 have cv:=hide (M bu)
 have cw:=hide (M bv)
 have cx:=hide (M bw)
 have cy:=hide (M bx)
 have dM:=ao.cell
 have cp:=hide ao
 have co:=hide aQ
 generalize d0:cs.toArray=pc at*
 have d1:=hide bM
 obtain⟨d5,d6,d7,d8,d9,da,db,dc⟩:=hs
 have de:=hide (show r.Small from⟨d5,d6,d7,d8,d9,da,db,dc⟩)
 have eF:=hide hr
 have e5:=cH
 have cW:=hide (show i<p.rules.length from cM)
 obtain⟨ns,bd⟩:∃n,n=p.states.length:=⟨_,rfl⟩
 obtain⟨nm,bc⟩:∃n,n=p.messages.length:=⟨_,rfl⟩
 obtain⟨nv,be⟩:∃n,n=p.values.length:=⟨_,rfl⟩
 have dH:=hide (show ns=p.states.length∧nm=p.messages.length∧nv=p.values.length from⟨bd,bc,be⟩)
 rw [←bd] at bf cT ⊢
 rw [←bc] at cY cU ⊢
 rw [←be] at cZ cV ⊢
 obtain⟨EV,bp⟩:∃e,Hid (BC nameOK p.topo (ns:Int) (nm:Int) (nv:Int) false r=e):=⟨_,rfl⟩
 rw [bp.out]
 subst hA
 clear cJ hC cO cQ ax ay af bk bl bm ao aQ bM d0 hr h h7 bd bc be hT al bq br bs bt bu bv bw bx M
 have cq:=hide (show KOK nameOK p.topo r from⟨bK.out,bI.out,aA,bh.out⟩)
 have bA:=hide (DF bh.out)
 have cK:∀y,Below w.heap.size w y→Calls Tryz.prog 97 #[.slice E3 r.ex.length f3,.int .i64 (ns:Int)] y (Ret fun v w'=>v=.int .i64 (Aa r.ex (ns:Int))∧Below y.heap.size y w'):=fun y E=>B0 (by omega) (ct.out.keep (fun _ C=>E.cell C) E.size)
 have cL:∀y,Below w.heap.size w y→Calls Tryz.prog 97 #[.slice E4 r.fa.length f4,.int .i64 (ns:Int)] y (Ret fun v w'=>v=.int .i64 (Aa r.fa (ns:Int))∧Below y.heap.size y w'):=fun y E=>B0 (by omega) (cu.out.keep (fun _ C=>E.cell C) E.size)
 have dg:∀y,Below w.heap.size w y→Calls Tryz.prog 97 #[.slice E5 r.send.length f5,.int .i64 (nm:Int)] y (Ret fun v w'=>v=.int .i64 (Aa r.send (nm:Int))∧Below y.heap.size y w'):=fun y E=>B0 (by omega) (cv.out.keep (fun _ C=>E.cell C) E.size)
 have bJ:∀y,Below w.heap.size w y→Calls Tryz.prog 97 #[.slice E6 r.left.length f6,.int .i64 (ns:Int)] y (Ret fun v w'=>v=.int .i64 (Aa r.left (ns:Int))∧Below y.heap.size y w'):=fun y E=>B0 (by omega) (cw.out.keep (fun _ C=>E.cell C) E.size)
 have bO:∀y,Below w.heap.size w y→Calls Tryz.prog 97 #[.slice E7 r.right.length f7,.int .i64 (ns:Int)] y (Ret fun v w'=>v=.int .i64 (Aa r.right (ns:Int))∧Below y.heap.size y w'):=fun y E=>B0 (by omega) (cx.out.keep (fun _ C=>E.cell C) E.size)
 have bL:∀y,Below w.heap.size w y→Calls Tryz.prog 97 #[.slice E8 r.parent.length f8,.int .i64 (ns:Int)] y (Ret fun v w'=>v=.int .i64 (Aa r.parent (ns:Int))∧Below y.heap.size y w'):=fun y E=>B0 (by omega) (cy.out.keep (fun _ C=>E.cell C) E.size)
 have e6:decide (r.kind≤3)=(p.topo==1):=by cases h1:decide (r.kind≤3) <;> cases h2:(p.topo==1) <;> simp [h1,h2] at aA ⊢
 have e7:=hide aA
 clear aA
 go_enter Tryz.func138,Tryz.ntmps138
 go_wp2_with fail
 refine Reg.cI [0,1,0,7,15,0,32,96,0,287,1023] [0,1,2,3,4,5,6,7,8,9,10] ?_
 refine Reg.wI [0,1,2,3,4,5,6,7,8] [9,10] rfl fun Qf I=>?_
 go_wp2_with fail
 first | refine I _ _ ⟨rfl,?_⟩ | refine⟨rfl,?_⟩ | refine I _ _ ⟨by simp [Reg.fineT,Reg.intOp,Region.wanted,yielded,Reg.intFine,Reg.isInt,Act.eval],?_⟩
 try clear I
 refine Reg.aI 9 [10] [6] rfl fun Qf I=>?_
 simp only [gT,gS,gZ]
 go_wp2_with fail
 first | refine I _ _ ⟨?_,?_⟩ | refine⟨?_,?_⟩
 ·intro z hz q hq
  simp only [List.mem_cons,List.not_mem_nil,or_false] at hz
  subst hz
  injection hq with hq
  subst hq
  exact Reg.same_load1 rfl rfl (((cp.out.kept ((Ac.refl _ (fun _=>False)).alloc _) id).cell 2).trans bf) ((co.out.cell 2).trans bf) Tryz.underlying22 rfl
 try clear I
 refine Reg.wI [10] [] rfl fun Qf I=>?_
 go_wp2_with fail
 first | refine I _ _ ⟨rfl,?_⟩ | refine⟨rfl,?_⟩ | refine I _ _ ⟨by simp [Reg.fineT,Reg.intOp,Region.wanted,yielded,Reg.intFine,Reg.isInt,Act.eval],?_⟩
 try clear I
 first | refine Reg.restI_end ?_ | skip
 have d3:=hide bP
 clear bP df cR
 have dN:=aS.out.b2.cell
 have dV:=aS.out.b5.cell
 go_wp2_with fail
 go_wp2_with (go_at_call 96; refine Calls.ret (Cm r.name _ (by omega)) ?_; rintro v w3 ⟨rfl,b4⟩; rw [bK.out]; have aT:=hide (aS.out.at b4); have dO:=aT.out.b2.cell; have dW:=aT.out.b5.cell; have bE:=hide (ac.out.trans (b4.mono ac.out.size)); clear b4)
 go_loopw [7] (fun ii wr=>∃(k:Nat),ii=.int .i64 (k:Int)∧k≤i∧Hid (Below w3.heap.size w3 wr)∧Hid ((p.rules.take k).all (fun x=>!decide (x.name=r.name))=true)) (fun ii _=>i - (intOf ii).toNat)
 case atStart=>exact⟨0,rfl,Nat.zero_le _,Below.refl _ _,by show _=_; simp⟩
 case round=>
  obtain⟨k,rfl,hk,az,hE⟩:=hrel
  have W:=hide (aT.out.at az.out)
  have dP:=W.out.b2.cell
  have dX:=W.out.b5.cell
  have av:=hide (bE.out.trans (az.out.mono bE.out.size))
  by_cases cS:k<i
  ·obtain⟨x,E⟩:∃x,p.rules[k]?=some x:=⟨_,List.getElem?_eq_getElem (by have:=cW.out; omega)⟩
   obtain⟨b',eH,xc,bj,dL,bn,bG,-⟩:=Du (cr.out.keep (w':=wr) (B':=w.heap.size) (R':=AW wr w.heap.size) (fun _ C=>av.out.cell C) (fun _ _ h=>h.keep (fun _ C=>av.out.cell C) (Nat.le_refl _)) (Nat.le_refl _)) E
   have e1:=Option.some.inj bj
   injection e1 with e1 e2 _
   subst e1 e2
   have am:=bn.is.cells
   simp only [Array.toArray_toList] at am
   obtain⟨-,-,-,-,-,-,-,-,-,-,-,-,-,-,-,-,⟨-,am,-⟩,-⟩:=am
   have dj:=bG 0 _ am
   simp only [Nat.add_zero] at dj
   have bQ:=hide E
   clear bG bn E am bj
   by_cases ap:x.name=r.name
   ·exfalso
    have h1:=dh.out
    rw [List.any_eq_false] at h1
    refine h1 x (List.mem_of_getElem? (i:=k) ?_) (decide_eq_true ap)
    rw [List.getElem?_take,if_pos cS]
    exact bQ.out
   ·have hq:(x.name.toList==r.name.toList)=false:=by rw [DM]; exact decide_eq_false ap
    have cX:=hide (Cq (p:=fun x:Az=>!decide (x.name=r.name)) bQ.out hE.out (by simp [ap]))
    have cz:=hide (az.out.trans ((Ap wr).mono az.out.size))
    clear ap
    go_wp2_with fail
    refine Reg.cP [0,1,0,7,15,31,0,64,255] ?_
    go_wp2_with fail
    exact⟨⟨k+1,by go_num,by omega,cz.out,cX.out⟩,by simp [intOf]; omega⟩
  ·clear hE
   have aR:=hide (bp.out.symm.trans (Sh cq.out V (by omega)))
   have q1:(r.kind==1)=false:=by rw [V]; rfl
   have q2:(r.kind==2)=false:=by rw [V]; rfl
   have q3:(r.kind==3)=false:=by rw [V]; rfl
   have q4:(r.kind==4)=true:=by rw [V]; rfl
   have q5:(r.kind==5)=false:=by rw [V]; rfl
   have eJ:(r.kind==2||r.kind==5)=false:=by rw [q2,q5]; rfl
   have bH:=hide V
   clear V
   have aJ:=hide (show r.guards=[]∧r.ex=[]∧r.fa=[]∧r.send=[] from bA.out.g (by rw [bH.out]; decide))
   have bS:=hide (show r.rd= -1∧r.wr= -1 from bA.out.v (by rw [bH.out]; decide))
   have e8:=Ah W.out.b2 d1.out
   have e9:=Ah W.out.b5 d3.out
   go_wp2_with (first
    | (go_at_call 98; refine(within2_any _ _ _ _).mono ?_; rintro e w' ⟨rfl,rfl⟩; rw [bI.out])
    | (go_at_call 192; refine Calls.ret (FD W.out.pr W.out.ru de.out) ?_; rintro v w5 ⟨rfl,b6⟩; rw [bh.out]; have aU:=hide (W.out.at b6); have dQ:=aU.out.b2.cell; have dY:=aU.out.b5.cell; have aw:=hide (av.out.trans (b6.mono av.out.size)); clear b6))
   obtain⟨ng,ba⟩:∃n,n=r.guards.length:=⟨_,rfl⟩
   have bb:=hide (show ng=0 from by rw [ba,aJ.out.1]; rfl)
   rw [←ba] at d2
   have ec:¬(2:Int)<(ng:Int):=by have:=bb.out; omega
   have ed:ng≤60:=by have:=bb.out; omega
   clear ba
   cases aE:inC r.fr 0 ((ns:Int) - 1)
   case false=>
    have a7:=hide aE
    clear aE
    refine(within2_any _ _ _ _).mono ?_; rintro e w' ⟨rfl,rfl⟩; rw [a7.out]; go_wp2_with fail
    go_ret
    exact⟨congrArg (Value.int .i64) (aR.out.trans (by rw [show inN r.fr (ns:Int)=false from a7.out]; rfl)).symm,aw.out⟩
   have a7:=hide aE
   clear aE
   refine(within2_any _ _ _ _).mono ?_; rintro e w' ⟨rfl,rfl⟩; rw [a7.out]; go_wp2_with fail
   cases aH:inC r.to 0 ((ns:Int) - 1)
   case false=>
    have ai:=hide aH
    clear aH
    refine(within2_any _ _ _ _).mono ?_; rintro e w' ⟨rfl,rfl⟩; rw [ai.out]; go_wp2_with fail
    go_ret
    exact⟨congrArg (Value.int .i64) (aR.out.trans (by rw [show inN r.fr (ns:Int)=true from a7.out,show inN r.to (ns:Int)=false from ai.out]; rfl)).symm,aw.out⟩
   have ai:=hide aH
   clear aH
   refine(within2_any _ _ _ _).mono ?_; rintro e w' ⟨rfl,rfl⟩; rw [ai.out]; go_wp2_with fail
   have bB:=hide (show EV=orE (Aa r.left (ns:Int)) (orE (Aa r.right (ns:Int)) (orE (Aa r.parent (ns:Int)) (Ad (!inC r.at_ 0 2||(!decide (r.at_=0)&&decide (p.topo=3))) 1))) from aR.out.trans (by rw [show inN r.fr (ns:Int)=true from a7.out,show inN r.to (ns:Int)=true from ai.out]; rfl))
   go_loopw [10] (fun ii wr=>∃(k:Nat),ii=.int .i64 (k:Int)∧k≤ng∧Hid (Below w5.heap.size w5 wr)) (fun ii _=>ng - (intOf ii).toNat)
   case atStart=>exact⟨0,rfl,Nat.zero_le _,Below.refl _ _⟩
   case round=>
    obtain⟨k,rfl,hk,bF⟩:=hrel
    have aV:=hide (aU.out.at bF.out)
    have dR:=aV.out.b2.cell
    have dZ:=aV.out.b5.cell
    have aY:=hide (aw.out.trans (bF.out.mono aw.out.size))
    by_cases ea:k<ng
    ·exfalso
     have:=bb.out
     omega
    ·go_wp2_with fail
     have cd:=hide (show Aa r.ex (ns:Int)=0 from by rw [aJ.out.2.1]; rfl)
     refine Calls.ret (cK _ aY.out) ?_; rintro v w7 ⟨rfl,b7⟩; rw [cd.out]; have aW:=hide (aV.out.at b7); have dS:=aW.out.b2.cell; have e0:=aW.out.b5.cell; have aZ:=hide (aY.out.trans (b7.mono aY.out.size)); clear b7; go_wp2_with fail
     have Y1:(r.rd != -1)=false:=by rw [bS.out.1]; rfl
     have Y2:(r.wr != -1)=false:=by rw [bS.out.2]; rfl
     have ce:=hide (show Aa r.fa (ns:Int)=0 from by rw [aJ.out.2.2.1]; rfl)
     refine Calls.ret (cL _ aZ.out) ?_; rintro v w8 ⟨rfl,b8⟩; rw [ce.out]; have aX:=hide (aW.out.at b8); have dT:=aX.out.b2.cell; have e3:=aX.out.b5.cell; have b0:=hide (aZ.out.trans (b8.mono aZ.out.size)); clear b8; go_wp2_with fail
     have cf:=hide (show Aa r.send (nm:Int)=0 from by rw [aJ.out.2.2.2]; rfl)
     refine Calls.ret (dg _ b0.out) ?_; rintro v w9 ⟨rfl,b9⟩; rw [cf.out]; have ar:=hide (aX.out.at b9); have dU:=ar.out.b2.cell; have e4:=ar.out.b5.cell; have ad:=hide (b0.out.trans (b9.mono b0.out.size)); clear b9; go_wp2_with fail
     obtain⟨aM,aB⟩:∃e,Hid (Aa r.left (ns:Int)=e):=⟨_,rfl⟩
     by_cases a8:aM=0
     case neg=>
      have dm:(aM != 0)=true:=by simp [a8]
      have G:=hide a8
      clear a8
      refine Calls.ret (bJ _ ad.out) ?_; rintro v wa ⟨rfl,a3⟩; rw [aB.out]; have Z:=hide (ar.out.at a3); have cA:=Z.out.b2.cell; have cE:=Z.out.b5.cell; have O:=hide (ad.out.trans (a3.mono ad.out.size)); clear a3; go_wp2_with fail
      go_ret
      exact⟨congrArg (Value.int .i64) (bB.out.trans (by rw [aB.out]; exact BF G.out)).symm,O.out⟩
     have dm:(aM != 0)=false:=by simp [a8]
     have ca:=hide a8
     clear a8
     have bC:=hide (show EV=orE (Aa r.right (ns:Int)) (orE (Aa r.parent (ns:Int)) (Ad (!inC r.at_ 0 2||(!decide (r.at_=0)&&decide (p.topo=3))) 1)) from bB.out.trans (by rw [aB.out,ca.out]; rfl))
     refine Calls.ret (bJ _ ad.out) ?_; rintro v wa ⟨rfl,a3⟩; rw [aB.out]; have Z:=hide (ar.out.at a3); have cA:=Z.out.b2.cell; have cE:=Z.out.b5.cell; have O:=hide (ad.out.trans (a3.mono ad.out.size)); clear a3; go_wp2_with fail
     obtain⟨aO,aD⟩:∃e,Hid (Aa r.right (ns:Int)=e):=⟨_,rfl⟩
     by_cases aa:aO=0
     case neg=>
      have dp:(aO != 0)=true:=by simp [aa]
      have G:=hide aa
      clear aa
      refine Calls.ret (bO _ O.out) ?_; rintro v wb ⟨rfl,a4⟩; rw [aD.out]; have a2:=hide (Z.out.at a4); have cB:=a2.out.b2.cell; have cF:=a2.out.b5.cell; have U:=hide (O.out.trans (a4.mono O.out.size)); clear a4; go_wp2_with fail
      go_ret
      exact⟨congrArg (Value.int .i64) (bC.out.trans (by rw [aD.out]; exact BF G.out)).symm,U.out⟩
     have dp:(aO != 0)=false:=by simp [aa]
     have cc:=hide aa
     clear aa
     have bD:=hide (show EV=orE (Aa r.parent (ns:Int)) (Ad (!inC r.at_ 0 2||(!decide (r.at_=0)&&decide (p.topo=3))) 1) from bC.out.trans (by rw [aD.out,cc.out]; rfl))
     refine Calls.ret (bO _ O.out) ?_; rintro v wb ⟨rfl,a4⟩; rw [aD.out]; have a2:=hide (Z.out.at a4); have cB:=a2.out.b2.cell; have cF:=a2.out.b5.cell; have U:=hide (O.out.trans (a4.mono O.out.size)); clear a4; go_wp2_with fail
     obtain⟨aN,aC⟩:∃e,Hid (Aa r.parent (ns:Int)=e):=⟨_,rfl⟩
     by_cases a9:aN=0
     case neg=>
      have dn:(aN != 0)=true:=by simp [a9]
      have G:=hide a9
      clear a9
      refine Calls.ret (bL _ U.out) ?_; rintro v wc ⟨rfl,a5⟩; rw [aC.out]; have ak:=hide (a2.out.at a5); have cD:=ak.out.b2.cell; have cG:=ak.out.b5.cell; have ae:=hide (U.out.trans (a5.mono U.out.size)); clear a5; go_wp2_with fail
      go_ret
      exact⟨congrArg (Value.int .i64) (bD.out.trans (by rw [aC.out]; exact BF G.out)).symm,ae.out⟩
     have dn:(aN != 0)=false:=by simp [a9]
     have cb:=hide a9
     clear a9
     have aq:=hide (show EV=Ad (!inC r.at_ 0 2||(!decide (r.at_=0)&&decide (p.topo=3))) 1 from bD.out.trans (by rw [aC.out,cb.out]; rfl))
     refine Calls.ret (bL _ U.out) ?_; rintro v wc ⟨rfl,a5⟩; rw [aC.out]; have ak:=hide (a2.out.at a5); have cD:=ak.out.b2.cell; have cG:=ak.out.b5.cell; have ae:=hide (U.out.trans (a5.mono U.out.size)); clear a5; go_wp2_with fail
     have dG:=hide (show True from trivial)
     cases au:inC r.at_ 0 2
     case false=>
      have J:=hide au
      clear au
      refine(within2_any _ _ _ _).mono ?_; rintro e w' ⟨rfl,rfl⟩; rw [J.out]; go_wp2_with fail
      go_ret
      exact⟨congrArg (Value.int .i64) (aq.out.trans (by rw [J.out]; rfl)).symm,ae.out⟩
     have J:=hide au
     clear au
     by_cases ab:r.at_=0
     case pos=>
      have G0:(r.at_ != 0)=false:=by simp [ab]
      have G:=hide ab
      clear ab
      refine(within2_any _ _ _ _).mono ?_; rintro e w' ⟨rfl,rfl⟩; rw [J.out]; go_wp2_with fail
      go_ret
      exact⟨congrArg (Value.int .i64) (aq.out.trans (by rw [J.out,decide_eq_true G.out]; rfl)).symm,ae.out⟩
     have G0:(r.at_ != 0)=true:=by simp [ab]
     have G:=hide ab
     clear ab
     by_cases ag:p.topo=3
     case pos=>
      have G1:(p.topo==3)=true:=by simp [ag]
      have H1:=hide ag
      clear ag
      refine(within2_any _ _ _ _).mono ?_; rintro e w' ⟨rfl,rfl⟩; rw [J.out]; go_wp2_with fail
      go_ret
      exact⟨congrArg (Value.int .i64) (aq.out.trans (by rw [J.out,decide_eq_false G.out,decide_eq_true H1.out]; rfl)).symm,ae.out⟩
     have G1:(p.topo==3)=false:=by simp [ag]
     have H1:=hide ag
     clear ag
     refine(within2_any _ _ _ _).mono ?_; rintro e w' ⟨rfl,rfl⟩; rw [J.out]; go_wp2_with fail
     go_ret
     exact⟨congrArg (Value.int .i64) (aq.out.trans (by rw [J.out,decide_eq_false G.out,decide_eq_false H1.out]; rfl)).symm,ae.out⟩
end Go.Proofs.YtfcfpoemojjglaaGreatDoor.K
