/-
  Part CK of a proof.
-/
import Derived.Test.YtfcfpoemojjglaaGreatDoorPA
import Derived.Test.YtfcfpoemojjglaaGreatDoorCJ
import Derived.Test.YtfcfpoemojjglaaGreatDoorCI
set_option maxHeartbeats 16000000
set_option maxRecDepth 100000
set_option linter.unusedVariables false
set_option linter.unusedSimpArgs false
namespace Go.Proofs.YtfcfpoemojjglaaGreatDoor.K
open Go.RowKit
attribute [-go_sem] loadCellsFrom storeCells
theorem SD {w:World} {cs:List Value} {p:Am} {r:Az} {i:Nat} {I:Bool} (h:At w w.heap.size cs p) (hr:p.rules[i]?=some r) (hs:r.Small) (ct:r.name.size≤500) (U:p.Small) (hT:A0 w) (bp:Hid (((p.rules.take i).any fun x=>decide (x.name=r.name))=I)) (ad:Hid (Ab r.name=false∨I=true)):
  Calls Tryz.prog 138 #[.agg cs.toArray,.int .i64 (i:Int)] w (Ret fun v w'=>v=.int .i64 (BC Ab p.topo (p.states.length:Int) (p.messages.length:Int) (p.values.length:Int) I r)∧Below w.heap.size w w'):=by
 obtain⟨A1,c1,A2,c2,A3,c3,A4,c4,A5,c5,A6,c6,A7,c7,aL,cu,cv,aj,bb,bc,cw,cx,cy,cz,cA,-,-,-,-,-,-,h7,aY⟩:=h.cells
 have b0:=AP hr
 have b6:=U.states
 have b7:=U.messages
 have b8:=U.values
 have cr:=U.rules
 have aW:=hide h7
 obtain⟨w1,d1,a3,ap,b1⟩:=Ae w cs.toArray 27
 have G:=a3.trans ((Ap w1).mono a3.size)
 have Z:Blk w1.drew w.heap.size 27 cs.toArray:=ap
 obtain⟨b,d2,rc,hA,cf,J,aZ,b4⟩:=Du (h7.keep (w':=w1.drew) (B':=w.heap.size) (R':=AW w1.drew w.heap.size) (fun _ y=>G.cell y) (fun _ _ h=>h.keep (fun _ y=>G.cell y) (Nat.le_refl _)) (Nat.le_refl _)) hr
 obtain⟨w2,br,a4,aq,b3⟩:=Ae w1.drew rc 99
 have ar:Blk w2 w1.heap.size 99 rc:=aq
 have ak:=Dv w1.drew 99 18 (by kernel_rfl) J.size J.one
 rw [br] at ak
 have bn:∀c:Array Value,c.size=18→(storeCells ⟨w1.heap.size,0,none⟩ rc.toList 0).run Tryz.prog (w1.alloc (.cells c 99)).drew=.ok () w2:=ak
 clear ak
 have a9:=Z.below a4
 have F:=hide (G.trans (a4.mono G.size))
 have aa:=hide (show Cp w2 w.heap.size w1.heap.size cs.toArray rc p r from⟨h.keep (fun _ y=>F.out.cell y) F.out.size,J.is.keep (fun _ y=>a4.cell (by show _<w1.heap.size; have:=a3.size; omega)) F.out.size,a9,ar,hT.below F.out⟩)
 have aM:=J.is.cells
 simp only [Array.toArray_toList] at aM
 obtain⟨E1,f1,E2,f2,E3,f3,E4,f4,E5,f5,E6,f6,E7,f7,E8,f8,⟨aN,cD,cE,cQ,cR,cS,cT,cU,cV,cW,cX,cF,cG,cH,cJ,cK,cL,cM,cO⟩,⟨ay,az,aA,aB,aC,aD,aE,aF⟩⟩:=aM
 have E:∀{D:Type} {sz:Nat} {enc:D→Nat→Value} {A:Option Addr} {ds:List D},Sl w1.drew w.heap.size sz enc A ds→Sl w w.heap.size sz enc A ds:=fun h=>h.keep (fun _ y=>(G.cell y).symm) (Nat.le_refl _)
 have c0:=hide (E ay)
 have c8:=hide (E az)
 have c9:=hide (E aA)
 have ca:=hide (E aB)
 have cb:=hide (E aC)
 have cc:=hide (E aD)
 have cd:=hide (E aE)
 have ce:=hide (E aF)
 have ch:=Z.cell
 have aV:=hide Z
 have aU:=hide a9
 generalize bd:cs.toArray=pc at*
 have cB:=hide aL
 obtain⟨bf,bg,bh,bi,bj,bk,bl,bm⟩:=hs
 have d0:=hide (show r.Small from⟨bf,bg,bh,bi,bj,bk,bl,bm⟩)
 have cY:=hide hr
 have cp:=aY
 have b9:=hide (show i<p.rules.length from b0)
 obtain⟨ns,ah⟩:∃n,n=p.states.length:=⟨_,rfl⟩
 obtain⟨nm,ag⟩:∃n,n=p.messages.length:=⟨_,rfl⟩
 obtain⟨nv,ai⟩:∃n,n=p.values.length:=⟨_,rfl⟩
 have bZ:=hide (show ns=p.states.length∧nm=p.messages.length∧nv=p.values.length from⟨ah,ag,ai⟩)
 rw [←ah] at aj b6 ⊢
 rw [←ag] at bb b7 ⊢
 rw [←ai] at bc b8 ⊢
 obtain⟨EV,aw⟩:∃e,Hid (BC Ab p.topo (ns:Int) (nm:Int) (nv:Int) I r=e):=⟨_,rfl⟩
 rw [aw.out]
 subst hA
 clear aZ J b1 b3 a3 a4 G ap aq ar Z a9 aL bd hr h h7 ah ag ai hT U ay az aA aB aC aD aE aF E
 have ax:=hide (show EV=2 from aw.out.symm.trans (by
  rcases ad.out with h1 | h1
  ·exact Sj h1 _
  ·rw [h1]; exact Sk))
 obtain⟨bo,aJ⟩:∃b,Hid (Ab r.name=b):=⟨_,rfl⟩
 rw [aJ.out] at ad
 go_enter Tryz.func138,Tryz.ntmps138
 go_wp2_with fail
 refine Reg.cI [0,1,0,7,15,0,32,96,0,287,1023] [0,1,2,3,4,5,6,7,8,9,10] ?_
 refine Reg.wI [0,1,2,3,4,5,6,7,8] [9,10] rfl fun Qf C=>?_
 go_wp2_with fail
 first | refine C _ _ ⟨rfl,?_⟩ | refine⟨rfl,?_⟩ | refine C _ _ ⟨by simp [Reg.fineT,Reg.intOp,Region.wanted,yielded,Reg.intFine,Reg.isInt,Act.eval],?_⟩
 try clear C
 refine Reg.aI 9 [10] [6] rfl fun Qf C=>?_
 simp only [gT,gS,gZ]
 go_wp2_with fail
 first | refine C _ _ ⟨?_,?_⟩ | refine⟨?_,?_⟩
 ·intro z hz q O
  simp only [List.mem_cons,List.not_mem_nil,or_false] at hz
  subst hz
  injection O with O
  subst O
  exact Reg.same_load1 rfl rfl (((aV.out.kept ((Ac.refl _ (fun _=>False)).alloc _) id).cell 2).trans aj) ((aU.out.cell 2).trans aj) Tryz.underlying22 rfl
 try clear C
 refine Reg.wI [10] [] rfl fun Qf C=>?_
 go_wp2_with fail
 first | refine C _ _ ⟨rfl,?_⟩ | refine⟨rfl,?_⟩ | refine C _ _ ⟨by simp [Reg.fineT,Reg.intOp,Region.wanted,yielded,Reg.intFine,Reg.isInt,Act.eval],?_⟩
 try clear C
 first | refine Reg.restI_end ?_ | skip
 have cZ:=hide aN
 clear aN bn b4
 have ci:=aa.out.b2.cell
 have cm:=aa.out.b5.cell
 go_wp2_with fail
 refine Calls.ret (Cm r.name _ (by omega)) ?_
 rintro v w3 ⟨rfl,af⟩
 rw [aJ.out]
 have ab:=hide (aa.out.at af)
 have cj:=ab.out.b2.cell
 have cn:=ab.out.b5.cell
 have ae:=hide (F.out.trans (af.mono F.out.size))
 clear af
 cases bo
 ·go_wp2_with fail
  go_ret
  exact⟨congrArg (Value.int .i64) ax.out.symm,ae.out⟩
 obtain rfl:I=true:=ad.out.elim (fun h=>by cases h) id
 go_wp2_with fail
 go_loopw [7] (fun ii wr=>∃(k:Nat),ii=.int .i64 (k:Int)∧k≤i∧Hid (Below w3.heap.size w3 wr)∧Hid ((p.rules.take k).all (fun x=>!decide (x.name=r.name))=true)) (fun ii _=>i - (intOf ii).toNat)
 case atStart=>exact⟨0,rfl,Nat.zero_le _,Below.refl _ _,by show _=_; simp⟩
 case round=>
  obtain⟨k,rfl,hk,a5,hE⟩:=hrel
  have aH:=hide (ab.out.at a5.out)
  have ck:=aH.out.b2.cell
  have co:=aH.out.b5.cell
  have a2:=hide (ae.out.trans (a5.out.mono ae.out.size))
  by_cases cq:k<i
  ·obtain⟨x,V⟩:∃x,p.rules[k]?=some x:=⟨_,List.getElem?_eq_getElem (by have:=b9.out; omega)⟩
   obtain⟨b',d3,xc,ao,cg,au,aK,-⟩:=Du (aW.out.keep (w':=wr) (B':=w.heap.size) (R':=AW wr w.heap.size) (fun _ y=>a2.out.cell y) (fun _ _ h=>h.keep (fun _ y=>a2.out.cell y) (Nat.le_refl _)) (Nat.le_refl _)) V
   have e1:=Option.some.inj ao
   injection e1 with e1 e2 _
   subst e1 e2
   have W:=au.is.cells
   simp only [Array.toArray_toList] at W
   obtain⟨-,-,-,-,-,-,-,-,-,-,-,-,-,-,-,-,⟨-,W,-⟩,-⟩:=W
   have bu:=aK 0 _ W
   simp only [Nat.add_zero] at bu
   have bs:=hide V
   clear aK au V W ao
   by_cases M:x.name=r.name
   ·have O:(x.name.toList==r.name.toList)=true:=by rw [DM]; exact decide_eq_true M
    clear M
    go_wp2_with fail
    refine Reg.cP [0,1,0,7,15,31,0,64,255] ?_
    go_wp2_with fail
    go_ret
    exact⟨congrArg (Value.int .i64) ax.out.symm,a2.out.trans ((Ap wr).mono a2.out.size)⟩
   ·have O:(x.name.toList==r.name.toList)=false:=by rw [DM]; exact decide_eq_false M
    have ba:=hide (Cq (p:=fun x:Az=>!decide (x.name=r.name)) bs.out hE.out (by simp [M]))
    have aX:=hide (a5.out.trans ((Ap wr).mono a5.out.size))
    clear M
    go_wp2_with fail
    refine Reg.cP [0,1,0,7,15,31,0,64,255] ?_
    go_wp2_with fail
    exact⟨⟨k+1,by go_num,by omega,aX.out,ba.out⟩,by simp [intOf]; omega⟩
  ·exfalso
   have h1:=bp.out
   have h2:=hE.out
   rw [show k=i by omega] at h2
   rw [List.any_eq_true] at h1
   obtain⟨x,V,hv⟩:=h1
   have h3:=List.all_eq_true.1 h2 x V
   rw [hv] at h3
   cases h3
theorem SE {w:World} {cs:List Value} {p:Am} {r:Az} {i:Nat} (h:At w w.heap.size cs p) (hr:p.rules[i]?=some r) (hs:r.Small) (cD:r.name.size≤500) (W:p.Small) (hT:A0 w) (bB:Hid (((p.rules.take i).any fun x=>decide (x.name=r.name))=false)) (a8:Hid (Ab r.name=true)) (b6:Hid (inC r.kind 1 5=false∨inC r.kind 1 5=true∧((decide (r.kind≤3) != (p.topo==1))=true∨(decide (r.kind≤3) != (p.topo==1))=false∧B9 p.topo r=true))):
  Calls Tryz.prog 138 #[.agg cs.toArray,.int .i64 (i:Int)] w (Ret fun v w'=>v=.int .i64 (BC Ab p.topo (p.states.length:Int) (p.messages.length:Int) (p.values.length:Int) false r)∧Below w.heap.size w w'):=by
 obtain⟨A1,c1,A2,c2,A3,c3,A4,c4,A5,c5,A6,c6,A7,c7,aR,cE,cF,ao,bm,bn,cG,cH,cJ,cK,cL,-,-,-,-,-,-,h7,b8⟩:=h.cells
 have bc:=AP hr
 have bh:=W.states
 have bi:=W.messages
 have bj:=W.values
 have cB:=W.rules
 have b3:=hide h7
 obtain⟨w1,d7,a5,ax,bd⟩:=Ae w cs.toArray 27
 have O:=a5.trans ((Ap w1).mono a5.size)
 have a2:Blk w1.drew w.heap.size 27 cs.toArray:=ax
 obtain⟨b,d8,rc,hA,co,U,bb,bf⟩:=Du (h7.keep (w':=w1.drew) (B':=w.heap.size) (R':=AW w1.drew w.heap.size) (fun _ C=>O.cell C) (fun _ _ h=>h.keep (fun _ C=>O.cell C) (Nat.le_refl _)) (Nat.le_refl _)) hr
 obtain⟨w2,bC,a6,ay,be⟩:=Ae w1.drew rc 99
 have az:Blk w2 w1.heap.size 99 rc:=ay
 have ar:=Dv w1.drew 99 18 (by kernel_rfl) U.size U.one
 rw [bC] at ar
 have bA:∀c:Array Value,c.size=18→(storeCells ⟨w1.heap.size,0,none⟩ rc.toList 0).run Tryz.prog (w1.alloc (.cells c 99)).drew=.ok () w2:=ar
 clear ar
 have ag:=a2.below a6
 have J:=hide (O.trans (a6.mono O.size))
 have ah:=hide (show Cp w2 w.heap.size w1.heap.size cs.toArray rc p r from⟨h.keep (fun _ C=>J.out.cell C) J.out.size,U.is.keep (fun _ C=>a6.cell (by show _<w1.heap.size; have:=a5.size; omega)) J.out.size,ag,az,hT.below J.out⟩)
 have aS:=U.is.cells
 simp only [Array.toArray_toList] at aS
 obtain⟨E1,f1,E2,f2,E3,f3,E4,f4,E5,f5,E6,f6,E7,f7,E8,f8,⟨aT,cM,cO,cY,cZ,d0,d1,d2,d3,d4,d5,cQ,cR,cS,cT,cU,cV,cW,cX⟩,⟨aC,aD,aE,aF,aG,aH,aJ,aK⟩⟩:=aS
 have I:∀{D:Type} {sz:Nat} {enc:D→Nat→Value} {A:Option Addr} {ds:List D},Sl w1.drew w.heap.size sz enc A ds→Sl w w.heap.size sz enc A ds:=fun h=>h.keep (fun _ C=>(O.cell C).symm) (Nat.le_refl _)
 have cf:=hide (I aC)
 have cg:=hide (I aD)
 have ch:=hide (I aE)
 have ci:=hide (I aF)
 have cj:=hide (I aG)
 have ck:=hide (I aH)
 have cm:=hide (I aJ)
 have cn:=hide (I aK)
 have cq:=a2.cell
 have b1:=hide a2
 have b0:=hide ag
 generalize bo:cs.toArray=pc at*
 have ap:=hide aR
 obtain⟨bq,br,bs,bt,bu,bv,bw,bx⟩:=hs
 have bz:=hide (show r.Small from⟨bq,br,bs,bt,bu,bv,bw,bx⟩)
 have d6:=hide hr
 have cA:=b8
 have bk:=hide (show i<p.rules.length from bc)
 obtain⟨ns,am⟩:∃n,n=p.states.length:=⟨_,rfl⟩
 obtain⟨nm,al⟩:∃n,n=p.messages.length:=⟨_,rfl⟩
 obtain⟨nv,an⟩:∃n,n=p.values.length:=⟨_,rfl⟩
 have ce:=hide (show ns=p.states.length∧nm=p.messages.length∧nv=p.values.length from⟨am,al,an⟩)
 rw [←am] at ao bh ⊢
 rw [←al] at bm bi ⊢
 rw [←an] at bn bj ⊢
 obtain⟨EV,a3⟩:∃e,Hid (BC Ab p.topo (ns:Int) (nm:Int) (nv:Int) false r=e):=⟨_,rfl⟩
 rw [a3.out]
 subst hA
 clear bb U bd be a5 a6 O ax ay az a2 ag aR bo hr h h7 am al an hT W aC aD aE aF aG aH aJ aK I
 go_enter Tryz.func138,Tryz.ntmps138
 go_wp2_with fail
 refine Reg.cI [0,1,0,7,15,0,32,96,0,287,1023] [0,1,2,3,4,5,6,7,8,9,10] ?_
 refine Reg.wI [0,1,2,3,4,5,6,7,8] [9,10] rfl fun Qf F=>?_
 go_wp2_with fail
 first | refine F _ _ ⟨rfl,?_⟩ | refine⟨rfl,?_⟩ | refine F _ _ ⟨by simp [Reg.fineT,Reg.intOp,Region.wanted,yielded,Reg.intFine,Reg.isInt,Act.eval],?_⟩
 try clear F
 refine Reg.aI 9 [10] [6] rfl fun Qf F=>?_
 simp only [gT,gS,gZ]
 go_wp2_with fail
 first | refine F _ _ ⟨?_,?_⟩ | refine⟨?_,?_⟩
 ·intro z hz q hq
  simp only [List.mem_cons,List.not_mem_nil,or_false] at hz
  subst hz
  injection hq with hq
  subst hq
  exact Reg.same_load1 rfl rfl (((b1.out.kept ((Ac.refl _ (fun _=>False)).alloc _) id).cell 2).trans ao) ((b0.out.cell 2).trans ao) Tryz.underlying22 rfl
 try clear F
 refine Reg.wI [10] [] rfl fun Qf F=>?_
 go_wp2_with fail
 first | refine F _ _ ⟨rfl,?_⟩ | refine⟨rfl,?_⟩ | refine F _ _ ⟨by simp [Reg.fineT,Reg.intOp,Region.wanted,yielded,Reg.intFine,Reg.isInt,Act.eval],?_⟩
 try clear F
 first | refine Reg.restI_end ?_ | skip
 have aq:=hide aT
 clear aT bA bf
 have cr:=ah.out.b2.cell
 have cw:=ah.out.b5.cell
 go_wp2_with fail
 go_wp2_with (go_at_call 96; refine Calls.ret (Cm r.name _ (by omega)) ?_; rintro v w3 ⟨rfl,aj⟩; rw [a8.out]; have ai:=hide (ah.out.at aj); have ct:=ai.out.b2.cell; have cx:=ai.out.b5.cell; have aN:=hide (J.out.trans (aj.mono J.out.size)); clear aj)
 go_loopw [7] (fun ii wr=>∃(k:Nat),ii=.int .i64 (k:Int)∧k≤i∧Hid (Below w3.heap.size w3 wr)∧Hid ((p.rules.take k).all (fun x=>!decide (x.name=r.name))=true)) (fun ii _=>i - (intOf ii).toNat)
 case atStart=>exact⟨0,rfl,Nat.zero_le _,Below.refl _ _,by show _=_; simp⟩
 case round=>
  obtain⟨k,rfl,hk,a7,hE⟩:=hrel
  have E:=hide (ai.out.at a7.out)
  have cu:=E.out.b2.cell
  have cy:=E.out.b5.cell
  have M:=hide (aN.out.trans (a7.out.mono aN.out.size))
  by_cases bg:k<i
  ·obtain⟨x,hx⟩:∃x,p.rules[k]?=some x:=⟨_,List.getElem?_eq_getElem (by have:=bk.out; omega)⟩
   obtain⟨b',d9,xc,aw,cp,aA,aO,-⟩:=Du (b3.out.keep (w':=wr) (B':=w.heap.size) (R':=AW wr w.heap.size) (fun _ C=>M.out.cell C) (fun _ _ h=>h.keep (fun _ C=>M.out.cell C) (Nat.le_refl _)) (Nat.le_refl _)) hx
   have e1:=Option.some.inj aw
   injection e1 with e1 e2 _
   subst e1 e2
   have Z:=aA.is.cells
   simp only [Array.toArray_toList] at Z
   obtain⟨-,-,-,-,-,-,-,-,-,-,-,-,-,-,-,-,⟨-,Z,-⟩,-⟩:=Z
   have bD:=aO 0 _ Z
   simp only [Nat.add_zero] at bD
   have aU:=hide hx
   clear aO aA hx Z aw
   by_cases a4:x.name=r.name
   ·exfalso
    have h1:=bB.out
    rw [List.any_eq_false] at h1
    refine h1 x (List.mem_of_getElem? (i:=k) ?_) (decide_eq_true a4)
    rw [List.getElem?_take,if_pos bg]
    exact aU.out
   ·have hq:(x.name.toList==r.name.toList)=false:=by rw [DM]; exact decide_eq_false a4
    have bl:=hide (Cq (p:=fun x:Az=>!decide (x.name=r.name)) aU.out hE.out (by simp [a4]))
    have b7:=hide (a7.out.trans ((Ap wr).mono a7.out.size))
    clear a4
    go_wp2_with fail
    refine Reg.cP [0,1,0,7,15,31,0,64,255] ?_
    go_wp2_with fail
    exact⟨⟨k+1,by go_num,by omega,b7.out,bl.out⟩,by simp [intOf]; omega⟩
  ·clear hE
   rcases b6.out with y | ⟨y,G | ⟨G,ab⟩⟩
   ·replace y:=hide y
    have V:=hide (show EV=6 from a3.out.symm.trans (Ib a8.out (by rw [show(decide (1≤r.kind)&&decide (r.kind≤5))=false from y.out]; rfl)))
    have aP:=Ah E.out.b2 ap.out
    have aQ:=Ah E.out.b5 aq.out
    go_wp2_with (first
     | (go_at_call 98; refine(Ao _ _ _ _).mono ?_; rintro e w' ⟨rfl,rfl⟩; rw [y.out]))
    go_ret
    exact⟨congrArg (Value.int .i64) (V.out).symm,M.out⟩
   ·replace y:=hide y
    have V:=hide (show EV=6 from a3.out.symm.trans (Ib a8.out (by rw [show(decide (1≤r.kind)&&decide (r.kind≤5))=true from y.out,show(decide (r.kind≤3) != decide (p.topo=1))=true from G]; rfl)))
    have b9:¬(decide (r.kind≤3)=(p.topo==1)):=fun e=>by rw [e] at G; simp at G
    have ba:=hide G
    clear G
    have aP:=Ah E.out.b2 ap.out
    have aQ:=Ah E.out.b5 aq.out
    go_wp2_with (first
     | (go_at_call 98; refine(Ao _ _ _ _).mono ?_; rintro e w' ⟨rfl,rfl⟩; rw [y.out]))
    go_ret
    exact⟨congrArg (Value.int .i64) (V.out).symm,M.out⟩
   ·replace y:=hide y
    replace ab:=hide ab
    have V:=hide (show EV=6 from a3.out.symm.trans (Ib a8.out (by rw [show(decide (1≤r.kind)&&decide (r.kind≤5))=true from y.out,show(decide (r.kind≤3) != decide (p.topo=1))=false from G,ab.out]; rfl)))
    have b9:decide (r.kind≤3)=(p.topo==1):=by cases h1:decide (r.kind≤3) <;> cases h2:(p.topo==1) <;> simp [h1,h2] at G ⊢
    have ba:=hide G
    clear G
    have aP:=Ah E.out.b2 ap.out
    have aQ:=Ah E.out.b5 aq.out
    go_wp2_with (first
     | (go_at_call 98; refine(Ao _ _ _ _).mono ?_; rintro e w' ⟨rfl,rfl⟩; rw [y.out])
     | (go_at_call 192; refine Calls.ret (FD E.out.pr E.out.ru bz.out) ?_; rintro v w5 ⟨rfl,ak⟩; rw [ab.out]; have aM:=hide (E.out.at ak); have cv:=aM.out.b2.cell; have cz:=aM.out.b5.cell; have b4:=hide (M.out.trans (ak.mono M.out.size)); clear ak))
    go_ret
    exact⟨congrArg (Value.int .i64) (V.out).symm,b4.out⟩
end Go.Proofs.YtfcfpoemojjglaaGreatDoor.K
namespace Go.Proofs.YtfcfpoemojjglaaGreatDoor.K
open Go.RowKit
attribute [-go_sem] loadCellsFrom storeCells
theorem SH {w:World} {cs:List Value} {p:Am} {r:Az} {i:Nat} (h:At w w.heap.size cs p) (hr:p.rules[i]?=some r) (hs:r.Small) (ek:r.name.size≤500) (al:p.Small) (hT:A0 w) (df:Hid (((p.rules.take i).any fun x=>decide (x.name=r.name))=false)) (bH:Hid (Ab r.name=true)) (bF:Hid (inC r.kind 1 5=true)) (aA:(decide (r.kind≤3) != (p.topo==1))=false) (bf:Hid (B9 p.topo r=false)) (U:r.kind=4):
  Calls Tryz.prog 138 #[.agg cs.toArray,.int .i64 (i:Int)] w (Ret fun v w'=>v=.int .i64 (BC Ab p.topo (p.states.length:Int) (p.messages.length:Int) (p.values.length:Int) false r)∧Below w.heap.size w w'):=by
 obtain⟨A1,c1,A2,c2,A3,c3,A4,c4,A5,c5,A6,c6,A7,c7,bJ,el,em,bd,cW,cX,en,eo,ep,eq,er,-,-,-,-,-,-,h7,cF⟩:=h.cells
 have cK:=AP hr
 have cR:=al.states
 have cS:=al.messages
 have cT:=al.values
 have eh:=al.rules
 have cp:=hide h7
 obtain⟨w1,eN,ax,bh,cL⟩:=Ae w cs.toArray 27
 have af:=ax.trans ((Ap w1).mono ax.size)
 have ao:Blk w1.drew w.heap.size 27 cs.toArray:=bh
 obtain⟨b,eO,rc,hA,dQ,hC,cG,cO⟩:=Du (h7.keep (w':=w1.drew) (B':=w.heap.size) (R':=AW w1.drew w.heap.size) (fun _ C=>af.cell C) (fun _ _ h=>h.keep (fun _ C=>af.cell C) (Nat.le_refl _)) (Nat.le_refl _)) hr
 obtain⟨w2,dg,ay,bi,cM⟩:=Ae w1.drew rc 99
 have bj:Blk w2 w1.heap.size 99 rc:=bi
 have be:=Dv w1.drew 99 18 (by kernel_rfl) hC.size hC.one
 rw [dg] at be
 have dc:∀c:Array Value,c.size=18→(storeCells ⟨w1.heap.size,0,none⟩ rc.toList 0).run Tryz.prog (w1.alloc (.cells c 99)).drew=.ok () w2:=be
 clear be
 have aQ:=ao.below ay
 have ab:=hide (af.trans (ay.mono af.size))
 have aS:=hide (show Cp w2 w.heap.size w1.heap.size cs.toArray rc p r from⟨h.keep (fun _ C=>ab.out.cell C) ab.out.size,hC.is.keep (fun _ C=>ay.cell (by show _<w1.heap.size; have:=ax.size; omega)) ab.out.size,aQ,bj,hT.below ab.out⟩)
 have bK:=hC.is.cells
 simp only [Array.toArray_toList] at bK
 obtain⟨E1,f1,E2,f2,E3,f3,E4,f4,E5,f5,E6,f6,E7,f7,E8,f8,⟨bM,et,eu,eF,eG,eH,eI,eJ,d0,eK,eL,ev,ew,ey,ez,eA,eB,eD,eE⟩,⟨bn,bo,bp,bq,br,bs,bt,bu⟩⟩:=bK
 have J:∀{D:Type} {sz:Nat} {enc:D→Nat→Value} {A:Option Addr} {ds:List D},Sl w1.drew w.heap.size sz enc A ds→Sl w w.heap.size sz enc A ds:=fun h=>h.keep (fun _ C=>(af.cell C).symm) (Nat.le_refl _)
 have dO:=hide (J bn)
 have dP:=hide (J bo)
 have cq:=hide (J bp)
 have cr:=hide (J bq)
 have ct:=hide (J br)
 have cu:=hide (J bs)
 have cv:=hide (J bt)
 have cw:=hide (J bu)
 have dS:=ao.cell
 have cn:=hide ao
 have cm:=hide aQ
 generalize cY:cs.toArray=pc at*
 have cZ:=hide bJ
 obtain⟨d3,d4,d5,d6,d7,d8,d9,da⟩:=hs
 have db:=hide (show r.Small from⟨d3,d4,d5,d6,d7,d8,d9,da⟩)
 have eM:=hide hr
 have eb:=cF
 have cU:=hide (show i<p.rules.length from cK)
 obtain⟨ns,bb⟩:∃n,n=p.states.length:=⟨_,rfl⟩
 obtain⟨nm,ba⟩:∃n,n=p.messages.length:=⟨_,rfl⟩
 obtain⟨nv,bc⟩:∃n,n=p.values.length:=⟨_,rfl⟩
 have dN:=hide (show ns=p.states.length∧nm=p.messages.length∧nv=p.values.length from⟨bb,ba,bc⟩)
 rw [←bb] at bd cR ⊢
 rw [←ba] at cW cS ⊢
 rw [←bc] at cX cT ⊢
 obtain⟨EV,bm⟩:∃e,Hid (BC Ab p.topo (ns:Int) (nm:Int) (nv:Int) false r=e):=⟨_,rfl⟩
 rw [bm.out]
 subst hA
 clear cG hC cL cM ax ay af bh bi bj ao aQ bJ cY hr h h7 bb ba bc hT al bn bo bp bq br bs bt bu J
 have co:=hide (show KOK Ab p.topo r from⟨bH.out,bF.out,aA,bf.out⟩)
 have bw:=hide (DF bf.out)
 have cH:∀y,Below w.heap.size w y→Calls Tryz.prog 97 #[.slice E3 r.ex.length f3,.int .i64 (ns:Int)] y (Ret fun v w'=>v=.int .i64 (Aa r.ex (ns:Int))∧Below y.heap.size y w'):=fun y E=>B0 (by omega) (cq.out.keep (fun _ C=>E.cell C) E.size)
 have cJ:∀y,Below w.heap.size w y→Calls Tryz.prog 97 #[.slice E4 r.fa.length f4,.int .i64 (ns:Int)] y (Ret fun v w'=>v=.int .i64 (Aa r.fa (ns:Int))∧Below y.heap.size y w'):=fun y E=>B0 (by omega) (cr.out.keep (fun _ C=>E.cell C) E.size)
 have de:∀y,Below w.heap.size w y→Calls Tryz.prog 97 #[.slice E5 r.send.length f5,.int .i64 (nm:Int)] y (Ret fun v w'=>v=.int .i64 (Aa r.send (nm:Int))∧Below y.heap.size y w'):=fun y E=>B0 (by omega) (ct.out.keep (fun _ C=>E.cell C) E.size)
 have bG:∀y,Below w.heap.size w y→Calls Tryz.prog 97 #[.slice E6 r.left.length f6,.int .i64 (ns:Int)] y (Ret fun v w'=>v=.int .i64 (Aa r.left (ns:Int))∧Below y.heap.size y w'):=fun y E=>B0 (by omega) (cu.out.keep (fun _ C=>E.cell C) E.size)
 have bL:∀y,Below w.heap.size w y→Calls Tryz.prog 97 #[.slice E7 r.right.length f7,.int .i64 (ns:Int)] y (Ret fun v w'=>v=.int .i64 (Aa r.right (ns:Int))∧Below y.heap.size y w'):=fun y E=>B0 (by omega) (cv.out.keep (fun _ C=>E.cell C) E.size)
 have bI:∀y,Below w.heap.size w y→Calls Tryz.prog 97 #[.slice E8 r.parent.length f8,.int .i64 (ns:Int)] y (Ret fun v w'=>v=.int .i64 (Aa r.parent (ns:Int))∧Below y.heap.size y w'):=fun y E=>B0 (by omega) (cw.out.keep (fun _ C=>E.cell C) E.size)
 have ec:decide (r.kind≤3)=(p.topo==1):=by cases h1:decide (r.kind≤3) <;> cases h2:(p.topo==1) <;> simp [h1,h2] at aA ⊢
 have ed:=hide aA
 clear aA
 go_enter Tryz.func138,Tryz.ntmps138
 go_wp2_with fail
 refine Reg.cI [0,1,0,7,15,0,32,96,0,287,1023] [0,1,2,3,4,5,6,7,8,9,10] ?_
 refine Reg.wI [0,1,2,3,4,5,6,7,8] [9,10] rfl fun Qf G=>?_
 go_wp2_with fail
 first | refine G _ _ ⟨rfl,?_⟩ | refine⟨rfl,?_⟩ | refine G _ _ ⟨by simp [Reg.fineT,Reg.intOp,Region.wanted,yielded,Reg.intFine,Reg.isInt,Act.eval],?_⟩
 try clear G
 refine Reg.aI 9 [10] [6] rfl fun Qf G=>?_
 simp only [gT,gS,gZ]
 go_wp2_with fail
 first | refine G _ _ ⟨?_,?_⟩ | refine⟨?_,?_⟩
 ·intro z hz q hq
  simp only [List.mem_cons,List.not_mem_nil,or_false] at hz
  subst hz
  injection hq with hq
  subst hq
  exact Reg.same_load1 rfl rfl (((cn.out.kept ((Ac.refl _ (fun _=>False)).alloc _) id).cell 2).trans bd) ((cm.out.cell 2).trans bd) Tryz.underlying22 rfl
 try clear G
 refine Reg.wI [10] [] rfl fun Qf G=>?_
 go_wp2_with fail
 first | refine G _ _ ⟨rfl,?_⟩ | refine⟨rfl,?_⟩ | refine G _ _ ⟨by simp [Reg.fineT,Reg.intOp,Region.wanted,yielded,Reg.intFine,Reg.isInt,Act.eval],?_⟩
 try clear G
 first | refine Reg.restI_end ?_ | skip
 have d1:=hide bM
 clear bM dc cO
 have dT:=aS.out.b2.cell
 have e3:=aS.out.b5.cell
 go_wp2_with fail
 go_wp2_with (go_at_call 96; refine Calls.ret (Cm r.name _ (by omega)) ?_; rintro v w3 ⟨rfl,b1⟩; rw [bH.out]; have aT:=hide (aS.out.at b1); have dU:=aT.out.b2.cell; have e4:=aT.out.b5.cell; have bB:=hide (ab.out.trans (b1.mono ab.out.size)); clear b1)
 go_loopw [7] (fun ii wr=>∃(k:Nat),ii=.int .i64 (k:Int)∧k≤i∧Hid (Below w3.heap.size w3 wr)∧Hid ((p.rules.take k).all (fun x=>!decide (x.name=r.name))=true)) (fun ii _=>i - (intOf ii).toNat)
 case atStart=>exact⟨0,rfl,Nat.zero_le _,Below.refl _ _,by show _=_; simp⟩
 case round=>
  obtain⟨k,rfl,hk,az,hE⟩:=hrel
  have V:=hide (aT.out.at az.out)
  have dV:=V.out.b2.cell
  have e5:=V.out.b5.cell
  have av:=hide (bB.out.trans (az.out.mono bB.out.size))
  by_cases cQ:k<i
  ·obtain⟨x,E⟩:∃x,p.rules[k]?=some x:=⟨_,List.getElem?_eq_getElem (by have:=cU.out; omega)⟩
   obtain⟨b',eP,xc,bg,dR,bk,bD,-⟩:=Du (cp.out.keep (w':=wr) (B':=w.heap.size) (R':=AW wr w.heap.size) (fun _ C=>av.out.cell C) (fun _ _ h=>h.keep (fun _ C=>av.out.cell C) (Nat.le_refl _)) (Nat.le_refl _)) E
   have e1:=Option.some.inj bg
   injection e1 with e1 e2 _
   subst e1 e2
   have am:=bk.is.cells
   simp only [Array.toArray_toList] at am
   obtain⟨-,-,-,-,-,-,-,-,-,-,-,-,-,-,-,-,⟨-,am,-⟩,-⟩:=am
   have dh:=bD 0 _ am
   simp only [Nat.add_zero] at dh
   have bN:=hide E
   clear bD bk E am bg
   by_cases ap:x.name=r.name
   ·exfalso
    have h1:=df.out
    rw [List.any_eq_false] at h1
    refine h1 x (List.mem_of_getElem? (i:=k) ?_) (decide_eq_true ap)
    rw [List.getElem?_take,if_pos cQ]
    exact bN.out
   ·have hq:(x.name.toList==r.name.toList)=false:=by rw [DM]; exact decide_eq_false ap
    have cV:=hide (Cq (p:=fun x:Az=>!decide (x.name=r.name)) bN.out hE.out (by simp [ap]))
    have cx:=hide (az.out.trans ((Ap wr).mono az.out.size))
    clear ap
    go_wp2_with fail
    refine Reg.cP [0,1,0,7,15,31,0,64,255] ?_
    go_wp2_with fail
    exact⟨⟨k+1,by go_num,by omega,cx.out,cV.out⟩,by simp [intOf]; omega⟩
  ·clear hE
   have aR:=hide (bm.out.symm.trans (Sh co.out U (by omega)))
   have q1:(r.kind==1)=false:=by rw [U]; rfl
   have q2:(r.kind==2)=false:=by rw [U]; rfl
   have q3:(r.kind==3)=false:=by rw [U]; rfl
   have q4:(r.kind==4)=true:=by rw [U]; rfl
   have q5:(r.kind==5)=false:=by rw [U]; rfl
   have eR:(r.kind==2||r.kind==5)=false:=by rw [q2,q5]; rfl
   have bE:=hide U
   clear U
   have aJ:=hide (show r.guards=[]∧r.ex=[]∧r.fa=[]∧r.send=[] from bw.out.g (by rw [bE.out]; decide))
   have bP:=hide (show r.rd= -1∧r.wr= -1 from bw.out.v (by rw [bE.out]; decide))
   have ee:=Ah V.out.b2 cZ.out
   have ef:=Ah V.out.b5 d1.out
   go_wp2_with (first
    | (go_at_call 98; refine(Ao _ _ _ _).mono ?_; rintro e w' ⟨rfl,rfl⟩; rw [bF.out])
    | (go_at_call 192; refine Calls.ret (FD V.out.pr V.out.ru db.out) ?_; rintro v w5 ⟨rfl,b3⟩; rw [bf.out]; have aU:=hide (V.out.at b3); have dW:=aU.out.b2.cell; have e6:=aU.out.b5.cell; have aw:=hide (av.out.trans (b3.mono av.out.size)); clear b3))
   obtain⟨ng,b8⟩:∃n,n=r.guards.length:=⟨_,rfl⟩
   have b9:=hide (show ng=0 from by rw [b8,aJ.out.1]; rfl)
   rw [←b8] at d0
   have ei:¬(2:Int)<(ng:Int):=by have:=b9.out; omega
   have ej:ng≤60:=by have:=b9.out; omega
   clear b8
   cases aE:inC r.fr 0 ((ns:Int) - 1)
   case false=>
    have a6:=hide aE
    clear aE
    refine(Ao _ _ _ _).mono ?_; rintro e w' ⟨rfl,rfl⟩; rw [a6.out]; go_wp2_with fail
    go_ret
    exact⟨congrArg (Value.int .i64) (aR.out.trans (by rw [show inN r.fr (ns:Int)=false from a6.out]; rfl)).symm,aw.out⟩
   have a6:=hide aE
   clear aE
   refine(Ao _ _ _ _).mono ?_; rintro e w' ⟨rfl,rfl⟩; rw [a6.out]; go_wp2_with fail
   cases aH:inC r.to 0 ((ns:Int) - 1)
   case false=>
    have ai:=hide aH
    clear aH
    refine(Ao _ _ _ _).mono ?_; rintro e w' ⟨rfl,rfl⟩; rw [ai.out]; go_wp2_with fail
    go_ret
    exact⟨congrArg (Value.int .i64) (aR.out.trans (by rw [show inN r.fr (ns:Int)=true from a6.out,show inN r.to (ns:Int)=false from ai.out]; rfl)).symm,aw.out⟩
   have ai:=hide aH
   clear aH
   refine(Ao _ _ _ _).mono ?_; rintro e w' ⟨rfl,rfl⟩; rw [ai.out]; go_wp2_with fail
   have bx:=hide (show EV=orE (Aa r.left (ns:Int)) (orE (Aa r.right (ns:Int)) (orE (Aa r.parent (ns:Int)) (Ad (!inC r.at_ 0 2||(!decide (r.at_=0)&&decide (p.topo=3))) 1))) from aR.out.trans (by rw [show inN r.fr (ns:Int)=true from a6.out,show inN r.to (ns:Int)=true from ai.out]; rfl))
   go_loopw [10] (fun ii wr=>∃(k:Nat),ii=.int .i64 (k:Int)∧k≤ng∧Hid (Below w5.heap.size w5 wr)) (fun ii _=>ng - (intOf ii).toNat)
   case atStart=>exact⟨0,rfl,Nat.zero_le _,Below.refl _ _⟩
   case round=>
    obtain⟨k,rfl,hk,bC⟩:=hrel
    have aV:=hide (aU.out.at bC.out)
    have dX:=aV.out.b2.cell
    have e7:=aV.out.b5.cell
    have aY:=hide (aw.out.trans (bC.out.mono aw.out.size))
    by_cases eg:k<ng
    ·exfalso
     have:=b9.out
     omega
    ·go_wp2_with fail
     have ca:=hide (show Aa r.ex (ns:Int)=0 from by rw [aJ.out.2.1]; rfl)
     refine Calls.ret (cH _ aY.out) ?_; rintro v w7 ⟨rfl,b4⟩; rw [ca.out]; have aW:=hide (aV.out.at b4); have dY:=aW.out.b2.cell; have e8:=aW.out.b5.cell; have aZ:=hide (aY.out.trans (b4.mono aY.out.size)); clear b4; go_wp2_with fail
     have Y1:(r.rd != -1)=false:=by rw [bP.out.1]; rfl
     have Y2:(r.wr != -1)=false:=by rw [bP.out.2]; rfl
     have cb:=hide (show Aa r.fa (ns:Int)=0 from by rw [aJ.out.2.2.1]; rfl)
     refine Calls.ret (cJ _ aZ.out) ?_; rintro v w8 ⟨rfl,b6⟩; rw [cb.out]; have aX:=hide (aW.out.at b6); have dZ:=aX.out.b2.cell; have e9:=aX.out.b5.cell; have b0:=hide (aZ.out.trans (b6.mono aZ.out.size)); clear b6; go_wp2_with fail
     have cc:=hide (show Aa r.send (nm:Int)=0 from by rw [aJ.out.2.2.2]; rfl)
     refine Calls.ret (de _ b0.out) ?_; rintro v w9 ⟨rfl,b7⟩; rw [cc.out]; have ar:=hide (aX.out.at b7); have e0:=ar.out.b2.cell; have ea:=ar.out.b5.cell; have ad:=hide (b0.out.trans (b7.mono b0.out.size)); clear b7; go_wp2_with fail
     obtain⟨aM,aB⟩:∃e,Hid (Aa r.left (ns:Int)=e):=⟨_,rfl⟩
     by_cases a7:aM=0
     case neg=>
      have dk:(aM != 0)=true:=by simp [a7]
      have F:=hide a7
      clear a7
      refine Calls.ret (bG _ ad.out) ?_; rintro v wa ⟨rfl,a2⟩; rw [aB.out]; have W:=hide (ar.out.at a2); have cy:=W.out.b2.cell; have cB:=W.out.b5.cell; have M:=hide (ad.out.trans (a2.mono ad.out.size)); clear a2; go_wp2_with fail
      go_ret
      exact⟨congrArg (Value.int .i64) (bx.out.trans (by rw [aB.out]; exact BF F.out)).symm,M.out⟩
     have dk:(aM != 0)=false:=by simp [a7]
     have c0:=hide a7
     clear a7
     have bz:=hide (show EV=orE (Aa r.right (ns:Int)) (orE (Aa r.parent (ns:Int)) (Ad (!inC r.at_ 0 2||(!decide (r.at_=0)&&decide (p.topo=3))) 1)) from bx.out.trans (by rw [aB.out,c0.out]; rfl))
     refine Calls.ret (bG _ ad.out) ?_; rintro v wa ⟨rfl,a2⟩; rw [aB.out]; have W:=hide (ar.out.at a2); have cy:=W.out.b2.cell; have cB:=W.out.b5.cell; have M:=hide (ad.out.trans (a2.mono ad.out.size)); clear a2; go_wp2_with fail
     obtain⟨aO,aD⟩:∃e,Hid (Aa r.right (ns:Int)=e):=⟨_,rfl⟩
     by_cases a9:aO=0
     case neg=>
      have dm:(aO != 0)=true:=by simp [a9]
      have F:=hide a9
      clear a9
      refine Calls.ret (bL _ M.out) ?_; rintro v wb ⟨rfl,a3⟩; rw [aD.out]; have Z:=hide (W.out.at a3); have cz:=Z.out.b2.cell; have cD:=Z.out.b5.cell; have O:=hide (M.out.trans (a3.mono M.out.size)); clear a3; go_wp2_with fail
      go_ret
      exact⟨congrArg (Value.int .i64) (bz.out.trans (by rw [aD.out]; exact BF F.out)).symm,O.out⟩
     have dm:(aO != 0)=false:=by simp [a9]
     have c9:=hide a9
     clear a9
     have bA:=hide (show EV=orE (Aa r.parent (ns:Int)) (Ad (!inC r.at_ 0 2||(!decide (r.at_=0)&&decide (p.topo=3))) 1) from bz.out.trans (by rw [aD.out,c9.out]; rfl))
     refine Calls.ret (bL _ M.out) ?_; rintro v wb ⟨rfl,a3⟩; rw [aD.out]; have Z:=hide (W.out.at a3); have cz:=Z.out.b2.cell; have cD:=Z.out.b5.cell; have O:=hide (M.out.trans (a3.mono M.out.size)); clear a3; go_wp2_with fail
     obtain⟨aN,aC⟩:∃e,Hid (Aa r.parent (ns:Int)=e):=⟨_,rfl⟩
     by_cases a8:aN=0
     case neg=>
      have dl:(aN != 0)=true:=by simp [a8]
      have F:=hide a8
      clear a8
      refine Calls.ret (bI _ O.out) ?_; rintro v wc ⟨rfl,a4⟩; rw [aC.out]; have ak:=hide (Z.out.at a4); have cA:=ak.out.b2.cell; have cE:=ak.out.b5.cell; have ae:=hide (O.out.trans (a4.mono O.out.size)); clear a4; go_wp2_with fail
      go_ret
      exact⟨congrArg (Value.int .i64) (bA.out.trans (by rw [aC.out]; exact BF F.out)).symm,ae.out⟩
     have dl:(aN != 0)=false:=by simp [a8]
     have c8:=hide a8
     clear a8
     have aq:=hide (show EV=Ad (!inC r.at_ 0 2||(!decide (r.at_=0)&&decide (p.topo=3))) 1 from bA.out.trans (by rw [aC.out,c8.out]; rfl))
     refine Calls.ret (bI _ O.out) ?_; rintro v wc ⟨rfl,a4⟩; rw [aC.out]; have ak:=hide (Z.out.at a4); have cA:=ak.out.b2.cell; have cE:=ak.out.b5.cell; have ae:=hide (O.out.trans (a4.mono O.out.size)); clear a4; go_wp2_with fail
     have dM:=hide (show True from trivial)
     cases au:inC r.at_ 0 2
     case false=>
      have I:=hide au
      clear au
      refine(Ao _ _ _ _).mono ?_; rintro e w' ⟨rfl,rfl⟩; rw [I.out]; go_wp2_with fail
      go_ret
      exact⟨congrArg (Value.int .i64) (aq.out.trans (by rw [I.out]; rfl)).symm,ae.out⟩
     have I:=hide au
     clear au
     by_cases aa:r.at_=0
     case pos=>
      have G0:(r.at_ != 0)=false:=by simp [aa]
      have F:=hide aa
      clear aa
      refine(Ao _ _ _ _).mono ?_; rintro e w' ⟨rfl,rfl⟩; rw [I.out]; go_wp2_with fail
      go_ret
      exact⟨congrArg (Value.int .i64) (aq.out.trans (by rw [I.out,decide_eq_true F.out]; rfl)).symm,ae.out⟩
     have G0:(r.at_ != 0)=true:=by simp [aa]
     have F:=hide aa
     clear aa
     by_cases ag:p.topo=3
     case pos=>
      have G1:(p.topo==3)=true:=by simp [ag]
      have H1:=hide ag
      clear ag
      refine(Ao _ _ _ _).mono ?_; rintro e w' ⟨rfl,rfl⟩; rw [I.out]; go_wp2_with fail
      go_ret
      exact⟨congrArg (Value.int .i64) (aq.out.trans (by rw [I.out,decide_eq_false F.out,decide_eq_true H1.out]; rfl)).symm,ae.out⟩
     have G1:(p.topo==3)=false:=by simp [ag]
     have H1:=hide ag
     clear ag
     refine(Ao _ _ _ _).mono ?_; rintro e w' ⟨rfl,rfl⟩; rw [I.out]; go_wp2_with fail
     go_ret
     exact⟨congrArg (Value.int .i64) (aq.out.trans (by rw [I.out,decide_eq_false F.out,decide_eq_false H1.out]; rfl)).symm,ae.out⟩
end Go.Proofs.YtfcfpoemojjglaaGreatDoor.K
