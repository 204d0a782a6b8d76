/-
  Part CK of a proof.
-/
import Derived.Test.YtlakpndhhelliaaGreatDoorPA
import Derived.Test.YtlakpndhhelliaaGreatDoorCJ
import Derived.Test.YtlakpndhhelliaaGreatDoorCI
set_option maxHeartbeats 16000000
set_option maxRecDepth 100000
set_option linter.unusedVariables false
set_option linter.unusedSimpArgs false
namespace Go.Proofs.YtlakpndhhelliaaGreatDoor.K
open Go.RowKit
attribute [-go_sem] loadCellsFrom storeCells
theorem Ra {w:World} {cs:List Value} {p:Ao} {r:As} {i:Nat} (h:Ax w w.heap.size cs p) (J:p.rules[i]?=some r) (hs:r.Small) (aZ:r.name.size≤500) (G:p.Small) (hT:AL w) (b0:Hid (((p.rules.take i).any fun x=>decide (x.name=r.name))=false)) (aa:Hid (Ab r.name=false)):
  Calls Tryz.prog 55 #[.agg cs.toArray,.int .i64 (i:Int)] w (Ret fun v w'=>v=.int .i64 (AW Ab p.topo (p.states.length:Int) (p.messages.length:Int) (p.values.length:Int) false r)∧Below w.heap.size w w'):=by
 obtain⟨A1,c1,A2,c2,A3,c3,A4,c4,A5,c5,A6,c6,A7,c7,ab,bg,bh,V,aw,ax,bi,bj,bk,bl,bm,-,-,-,-,-,-,W,ay⟩:=h.cells
 have az:=AO J
 have aA:=G.states
 have aB:=G.messages
 have aC:=G.values
 have bn:=G.rules
 have bo:=hide W
 obtain⟨w1,bp,M,ad,aD⟩:=Ag w cs.toArray 27
 have E:=M.trans ((Ap w1).mono M.size)
 have O:Blk w1.drew w.heap.size 27 cs.toArray:=ad
 obtain⟨b,bq,rc,hA,br,I,aF,aG⟩:=BU (W.keep (w':=w1.drew) (B':=w.heap.size) (R':=AB w1.drew w.heap.size) (fun _ y=>E.cell y) (fun _ _ h=>h.keep (fun _ y=>E.cell y) (Nat.le_refl _)) (Nat.le_refl _)) J
 obtain⟨w2,aH,U,ae,aJ⟩:=Ag w1.drew rc 48
 have af:Blk w2 w1.heap.size 48 rc:=ae
 have Z:=Cf w1.drew 48 18 (by kernel_rfl) I.size I.one
 rw [aH] at Z
 have aK:∀c:Array Value,c.size=18→(storeCells ⟨w1.heap.size,0,none⟩ rc.toList 0).run Tryz.prog (w1.alloc (.cells c 48)).drew=.ok () w2:=Z
 clear Z
 have a2:=O.below U
 have F:=hide (E.trans (U.mono E.size))
 have a3:=hide (show BM w2 w.heap.size w1.heap.size cs.toArray rc p r from⟨h.keep (fun _ y=>F.out.cell y) F.out.size,I.is.keep (fun _ y=>U.cell (by show _<w1.heap.size; have:=M.size; omega)) F.out.size,a2,af,hT.below F.out⟩)
 have ag:=I.is.cells
 simp only [Array.toArray_toList] at ag
 obtain⟨E1,f1,E2,f2,E3,f3,E4,f4,E5,f5,E6,f6,E7,f7,E8,f8,⟨ah,bI,bJ,bK,bL,bM,bN,bO,bP,bQ,bR,bS,bT,bU,bV,bW,bX,bY,bZ⟩,⟨ai,aj,ak,al,am,an,ao,ap⟩⟩:=ag
 have f:∀{D:Type} {sz:Nat} {enc:D→Nat→Value} {A:Option Addr} {ds:List D},Sl w1.drew w.heap.size sz enc A ds→Sl w w.heap.size sz enc A ds:=fun h=>h.keep (fun _ y=>(E.cell y).symm) (Nat.le_refl _)
 have c0:=hide (f ai)
 have c8:=hide (f aj)
 have c9:=hide (f ak)
 have ca:=hide (f al)
 have cb:=hide (f am)
 have cc:=hide (f an)
 have cd:=hide (f ao)
 have ce:=hide (f ap)
 have cf:=O.cell
 have aL:=hide O
 have aM:=hide a2
 generalize aN:cs.toArray=pc at*
 have cg:=hide ab
 obtain⟨aO,aP,aQ,aR,aS,aT,aU,aV⟩:=hs
 have ch:=hide (show r.Small from⟨aO,aP,aQ,aR,aS,aT,aU,aV⟩)
 have ci:=hide J
 have cj:=ay
 have ck:=hide (show i<p.rules.length from az)
 obtain⟨ns,a4⟩:∃n,n=p.states.length:=⟨_,rfl⟩
 obtain⟨nm,a5⟩:∃n,n=p.messages.length:=⟨_,rfl⟩
 obtain⟨nv,a6⟩:∃n,n=p.values.length:=⟨_,rfl⟩
 have cm:=hide (show ns=p.states.length∧nm=p.messages.length∧nv=p.values.length from⟨a4,a5,a6⟩)
 rw [←a4] at V aA ⊢
 rw [←a5] at aw aB ⊢
 rw [←a6] at ax aC ⊢
 obtain⟨EV,aq⟩:∃e,Hid (AW Ab p.topo (ns:Int) (nm:Int) (nv:Int) false r=e):=⟨_,rfl⟩
 rw [aq.out]
 subst hA
 clear aF I aD aJ M U E ad ae af O a2 ab aN J h W a4 a5 a6 hT G ai aj ak al am an ao ap f
 have aX:=hide (show EV=2 from aq.out.symm.trans (I6 aa.out _))
 go_enter Tryz.func55,Tryz.ntmps55
 go_wp2_with fail
 refine Reg.cI [0,1,0,7,15,0,32,96,0,287,1023] [0,1,2,3,4,5,6,7,8,9,10] ?_
 refine Reg.wI [0,1,2,3,4,5,6,7,8] [9,10] rfl fun Qf C=>?_
 go_wp2_with fail
 first | refine C _ _ ⟨rfl,?_⟩ | refine⟨rfl,?_⟩ | refine C _ _ ⟨by simp [Reg.fineT,Reg.intOp,Region.wanted,yielded,Reg.intFine,Reg.isInt,Act.eval],?_⟩
 try clear C
 refine Reg.aI 9 [10] [6] rfl fun Qf C=>?_
 simp only [gT,gS,gZ]
 go_wp2_with fail
 first | refine C _ _ ⟨?_,?_⟩ | refine⟨?_,?_⟩
 ·intro z hz q hq
  simp only [List.mem_cons,List.not_mem_nil,or_false] at hz
  subst hz
  injection hq with hq
  subst hq
  exact Reg.same_load1 rfl rfl (((aL.out.kept ((Ae.refl _ (fun _=>False)).alloc _) id).cell 2).trans V) ((aM.out.cell 2).trans V) Tryz.underlying22 rfl
 try clear C
 refine Reg.wI [10] [] rfl fun Qf C=>?_
 go_wp2_with fail
 first | refine C _ _ ⟨rfl,?_⟩ | refine⟨rfl,?_⟩ | refine C _ _ ⟨by simp [Reg.fineT,Reg.intOp,Region.wanted,yielded,Reg.intFine,Reg.isInt,Act.eval],?_⟩
 try clear C
 first | refine Reg.restI_end ?_ | skip
 have cn:=hide ah
 clear ah aK aG
 have co:=a3.out.b2.cell
 have cp:=a3.out.b5.cell
 go_wp2_with fail
 go_wp2_with (go_at_call 32; refine Calls.ret (BK r.name _ (by omega)) ?_; rintro v w3 ⟨rfl,a8⟩; rw [aa.out]; have au:=hide (a3.out.at a8); have cr:=au.out.b2.cell; have ct:=au.out.b5.cell; have aY:=hide (F.out.trans (a8.mono F.out.size)); clear a8)
 go_ret
 exact⟨congrArg (Value.int .i64) (aX.out).symm,aY.out⟩
theorem PJ {w:World} {cs:List Value} {p:Ao} {r:As} {i:Nat} (h:Ax w w.heap.size cs p) (J:p.rules[i]?=some r) (hs:r.Small) (aZ:r.name.size≤500) (G:p.Small) (hT:AL w) (b0:Hid (((p.rules.take i).any fun x=>decide (x.name=r.name))=true)) (aa:Hid (Ab r.name=false)):
  Calls Tryz.prog 55 #[.agg cs.toArray,.int .i64 (i:Int)] w (Ret fun v w'=>v=.int .i64 (AW Ab p.topo (p.states.length:Int) (p.messages.length:Int) (p.values.length:Int) true r)∧Below w.heap.size w w'):=by
 obtain⟨A1,c1,A2,c2,A3,c3,A4,c4,A5,c5,A6,c6,A7,c7,ab,bg,bh,V,aw,ax,bi,bj,bk,bl,bm,-,-,-,-,-,-,W,ay⟩:=h.cells
 have az:=AO J
 have aA:=G.states
 have aB:=G.messages
 have aC:=G.values
 have bn:=G.rules
 have bo:=hide W
 obtain⟨w1,bp,M,ad,aD⟩:=Ag w cs.toArray 27
 have E:=M.trans ((Ap w1).mono M.size)
 have O:Blk w1.drew w.heap.size 27 cs.toArray:=ad
 obtain⟨b,bq,rc,hA,br,I,aF,aG⟩:=BU (W.keep (w':=w1.drew) (B':=w.heap.size) (R':=AB w1.drew w.heap.size) (fun _ y=>E.cell y) (fun _ _ h=>h.keep (fun _ y=>E.cell y) (Nat.le_refl _)) (Nat.le_refl _)) J
 obtain⟨w2,aH,U,ae,aJ⟩:=Ag w1.drew rc 48
 have af:Blk w2 w1.heap.size 48 rc:=ae
 have Z:=Cf w1.drew 48 18 (by kernel_rfl) I.size I.one
 rw [aH] at Z
 have aK:∀c:Array Value,c.size=18→(storeCells ⟨w1.heap.size,0,none⟩ rc.toList 0).run Tryz.prog (w1.alloc (.cells c 48)).drew=.ok () w2:=Z
 clear Z
 have a2:=O.below U
 have F:=hide (E.trans (U.mono E.size))
 have a3:=hide (show BM w2 w.heap.size w1.heap.size cs.toArray rc p r from⟨h.keep (fun _ y=>F.out.cell y) F.out.size,I.is.keep (fun _ y=>U.cell (by show _<w1.heap.size; have:=M.size; omega)) F.out.size,a2,af,hT.below F.out⟩)
 have ag:=I.is.cells
 simp only [Array.toArray_toList] at ag
 obtain⟨E1,f1,E2,f2,E3,f3,E4,f4,E5,f5,E6,f6,E7,f7,E8,f8,⟨ah,bI,bJ,bK,bL,bM,bN,bO,bP,bQ,bR,bS,bT,bU,bV,bW,bX,bY,bZ⟩,⟨ai,aj,ak,al,am,an,ao,ap⟩⟩:=ag
 have f:∀{D:Type} {sz:Nat} {enc:D→Nat→Value} {A:Option Addr} {ds:List D},Sl w1.drew w.heap.size sz enc A ds→Sl w w.heap.size sz enc A ds:=fun h=>h.keep (fun _ y=>(E.cell y).symm) (Nat.le_refl _)
 have c0:=hide (f ai)
 have c8:=hide (f aj)
 have c9:=hide (f ak)
 have ca:=hide (f al)
 have cb:=hide (f am)
 have cc:=hide (f an)
 have cd:=hide (f ao)
 have ce:=hide (f ap)
 have cf:=O.cell
 have aL:=hide O
 have aM:=hide a2
 generalize aN:cs.toArray=pc at*
 have cg:=hide ab
 obtain⟨aO,aP,aQ,aR,aS,aT,aU,aV⟩:=hs
 have ch:=hide (show r.Small from⟨aO,aP,aQ,aR,aS,aT,aU,aV⟩)
 have ci:=hide J
 have cj:=ay
 have ck:=hide (show i<p.rules.length from az)
 obtain⟨ns,a4⟩:∃n,n=p.states.length:=⟨_,rfl⟩
 obtain⟨nm,a5⟩:∃n,n=p.messages.length:=⟨_,rfl⟩
 obtain⟨nv,a6⟩:∃n,n=p.values.length:=⟨_,rfl⟩
 have cm:=hide (show ns=p.states.length∧nm=p.messages.length∧nv=p.values.length from⟨a4,a5,a6⟩)
 rw [←a4] at V aA ⊢
 rw [←a5] at aw aB ⊢
 rw [←a6] at ax aC ⊢
 obtain⟨EV,aq⟩:∃e,Hid (AW Ab p.topo (ns:Int) (nm:Int) (nv:Int) true r=e):=⟨_,rfl⟩
 rw [aq.out]
 subst hA
 clear aF I aD aJ M U E ad ae af O a2 ab aN J h W a4 a5 a6 hT G ai aj ak al am an ao ap f
 have aX:=hide (show EV=2 from aq.out.symm.trans (I6 aa.out _))
 go_enter Tryz.func55,Tryz.ntmps55
 go_wp2_with fail
 refine Reg.cI [0,1,0,7,15,0,32,96,0,287,1023] [0,1,2,3,4,5,6,7,8,9,10] ?_
 refine Reg.wI [0,1,2,3,4,5,6,7,8] [9,10] rfl fun Qf C=>?_
 go_wp2_with fail
 first | refine C _ _ ⟨rfl,?_⟩ | refine⟨rfl,?_⟩ | refine C _ _ ⟨by simp [Reg.fineT,Reg.intOp,Region.wanted,yielded,Reg.intFine,Reg.isInt,Act.eval],?_⟩
 try clear C
 refine Reg.aI 9 [10] [6] rfl fun Qf C=>?_
 simp only [gT,gS,gZ]
 go_wp2_with fail
 first | refine C _ _ ⟨?_,?_⟩ | refine⟨?_,?_⟩
 ·intro z hz q hq
  simp only [List.mem_cons,List.not_mem_nil,or_false] at hz
  subst hz
  injection hq with hq
  subst hq
  exact Reg.same_load1 rfl rfl (((aL.out.kept ((Ae.refl _ (fun _=>False)).alloc _) id).cell 2).trans V) ((aM.out.cell 2).trans V) Tryz.underlying22 rfl
 try clear C
 refine Reg.wI [10] [] rfl fun Qf C=>?_
 go_wp2_with fail
 first | refine C _ _ ⟨rfl,?_⟩ | refine⟨rfl,?_⟩ | refine C _ _ ⟨by simp [Reg.fineT,Reg.intOp,Region.wanted,yielded,Reg.intFine,Reg.isInt,Act.eval],?_⟩
 try clear C
 first | refine Reg.restI_end ?_ | skip
 have cn:=hide ah
 clear ah aK aG
 have co:=a3.out.b2.cell
 have cp:=a3.out.b5.cell
 go_wp2_with fail
 go_wp2_with (go_at_call 32; refine Calls.ret (BK r.name _ (by omega)) ?_; rintro v w3 ⟨rfl,a8⟩; rw [aa.out]; have au:=hide (a3.out.at a8); have cr:=au.out.b2.cell; have ct:=au.out.b5.cell; have aY:=hide (F.out.trans (a8.mono F.out.size)); clear a8)
 go_ret
 exact⟨congrArg (Value.int .i64) (aX.out).symm,aY.out⟩
theorem O5 {w:World} {cs:List Value} {p:Ao} {r:As} {i:Nat} (h:Ax w w.heap.size cs p) (V:p.rules[i]?=some r) (hs:r.Small) (bq:r.name.size≤500) (G:p.Small) (hT:AL w) (aN:Hid (((p.rules.take i).any fun x=>decide (x.name=r.name))=true)) (aO:Hid (Ab r.name=true)):
  Calls Tryz.prog 55 #[.agg cs.toArray,.int .i64 (i:Int)] w (Ret fun v w'=>v=.int .i64 (AW Ab p.topo (p.states.length:Int) (p.messages.length:Int) (p.values.length:Int) true r)∧Below w.heap.size w w'):=by
 obtain⟨A1,c1,A2,c2,A3,c3,A4,c4,A5,c5,A6,c6,A7,c7,aj,bF,bG,a5,aP,aQ,bH,bI,bJ,bK,bL,-,-,-,-,-,-,h7,aR⟩:=h.cells
 have aS:=AO V
 have aT:=G.states
 have aU:=G.messages
 have aV:=G.values
 have bM:=G.rules
 have aW:=hide h7
 obtain⟨w1,bN,W,ak,aX⟩:=Ag w cs.toArray 27
 have E:=W.trans ((Ap w1).mono W.size)
 have Z:Blk w1.drew w.heap.size 27 cs.toArray:=ak
 obtain⟨b,bO,rc,hA,bP,I,aZ,b0⟩:=BU (h7.keep (w':=w1.drew) (B':=w.heap.size) (R':=AB w1.drew w.heap.size) (fun _ f=>E.cell f) (fun _ _ h=>h.keep (fun _ f=>E.cell f) (Nat.le_refl _)) (Nat.le_refl _)) V
 obtain⟨w2,b1,a2,al,b3⟩:=Ag w1.drew rc 48
 have am:Blk w2 w1.heap.size 48 rc:=al
 have a7:=Cf w1.drew 48 18 (by kernel_rfl) I.size I.one
 rw [b1] at a7
 have b4:∀c:Array Value,c.size=18→(storeCells ⟨w1.heap.size,0,none⟩ rc.toList 0).run Tryz.prog (w1.alloc (.cells c 48)).drew=.ok () w2:=a7
 clear a7
 have a8:=Z.below a2
 have F:=hide (E.trans (a2.mono E.size))
 have a9:=hide (show BM w2 w.heap.size w1.heap.size cs.toArray rc p r from⟨h.keep (fun _ f=>F.out.cell f) F.out.size,I.is.keep (fun _ f=>a2.cell (by show _<w1.heap.size; have:=W.size; omega)) F.out.size,a8,am,hT.below F.out⟩)
 have an:=I.is.cells
 simp only [Array.toArray_toList] at an
 obtain⟨E1,f1,E2,f2,E3,f3,E4,f4,E5,f5,E6,f6,E7,f7,E8,f8,⟨ao,cc,cd,ce,cf,cg,ch,ci,cj,ck,cm,cn,co,cp,cq,cr,ct,cu,cv⟩,⟨ap,aq,ar,au,av,aw,ax,ay⟩⟩:=an
 have y:∀{D:Type} {sz:Nat} {enc:D→Nat→Value} {A:Option Addr} {ds:List D},Sl w1.drew w.heap.size sz enc A ds→Sl w w.heap.size sz enc A ds:=fun h=>h.keep (fun _ f=>(E.cell f).symm) (Nat.le_refl _)
 have cw:=hide (y ap)
 have cx:=hide (y aq)
 have cy:=hide (y ar)
 have cz:=hide (y au)
 have cA:=hide (y av)
 have cB:=hide (y aw)
 have cD:=hide (y ax)
 have cE:=hide (y ay)
 have cF:=Z.cell
 have b6:=hide Z
 have b7:=hide a8
 generalize b8:cs.toArray=pc at*
 have cG:=hide aj
 obtain⟨b9,ba,bb,bc,bd,be,bf,bg⟩:=hs
 have cH:=hide (show r.Small from⟨b9,ba,bb,bc,bd,be,bf,bg⟩)
 have cJ:=hide V
 have cK:=aR
 have bh:=hide (show i<p.rules.length from aS)
 obtain⟨ns,aa⟩:∃n,n=p.states.length:=⟨_,rfl⟩
 obtain⟨nm,ab⟩:∃n,n=p.messages.length:=⟨_,rfl⟩
 obtain⟨nv,ad⟩:∃n,n=p.values.length:=⟨_,rfl⟩
 have cL:=hide (show ns=p.states.length∧nm=p.messages.length∧nv=p.values.length from⟨aa,ab,ad⟩)
 rw [←aa] at a5 aT ⊢
 rw [←ab] at aP aU ⊢
 rw [←ad] at aQ aV ⊢
 obtain⟨EV,az⟩:∃e,Hid (AW Ab p.topo (ns:Int) (nm:Int) (nv:Int) true r=e):=⟨_,rfl⟩
 rw [az.out]
 subst hA
 clear aZ I aX b3 W a2 E ak al am Z a8 aj b8 V h h7 aa ab ad hT G ap aq ar au av aw ax ay y
 have bj:=hide (show EV=2 from az.out.symm.trans (MS))
 go_enter Tryz.func55,Tryz.ntmps55
 go_wp2_with fail
 refine Reg.cI [0,1,0,7,15,0,32,96,0,287,1023] [0,1,2,3,4,5,6,7,8,9,10] ?_
 refine Reg.wI [0,1,2,3,4,5,6,7,8] [9,10] rfl fun Qf C=>?_
 go_wp2_with fail
 first | refine C _ _ ⟨rfl,?_⟩ | refine⟨rfl,?_⟩ | refine C _ _ ⟨by simp [Reg.fineT,Reg.intOp,Region.wanted,yielded,Reg.intFine,Reg.isInt,Act.eval],?_⟩
 try clear C
 refine Reg.aI 9 [10] [6] rfl fun Qf C=>?_
 simp only [gT,gS,gZ]
 go_wp2_with fail
 first | refine C _ _ ⟨?_,?_⟩ | refine⟨?_,?_⟩
 ·intro z hz q J
  simp only [List.mem_cons,List.not_mem_nil,or_false] at hz
  subst hz
  injection J with J
  subst J
  exact Reg.same_load1 rfl rfl (((b6.out.kept ((Ae.refl _ (fun _=>False)).alloc _) id).cell 2).trans a5) ((b7.out.cell 2).trans a5) Tryz.underlying22 rfl
 try clear C
 refine Reg.wI [10] [] rfl fun Qf C=>?_
 go_wp2_with fail
 first | refine C _ _ ⟨rfl,?_⟩ | refine⟨rfl,?_⟩ | refine C _ _ ⟨by simp [Reg.fineT,Reg.intOp,Region.wanted,yielded,Reg.intFine,Reg.isInt,Act.eval],?_⟩
 try clear C
 first | refine Reg.restI_end ?_ | skip
 have cM:=hide ao
 clear ao b4 b0
 have cO:=a9.out.b2.cell
 have cQ:=a9.out.b5.cell
 go_wp2_with fail
 go_wp2_with (go_at_call 32; refine Calls.ret (BK r.name _ (by omega)) ?_; rintro v w3 ⟨rfl,ae⟩; rw [aO.out]; have af:=hide (a9.out.at ae); have cR:=af.out.b2.cell; have cS:=af.out.b5.cell; have aC:=hide (F.out.trans (ae.mono F.out.size)); clear ae)
 go_loopw [7] (fun ii wr=>∃(k:Nat),ii=.int .i64 (k:Int)∧k≤i∧Hid (Below w3.heap.size w3 wr)∧Hid ((p.rules.take k).all (fun x=>!decide (x.name=r.name))=true)) (fun ii _=>i - (intOf ii).toNat)
 case atStart=>exact⟨0,rfl,Nat.zero_le _,Below.refl _ _,by show _=_; simp⟩
 case round=>
  obtain⟨k,rfl,hk,a3,hE⟩:=hrel
  have aE:=hide (af.out.at a3.out)
  have cT:=aE.out.b2.cell
  have cU:=aE.out.b5.cell
  have a4:=hide (aC.out.trans (a3.out.mono aC.out.size))
  by_cases cV:k<i
  ·obtain⟨x,M⟩:∃x,p.rules[k]?=some x:=⟨_,List.getElem?_eq_getElem (by have:=bh.out; omega)⟩
   obtain⟨b',cX,xc,aF,cZ,aG,aH,-⟩:=BU (aW.out.keep (w':=wr) (B':=w.heap.size) (R':=AB wr w.heap.size) (fun _ f=>a4.out.cell f) (fun _ _ h=>h.keep (fun _ f=>a4.out.cell f) (Nat.le_refl _)) (Nat.le_refl _)) M
   have e1:=Option.some.inj aF
   injection e1 with e1 e2 _
   subst e1 e2
   have O:=aG.is.cells
   simp only [Array.toArray_toList] at O
   obtain⟨-,-,-,-,-,-,-,-,-,-,-,-,-,-,-,-,⟨-,O,-⟩,-⟩:=O
   have bl:=aH 0 _ O
   simp only [Nat.add_zero] at bl
   have bm:=hide M
   clear aH aG M O aF
   by_cases U:x.name=r.name
   ·have J:(x.name.toList==r.name.toList)=true:=by rw [CR]; exact decide_eq_true U
    clear U
    go_wp2_with fail
    refine Reg.cP [0,1,0,7,15,31,0,64,255] ?_
    go_wp2_with fail
    go_ret
    exact⟨congrArg (Value.int .i64) bj.out.symm,a4.out.trans ((Ap wr).mono a4.out.size)⟩
   ·have J:(x.name.toList==r.name.toList)=false:=by rw [CR]; exact decide_eq_false U
    have bn:=hide (BP (p:=fun x:As=>!decide (x.name=r.name)) bm.out hE.out (by simp [U]))
    have bo:=hide (a3.out.trans ((Ap wr).mono a3.out.size))
    clear U
    go_wp2_with fail
    refine Reg.cP [0,1,0,7,15,31,0,64,255] ?_
    go_wp2_with fail
    exact⟨⟨k+1,by go_num,by omega,bo.out,bn.out⟩,by simp [intOf]; omega⟩
  ·exfalso
   have h1:=aN.out
   have h2:=hE.out
   rw [show k=i by omega] at h2
   rw [List.any_eq_true] at h1
   obtain⟨x,M,hv⟩:=h1
   have h3:=List.all_eq_true.1 h2 x M
   rw [hv] at h3
   cases h3
theorem L3 {w:World} {cs:List Value} {p:Ao} {r:As} {i:Nat} (h:Ax w w.heap.size cs p) (M:p.rules[i]?=some r) (hs:r.Small) (br:r.name.size≤500) (G:p.Small) (hT:AL w) (aO:Hid (((p.rules.take i).any fun x=>decide (x.name=r.name))=false)) (ak:Hid (Ab r.name=true)) (al:Hid (inC r.kind 1 5=false)):
  Calls Tryz.prog 55 #[.agg cs.toArray,.int .i64 (i:Int)] w (Ret fun v w'=>v=.int .i64 (AW Ab p.topo (p.states.length:Int) (p.messages.length:Int) (p.values.length:Int) false r)∧Below w.heap.size w w'):=by
 obtain⟨A1,c1,A2,c2,A3,c3,A4,c4,A5,c5,A6,c6,A7,c7,am,bG,bH,a4,aP,aQ,bI,bJ,bK,bL,bM,-,-,-,-,-,-,h7,aR⟩:=h.cells
 have aS:=AO M
 have aT:=G.states
 have aU:=G.messages
 have aV:=G.values
 have bN:=G.rules
 have aW:=hide h7
 obtain⟨w1,bO,O,an,aX⟩:=Ag w cs.toArray 27
 have E:=O.trans ((Ap w1).mono O.size)
 have U:Blk w1.drew w.heap.size 27 cs.toArray:=an
 obtain⟨b,bP,rc,hA,bQ,I,aZ,b0⟩:=BU (h7.keep (w':=w1.drew) (B':=w.heap.size) (R':=AB w1.drew w.heap.size) (fun _ f=>E.cell f) (fun _ _ h=>h.keep (fun _ f=>E.cell f) (Nat.le_refl _)) (Nat.le_refl _)) M
 obtain⟨w2,b1,V,ao,b3⟩:=Ag w1.drew rc 48
 have ap:Blk w2 w1.heap.size 48 rc:=ao
 have a6:=Cf w1.drew 48 18 (by kernel_rfl) I.size I.one
 rw [b1] at a6
 have b4:∀c:Array Value,c.size=18→(storeCells ⟨w1.heap.size,0,none⟩ rc.toList 0).run Tryz.prog (w1.alloc (.cells c 48)).drew=.ok () w2:=a6
 clear a6
 have a7:=U.below V
 have F:=hide (E.trans (V.mono E.size))
 have a8:=hide (show BM w2 w.heap.size w1.heap.size cs.toArray rc p r from⟨h.keep (fun _ f=>F.out.cell f) F.out.size,I.is.keep (fun _ f=>V.cell (by show _<w1.heap.size; have:=O.size; omega)) F.out.size,a7,ap,hT.below F.out⟩)
 have aq:=I.is.cells
 simp only [Array.toArray_toList] at aq
 obtain⟨E1,f1,E2,f2,E3,f3,E4,f4,E5,f5,E6,f6,E7,f7,E8,f8,⟨ar,cd,ce,cf,cg,ch,ci,cj,ck,cm,cn,co,cp,cq,cr,ct,cu,cv,cw⟩,⟨au,av,aw,ax,ay,az,aA,aB⟩⟩:=aq
 have y:∀{D:Type} {sz:Nat} {enc:D→Nat→Value} {A:Option Addr} {ds:List D},Sl w1.drew w.heap.size sz enc A ds→Sl w w.heap.size sz enc A ds:=fun h=>h.keep (fun _ f=>(E.cell f).symm) (Nat.le_refl _)
 have cx:=hide (y au)
 have cy:=hide (y av)
 have cz:=hide (y aw)
 have cA:=hide (y ax)
 have cB:=hide (y ay)
 have cD:=hide (y az)
 have cE:=hide (y aA)
 have cF:=hide (y aB)
 have cG:=U.cell
 have b6:=hide U
 have b7:=hide a7
 generalize b8:cs.toArray=pc at*
 have b9:=hide am
 obtain⟨ba,bb,bc,bd,be,bf,bg,bh⟩:=hs
 have cH:=hide (show r.Small from⟨ba,bb,bc,bd,be,bf,bg,bh⟩)
 have cJ:=hide M
 have cK:=aR
 have bi:=hide (show i<p.rules.length from aS)
 obtain⟨ns,a9⟩:∃n,n=p.states.length:=⟨_,rfl⟩
 obtain⟨nm,aa⟩:∃n,n=p.messages.length:=⟨_,rfl⟩
 obtain⟨nv,ab⟩:∃n,n=p.values.length:=⟨_,rfl⟩
 have cL:=hide (show ns=p.states.length∧nm=p.messages.length∧nv=p.values.length from⟨a9,aa,ab⟩)
 rw [←a9] at a4 aT ⊢
 rw [←aa] at aP aU ⊢
 rw [←ab] at aQ aV ⊢
 obtain⟨EV,aC⟩:∃e,Hid (AW Ab p.topo (ns:Int) (nm:Int) (nv:Int) false r=e):=⟨_,rfl⟩
 rw [aC.out]
 subst hA
 clear aZ I aX b3 O V E an ao ap U a7 am b8 M h h7 a9 aa ab hT G au av aw ax ay az aA aB y
 have bk:=hide (show EV=6 from aC.out.symm.trans (Gq ak.out (by rw [show(decide (1≤r.kind)&&decide (r.kind≤5))=false from al.out]; rfl)))
 go_enter Tryz.func55,Tryz.ntmps55
 go_wp2_with fail
 refine Reg.cI [0,1,0,7,15,0,32,96,0,287,1023] [0,1,2,3,4,5,6,7,8,9,10] ?_
 refine Reg.wI [0,1,2,3,4,5,6,7,8] [9,10] rfl fun Qf C=>?_
 go_wp2_with fail
 first | refine C _ _ ⟨rfl,?_⟩ | refine⟨rfl,?_⟩ | refine C _ _ ⟨by simp [Reg.fineT,Reg.intOp,Region.wanted,yielded,Reg.intFine,Reg.isInt,Act.eval],?_⟩
 try clear C
 refine Reg.aI 9 [10] [6] rfl fun Qf C=>?_
 simp only [gT,gS,gZ]
 go_wp2_with fail
 first | refine C _ _ ⟨?_,?_⟩ | refine⟨?_,?_⟩
 ·intro z hz q W
  simp only [List.mem_cons,List.not_mem_nil,or_false] at hz
  subst hz
  injection W with W
  subst W
  exact Reg.same_load1 rfl rfl (((b6.out.kept ((Ae.refl _ (fun _=>False)).alloc _) id).cell 2).trans a4) ((b7.out.cell 2).trans a4) Tryz.underlying22 rfl
 try clear C
 refine Reg.wI [10] [] rfl fun Qf C=>?_
 go_wp2_with fail
 first | refine C _ _ ⟨rfl,?_⟩ | refine⟨rfl,?_⟩ | refine C _ _ ⟨by simp [Reg.fineT,Reg.intOp,Region.wanted,yielded,Reg.intFine,Reg.isInt,Act.eval],?_⟩
 try clear C
 first | refine Reg.restI_end ?_ | skip
 have bl:=hide ar
 clear ar b4 b0
 have cM:=a8.out.b2.cell
 have cO:=a8.out.b5.cell
 go_wp2_with fail
 go_wp2_with (go_at_call 32; refine Calls.ret (BK r.name _ (by omega)) ?_; rintro v w3 ⟨rfl,ad⟩; rw [ak.out]; have ae:=hide (a8.out.at ad); have cQ:=ae.out.b2.cell; have cR:=ae.out.b5.cell; have aF:=hide (F.out.trans (ad.mono F.out.size)); clear ad)
 go_loopw [7] (fun ii wr=>∃(k:Nat),ii=.int .i64 (k:Int)∧k≤i∧Hid (Below w3.heap.size w3 wr)∧Hid ((p.rules.take k).all (fun x=>!decide (x.name=r.name))=true)) (fun ii _=>i - (intOf ii).toNat)
 case atStart=>exact⟨0,rfl,Nat.zero_le _,Below.refl _ _,by show _=_; simp⟩
 case round=>
  obtain⟨k,rfl,hk,Z,hE⟩:=hrel
  have a2:=hide (ae.out.at Z.out)
  have cS:=a2.out.b2.cell
  have cT:=a2.out.b5.cell
  have ag:=hide (aF.out.trans (Z.out.mono aF.out.size))
  by_cases bm:k<i
  ·obtain⟨x,hx⟩:∃x,p.rules[k]?=some x:=⟨_,List.getElem?_eq_getElem (by have:=bi.out; omega)⟩
   obtain⟨b',cV,xc,aH,cX,aJ,aK,-⟩:=BU (aW.out.keep (w':=wr) (B':=w.heap.size) (R':=AB wr w.heap.size) (fun _ f=>ag.out.cell f) (fun _ _ h=>h.keep (fun _ f=>ag.out.cell f) (Nat.le_refl _)) (Nat.le_refl _)) hx
   have e1:=Option.some.inj aH
   injection e1 with e1 e2 _
   subst e1 e2
   have J:=aJ.is.cells
   simp only [Array.toArray_toList] at J
   obtain⟨-,-,-,-,-,-,-,-,-,-,-,-,-,-,-,-,⟨-,J,-⟩,-⟩:=J
   have bo:=aK 0 _ J
   simp only [Nat.add_zero] at bo
   have aL:=hide hx
   clear aK aJ hx J aH
   by_cases a3:x.name=r.name
   ·exfalso
    have h1:=aO.out
    rw [List.any_eq_false] at h1
    refine h1 x (List.mem_of_getElem? (i:=k) ?_) (decide_eq_true a3)
    rw [List.getElem?_take,if_pos bm]
    exact aL.out
   ·have W:(x.name.toList==r.name.toList)=false:=by rw [CR]; exact decide_eq_false a3
    have bp:=hide (BP (p:=fun x:As=>!decide (x.name=r.name)) aL.out hE.out (by simp [a3]))
    have bq:=hide (Z.out.trans ((Ap wr).mono Z.out.size))
    clear a3
    go_wp2_with fail
    refine Reg.cP [0,1,0,7,15,31,0,64,255] ?_
    go_wp2_with fail
    exact⟨⟨k+1,by go_num,by omega,bq.out,bp.out⟩,by simp [intOf]; omega⟩
  ·clear hE
   have cY:=Am a2.out.b2 b9.out
   have cZ:=Am a2.out.b5 bl.out
   go_wp2_with (first
    | (go_at_call 35; refine(Al _ _ _ _).mono ?_; rintro e w' ⟨rfl,rfl⟩; rw [al.out]))
   go_ret
   exact⟨congrArg (Value.int .i64) (bk.out).symm,ag.out⟩
theorem KE {w:World} {cs:List Value} {p:Ao} {r:As} {i:Nat} (h:Ax w w.heap.size cs p) (O:p.rules[i]?=some r) (hs:r.Small) (bs:r.name.size≤500) (G:p.Small) (hT:AL w) (aP:Hid (((p.rules.take i).any fun x=>decide (x.name=r.name))=false)) (al:Hid (Ab r.name=true)) (am:Hid (inC r.kind 1 5=true)) (I:(decide (r.kind≤3) != (p.topo==1))=true):
  Calls Tryz.prog 55 #[.agg cs.toArray,.int .i64 (i:Int)] w (Ret fun v w'=>v=.int .i64 (AW Ab p.topo (p.states.length:Int) (p.messages.length:Int) (p.values.length:Int) false r)∧Below w.heap.size w w'):=by
 obtain⟨A1,c1,A2,c2,A3,c3,A4,c4,A5,c5,A6,c6,A7,c7,an,bH,bI,a5,aQ,aR,bJ,bK,bL,bM,bN,-,-,-,-,-,-,h7,aS⟩:=h.cells
 have aT:=AO O
 have aU:=G.states
 have aV:=G.messages
 have aW:=G.values
 have bO:=G.rules
 have aX:=hide h7
 obtain⟨w1,bP,U,ao,aY⟩:=Ag w cs.toArray 27
 have E:=U.trans ((Ap w1).mono U.size)
 have V:Blk w1.drew w.heap.size 27 cs.toArray:=ao
 obtain⟨b,bQ,rc,hA,bR,J,b0,b1⟩:=BU (h7.keep (w':=w1.drew) (B':=w.heap.size) (R':=AB w1.drew w.heap.size) (fun _ f=>E.cell f) (fun _ _ h=>h.keep (fun _ f=>E.cell f) (Nat.le_refl _)) (Nat.le_refl _)) O
 obtain⟨w2,b3,W,ap,b4⟩:=Ag w1.drew rc 48
 have aq:Blk w2 w1.heap.size 48 rc:=ap
 have a7:=Cf w1.drew 48 18 (by kernel_rfl) J.size J.one
 rw [b3] at a7
 have b6:∀c:Array Value,c.size=18→(storeCells ⟨w1.heap.size,0,none⟩ rc.toList 0).run Tryz.prog (w1.alloc (.cells c 48)).drew=.ok () w2:=a7
 clear a7
 have a8:=V.below W
 have F:=hide (E.trans (W.mono E.size))
 have a9:=hide (show BM w2 w.heap.size w1.heap.size cs.toArray rc p r from⟨h.keep (fun _ f=>F.out.cell f) F.out.size,J.is.keep (fun _ f=>W.cell (by show _<w1.heap.size; have:=U.size; omega)) F.out.size,a8,aq,hT.below F.out⟩)
 have ar:=J.is.cells
 simp only [Array.toArray_toList] at ar
 obtain⟨E1,f1,E2,f2,E3,f3,E4,f4,E5,f5,E6,f6,E7,f7,E8,f8,⟨au,ce,cf,cg,ch,ci,cj,ck,cm,cn,co,cp,cq,cr,ct,cu,cv,cw,cx⟩,⟨av,aw,ax,ay,az,aA,aB,aC⟩⟩:=ar
 have y:∀{D:Type} {sz:Nat} {enc:D→Nat→Value} {A:Option Addr} {ds:List D},Sl w1.drew w.heap.size sz enc A ds→Sl w w.heap.size sz enc A ds:=fun h=>h.keep (fun _ f=>(E.cell f).symm) (Nat.le_refl _)
 have cy:=hide (y av)
 have cz:=hide (y aw)
 have cA:=hide (y ax)
 have cB:=hide (y ay)
 have cD:=hide (y az)
 have cE:=hide (y aA)
 have cF:=hide (y aB)
 have cG:=hide (y aC)
 have cH:=V.cell
 have b7:=hide V
 have b8:=hide a8
 generalize b9:cs.toArray=pc at*
 have ba:=hide an
 obtain⟨bb,bc,bd,be,bf,bg,bh,bi⟩:=hs
 have cJ:=hide (show r.Small from⟨bb,bc,bd,be,bf,bg,bh,bi⟩)
 have cK:=hide O
 have cL:=aS
 have bj:=hide (show i<p.rules.length from aT)
 obtain⟨ns,aa⟩:∃n,n=p.states.length:=⟨_,rfl⟩
 obtain⟨nm,ab⟩:∃n,n=p.messages.length:=⟨_,rfl⟩
 obtain⟨nv,ad⟩:∃n,n=p.values.length:=⟨_,rfl⟩
 have cM:=hide (show ns=p.states.length∧nm=p.messages.length∧nv=p.values.length from⟨aa,ab,ad⟩)
 rw [←aa] at a5 aU ⊢
 rw [←ab] at aQ aV ⊢
 rw [←ad] at aR aW ⊢
 obtain⟨EV,aD⟩:∃e,Hid (AW Ab p.topo (ns:Int) (nm:Int) (nv:Int) false r=e):=⟨_,rfl⟩
 rw [aD.out]
 subst hA
 clear b0 J aY b4 U W E ao ap aq V a8 an b9 O h h7 aa ab ad hT G av aw ax ay az aA aB aC y
 have bl:=hide (show EV=6 from aD.out.symm.trans (Gq al.out (by rw [show(decide (1≤r.kind)&&decide (r.kind≤5))=true from am.out,show(decide (r.kind≤3) != decide (p.topo=1))=true from I]; rfl)))
 have cO:¬(decide (r.kind≤3)=(p.topo==1)):=fun e=>by rw [e] at I; simp at I
 have cQ:=hide I
 clear I
 go_enter Tryz.func55,Tryz.ntmps55
 go_wp2_with fail
 refine Reg.cI [0,1,0,7,15,0,32,96,0,287,1023] [0,1,2,3,4,5,6,7,8,9,10] ?_
 refine Reg.wI [0,1,2,3,4,5,6,7,8] [9,10] rfl fun Qf C=>?_
 go_wp2_with fail
 first | refine C _ _ ⟨rfl,?_⟩ | refine⟨rfl,?_⟩ | refine C _ _ ⟨by simp [Reg.fineT,Reg.intOp,Region.wanted,yielded,Reg.intFine,Reg.isInt,Act.eval],?_⟩
 try clear C
 refine Reg.aI 9 [10] [6] rfl fun Qf C=>?_
 simp only [gT,gS,gZ]
 go_wp2_with fail
 first | refine C _ _ ⟨?_,?_⟩ | refine⟨?_,?_⟩
 ·intro z hz q Z
  simp only [List.mem_cons,List.not_mem_nil,or_false] at hz
  subst hz
  injection Z with Z
  subst Z
  exact Reg.same_load1 rfl rfl (((b7.out.kept ((Ae.refl _ (fun _=>False)).alloc _) id).cell 2).trans a5) ((b8.out.cell 2).trans a5) Tryz.underlying22 rfl
 try clear C
 refine Reg.wI [10] [] rfl fun Qf C=>?_
 go_wp2_with fail
 first | refine C _ _ ⟨rfl,?_⟩ | refine⟨rfl,?_⟩ | refine C _ _ ⟨by simp [Reg.fineT,Reg.intOp,Region.wanted,yielded,Reg.intFine,Reg.isInt,Act.eval],?_⟩
 try clear C
 first | refine Reg.restI_end ?_ | skip
 have bm:=hide au
 clear au b6 b1
 have cR:=a9.out.b2.cell
 have cS:=a9.out.b5.cell
 go_wp2_with fail
 go_wp2_with (go_at_call 32; refine Calls.ret (BK r.name _ (by omega)) ?_; rintro v w3 ⟨rfl,ae⟩; rw [al.out]; have af:=hide (a9.out.at ae); have cT:=af.out.b2.cell; have cU:=af.out.b5.cell; have aG:=hide (F.out.trans (ae.mono F.out.size)); clear ae)
 go_loopw [7] (fun ii wr=>∃(k:Nat),ii=.int .i64 (k:Int)∧k≤i∧Hid (Below w3.heap.size w3 wr)∧Hid ((p.rules.take k).all (fun x=>!decide (x.name=r.name))=true)) (fun ii _=>i - (intOf ii).toNat)
 case atStart=>exact⟨0,rfl,Nat.zero_le _,Below.refl _ _,by show _=_; simp⟩
 case round=>
  obtain⟨k,rfl,hk,a2,hE⟩:=hrel
  have a3:=hide (af.out.at a2.out)
  have cV:=a3.out.b2.cell
  have cW:=a3.out.b5.cell
  have ah:=hide (aG.out.trans (a2.out.mono aG.out.size))
  by_cases bn:k<i
  ·obtain⟨x,hx⟩:∃x,p.rules[k]?=some x:=⟨_,List.getElem?_eq_getElem (by have:=bj.out; omega)⟩
   obtain⟨b',cY,xc,aJ,d0,aK,aL,-⟩:=BU (aX.out.keep (w':=wr) (B':=w.heap.size) (R':=AB wr w.heap.size) (fun _ f=>ah.out.cell f) (fun _ _ h=>h.keep (fun _ f=>ah.out.cell f) (Nat.le_refl _)) (Nat.le_refl _)) hx
   have e1:=Option.some.inj aJ
   injection e1 with e1 e2 _
   subst e1 e2
   have M:=aK.is.cells
   simp only [Array.toArray_toList] at M
   obtain⟨-,-,-,-,-,-,-,-,-,-,-,-,-,-,-,-,⟨-,M,-⟩,-⟩:=M
   have bp:=aL 0 _ M
   simp only [Nat.add_zero] at bp
   have aM:=hide hx
   clear aL aK hx M aJ
   by_cases a4:x.name=r.name
   ·exfalso
    have h1:=aP.out
    rw [List.any_eq_false] at h1
    refine h1 x (List.mem_of_getElem? (i:=k) ?_) (decide_eq_true a4)
    rw [List.getElem?_take,if_pos bn]
    exact aM.out
   ·have Z:(x.name.toList==r.name.toList)=false:=by rw [CR]; exact decide_eq_false a4
    have bq:=hide (BP (p:=fun x:As=>!decide (x.name=r.name)) aM.out hE.out (by simp [a4]))
    have br:=hide (a2.out.trans ((Ap wr).mono a2.out.size))
    clear a4
    go_wp2_with fail
    refine Reg.cP [0,1,0,7,15,31,0,64,255] ?_
    go_wp2_with fail
    exact⟨⟨k+1,by go_num,by omega,br.out,bq.out⟩,by simp [intOf]; omega⟩
  ·clear hE
   have d1:=Am a3.out.b2 ba.out
   have d2:=Am a3.out.b5 bm.out
   go_wp2_with (first
    | (go_at_call 35; refine(Al _ _ _ _).mono ?_; rintro e w' ⟨rfl,rfl⟩; rw [am.out]))
   go_ret
   exact⟨congrArg (Value.int .i64) (bl.out).symm,ah.out⟩
theorem MW {w:World} {cs:List Value} {p:Ao} {r:As} {i:Nat} (h:Ax w w.heap.size cs p) (O:p.rules[i]?=some r) (hs:r.Small) (bz:r.name.size≤500) (I:p.Small) (hT:AL w) (aS:Hid (((p.rules.take i).any fun x=>decide (x.name=r.name))=false)) (an:Hid (Ab r.name=true)) (ao:Hid (inC r.kind 1 5=true)) (U:(decide (r.kind≤3) != (p.topo==1))=false) (ap:Hid (BR p.topo r=true)):
  Calls Tryz.prog 55 #[.agg cs.toArray,.int .i64 (i:Int)] w (Ret fun v w'=>v=.int .i64 (AW Ab p.topo (p.states.length:Int) (p.messages.length:Int) (p.values.length:Int) false r)∧Below w.heap.size w w'):=by
 obtain⟨A1,c1,A2,c2,A3,c3,A4,c4,A5,c5,A6,c6,A7,c7,aq,bN,bO,a7,aT,aU,bP,bQ,bR,bS,bT,-,-,-,-,-,-,h7,aV⟩:=h.cells
 have aW:=AO O
 have aX:=I.states
 have aY:=I.messages
 have aZ:=I.values
 have bU:=I.rules
 have b0:=hide h7
 obtain⟨w1,bV,V,ar,b1⟩:=Ag w cs.toArray 27
 have F:=V.trans ((Ap w1).mono V.size)
 have W:Blk w1.drew w.heap.size 27 cs.toArray:=ar
 obtain⟨b,bW,rc,hA,bX,J,b4,b6⟩:=BU (h7.keep (w':=w1.drew) (B':=w.heap.size) (R':=AB w1.drew w.heap.size) (fun _ f=>F.cell f) (fun _ _ h=>h.keep (fun _ f=>F.cell f) (Nat.le_refl _)) (Nat.le_refl _)) O
 obtain⟨w2,b7,Z,au,b8⟩:=Ag w1.drew rc 48
 have av:Blk w2 w1.heap.size 48 rc:=au
 have a9:=Cf w1.drew 48 18 (by kernel_rfl) J.size J.one
 rw [b7] at a9
 have b9:∀c:Array Value,c.size=18→(storeCells ⟨w1.heap.size,0,none⟩ rc.toList 0).run Tryz.prog (w1.alloc (.cells c 48)).drew=.ok () w2:=a9
 clear a9
 have aa:=W.below Z
 have G:=hide (F.trans (Z.mono F.size))
 have ab:=hide (show BM w2 w.heap.size w1.heap.size cs.toArray rc p r from⟨h.keep (fun _ f=>G.out.cell f) G.out.size,J.is.keep (fun _ f=>Z.cell (by show _<w1.heap.size; have:=V.size; omega)) G.out.size,aa,av,hT.below G.out⟩)
 have aw:=J.is.cells
 simp only [Array.toArray_toList] at aw
 obtain⟨E1,f1,E2,f2,E3,f3,E4,f4,E5,f5,E6,f6,E7,f7,E8,f8,⟨ax,ck,cm,cn,co,cp,cq,cr,ct,cu,cv,cw,cx,cy,cz,cA,cB,cD,cE⟩,⟨ay,az,aA,aB,aC,aD,aE,aF⟩⟩:=aw
 have y:∀{D:Type} {sz:Nat} {enc:D→Nat→Value} {A:Option Addr} {ds:List D},Sl w1.drew w.heap.size sz enc A ds→Sl w w.heap.size sz enc A ds:=fun h=>h.keep (fun _ f=>(F.cell f).symm) (Nat.le_refl _)
 have cF:=hide (y ay)
 have cG:=hide (y az)
 have cH:=hide (y aA)
 have cJ:=hide (y aB)
 have cK:=hide (y aC)
 have cL:=hide (y aD)
 have cM:=hide (y aE)
 have cO:=hide (y aF)
 have cQ:=W.cell
 have ba:=hide W
 have bb:=hide aa
 generalize bc:cs.toArray=pc at*
 have bd:=hide aq
 obtain⟨be,bf,bg,bh,bi,bj,bk,bl⟩:=hs
 have bm:=hide (show r.Small from⟨be,bf,bg,bh,bi,bj,bk,bl⟩)
 have cR:=hide O
 have cS:=aV
 have bn:=hide (show i<p.rules.length from aW)
 obtain⟨ns,ad⟩:∃n,n=p.states.length:=⟨_,rfl⟩
 obtain⟨nm,ae⟩:∃n,n=p.messages.length:=⟨_,rfl⟩
 obtain⟨nv,af⟩:∃n,n=p.values.length:=⟨_,rfl⟩
 have cT:=hide (show ns=p.states.length∧nm=p.messages.length∧nv=p.values.length from⟨ad,ae,af⟩)
 rw [←ad] at a7 aX ⊢
 rw [←ae] at aT aY ⊢
 rw [←af] at aU aZ ⊢
 obtain⟨EV,aG⟩:∃e,Hid (AW Ab p.topo (ns:Int) (nm:Int) (nv:Int) false r=e):=⟨_,rfl⟩
 rw [aG.out]
 subst hA
 clear b4 J b1 b8 V Z F ar au av W aa aq bc O h h7 ad ae af hT I ay az aA aB aC aD aE aF y
 have bp:=hide (show EV=6 from aG.out.symm.trans (Gq an.out (by rw [show(decide (1≤r.kind)&&decide (r.kind≤5))=true from ao.out,show(decide (r.kind≤3) != decide (p.topo=1))=false from U,ap.out]; rfl)))
 have cU:decide (r.kind≤3)=(p.topo==1):=by cases h1:decide (r.kind≤3) <;> cases h2:(p.topo==1) <;> simp [h1,h2] at U ⊢
 have cV:=hide U
 clear U
 go_enter Tryz.func55,Tryz.ntmps55
 go_wp2_with fail
 refine Reg.cI [0,1,0,7,15,0,32,96,0,287,1023] [0,1,2,3,4,5,6,7,8,9,10] ?_
 refine Reg.wI [0,1,2,3,4,5,6,7,8] [9,10] rfl fun Qf C=>?_
 go_wp2_with fail
 first | refine C _ _ ⟨rfl,?_⟩ | refine⟨rfl,?_⟩ | refine C _ _ ⟨by simp [Reg.fineT,Reg.intOp,Region.wanted,yielded,Reg.intFine,Reg.isInt,Act.eval],?_⟩
 try clear C
 refine Reg.aI 9 [10] [6] rfl fun Qf C=>?_
 simp only [gT,gS,gZ]
 go_wp2_with fail
 first | refine C _ _ ⟨?_,?_⟩ | refine⟨?_,?_⟩
 ·intro z hz q hq
  simp only [List.mem_cons,List.not_mem_nil,or_false] at hz
  subst hz
  injection hq with hq
  subst hq
  exact Reg.same_load1 rfl rfl (((ba.out.kept ((Ae.refl _ (fun _=>False)).alloc _) id).cell 2).trans a7) ((bb.out.cell 2).trans a7) Tryz.underlying22 rfl
 try clear C
 refine Reg.wI [10] [] rfl fun Qf C=>?_
 go_wp2_with fail
 first | refine C _ _ ⟨rfl,?_⟩ | refine⟨rfl,?_⟩ | refine C _ _ ⟨by simp [Reg.fineT,Reg.intOp,Region.wanted,yielded,Reg.intFine,Reg.isInt,Act.eval],?_⟩
 try clear C
 first | refine Reg.restI_end ?_ | skip
 have br:=hide ax
 clear ax b9 b6
 have cW:=ab.out.b2.cell
 have cX:=ab.out.b5.cell
 go_wp2_with fail
 go_wp2_with (go_at_call 32; refine Calls.ret (BK r.name _ (by omega)) ?_; rintro v w3 ⟨rfl,ag⟩; rw [an.out]; have ah:=hide (ab.out.at ag); have cY:=ah.out.b2.cell; have cZ:=ah.out.b5.cell; have aK:=hide (G.out.trans (ag.mono G.out.size)); clear ag)
 go_loopw [7] (fun ii wr=>∃(k:Nat),ii=.int .i64 (k:Int)∧k≤i∧Hid (Below w3.heap.size w3 wr)∧Hid ((p.rules.take k).all (fun x=>!decide (x.name=r.name))=true)) (fun ii _=>i - (intOf ii).toNat)
 case atStart=>exact⟨0,rfl,Nat.zero_le _,Below.refl _ _,by show _=_; simp⟩
 case round=>
  obtain⟨k,rfl,hk,a4,hE⟩:=hrel
  have E:=hide (ah.out.at a4.out)
  have d0:=E.out.b2.cell
  have d1:=E.out.b5.cell
  have a5:=hide (aK.out.trans (a4.out.mono aK.out.size))
  by_cases bs:k<i
  ·obtain⟨x,hx⟩:∃x,p.rules[k]?=some x:=⟨_,List.getElem?_eq_getElem (by have:=bn.out; omega)⟩
   obtain⟨b',d3,xc,aM,d5,aN,aO,-⟩:=BU (b0.out.keep (w':=wr) (B':=w.heap.size) (R':=AB wr w.heap.size) (fun _ f=>a5.out.cell f) (fun _ _ h=>h.keep (fun _ f=>a5.out.cell f) (Nat.le_refl _)) (Nat.le_refl _)) hx
   have e1:=Option.some.inj aM
   injection e1 with e1 e2 _
   subst e1 e2
   have M:=aN.is.cells
   simp only [Array.toArray_toList] at M
   obtain⟨-,-,-,-,-,-,-,-,-,-,-,-,-,-,-,-,⟨-,M,-⟩,-⟩:=M
   have bu:=aO 0 _ M
   simp only [Nat.add_zero] at bu
   have aP:=hide hx
   clear aO aN hx M aM
   by_cases a6:x.name=r.name
   ·exfalso
    have h1:=aS.out
    rw [List.any_eq_false] at h1
    refine h1 x (List.mem_of_getElem? (i:=k) ?_) (decide_eq_true a6)
    rw [List.getElem?_take,if_pos bs]
    exact aP.out
   ·have hq:(x.name.toList==r.name.toList)=false:=by rw [CR]; exact decide_eq_false a6
    have bv:=hide (BP (p:=fun x:As=>!decide (x.name=r.name)) aP.out hE.out (by simp [a6]))
    have bw:=hide (a4.out.trans ((Ap wr).mono a4.out.size))
    clear a6
    go_wp2_with fail
    refine Reg.cP [0,1,0,7,15,31,0,64,255] ?_
    go_wp2_with fail
    exact⟨⟨k+1,by go_num,by omega,bw.out,bv.out⟩,by simp [intOf]; omega⟩
  ·clear hE
   have d6:=Am E.out.b2 bd.out
   have d7:=Am E.out.b5 br.out
   go_wp2_with (first
    | (go_at_call 35; refine(Al _ _ _ _).mono ?_; rintro e w' ⟨rfl,rfl⟩; rw [ao.out])
    | (go_at_call 81; refine Calls.ret (ES E.out.pr E.out.ru bm.out) ?_; rintro v w5 ⟨rfl,al⟩; rw [ap.out]; have aQ:=hide (E.out.at al); have d9:=aQ.out.b2.cell; have da:=aQ.out.b5.cell; have bx:=hide (a5.out.trans (al.mono a5.out.size)); clear al))
   go_ret
   exact⟨congrArg (Value.int .i64) (bp.out).symm,bx.out⟩
end Go.Proofs.YtlakpndhhelliaaGreatDoor.K
