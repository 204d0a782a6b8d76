/-
  Part CL of a proof.
-/
import Derived.Test.YtlakpndhhelliaaGreatDoorPA
import Derived.Test.YtlakpndhhelliaaGreatDoorCJ
import Derived.Test.YtlakpndhhelliaaGreatDoorCI
set_option maxHeartbeats 16000000
set_option maxRecDepth 100000
set_option linter.unusedVariables false
set_option linter.unusedSimpArgs false
namespace Go.Proofs.YtlakpndhhelliaaGreatDoor.K
open Go.RowKit
attribute [-go_sem] loadCellsFrom storeCells
theorem OE {w:World} {cs:List Value} {p:Ao} {r:As} {i:Nat} (h:Ax w w.heap.size cs p) (hr:p.rules[i]?=some r) (hs:r.Small) (e6:r.name.size≤500) (b0:p.Small) (hT:AL w) (cU:Hid (((p.rules.take i).any fun x=>decide (x.name=r.name))=false)) (cc:Hid (Ab r.name=true)) (cd:Hid (inC r.kind 1 5=true)) (bd:(decide (r.kind≤3) != (p.topo==1))=false) (bA:Hid (BR p.topo r=false)) (au:r.kind=1):
  Calls Tryz.prog 55 #[.agg cs.toArray,.int .i64 (i:Int)] w (Ret fun v w'=>v=.int .i64 (AW Ab p.topo (p.states.length:Int) (p.messages.length:Int) (p.values.length:Int) false r)∧Below w.heap.size w w'):=by
 obtain⟨A1,c1,A2,c2,A3,c3,A4,c4,A5,c5,A6,c6,A7,c7,ce,ek,el,bB,cV,cW,em,en,eo,ep,eq,-,-,-,-,-,-,h7,cX⟩:=h.cells
 have cY:=AO hr
 have cZ:=b0.states
 have d0:=b0.messages
 have d1:=b0.values
 have er:=b0.rules
 have d2:=hide h7
 obtain⟨w1,et,be,cf,d3⟩:=Ag w cs.toArray 27
 have aO:=be.trans ((Ap w1).mono be.size)
 have bf:Blk w1.drew w.heap.size 27 cs.toArray:=cf
 obtain⟨b,eu,rc,hA,ev,hC,d5,d6⟩:=BU (h7.keep (w':=w1.drew) (B':=w.heap.size) (R':=AB w1.drew w.heap.size) (fun _ I=>aO.cell I) (fun _ _ h=>h.keep (fun _ I=>aO.cell I) (Nat.le_refl _)) (Nat.le_refl _)) hr
 obtain⟨w2,d7,bg,cg,d8⟩:=Ag w1.drew rc 48
 have ch:Blk w2 w1.heap.size 48 rc:=cg
 have bD:=Cf w1.drew 48 18 (by kernel_rfl) hC.size hC.one
 rw [d7] at bD
 have d9:∀c:Array Value,c.size=18→(storeCells ⟨w1.heap.size,0,none⟩ rc.toList 0).run Tryz.prog (w1.alloc (.cells c 48)).drew=.ok () w2:=bD
 clear bD
 have bE:=bf.below bg
 have aP:=hide (aO.trans (bg.mono aO.size))
 have bF:=hide (show BM w2 w.heap.size w1.heap.size cs.toArray rc p r from⟨h.keep (fun _ I=>aP.out.cell I) aP.out.size,hC.is.keep (fun _ I=>bg.cell (by show _<w1.heap.size; have:=be.size; omega)) aP.out.size,bE,ch,hT.below aP.out⟩)
 have ci:=hC.is.cells
 simp only [Array.toArray_toList] at ci
 obtain⟨E1,f1,E2,f2,E3,f3,E4,f4,E5,f5,E6,f6,E7,f7,E8,f8,⟨cj,eB,eD,eE,eF,eG,eH,eI,dm,eJ,eK,eL,eM,eN,eO,eP,eQ,eR,eS⟩,⟨ck,cm,cn,co,cp,cq,cr,ct⟩⟩:=ci
 have an:∀{D:Type} {sz:Nat} {enc:D→Nat→Value} {A:Option Addr} {ds:List D},Sl w1.drew w.heap.size sz enc A ds→Sl w w.heap.size sz enc A ds:=fun h=>h.keep (fun _ I=>(aO.cell I).symm) (Nat.le_refl _)
 have eT:=hide (an ck)
 have dn:=hide (an cm)
 have dp:=hide (an cn)
 have dq:=hide (an co)
 have dr:=hide (an cp)
 have dt:=hide (an cq)
 have du:=hide (an cr)
 have dv:=hide (an ct)
 have eU:=bf.cell
 have dw:=hide bf
 have dx:=hide bE
 generalize dy:cs.toArray=pc at*
 have dz:=hide ce
 obtain⟨dA,cu,dB,dC,dD,dE,dF,dG⟩:=hs
 have dH:=hide (show r.Small from⟨dA,cu,dB,dC,dD,dE,dF,dG⟩)
 have eV:=hide hr
 have eW:=cX
 have dI:=hide (show i<p.rules.length from cY)
 obtain⟨ns,bG⟩:∃n,n=p.states.length:=⟨_,rfl⟩
 obtain⟨nm,bH⟩:∃n,n=p.messages.length:=⟨_,rfl⟩
 obtain⟨nv,bI⟩:∃n,n=p.values.length:=⟨_,rfl⟩
 have eX:=hide (show ns=p.states.length∧nm=p.messages.length∧nv=p.values.length from⟨bG,bH,bI⟩)
 rw [←bG] at bB cZ ⊢
 rw [←bH] at cV d0 ⊢
 rw [←bI] at cW d1 ⊢
 obtain⟨EV,cv⟩:∃e,Hid (AW Ab p.topo (ns:Int) (nm:Int) (nv:Int) false r=e):=⟨_,rfl⟩
 rw [cv.out]
 subst hA
 clear d5 hC d3 d8 be bg aO cf cg ch bf bE ce dy hr h h7 bG bH bI hT b0 ck cm cn co cp cq cr ct an
 have dJ:=hide (show KOK Ab p.topo r from⟨cc.out,cd.out,bd,bA.out⟩)
 have dK:=hide (CX bA.out)
 have bJ:=hide (cv.out.symm.trans (N3 dJ.out au))
 have q1:(r.kind==1)=true:=by rw [au]; rfl
 have q2:(r.kind==2)=false:=by rw [au]; rfl
 have q3:(r.kind==3)=false:=by rw [au]; rfl
 have q4:(r.kind==4)=false:=by rw [au]; rfl
 have q5:(r.kind==5)=false:=by rw [au]; rfl
 have dL:=hide au
 clear au
 have af:=hide (show r.left=[]∧r.right=[]∧r.parent=[] from dK.out.l (by rw [dL.out]; decide))
 have cw:∀y,Below w.heap.size w y→Calls Tryz.prog 33 #[.slice E3 r.ex.length f3,.int .i64 (ns:Int)] y (Ret fun v w'=>v=.int .i64 (Aa r.ex (ns:Int))∧Below y.heap.size y w'):=fun y W=>AU (by omega) (dp.out.keep (fun _ I=>W.cell I) W.size)
 have b3:∀y,Below w.heap.size w y→Calls Tryz.prog 33 #[.slice E4 r.fa.length f4,.int .i64 (ns:Int)] y (Ret fun v w'=>v=.int .i64 (Aa r.fa (ns:Int))∧Below y.heap.size y w'):=fun y W=>AU (by omega) (dq.out.keep (fun _ I=>W.cell I) W.size)
 have av:∀y,Below w.heap.size w y→Calls Tryz.prog 33 #[.slice E5 r.send.length f5,.int .i64 (nm:Int)] y (Ret fun v w'=>v=.int .i64 (Aa r.send (nm:Int))∧Below y.heap.size y w'):=fun y W=>AU (by omega) (dr.out.keep (fun _ I=>W.cell I) W.size)
 have bh:∀y,Below w.heap.size w y→Calls Tryz.prog 33 #[.slice E6 r.left.length f6,.int .i64 (ns:Int)] y (Ret fun v w'=>v=.int .i64 (Aa r.left (ns:Int))∧Below y.heap.size y w'):=fun y W=>AU (by omega) (dt.out.keep (fun _ I=>W.cell I) W.size)
 have bi:∀y,Below w.heap.size w y→Calls Tryz.prog 33 #[.slice E7 r.right.length f7,.int .i64 (ns:Int)] y (Ret fun v w'=>v=.int .i64 (Aa r.right (ns:Int))∧Below y.heap.size y w'):=fun y W=>AU (by omega) (du.out.keep (fun _ I=>W.cell I) W.size)
 have bj:∀y,Below w.heap.size w y→Calls Tryz.prog 33 #[.slice E8 r.parent.length f8,.int .i64 (ns:Int)] y (Ret fun v w'=>v=.int .i64 (Aa r.parent (ns:Int))∧Below y.heap.size y w'):=fun y W=>AU (by omega) (dv.out.keep (fun _ I=>W.cell I) W.size)
 have fc:decide (r.kind≤3)=(p.topo==1):=by cases h1:decide (r.kind≤3) <;> cases h2:(p.topo==1) <;> simp [h1,h2] at bd ⊢
 have fd:=hide bd
 clear bd
 go_enter Tryz.func55,Tryz.ntmps55
 go_wp2_with fail
 refine Reg.cI [0,1,0,7,15,0,32,96,0,287,1023] [0,1,2,3,4,5,6,7,8,9,10] ?_
 refine Reg.wI [0,1,2,3,4,5,6,7,8] [9,10] rfl fun Qf aw=>?_
 go_wp2_with fail
 first | refine aw _ _ ⟨rfl,?_⟩ | refine⟨rfl,?_⟩ | refine aw _ _ ⟨by simp [Reg.fineT,Reg.intOp,Region.wanted,yielded,Reg.intFine,Reg.isInt,Act.eval],?_⟩
 try clear aw
 refine Reg.aI 9 [10] [6] rfl fun Qf aw=>?_
 simp only [gT,gS,gZ]
 go_wp2_with fail
 first | refine aw _ _ ⟨?_,?_⟩ | refine⟨?_,?_⟩
 ·intro z hz q hq
  simp only [List.mem_cons,List.not_mem_nil,or_false] at hz
  subst hz
  injection hq with hq
  subst hq
  exact Reg.same_load1 rfl rfl (((dw.out.kept ((Ae.refl _ (fun _=>False)).alloc _) id).cell 2).trans bB) ((dx.out.cell 2).trans bB) Tryz.underlying22 rfl
 try clear aw
 refine Reg.wI [10] [] rfl fun Qf aw=>?_
 go_wp2_with fail
 first | refine aw _ _ ⟨rfl,?_⟩ | refine⟨rfl,?_⟩ | refine aw _ _ ⟨by simp [Reg.fineT,Reg.intOp,Region.wanted,yielded,Reg.intFine,Reg.isInt,Act.eval],?_⟩
 try clear aw
 first | refine Reg.restI_end ?_ | skip
 have dN:=hide cj
 clear cj d9 d6
 have fe:=bF.out.b2.cell
 have ff:=bF.out.b5.cell
 go_wp2_with fail
 go_wp2_with (go_at_call 32; refine Calls.ret (BK r.name _ (by omega)) ?_; rintro v w3 ⟨rfl,bK⟩; rw [cc.out]; have bL:=hide (bF.out.at bK); have fg:=bL.out.b2.cell; have fh:=bL.out.b5.cell; have cz:=hide (aP.out.trans (bK.mono aP.out.size)); clear bK)
 go_loopw [7] (fun ii wr=>∃(k:Nat),ii=.int .i64 (k:Int)∧k≤i∧Hid (Below w3.heap.size w3 wr)∧Hid ((p.rules.take k).all (fun x=>!decide (x.name=r.name))=true)) (fun ii _=>i - (intOf ii).toNat)
 case atStart=>exact⟨0,rfl,Nat.zero_le _,Below.refl _ _,by show _=_; simp⟩
 case round=>
  obtain⟨k,rfl,hk,bl,hE⟩:=hrel
  have az:=hide (bL.out.at bl.out)
  have fi:=az.out.b2.cell
  have fj:=az.out.b5.cell
  have bm:=hide (cz.out.trans (bl.out.mono cz.out.size))
  by_cases dO:k<i
  ·obtain⟨x,W⟩:∃x,p.rules[k]?=some x:=⟨_,List.getElem?_eq_getElem (by have:=dI.out; omega)⟩
   obtain⟨b',fl,xc,cB,fn,cD,cE,-⟩:=BU (d2.out.keep (w':=wr) (B':=w.heap.size) (R':=AB wr w.heap.size) (fun _ I=>bm.out.cell I) (fun _ _ h=>h.keep (fun _ I=>bm.out.cell I) (Nat.le_refl _)) (Nat.le_refl _)) W
   have e1:=Option.some.inj cB
   injection e1 with e1 e2 _
   subst e1 e2
   have b4:=cD.is.cells
   simp only [Array.toArray_toList] at b4
   obtain⟨-,-,-,-,-,-,-,-,-,-,-,-,-,-,-,-,⟨-,b4,-⟩,-⟩:=b4
   have dQ:=cE 0 _ b4
   simp only [Nat.add_zero] at dQ
   have cF:=hide W
   clear cE cD W b4 cB
   by_cases bn:x.name=r.name
   ·exfalso
    have h1:=cU.out
    rw [List.any_eq_false] at h1
    refine h1 x (List.mem_of_getElem? (i:=k) ?_) (decide_eq_true bn)
    rw [List.getElem?_take,if_pos dO]
    exact cF.out
   ·have hq:(x.name.toList==r.name.toList)=false:=by rw [CR]; exact decide_eq_false bn
    have bN:=hide (BP (p:=fun x:As=>!decide (x.name=r.name)) cF.out hE.out (by simp [bn]))
    have dR:=hide (bl.out.trans ((Ap wr).mono bl.out.size))
    clear bn
    go_wp2_with fail
    refine Reg.cP [0,1,0,7,15,31,0,64,255] ?_
    go_wp2_with fail
    exact⟨⟨k+1,by go_num,by omega,dR.out,bN.out⟩,by simp [intOf]; omega⟩
  ·clear hE
   have fo:=Am az.out.b2 dz.out
   have fp:=Am az.out.b5 dN.out
   go_wp2_with (first
    | (go_at_call 35; refine(Al _ _ _ _).mono ?_; rintro e w' ⟨rfl,rfl⟩; rw [cd.out])
    | (go_at_call 81; refine Calls.ret (ES az.out.pr az.out.ru dH.out) ?_; rintro v w5 ⟨rfl,bO⟩; rw [bA.out]; have bP:=hide (az.out.at bO); have fq:=bP.out.b2.cell; have fs:=bP.out.b5.cell; have bo:=hide (bm.out.trans (bO.mono bm.out.size)); clear bO))
   obtain⟨ng,bQ⟩:∃n,n=r.guards.length:=⟨_,rfl⟩
   rw [←bQ] at dm cu
   have bp:=hide bQ
   clear bQ
   cases bq:inC r.fr 0 ((ns:Int) - 1)
   case false=>
    have aR:=hide bq
    clear bq
    refine(Al _ _ _ _).mono ?_; rintro e w' ⟨rfl,rfl⟩; rw [aR.out]; go_wp2_with fail
    go_ret
    exact⟨congrArg (Value.int .i64) (bJ.out.trans (by rw [show inN r.fr (ns:Int)=false from aR.out]; rfl)).symm,bo.out⟩
   have aR:=hide bq
   clear bq
   refine(Al _ _ _ _).mono ?_; rintro e w' ⟨rfl,rfl⟩; rw [aR.out]; go_wp2_with fail
   cases br:inC r.to 0 ((ns:Int) - 1)
   case false=>
    have b6:=hide br
    clear br
    refine(Al _ _ _ _).mono ?_; rintro e w' ⟨rfl,rfl⟩; rw [b6.out]; go_wp2_with fail
    go_ret
    exact⟨congrArg (Value.int .i64) (bJ.out.trans (by rw [show inN r.fr (ns:Int)=true from aR.out,show inN r.to (ns:Int)=false from b6.out]; rfl)).symm,bo.out⟩
   have b6:=hide br
   clear br
   refine(Al _ _ _ _).mono ?_; rintro e w' ⟨rfl,rfl⟩; rw [b6.out]; go_wp2_with fail
   have bs:=hide (show EV=orE (Ah (BS (nm:Int)) r.guards) (orE (Ac (decide (2<r.guards.length)) 4) (orE (Aa r.ex (ns:Int)) (orE (Aa r.fa (ns:Int)) (orE (Ac (!AF r.rd (nv:Int)||!AF r.wr (nv:Int)) 5) (Aa r.send (nm:Int)))))) from bJ.out.trans (by rw [show inN r.fr (ns:Int)=true from aR.out,show inN r.to (ns:Int)=true from b6.out]; rfl))
   go_loopw [10] (fun ii wr=>∃(k:Nat),ii=.int .i64 (k:Int)∧k≤ng∧Hid (Below w5.heap.size w5 wr)∧Hid (Ah (BS (nm:Int)) (r.guards.take k)=0)) (fun ii _=>ng - (intOf ii).toNat)
   case atStart=>exact⟨0,rfl,Nat.zero_le _,Below.refl _ _,by show _=_; rfl⟩
   case round=>
    obtain⟨k,rfl,hk,bt,aS⟩:=hrel
    have b7:=hide (bP.out.at bt.out)
    have ft:=b7.out.b2.cell
    have fu:=b7.out.b5.cell
    have ao:=hide (bo.out.trans (bt.out.mono bo.out.size))
    by_cases fv:k<ng
    ·obtain⟨b2,cH,g,dS,an,hg,cK⟩:=(dn.out.keep (w':=wr) (B':=w.heap.size) (fun _ I=>ao.out.cell I) (Nat.le_refl _)).at (k:=k) (by have:=bp.out; omega)
     have fw:(loadCellsFrom ⟨b2,cH+k*6,none⟩ 0 6 #[]).run Tryz.prog wr=.ok #[.int .i64 g.msg,.int .i64 g.coef,.int .i64 g.bound.c,.int .i64 g.bound.n,.int .i64 g.bound.t,.int .i64 g.bound.f] wr:=by
      have:=run_loadCells_list (P:=Tryz.prog) wr ⟨b2,cH+k*6,none⟩ (CH g) (fun k v M=>by
       rw [Addr.add_mid]
       have hk:=AO M
       rw [cK k hk]
       match k,hk,M with
       | 0,_,M=>exact congrArg some (Option.some.inj M)
       | 1,_,M=>exact congrArg some (Option.some.inj M)
       | 2,_,M=>exact congrArg some (Option.some.inj M)
       | 3,_,M=>exact congrArg some (Option.some.inj M)
       | 4,_,M=>exact congrArg some (Option.some.inj M)
       | 5,_,M=>exact congrArg some (Option.some.inj M))
      simpa [loadCells,CH] using this
     obtain⟨w7,dT,ag,bR,dU⟩:=Ag wr #[.int .i64 g.msg,.int .i64 g.coef,.int .i64 g.bound.c,.int .i64 g.bound.n,.int .i64 g.bound.t,.int .i64 g.bound.f] 128
     have fx:∀c:Array Value,c.size=6→(storeCells ⟨wr.heap.size,0,none⟩ [.int .i64 g.msg,.int .i64 g.coef,.int .i64 g.bound.c,.int .i64 g.bound.n,.int .i64 g.bound.t,.int .i64 g.bound.f] 0).run Tryz.prog (wr.alloc (.cells c 128))=.ok () w7:=fun c hc=>by rw [←dT]; exact Cf wr 128 6 (by kernel_rfl) (rc:=#[.int .i64 g.msg,.int .i64 g.coef,.int .i64 g.bound.c,.int .i64 g.bound.n,.int .i64 g.bound.t,.int .i64 g.bound.f]) rfl (by simp [Value.oneCell']) c hc
     have fy:=bR.cell
     have fz:(loadCellsFrom ⟨wr.heap.size,2,none⟩ 0 4 #[]).run Tryz.prog w7=.ok #[.int .i64 g.bound.c,.int .i64 g.bound.n,.int .i64 g.bound.t,.int .i64 g.bound.f] w7:=by
      have:=run_loadCells_list (P:=Tryz.prog) w7 ⟨wr.heap.size,2,none⟩ [.int .i64 g.bound.c,.int .i64 g.bound.n,.int .i64 g.bound.t,.int .i64 g.bound.f] (fun j v M=>by
       rw [Addr.add_mid,bR.cell]
       have hj:=AO M
       match j,hj,M with
       | 0,_,M=>exact congrArg some (Option.some.inj M)
       | 1,_,M=>exact congrArg some (Option.some.inj M)
       | 2,_,M=>exact congrArg some (Option.some.inj M)
       | 3,_,M=>exact congrArg some (Option.some.inj M))
      simpa [loadCells] using this
     have bu:=hide hg
     have ab:=hide (b7.out.at ag)
     have cL:=ab.out.b2.cell
     have cM:=ab.out.b5.cell
     have V:=hide (ao.out.trans (ag.mono ao.out.size))
     have cO:=hide (bt.out.trans (ag.mono bt.out.size))
     clear ag
     subst dS
     clear cK hg dU bR
     go_wp2_with fail
     cases bv:inC g.msg 0 ((nm:Int) - 1)
     case false=>
      have aA:=hide bv
      clear bv
      have b8:=hide (show Ah (BS (nm:Int)) r.guards=5 from by
       have h1:BS (nm:Int) g=5:=by
        unfold BS
        rw [CJ,aA.out]
        rfl
       rw [Cd (BS (nm:Int)) bu.out aS.out (by rw [h1]; decide),h1])
      refine(Al _ _ _ _).mono ?_; rintro e w' ⟨rfl,rfl⟩; rw [aA.out]; go_wp2_with fail
      go_ret
      exact⟨congrArg (Value.int .i64) (bs.out.trans (by rw [b8.out]; rfl)).symm,V.out⟩
     have aA:=hide bv
     clear bv
     refine(Al _ _ _ _).mono ?_; rintro e w' ⟨rfl,rfl⟩; rw [aA.out]; go_wp2_with fail
     cases bw:inC g.coef 1 100
     case false=>
      have aU:=hide bw
      clear bw
      have b8:=hide (show Ah (BS (nm:Int)) r.guards=1 from by
       have h1:BS (nm:Int) g=1:=by
        unfold BS
        rw [CJ,aA.out,show(decide (1≤g.coef)&&decide (g.coef≤100))=false from aU.out]
        rfl
       rw [Cd (BS (nm:Int)) bu.out aS.out (by rw [h1]; decide),h1])
      refine(Al _ _ _ _).mono ?_; rintro e w' ⟨rfl,rfl⟩; rw [aU.out]; go_wp2_with fail
      go_ret
      exact⟨congrArg (Value.int .i64) (bs.out.trans (by rw [b8.out]; rfl)).symm,V.out⟩
     have aU:=hide bw
     clear bw
     refine(Al _ _ _ _).mono ?_; rintro e w' ⟨rfl,rfl⟩; rw [aU.out]; go_wp2_with fail
     cases bx:AR g.bound
     case false=>
      have b9:=hide bx
      clear bx
      have b8:=hide (show Ah (BS (nm:Int)) r.guards=4 from by
       have h1:BS (nm:Int) g=4:=by
        unfold BS
        rw [CJ,aA.out,show(decide (1≤g.coef)&&decide (g.coef≤100))=true from aU.out,b9.out]
        rfl
       rw [Cd (BS (nm:Int)) bu.out aS.out (by rw [h1]; decide),h1])
      refine Calls.ret (FS g.bound _) ?_; rintro v w8 ⟨rfl,J⟩; rw [b9.out]; have O:=hide (ab.out.at J); have ba:=O.out.b2.cell; have bb:=O.out.b5.cell; have C:=hide (V.out.trans (J.mono V.out.size)); clear J; go_wp2_with fail
      go_ret
      exact⟨congrArg (Value.int .i64) (bs.out.trans (by rw [b8.out]; rfl)).symm,C.out⟩
     have b9:=hide bx
     clear bx
     have bN:=hide (show Ah (BS (nm:Int)) (r.guards.take (k+1))=0 from by
      rw [Cq (BS (nm:Int)) bu.out aS.out]
      unfold BS
      rw [CJ,aA.out,show(decide (1≤g.coef)&&decide (g.coef≤100))=true from aU.out,b9.out]
      rfl)
     refine Calls.ret (FS g.bound _) ?_; rintro v w8 ⟨rfl,J⟩; rw [b9.out]; have dX:=hide (cO.out.trans (J.mono cO.out.size)); clear J; go_wp2_with fail
     exact⟨⟨k+1,by go_num,by omega,dX.out,bN.out⟩,by simp [intOf]; omega⟩
    ·have cQ:=hide (show EV=orE (Ac (decide (2<r.guards.length)) 4) (orE (Aa r.ex (ns:Int)) (orE (Aa r.fa (ns:Int)) (orE (Ac (!AF r.rd (nv:Int)||!AF r.wr (nv:Int)) 5) (Aa r.send (nm:Int))))) from bs.out.trans (by
      have h1:=aS.out
      rw [List.take_of_length_le (by have:=bp.out; omega)] at h1
      rw [h1]
      rfl))
     clear aS
     by_cases fA:2<ng
     case pos=>
      have Q2:(2:Int)<(ng:Int):=by omega
      go_wp2_with fail
      go_ret
      exact⟨congrArg (Value.int .i64) (cQ.out.trans (by rw [decide_eq_true (show 2<r.guards.length by have:=bp.out; omega)]; rfl)).symm,ao.out⟩
     have Q2:¬(2:Int)<(ng:Int):=by omega
     have cR:=hide (show EV=orE (Aa r.ex (ns:Int)) (orE (Aa r.fa (ns:Int)) (orE (Ac (!AF r.rd (nv:Int)||!AF r.wr (nv:Int)) 5) (Aa r.send (nm:Int)))) from cQ.out.trans (by rw [decide_eq_false (show ¬2<r.guards.length by have:=bp.out; omega)]; rfl))
     go_wp2_with fail
     obtain⟨bS,bz⟩:∃e,Hid (Aa r.ex (ns:Int)=e):=⟨_,rfl⟩
     by_cases aW:bS=0
     case neg=>
      have dZ:(bS != 0)=true:=by simp [aW]
      have H0:=hide aW
      clear aW
      refine Calls.ret (cw _ ao.out) ?_; rintro v w7 ⟨rfl,ag⟩; rw [bz.out]; have ab:=hide (b7.out.at ag); have cL:=ab.out.b2.cell; have cM:=ab.out.b5.cell; have V:=hide (ao.out.trans (ag.mono ao.out.size)); clear ag; go_wp2_with fail
      go_ret
      exact⟨congrArg (Value.int .i64) (cR.out.trans (by rw [bz.out]; exact Bz H0.out)).symm,V.out⟩
     have dZ:(bS != 0)=false:=by simp [aW]
     have e0:=hide aW
     clear aW
     have cS:=hide (show EV=orE (Aa r.fa (ns:Int)) (orE (Ac (!AF r.rd (nv:Int)||!AF r.wr (nv:Int)) 5) (Aa r.send (nm:Int))) from cR.out.trans (by rw [bz.out,e0.out]; rfl))
     refine Calls.ret (cw _ ao.out) ?_; rintro v w7 ⟨rfl,ag⟩; rw [bz.out]; have ab:=hide (b7.out.at ag); have cL:=ab.out.b2.cell; have cM:=ab.out.b5.cell; have V:=hide (ao.out.trans (ag.mono ao.out.size)); clear ag; go_wp2_with fail
     obtain⟨bT,aC⟩:∃e,Hid (Aa r.fa (ns:Int)=e):=⟨_,rfl⟩
     by_cases aX:bT=0
     case neg=>
      have e3:(bT != 0)=true:=by simp [aX]
      have H0:=hide aX
      clear aX
      refine Calls.ret (b3 _ V.out) ?_; rintro v w8 ⟨rfl,J⟩; rw [aC.out]; have O:=hide (ab.out.at J); have ba:=O.out.b2.cell; have bb:=O.out.b5.cell; have C:=hide (V.out.trans (J.mono V.out.size)); clear J; go_wp2_with fail
      go_ret
      exact⟨congrArg (Value.int .i64) (cS.out.trans (by rw [aC.out]; exact Bz H0.out)).symm,C.out⟩
     have e3:(bT != 0)=false:=by simp [aX]
     have e4:=hide aX
     clear aX
     have ax:=hide (show EV=orE (Ac (!AF r.rd (nv:Int)||!AF r.wr (nv:Int)) 5) (Aa r.send (nm:Int)) from cS.out.trans (by rw [aC.out,e4.out]; rfl))
     by_cases aY:r.rd= -1
     case pos=>
      have e5:(r.rd != -1)=false:=by simp [aY]
      have aZ:=hide aY
      clear aY
      have V1:=hide (show AF r.rd (nv:Int)=true from by rw [aZ.out]; exact Dm (by omega))
      by_cases ae:r.wr= -1
      case pos=>
       have bU:(r.wr != -1)=false:=by simp [ae]
       have ap:=hide ae
       clear ae
       have V2:=hide (show AF r.wr (nv:Int)=true from by rw [ap.out]; exact Dm (by omega))
       refine Calls.ret (b3 _ V.out) ?_; rintro v w8 ⟨rfl,J⟩; rw [aC.out]; have O:=hide (ab.out.at J); have ba:=O.out.b2.cell; have bb:=O.out.b5.cell; have C:=hide (V.out.trans (J.mono V.out.size)); clear J; go_wp2_with fail
       have aj:=hide (show EV=Aa r.send (nm:Int) from ax.out.trans (by rw [V1.out,V2.out]; rfl))
       obtain⟨a3,Z⟩:∃e,Hid (Aa r.send (nm:Int)=e):=⟨_,rfl⟩
       by_cases F:a3=0
       case neg=>
        have aD:(a3 != 0)=true:=by simp [F]
        have H0:=hide F
        clear F
        refine Calls.ret (av _ C.out) ?_; rintro v w9 ⟨rfl,E⟩; rw [Z.out]; have G:=hide (O.out.at E); have aF:=G.out.b2.cell; have aG:=G.out.b5.cell; have U:=hide (C.out.trans (E.mono C.out.size)); clear E; go_wp2_with fail
        go_ret
        exact⟨congrArg (Value.int .i64) (aj.out.trans (by rw [Z.out])).symm,U.out⟩
       have aD:(a3 != 0)=false:=by simp [F]
       have aH:=hide F
       clear F
       have aJ:=hide (show EV=0 from aj.out.trans (by rw [Z.out,aH.out]))
       refine Calls.ret (av _ C.out) ?_; rintro v w9 ⟨rfl,E⟩; rw [Z.out]; have G:=hide (O.out.at E); have aF:=G.out.b2.cell; have aG:=G.out.b5.cell; have U:=hide (C.out.trans (E.mono C.out.size)); clear E; go_wp2_with fail
       have aK:=hide (show Aa r.left (ns:Int)=0 from by rw [af.out.1]; rfl)
       refine Calls.ret (bh _ U.out) ?_; rintro v wa ⟨rfl,a4⟩; rw [aK.out]; have a5:=hide (G.out.at a4); have bW:=a5.out.b2.cell; have bX:=a5.out.b5.cell; have a6:=hide (U.out.trans (a4.mono U.out.size)); clear a4; go_wp2_with fail
       have aL:=hide (show Aa r.right (ns:Int)=0 from by rw [af.out.2.1]; rfl)
       refine Calls.ret (bi _ a6.out) ?_; rintro v wb ⟨rfl,a7⟩; rw [aL.out]; have a8:=hide (a5.out.at a7); have bZ:=a8.out.b2.cell; have c0:=a8.out.b5.cell; have a9:=hide (a6.out.trans (a7.mono a6.out.size)); clear a7; go_wp2_with fail
       have aM:=hide (show Aa r.parent (ns:Int)=0 from by rw [af.out.2.2]; rfl)
       refine Calls.ret (bj _ a9.out) ?_; rintro v wc ⟨rfl,aa⟩; rw [aM.out]; have ak:=hide (a8.out.at aa); have c9:=ak.out.b2.cell; have ca:=ak.out.b5.cell; have aN:=hide (a9.out.trans (aa.mono a9.out.size)); clear aa; go_wp2_with fail
       go_ret
       exact⟨congrArg (Value.int .i64) (aJ.out).symm,aN.out⟩
      have bU:(r.wr != -1)=true:=by simp [ae]
      have ap:=hide ae
      clear ae
      refine Calls.ret (b3 _ V.out) ?_; rintro v w8 ⟨rfl,J⟩; rw [aC.out]; have O:=hide (ab.out.at J); have ba:=O.out.b2.cell; have bb:=O.out.b5.cell; have C:=hide (V.out.trans (J.mono V.out.size)); clear J; go_wp2_with fail
      cases aq:inC r.wr 0 ((nv:Int) - 1)
      case false=>
       have al:=hide aq
       clear aq
       have V2:=hide (show AF r.wr (nv:Int)=false from(BV ap.out).trans al.out)
       refine(Al _ _ _ _).mono ?_; rintro e w' ⟨rfl,rfl⟩; rw [al.out]; go_wp2_with fail
       go_ret
       exact⟨congrArg (Value.int .i64) (ax.out.trans (by rw [V1.out,V2.out]; rfl)).symm,C.out⟩
      have al:=hide aq
      clear aq
      have V2:=hide (show AF r.wr (nv:Int)=true from(BV ap.out).trans al.out)
      refine(Al _ _ _ _).mono ?_; rintro e w' ⟨rfl,rfl⟩; rw [al.out]; go_wp2_with fail
      have aj:=hide (show EV=Aa r.send (nm:Int) from ax.out.trans (by rw [V1.out,V2.out]; rfl))
      obtain⟨a3,Z⟩:∃e,Hid (Aa r.send (nm:Int)=e):=⟨_,rfl⟩
      by_cases F:a3=0
      case neg=>
       have aD:(a3 != 0)=true:=by simp [F]
       have H0:=hide F
       clear F
       refine Calls.ret (av _ C.out) ?_; rintro v w9 ⟨rfl,E⟩; rw [Z.out]; have G:=hide (O.out.at E); have aF:=G.out.b2.cell; have aG:=G.out.b5.cell; have U:=hide (C.out.trans (E.mono C.out.size)); clear E; go_wp2_with fail
       go_ret
       exact⟨congrArg (Value.int .i64) (aj.out.trans (by rw [Z.out])).symm,U.out⟩
      have aD:(a3 != 0)=false:=by simp [F]
      have aH:=hide F
      clear F
      have aJ:=hide (show EV=0 from aj.out.trans (by rw [Z.out,aH.out]))
      refine Calls.ret (av _ C.out) ?_; rintro v w9 ⟨rfl,E⟩; rw [Z.out]; have G:=hide (O.out.at E); have aF:=G.out.b2.cell; have aG:=G.out.b5.cell; have U:=hide (C.out.trans (E.mono C.out.size)); clear E; go_wp2_with fail
      have aK:=hide (show Aa r.left (ns:Int)=0 from by rw [af.out.1]; rfl)
      refine Calls.ret (bh _ U.out) ?_; rintro v wa ⟨rfl,a4⟩; rw [aK.out]; have a5:=hide (G.out.at a4); have bW:=a5.out.b2.cell; have bX:=a5.out.b5.cell; have a6:=hide (U.out.trans (a4.mono U.out.size)); clear a4; go_wp2_with fail
      have aL:=hide (show Aa r.right (ns:Int)=0 from by rw [af.out.2.1]; rfl)
      refine Calls.ret (bi _ a6.out) ?_; rintro v wb ⟨rfl,a7⟩; rw [aL.out]; have a8:=hide (a5.out.at a7); have bZ:=a8.out.b2.cell; have c0:=a8.out.b5.cell; have a9:=hide (a6.out.trans (a7.mono a6.out.size)); clear a7; go_wp2_with fail
      have aM:=hide (show Aa r.parent (ns:Int)=0 from by rw [af.out.2.2]; rfl)
      refine Calls.ret (bj _ a9.out) ?_; rintro v wc ⟨rfl,aa⟩; rw [aM.out]; have ak:=hide (a8.out.at aa); have c9:=ak.out.b2.cell; have ca:=ak.out.b5.cell; have aN:=hide (a9.out.trans (aa.mono a9.out.size)); clear aa; go_wp2_with fail
      go_ret
      exact⟨congrArg (Value.int .i64) (aJ.out).symm,aN.out⟩
     have e5:(r.rd != -1)=true:=by simp [aY]
     have aZ:=hide aY
     clear aY
     by_cases ae:r.wr= -1
     case pos=>
      have bU:(r.wr != -1)=false:=by simp [ae]
      have ap:=hide ae
      clear ae
      have V2:=hide (show AF r.wr (nv:Int)=true from by rw [ap.out]; exact Dm (by omega))
      refine Calls.ret (b3 _ V.out) ?_; rintro v w8 ⟨rfl,J⟩; rw [aC.out]; have O:=hide (ab.out.at J); have ba:=O.out.b2.cell; have bb:=O.out.b5.cell; have C:=hide (V.out.trans (J.mono V.out.size)); clear J; go_wp2_with fail
      cases ar:inC r.rd 0 ((nv:Int) - 1)
      case false=>
       have am:=hide ar
       clear ar
       have V1:=hide (show AF r.rd (nv:Int)=false from(BV aZ.out).trans am.out)
       refine(Al _ _ _ _).mono ?_; rintro e w' ⟨rfl,rfl⟩; rw [am.out]; go_wp2_with fail
       go_ret
       exact⟨congrArg (Value.int .i64) (ax.out.trans (by rw [V1.out]; rfl)).symm,C.out⟩
      have am:=hide ar
      clear ar
      have V1:=hide (show AF r.rd (nv:Int)=true from(BV aZ.out).trans am.out)
      refine(Al _ _ _ _).mono ?_; rintro e w' ⟨rfl,rfl⟩; rw [am.out]; go_wp2_with fail
      have aj:=hide (show EV=Aa r.send (nm:Int) from ax.out.trans (by rw [V1.out,V2.out]; rfl))
      obtain⟨a3,Z⟩:∃e,Hid (Aa r.send (nm:Int)=e):=⟨_,rfl⟩
      by_cases F:a3=0
      case neg=>
       have aD:(a3 != 0)=true:=by simp [F]
       have H0:=hide F
       clear F
       refine Calls.ret (av _ C.out) ?_; rintro v w9 ⟨rfl,E⟩; rw [Z.out]; have G:=hide (O.out.at E); have aF:=G.out.b2.cell; have aG:=G.out.b5.cell; have U:=hide (C.out.trans (E.mono C.out.size)); clear E; go_wp2_with fail
       go_ret
       exact⟨congrArg (Value.int .i64) (aj.out.trans (by rw [Z.out])).symm,U.out⟩
      have aD:(a3 != 0)=false:=by simp [F]
      have aH:=hide F
      clear F
      have aJ:=hide (show EV=0 from aj.out.trans (by rw [Z.out,aH.out]))
      refine Calls.ret (av _ C.out) ?_; rintro v w9 ⟨rfl,E⟩; rw [Z.out]; have G:=hide (O.out.at E); have aF:=G.out.b2.cell; have aG:=G.out.b5.cell; have U:=hide (C.out.trans (E.mono C.out.size)); clear E; go_wp2_with fail
      have aK:=hide (show Aa r.left (ns:Int)=0 from by rw [af.out.1]; rfl)
      refine Calls.ret (bh _ U.out) ?_; rintro v wa ⟨rfl,a4⟩; rw [aK.out]; have a5:=hide (G.out.at a4); have bW:=a5.out.b2.cell; have bX:=a5.out.b5.cell; have a6:=hide (U.out.trans (a4.mono U.out.size)); clear a4; go_wp2_with fail
      have aL:=hide (show Aa r.right (ns:Int)=0 from by rw [af.out.2.1]; rfl)
      refine Calls.ret (bi _ a6.out) ?_; rintro v wb ⟨rfl,a7⟩; rw [aL.out]; have a8:=hide (a5.out.at a7); have bZ:=a8.out.b2.cell; have c0:=a8.out.b5.cell; have a9:=hide (a6.out.trans (a7.mono a6.out.size)); clear a7; go_wp2_with fail
      have aM:=hide (show Aa r.parent (ns:Int)=0 from by rw [af.out.2.2]; rfl)
      refine Calls.ret (bj _ a9.out) ?_; rintro v wc ⟨rfl,aa⟩; rw [aM.out]; have ak:=hide (a8.out.at aa); have c9:=ak.out.b2.cell; have ca:=ak.out.b5.cell; have aN:=hide (a9.out.trans (aa.mono a9.out.size)); clear aa; go_wp2_with fail
      go_ret
      exact⟨congrArg (Value.int .i64) (aJ.out).symm,aN.out⟩
     have bU:(r.wr != -1)=true:=by simp [ae]
     have ap:=hide ae
     clear ae
     refine Calls.ret (b3 _ V.out) ?_; rintro v w8 ⟨rfl,J⟩; rw [aC.out]; have O:=hide (ab.out.at J); have ba:=O.out.b2.cell; have bb:=O.out.b5.cell; have C:=hide (V.out.trans (J.mono V.out.size)); clear J; go_wp2_with fail
     cases ar:inC r.rd 0 ((nv:Int) - 1)
     case false=>
      have am:=hide ar
      clear ar
      have V1:=hide (show AF r.rd (nv:Int)=false from(BV aZ.out).trans am.out)
      refine(Al _ _ _ _).mono ?_; rintro e w' ⟨rfl,rfl⟩; rw [am.out]; go_wp2_with fail
      go_ret
      exact⟨congrArg (Value.int .i64) (ax.out.trans (by rw [V1.out]; rfl)).symm,C.out⟩
     have am:=hide ar
     clear ar
     have V1:=hide (show AF r.rd (nv:Int)=true from(BV aZ.out).trans am.out)
     refine(Al _ _ _ _).mono ?_; rintro e w' ⟨rfl,rfl⟩; rw [am.out]; go_wp2_with fail
     cases aq:inC r.wr 0 ((nv:Int) - 1)
     case false=>
      have al:=hide aq
      clear aq
      have V2:=hide (show AF r.wr (nv:Int)=false from(BV ap.out).trans al.out)
      refine(Al _ _ _ _).mono ?_; rintro e w' ⟨rfl,rfl⟩; rw [al.out]; go_wp2_with fail
      go_ret
      exact⟨congrArg (Value.int .i64) (ax.out.trans (by rw [V1.out,V2.out]; rfl)).symm,C.out⟩
     have al:=hide aq
     clear aq
     have V2:=hide (show AF r.wr (nv:Int)=true from(BV ap.out).trans al.out)
     refine(Al _ _ _ _).mono ?_; rintro e w' ⟨rfl,rfl⟩; rw [al.out]; go_wp2_with fail
     have aj:=hide (show EV=Aa r.send (nm:Int) from ax.out.trans (by rw [V1.out,V2.out]; rfl))
     obtain⟨a3,Z⟩:∃e,Hid (Aa r.send (nm:Int)=e):=⟨_,rfl⟩
     by_cases F:a3=0
     case neg=>
      have aD:(a3 != 0)=true:=by simp [F]
      have H0:=hide F
      clear F
      refine Calls.ret (av _ C.out) ?_; rintro v w9 ⟨rfl,E⟩; rw [Z.out]; have G:=hide (O.out.at E); have aF:=G.out.b2.cell; have aG:=G.out.b5.cell; have U:=hide (C.out.trans (E.mono C.out.size)); clear E; go_wp2_with fail
      go_ret
      exact⟨congrArg (Value.int .i64) (aj.out.trans (by rw [Z.out])).symm,U.out⟩
     have aD:(a3 != 0)=false:=by simp [F]
     have aH:=hide F
     clear F
     have aJ:=hide (show EV=0 from aj.out.trans (by rw [Z.out,aH.out]))
     refine Calls.ret (av _ C.out) ?_; rintro v w9 ⟨rfl,E⟩; rw [Z.out]; have G:=hide (O.out.at E); have aF:=G.out.b2.cell; have aG:=G.out.b5.cell; have U:=hide (C.out.trans (E.mono C.out.size)); clear E; go_wp2_with fail
     have aK:=hide (show Aa r.left (ns:Int)=0 from by rw [af.out.1]; rfl)
     refine Calls.ret (bh _ U.out) ?_; rintro v wa ⟨rfl,a4⟩; rw [aK.out]; have a5:=hide (G.out.at a4); have bW:=a5.out.b2.cell; have bX:=a5.out.b5.cell; have a6:=hide (U.out.trans (a4.mono U.out.size)); clear a4; go_wp2_with fail
     have aL:=hide (show Aa r.right (ns:Int)=0 from by rw [af.out.2.1]; rfl)
     refine Calls.ret (bi _ a6.out) ?_; rintro v wb ⟨rfl,a7⟩; rw [aL.out]; have a8:=hide (a5.out.at a7); have bZ:=a8.out.b2.cell; have c0:=a8.out.b5.cell; have a9:=hide (a6.out.trans (a7.mono a6.out.size)); clear a7; go_wp2_with fail
     have aM:=hide (show Aa r.parent (ns:Int)=0 from by rw [af.out.2.2]; rfl)
     refine Calls.ret (bj _ a9.out) ?_; rintro v wc ⟨rfl,aa⟩; rw [aM.out]; have ak:=hide (a8.out.at aa); have c9:=ak.out.b2.cell; have ca:=ak.out.b5.cell; have aN:=hide (a9.out.trans (aa.mono a9.out.size)); clear aa; go_wp2_with fail
     go_ret
     exact⟨congrArg (Value.int .i64) (aJ.out).symm,aN.out⟩
end Go.Proofs.YtlakpndhhelliaaGreatDoor.K
