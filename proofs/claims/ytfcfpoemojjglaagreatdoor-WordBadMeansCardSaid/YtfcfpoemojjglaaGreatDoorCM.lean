/-
  Part CM of a proof.
-/
import Derived.Test.YtfcfpoemojjglaaGreatDoorPA
import Derived.Test.YtfcfpoemojjglaaGreatDoorCJ
import Derived.Test.YtfcfpoemojjglaaGreatDoorCI
set_option maxHeartbeats 16000000
set_option maxRecDepth 100000
set_option linter.unusedVariables false
set_option linter.unusedSimpArgs false
namespace Go.Proofs.YtfcfpoemojjglaaGreatDoor.K
open Go.RowKit
attribute [-go_sem] loadCellsFrom storeCells
theorem SF {w:World} {cs:List Value} {p:Am} {r:Az} {i:Nat} (h:At w w.heap.size cs p) (hr:p.rules[i]?=some r) (hs:r.Small) (eT:r.name.size≤500) (ba:p.Small) (hT:SpOK w) (dZ:Hid (((p.rules.take i).any fun x=>decide (x.name=r.name))=false)) (cJ:Hid (nameOK r.name=true)) (cH:Hid (inC r.kind 1 5=true)) (bn:(decide (r.kind≤3) != (p.topo==1))=false) (c9:Hid (B9 p.topo r=false)) (ax:r.kind=1):
  Calls Tryz.prog 138 #[.agg cs.toArray,.int .i64 (i:Int)] w (Ret fun v w'=>v=.int .i64 (BC nameOK p.topo (p.states.length:Int) (p.messages.length:Int) (p.values.length:Int) false r)∧Below w.heap.size w w'):=by
 obtain⟨A1,c1,A2,c2,A3,c3,A4,c4,A5,c5,A6,c6,A7,c7,cK,eU,eV,c0,dJ,dK,eW,eX,eY,eZ,f0,-,-,-,-,-,-,h7,dv⟩:=h.cells
 have dx:=AP hr
 have dF:=ba.states
 have dG:=ba.messages
 have dH:=ba.values
 have eS:=ba.rules
 have dh:=hide h7
 obtain⟨w1,fu,bj,ce,dz⟩:=Ae w cs.toArray 27
 have aW:=bj.trans ((Ap w1).mono bj.size)
 have be:Blk w1.drew w.heap.size 27 cs.toArray:=ce
 obtain⟨b,fv,rc,hA,et,hC,dw,dD⟩:=Du (h7.keep (w':=w1.drew) (B':=w.heap.size) (R':=AW w1.drew w.heap.size) (fun _ M=>aW.cell M) (fun _ _ h=>h.keep (fun _ M=>aW.cell M) (Nat.le_refl _)) (Nat.le_refl _)) hr
 obtain⟨w2,e0,bk,cf,dA⟩:=Ae w1.drew rc 99
 have cg:Blk w2 w1.heap.size 99 rc:=cf
 have c8:=Dv w1.drew 99 18 (by kernel_rfl) hC.size hC.one
 rw [e0] at c8
 have dY:∀c:Array Value,c.size=18→(storeCells ⟨w1.heap.size,0,none⟩ rc.toList 0).run Tryz.prog (w1.alloc (.cells c 99)).drew=.ok () w2:=c8
 clear c8
 have bH:=be.below bk
 have aV:=hide (aW.trans (bk.mono aW.size))
 have bK:=hide (show Cp w2 w.heap.size w1.heap.size cs.toArray rc p r from⟨h.keep (fun _ M=>aV.out.cell M) aV.out.size,hC.is.keep (fun _ M=>bk.cell (by show _<w1.heap.size; have:=bj.size; omega)) aV.out.size,bH,cg,hT.below aV.out⟩)
 have cL:=hC.is.cells
 simp only [Array.toArray_toList] at cL
 obtain⟨E1,f1,E2,f2,E3,f3,E4,f4,E5,f5,E6,f6,E7,f7,E8,f8,⟨cM,f9,fb,fk,fl,fm,fn,fo,dN,fp,fq,fc,fd,fe,ff,fg,fh,fi,fj⟩,⟨ck,cm,cn,co,cp,cq,cr,ct⟩⟩:=cL
 have aq:∀{D:Type} {sz:Nat} {enc:D→Nat→Value} {A:Option Addr} {ds:List D},Sl w1.drew w.heap.size sz enc A ds→Sl w w.heap.size sz enc A ds:=fun h=>h.keep (fun _ M=>(aW.cell M).symm) (Nat.le_refl _)
 have er:=hide (aq ck)
 have di:=hide (aq cm)
 have dj:=hide (aq cn)
 have dk:=hide (aq co)
 have dl:=hide (aq cp)
 have dm:=hide (aq cq)
 have dn:=hide (aq cr)
 have dp:=hide (aq ct)
 have ev:=be.cell
 have df:=hide be
 have de:=hide bH
 generalize dL:cs.toArray=pc at*
 have dM:=hide cK
 obtain⟨dQ,cO,dR,dS,dT,dU,dV,dW⟩:=hs
 have dX:=hide (show r.Small from⟨dQ,cO,dR,dS,dT,dU,dV,dW⟩)
 have fs:=hide hr
 have eJ:=dv
 have dI:=hide (show i<p.rules.length from dx)
 obtain⟨ns,bX⟩:∃n,n=p.states.length:=⟨_,rfl⟩
 obtain⟨nm,bW⟩:∃n,n=p.messages.length:=⟨_,rfl⟩
 obtain⟨nv,bY⟩:∃n,n=p.values.length:=⟨_,rfl⟩
 have eq:=hide (show ns=p.states.length∧nm=p.messages.length∧nv=p.values.length from⟨bX,bW,bY⟩)
 rw [←bX] at c0 dF ⊢
 rw [←bW] at dJ dG ⊢
 rw [←bY] at dK dH ⊢
 obtain⟨EV,cj⟩:∃e,Hid (BC nameOK p.topo (ns:Int) (nm:Int) (nv:Int) false r=e):=⟨_,rfl⟩
 rw [cj.out]
 subst hA
 clear dw hC dz dA bj bk aW ce cf cg be bH cK dL hr h h7 bX bW bY hT ba ck cm cn co cp cq cr ct aq
 have dg:=hide (show KOK nameOK p.topo r from⟨cJ.out,cH.out,bn,c9.out⟩)
 have dq:=hide (DF c9.out)
 have cF:∀C,Below w.heap.size w C→Calls Tryz.prog 97 #[.slice E3 r.ex.length f3,.int .i64 (ns:Int)] C (Ret fun v w'=>v=.int .i64 (setE r.ex (ns:Int))∧Below C.heap.size C w'):=fun C Z=>B0 (by omega) (dj.out.keep (fun _ M=>Z.cell M) Z.size)
 have b9:∀C,Below w.heap.size w C→Calls Tryz.prog 97 #[.slice E4 r.fa.length f4,.int .i64 (ns:Int)] C (Ret fun v w'=>v=.int .i64 (setE r.fa (ns:Int))∧Below C.heap.size C w'):=fun C Z=>B0 (by omega) (dk.out.keep (fun _ M=>Z.cell M) Z.size)
 have ay:∀C,Below w.heap.size w C→Calls Tryz.prog 97 #[.slice E5 r.send.length f5,.int .i64 (nm:Int)] C (Ret fun v w'=>v=.int .i64 (setE r.send (nm:Int))∧Below C.heap.size C w'):=fun C Z=>B0 (by omega) (dl.out.keep (fun _ M=>Z.cell M) Z.size)
 have bs:∀C,Below w.heap.size w C→Calls Tryz.prog 97 #[.slice E6 r.left.length f6,.int .i64 (ns:Int)] C (Ret fun v w'=>v=.int .i64 (setE r.left (ns:Int))∧Below C.heap.size C w'):=fun C Z=>B0 (by omega) (dm.out.keep (fun _ M=>Z.cell M) Z.size)
 have bA:∀C,Below w.heap.size w C→Calls Tryz.prog 97 #[.slice E7 r.right.length f7,.int .i64 (ns:Int)] C (Ret fun v w'=>v=.int .i64 (setE r.right (ns:Int))∧Below C.heap.size C w'):=fun C Z=>B0 (by omega) (dn.out.keep (fun _ M=>Z.cell M) Z.size)
 have bw:∀C,Below w.heap.size w C→Calls Tryz.prog 97 #[.slice E8 r.parent.length f8,.int .i64 (ns:Int)] C (Ret fun v w'=>v=.int .i64 (setE r.parent (ns:Int))∧Below C.heap.size C w'):=fun C Z=>B0 (by omega) (dp.out.keep (fun _ M=>Z.cell M) Z.size)
 have eK:decide (r.kind≤3)=(p.topo==1):=by cases h1:decide (r.kind≤3) <;> cases h2:(p.topo==1) <;> simp [h1,h2] at bn ⊢
 have eL:=hide bn
 clear bn
 go_enter Tryz.func138,Tryz.ntmps138
 go_wp2_with fail
 refine Reg.cI [0,1,0,7,15,0,32,96,0,287,1023] [0,1,2,3,4,5,6,7,8,9,10] ?_
 refine Reg.wI [0,1,2,3,4,5,6,7,8] [9,10] rfl fun Qf ao=>?_
 go_wp2_with fail
 first | refine ao _ _ ⟨rfl,?_⟩ | refine⟨rfl,?_⟩ | refine ao _ _ ⟨by simp [Reg.fineT,Reg.intOp,Region.wanted,yielded,Reg.intFine,Reg.isInt,Act.eval],?_⟩
 try clear ao
 refine Reg.aI 9 [10] [6] rfl fun Qf ao=>?_
 simp only [gT,gS,gZ]
 go_wp2_with fail
 first | refine ao _ _ ⟨?_,?_⟩ | refine⟨?_,?_⟩
 ·intro z hz q hq
  simp only [List.mem_cons,List.not_mem_nil,or_false] at hz
  subst hz
  injection hq with hq
  subst hq
  exact Reg.same_load1 rfl rfl (((df.out.kept ((Ac.refl _ (fun _=>False)).alloc _) id).cell 2).trans c0) ((de.out.cell 2).trans c0) Tryz.underlying22 rfl
 try clear ao
 refine Reg.wI [10] [] rfl fun Qf ao=>?_
 go_wp2_with fail
 first | refine ao _ _ ⟨rfl,?_⟩ | refine⟨rfl,?_⟩ | refine ao _ _ ⟨by simp [Reg.fineT,Reg.intOp,Region.wanted,yielded,Reg.intFine,Reg.isInt,Act.eval],?_⟩
 try clear ao
 first | refine Reg.restI_end ?_ | skip
 have dO:=hide cM
 clear cM dY dD
 have ew:=bK.out.b2.cell
 have eD:=bK.out.b5.cell
 go_wp2_with fail
 go_wp2_with (go_at_call 96; refine Calls.ret (Cm r.name _ (by omega)) ?_; rintro v w3 ⟨rfl,bN⟩; rw [cJ.out]; have bL:=hide (bK.out.at bN); have ey:=bL.out.b2.cell; have eE:=bL.out.b5.cell; have cy:=hide (aV.out.trans (bN.mono aV.out.size)); clear bN)
 go_loopw [7] (fun ii wr=>∃(k:Nat),ii=.int .i64 (k:Int)∧k≤i∧Hid (Below w3.heap.size w3 wr)∧Hid ((p.rules.take k).all (fun x=>!decide (x.name=r.name))=true)) (fun ii _=>i - (intOf ii).toNat)
 case atStart=>exact⟨0,rfl,Nat.zero_le _,Below.refl _ _,by show _=_; simp⟩
 case round=>
  obtain⟨k,rfl,hk,bl,hE⟩:=hrel
  have aG:=hide (bL.out.at bl.out)
  have ez:=aG.out.b2.cell
  have eF:=aG.out.b5.cell
  have bh:=hide (cy.out.trans (bl.out.mono cy.out.size))
  by_cases dE:k<i
  ·obtain⟨x,Z⟩:∃x,p.rules[k]?=some x:=⟨_,List.getElem?_eq_getElem (by have:=dI.out; omega)⟩
   obtain⟨b',fw,xc,cd,eu,ch,cE,-⟩:=Du (dh.out.keep (w':=wr) (B':=w.heap.size) (R':=AW wr w.heap.size) (fun _ M=>bh.out.cell M) (fun _ _ h=>h.keep (fun _ M=>bh.out.cell M) (Nat.le_refl _)) (Nat.le_refl _)) Z
   have e1:=Option.some.inj cd
   injection e1 with e1 e2 _
   subst e1 e2
   have bd:=ch.is.cells
   simp only [Array.toArray_toList] at bd
   obtain⟨-,-,-,-,-,-,-,-,-,-,-,-,-,-,-,-,⟨-,bd,-⟩,-⟩:=bd
   have e4:=cE 0 _ bd
   simp only [Nat.add_zero] at e4
   have cQ:=hide Z
   clear cE ch Z bd cd
   by_cases bf:x.name=r.name
   ·exfalso
    have h1:=dZ.out
    rw [List.any_eq_false] at h1
    refine h1 x (List.mem_of_getElem? (i:=k) ?_) (decide_eq_true bf)
    rw [List.getElem?_take,if_pos dE]
    exact cQ.out
   ·have hq:(x.name.toList==r.name.toList)=false:=by rw [DM]; exact decide_eq_false bf
    have bZ:=hide (Cq (p:=fun x:Az=>!decide (x.name=r.name)) cQ.out hE.out (by simp [bf]))
    have dt:=hide (bl.out.trans ((Ap wr).mono bl.out.size))
    clear bf
    go_wp2_with fail
    refine Reg.cP [0,1,0,7,15,31,0,64,255] ?_
    go_wp2_with fail
    exact⟨⟨k+1,by go_num,by omega,dt.out,bZ.out⟩,by simp [intOf]; omega⟩
  ·clear hE
   have bJ:=hide (cj.out.symm.trans (Se dg.out ax))
   have q1:(r.kind==1)=true:=by rw [ax]; rfl
   have q2:(r.kind==2)=false:=by rw [ax]; rfl
   have q3:(r.kind==3)=false:=by rw [ax]; rfl
   have q4:(r.kind==4)=false:=by rw [ax]; rfl
   have q5:(r.kind==5)=false:=by rw [ax]; rfl
   have fy:(r.kind==2||r.kind==5)=false:=by rw [q2,q5]; rfl
   have dC:=hide ax
   clear ax
   have ai:=hide (show r.left=[]∧r.right=[]∧r.parent=[] from dq.out.l (by rw [dC.out]; decide))
   have eN:=Ah aG.out.b2 dM.out
   have eO:=Ah aG.out.b5 dO.out
   go_wp2_with (first
    | (go_at_call 98; refine(within2_any _ _ _ _).mono ?_; rintro e w' ⟨rfl,rfl⟩; rw [cH.out])
    | (go_at_call 192; refine Calls.ret (FD aG.out.pr aG.out.ru dX.out) ?_; rintro v w5 ⟨rfl,bO⟩; rw [c9.out]; have bM:=hide (aG.out.at bO); have eA:=bM.out.b2.cell; have eG:=bM.out.b5.cell; have bi:=hide (bh.out.trans (bO.mono bh.out.size)); clear bO))
   obtain⟨ng,bV⟩:∃n,n=r.guards.length:=⟨_,rfl⟩
   rw [←bV] at dN cO
   have bv:=hide bV
   clear bV
   cases bq:inC r.fr 0 ((ns:Int) - 1)
   case false=>
    have aQ:=hide bq
    clear bq
    refine(within2_any _ _ _ _).mono ?_; rintro e w' ⟨rfl,rfl⟩; rw [aQ.out]; go_wp2_with fail
    go_ret
    exact⟨congrArg (Value.int .i64) (bJ.out.trans (by rw [show inN r.fr (ns:Int)=false from aQ.out]; rfl)).symm,bi.out⟩
   have aQ:=hide bq
   clear bq
   refine(within2_any _ _ _ _).mono ?_; rintro e w' ⟨rfl,rfl⟩; rw [aQ.out]; go_wp2_with fail
   cases bB:inC r.to 0 ((ns:Int) - 1)
   case false=>
    have b3:=hide bB
    clear bB
    refine(within2_any _ _ _ _).mono ?_; rintro e w' ⟨rfl,rfl⟩; rw [b3.out]; go_wp2_with fail
    go_ret
    exact⟨congrArg (Value.int .i64) (bJ.out.trans (by rw [show inN r.fr (ns:Int)=true from aQ.out,show inN r.to (ns:Int)=false from b3.out]; rfl)).symm,bi.out⟩
   have b3:=hide bB
   clear bB
   refine(within2_any _ _ _ _).mono ?_; rintro e w' ⟨rfl,rfl⟩; rw [b3.out]; go_wp2_with fail
   have bg:=hide (show EV=orE (Aj (B7 (nm:Int)) r.guards) (orE (Ad (decide (2<r.guards.length)) 4) (orE (setE r.ex (ns:Int)) (orE (setE r.fa (ns:Int)) (orE (Ad (!AO r.rd (nv:Int)||!AO r.wr (nv:Int)) 5) (setE r.send (nm:Int)))))) from bJ.out.trans (by rw [show inN r.fr (ns:Int)=true from aQ.out,show inN r.to (ns:Int)=true from b3.out]; rfl))
   go_loopw [10] (fun ii wr=>∃(k:Nat),ii=.int .i64 (k:Int)∧k≤ng∧Hid (Below w5.heap.size w5 wr)∧Hid (Aj (B7 (nm:Int)) (r.guards.take k)=0)) (fun ii _=>ng - (intOf ii).toNat)
   case atStart=>exact⟨0,rfl,Nat.zero_le _,Below.refl _ _,by show _=_; rfl⟩
   case round=>
    obtain⟨k,rfl,hk,bm,aU⟩:=hrel
    have b6:=hide (bM.out.at bm.out)
    have eB:=b6.out.b2.cell
    have eH:=b6.out.b5.cell
    have ap:=hide (bi.out.trans (bm.out.mono bi.out.size))
    by_cases eR:k<ng
    ·obtain⟨b2,cS,g,dc,aq,hg,cD⟩:=(di.out.keep (w':=wr) (B':=w.heap.size) (fun _ M=>ap.out.cell M) (Nat.le_refl _)).at (k:=k) (by have:=bv.out; omega)
     have eQ:(loadCellsFrom ⟨b2,cS+k*6,none⟩ 0 6 #[]).run Tryz.prog wr=.ok #[.int .i64 g.msg,.int .i64 g.coef,.int .i64 g.bound.c,.int .i64 g.bound.n,.int .i64 g.bound.t,.int .i64 g.bound.f] wr:=by
      have:=run_loadCells_list (P:=Tryz.prog) wr ⟨b2,cS+k*6,none⟩ (C4 g) (fun k v U=>by
       rw [Addr.add_mid]
       have hk:=AP U
       rw [cD k hk]
       match k,hk,U with
       | 0,_,U=>exact congrArg some (Option.some.inj U)
       | 1,_,U=>exact congrArg some (Option.some.inj U)
       | 2,_,U=>exact congrArg some (Option.some.inj U)
       | 3,_,U=>exact congrArg some (Option.some.inj U)
       | 4,_,U=>exact congrArg some (Option.some.inj U)
       | 5,_,U=>exact congrArg some (Option.some.inj U))
      simpa [loadCells,C4] using this
     obtain⟨w7,e3,ah,bI,dB⟩:=Ae wr #[.int .i64 g.msg,.int .i64 g.coef,.int .i64 g.bound.c,.int .i64 g.bound.n,.int .i64 g.bound.t,.int .i64 g.bound.f] 217
     have ft:∀c:Array Value,c.size=6→(storeCells ⟨wr.heap.size,0,none⟩ [.int .i64 g.msg,.int .i64 g.coef,.int .i64 g.bound.c,.int .i64 g.bound.n,.int .i64 g.bound.t,.int .i64 g.bound.f] 0).run Tryz.prog (wr.alloc (.cells c 217))=.ok () w7:=fun c hc=>by rw [←e3]; exact Dv wr 217 6 (by kernel_rfl) (rc:=#[.int .i64 g.msg,.int .i64 g.coef,.int .i64 g.bound.c,.int .i64 g.bound.n,.int .i64 g.bound.t,.int .i64 g.bound.f]) rfl (by simp [Value.oneCell']) c hc
     have eI:=bI.cell
     have eP:(loadCellsFrom ⟨wr.heap.size,2,none⟩ 0 4 #[]).run Tryz.prog w7=.ok #[.int .i64 g.bound.c,.int .i64 g.bound.n,.int .i64 g.bound.t,.int .i64 g.bound.f] w7:=by
      have:=run_loadCells_list (P:=Tryz.prog) w7 ⟨wr.heap.size,2,none⟩ [.int .i64 g.bound.c,.int .i64 g.bound.n,.int .i64 g.bound.t,.int .i64 g.bound.f] (fun j v U=>by
       rw [Addr.add_mid,bI.cell]
       have hj:=AP U
       match j,hj,U with
       | 0,_,U=>exact congrArg some (Option.some.inj U)
       | 1,_,U=>exact congrArg some (Option.some.inj U)
       | 2,_,U=>exact congrArg some (Option.some.inj U)
       | 3,_,U=>exact congrArg some (Option.some.inj U))
      simpa [loadCells] using this
     have br:=hide hg
     have ad:=hide (b6.out.at ah)
     have cA:=ad.out.b2.cell
     have cB:=ad.out.b5.cell
     have W:=hide (ap.out.trans (ah.mono ap.out.size))
     have cz:=hide (bm.out.trans (ah.mono bm.out.size))
     clear ah
     subst dc
     clear cD hg dB bI
     go_wp2_with fail
     cases bu:inC g.msg 0 ((nm:Int) - 1)
     case false=>
      have az:=hide bu
      clear bu
      have bb:=hide (show Aj (B7 (nm:Int)) r.guards=5 from by
       have h1:B7 (nm:Int) g=5:=by
        unfold B7
        rw [C5,az.out]
        rfl
       rw [Ct (B7 (nm:Int)) br.out aU.out (by rw [h1]; decide),h1])
      refine(within2_any _ _ _ _).mono ?_; rintro e w' ⟨rfl,rfl⟩; rw [az.out]; go_wp2_with fail
      go_ret
      exact⟨congrArg (Value.int .i64) (bg.out.trans (by rw [bb.out]; rfl)).symm,W.out⟩
     have az:=hide bu
     clear bu
     refine(within2_any _ _ _ _).mono ?_; rintro e w' ⟨rfl,rfl⟩; rw [az.out]; go_wp2_with fail
     cases bo:inC g.coef 1 100
     case false=>
      have aP:=hide bo
      clear bo
      have bb:=hide (show Aj (B7 (nm:Int)) r.guards=1 from by
       have h1:B7 (nm:Int) g=1:=by
        unfold B7
        rw [C5,az.out,show(decide (1≤g.coef)&&decide (g.coef≤100))=false from aP.out]
        rfl
       rw [Ct (B7 (nm:Int)) br.out aU.out (by rw [h1]; decide),h1])
      refine(within2_any _ _ _ _).mono ?_; rintro e w' ⟨rfl,rfl⟩; rw [aP.out]; go_wp2_with fail
      go_ret
      exact⟨congrArg (Value.int .i64) (bg.out.trans (by rw [bb.out]; rfl)).symm,W.out⟩
     have aP:=hide bo
     clear bo
     refine(within2_any _ _ _ _).mono ?_; rintro e w' ⟨rfl,rfl⟩; rw [aP.out]; go_wp2_with fail
     cases bt:Bg g.bound
     case false=>
      have b1:=hide bt
      clear bt
      have bb:=hide (show Aj (B7 (nm:Int)) r.guards=4 from by
       have h1:B7 (nm:Int) g=4:=by
        unfold B7
        rw [C5,az.out,show(decide (1≤g.coef)&&decide (g.coef≤100))=true from aP.out,b1.out]
        rfl
       rw [Ct (B7 (nm:Int)) br.out aU.out (by rw [h1]; decide),h1])
      refine Calls.ret (Gv g.bound _) ?_; rintro v w8 ⟨rfl,J⟩; rw [b1.out]; have O:=hide (ad.out.at J); have b7:=O.out.b2.cell; have b8:=O.out.b5.cell; have y:=hide (W.out.trans (J.mono W.out.size)); clear J; go_wp2_with fail
      go_ret
      exact⟨congrArg (Value.int .i64) (bg.out.trans (by rw [bb.out]; rfl)).symm,y.out⟩
     have b1:=hide bt
     clear bt
     have bZ:=hide (show Aj (B7 (nm:Int)) (r.guards.take (k+1))=0 from by
      rw [CD (B7 (nm:Int)) br.out aU.out]
      unfold B7
      rw [C5,az.out,show(decide (1≤g.coef)&&decide (g.coef≤100))=true from aP.out,b1.out]
      rfl)
     refine Calls.ret (Gv g.bound _) ?_; rintro v w8 ⟨rfl,J⟩; rw [b1.out]; have dr:=hide (cz.out.trans (J.mono cz.out.size)); clear J; go_wp2_with fail
     exact⟨⟨k+1,by go_num,by omega,dr.out,bZ.out⟩,by simp [intOf]; omega⟩
    ·have cv:=hide (show EV=orE (Ad (decide (2<r.guards.length)) 4) (orE (setE r.ex (ns:Int)) (orE (setE r.fa (ns:Int)) (orE (Ad (!AO r.rd (nv:Int)||!AO r.wr (nv:Int)) 5) (setE r.send (nm:Int))))) from bg.out.trans (by
      have h1:=aU.out
      rw [List.take_of_length_le (by have:=bv.out; omega)] at h1
      rw [h1]
      rfl))
     clear aU
     by_cases eM:2<ng
     case pos=>
      have Q2:(2:Int)<(ng:Int):=by omega
      go_wp2_with fail
      go_ret
      exact⟨congrArg (Value.int .i64) (cv.out.trans (by rw [decide_eq_true (show 2<r.guards.length by have:=bv.out; omega)]; rfl)).symm,ap.out⟩
     have Q2:¬(2:Int)<(ng:Int):=by omega
     have cw:=hide (show EV=orE (setE r.ex (ns:Int)) (orE (setE r.fa (ns:Int)) (orE (Ad (!AO r.rd (nv:Int)||!AO r.wr (nv:Int)) 5) (setE r.send (nm:Int)))) from cv.out.trans (by rw [decide_eq_false (show ¬2<r.guards.length by have:=bv.out; omega)]; rfl))
     go_wp2_with fail
     obtain⟨bE,bp⟩:∃e,Hid (setE r.ex (ns:Int)=e):=⟨_,rfl⟩
     by_cases aS:bE=0
     case neg=>
      have e7:(bE != 0)=true:=by simp [aS]
      have H0:=hide aS
      clear aS
      refine Calls.ret (cF _ ap.out) ?_; rintro v w7 ⟨rfl,ah⟩; rw [bp.out]; have ad:=hide (b6.out.at ah); have cA:=ad.out.b2.cell; have cB:=ad.out.b5.cell; have W:=hide (ap.out.trans (ah.mono ap.out.size)); clear ah; go_wp2_with fail
      go_ret
      exact⟨congrArg (Value.int .i64) (cw.out.trans (by rw [bp.out]; exact BF H0.out)).symm,W.out⟩
     have e7:(bE != 0)=false:=by simp [aS]
     have d1:=hide aS
     clear aS
     have cx:=hide (show EV=orE (setE r.fa (ns:Int)) (orE (Ad (!AO r.rd (nv:Int)||!AO r.wr (nv:Int)) 5) (setE r.send (nm:Int))) from cw.out.trans (by rw [bp.out,d1.out]; rfl))
     refine Calls.ret (cF _ ap.out) ?_; rintro v w7 ⟨rfl,ah⟩; rw [bp.out]; have ad:=hide (b6.out.at ah); have cA:=ad.out.b2.cell; have cB:=ad.out.b5.cell; have W:=hide (ap.out.trans (ah.mono ap.out.size)); clear ah; go_wp2_with fail
     obtain⟨bF,aL⟩:∃e,Hid (setE r.fa (ns:Int)=e):=⟨_,rfl⟩
     by_cases aT:bF=0
     case neg=>
      have e8:(bF != 0)=true:=by simp [aT]
      have H0:=hide aT
      clear aT
      refine Calls.ret (b9 _ W.out) ?_; rintro v w8 ⟨rfl,J⟩; rw [aL.out]; have O:=hide (ad.out.at J); have b7:=O.out.b2.cell; have b8:=O.out.b5.cell; have y:=hide (W.out.trans (J.mono W.out.size)); clear J; go_wp2_with fail
      go_ret
      exact⟨congrArg (Value.int .i64) (cx.out.trans (by rw [aL.out]; exact BF H0.out)).symm,y.out⟩
     have e8:(bF != 0)=false:=by simp [aT]
     have d2:=hide aT
     clear aT
     have aw:=hide (show EV=orE (Ad (!AO r.rd (nv:Int)||!AO r.wr (nv:Int)) 5) (setE r.send (nm:Int)) from cx.out.trans (by rw [aL.out,d2.out]; rfl))
     by_cases aX:r.rd= -1
     case pos=>
      have d4:(r.rd != -1)=false:=by simp [aX]
      have aR:=hide aX
      clear aX
      have V1:=hide (show AO r.rd (nv:Int)=true from by rw [aR.out]; exact DW (by omega))
      by_cases af:r.wr= -1
      case pos=>
       have bC:(r.wr != -1)=false:=by simp [af]
       have ar:=hide af
       clear af
       have V2:=hide (show AO r.wr (nv:Int)=true from by rw [ar.out]; exact DW (by omega))
       refine Calls.ret (b9 _ W.out) ?_; rintro v w8 ⟨rfl,J⟩; rw [aL.out]; have O:=hide (ad.out.at J); have b7:=O.out.b2.cell; have b8:=O.out.b5.cell; have y:=hide (W.out.trans (J.mono W.out.size)); clear J; go_wp2_with fail
       have am:=hide (show EV=setE r.send (nm:Int) from aw.out.trans (by rw [V1.out,V2.out]; rfl))
       obtain⟨a4,a2⟩:∃e,Hid (setE r.send (nm:Int)=e):=⟨_,rfl⟩
       by_cases G:a4=0
       case neg=>
        have aN:(a4 != 0)=true:=by simp [G]
        have H0:=hide G
        clear G
        refine Calls.ret (ay _ y.out) ?_; rintro v w9 ⟨rfl,E⟩; rw [a2.out]; have I:=hide (O.out.at E); have aJ:=I.out.b2.cell; have aK:=I.out.b5.cell; have V:=hide (y.out.trans (E.mono y.out.size)); clear E; go_wp2_with fail
        go_ret
        exact⟨congrArg (Value.int .i64) (am.out.trans (by rw [a2.out])).symm,V.out⟩
       have aN:(a4 != 0)=false:=by simp [G]
       have aB:=hide G
       clear G
       have aF:=hide (show EV=0 from am.out.trans (by rw [a2.out,aB.out]))
       refine Calls.ret (ay _ y.out) ?_; rintro v w9 ⟨rfl,E⟩; rw [a2.out]; have I:=hide (O.out.at E); have aJ:=I.out.b2.cell; have aK:=I.out.b5.cell; have V:=hide (y.out.trans (E.mono y.out.size)); clear E; go_wp2_with fail
       have aC:=hide (show setE r.left (ns:Int)=0 from by rw [ai.out.1]; rfl)
       refine Calls.ret (bs _ V.out) ?_; rintro v wa ⟨rfl,a9⟩; rw [aC.out]; have a5:=hide (I.out.at a9); have bP:=a5.out.b2.cell; have bS:=a5.out.b5.cell; have a7:=hide (V.out.trans (a9.mono V.out.size)); clear a9; go_wp2_with fail
       have aE:=hide (show setE r.right (ns:Int)=0 from by rw [ai.out.2.1]; rfl)
       refine Calls.ret (bA _ a7.out) ?_; rintro v wb ⟨rfl,aa⟩; rw [aE.out]; have a6:=hide (a5.out.at aa); have bQ:=a6.out.b2.cell; have bT:=a6.out.b5.cell; have a8:=hide (a7.out.trans (aa.mono a7.out.size)); clear aa; go_wp2_with fail
       have aD:=hide (show setE r.parent (ns:Int)=0 from by rw [ai.out.2.2]; rfl)
       refine Calls.ret (bw _ a8.out) ?_; rintro v wc ⟨rfl,ab⟩; rw [aD.out]; have an:=hide (a6.out.at ab); have bR:=an.out.b2.cell; have bU:=an.out.b5.cell; have aH:=hide (a8.out.trans (ab.mono a8.out.size)); clear ab; go_wp2_with fail
       go_ret
       exact⟨congrArg (Value.int .i64) (aF.out).symm,aH.out⟩
      have bC:(r.wr != -1)=true:=by simp [af]
      have ar:=hide af
      clear af
      refine Calls.ret (b9 _ W.out) ?_; rintro v w8 ⟨rfl,J⟩; rw [aL.out]; have O:=hide (ad.out.at J); have b7:=O.out.b2.cell; have b8:=O.out.b5.cell; have y:=hide (W.out.trans (J.mono W.out.size)); clear J; go_wp2_with fail
      cases av:inC r.wr 0 ((nv:Int) - 1)
      case false=>
       have ak:=hide av
       clear av
       have V2:=hide (show AO r.wr (nv:Int)=false from(Cd ar.out).trans ak.out)
       refine(within2_any _ _ _ _).mono ?_; rintro e w' ⟨rfl,rfl⟩; rw [ak.out]; go_wp2_with fail
       go_ret
       exact⟨congrArg (Value.int .i64) (aw.out.trans (by rw [V1.out,V2.out]; rfl)).symm,y.out⟩
      have ak:=hide av
      clear av
      have V2:=hide (show AO r.wr (nv:Int)=true from(Cd ar.out).trans ak.out)
      refine(within2_any _ _ _ _).mono ?_; rintro e w' ⟨rfl,rfl⟩; rw [ak.out]; go_wp2_with fail
      have am:=hide (show EV=setE r.send (nm:Int) from aw.out.trans (by rw [V1.out,V2.out]; rfl))
      obtain⟨a4,a2⟩:∃e,Hid (setE r.send (nm:Int)=e):=⟨_,rfl⟩
      by_cases G:a4=0
      case neg=>
       have aN:(a4 != 0)=true:=by simp [G]
       have H0:=hide G
       clear G
       refine Calls.ret (ay _ y.out) ?_; rintro v w9 ⟨rfl,E⟩; rw [a2.out]; have I:=hide (O.out.at E); have aJ:=I.out.b2.cell; have aK:=I.out.b5.cell; have V:=hide (y.out.trans (E.mono y.out.size)); clear E; go_wp2_with fail
       go_ret
       exact⟨congrArg (Value.int .i64) (am.out.trans (by rw [a2.out])).symm,V.out⟩
      have aN:(a4 != 0)=false:=by simp [G]
      have aB:=hide G
      clear G
      have aF:=hide (show EV=0 from am.out.trans (by rw [a2.out,aB.out]))
      refine Calls.ret (ay _ y.out) ?_; rintro v w9 ⟨rfl,E⟩; rw [a2.out]; have I:=hide (O.out.at E); have aJ:=I.out.b2.cell; have aK:=I.out.b5.cell; have V:=hide (y.out.trans (E.mono y.out.size)); clear E; go_wp2_with fail
      have aC:=hide (show setE r.left (ns:Int)=0 from by rw [ai.out.1]; rfl)
      refine Calls.ret (bs _ V.out) ?_; rintro v wa ⟨rfl,a9⟩; rw [aC.out]; have a5:=hide (I.out.at a9); have bP:=a5.out.b2.cell; have bS:=a5.out.b5.cell; have a7:=hide (V.out.trans (a9.mono V.out.size)); clear a9; go_wp2_with fail
      have aE:=hide (show setE r.right (ns:Int)=0 from by rw [ai.out.2.1]; rfl)
      refine Calls.ret (bA _ a7.out) ?_; rintro v wb ⟨rfl,aa⟩; rw [aE.out]; have a6:=hide (a5.out.at aa); have bQ:=a6.out.b2.cell; have bT:=a6.out.b5.cell; have a8:=hide (a7.out.trans (aa.mono a7.out.size)); clear aa; go_wp2_with fail
      have aD:=hide (show setE r.parent (ns:Int)=0 from by rw [ai.out.2.2]; rfl)
      refine Calls.ret (bw _ a8.out) ?_; rintro v wc ⟨rfl,ab⟩; rw [aD.out]; have an:=hide (a6.out.at ab); have bR:=an.out.b2.cell; have bU:=an.out.b5.cell; have aH:=hide (a8.out.trans (ab.mono a8.out.size)); clear ab; go_wp2_with fail
      go_ret
      exact⟨congrArg (Value.int .i64) (aF.out).symm,aH.out⟩
     have d4:(r.rd != -1)=true:=by simp [aX]
     have aR:=hide aX
     clear aX
     by_cases af:r.wr= -1
     case pos=>
      have bC:(r.wr != -1)=false:=by simp [af]
      have ar:=hide af
      clear af
      have V2:=hide (show AO r.wr (nv:Int)=true from by rw [ar.out]; exact DW (by omega))
      refine Calls.ret (b9 _ W.out) ?_; rintro v w8 ⟨rfl,J⟩; rw [aL.out]; have O:=hide (ad.out.at J); have b7:=O.out.b2.cell; have b8:=O.out.b5.cell; have y:=hide (W.out.trans (J.mono W.out.size)); clear J; go_wp2_with fail
      cases au:inC r.rd 0 ((nv:Int) - 1)
      case false=>
       have aj:=hide au
       clear au
       have V1:=hide (show AO r.rd (nv:Int)=false from(Cd aR.out).trans aj.out)
       refine(within2_any _ _ _ _).mono ?_; rintro e w' ⟨rfl,rfl⟩; rw [aj.out]; go_wp2_with fail
       go_ret
       exact⟨congrArg (Value.int .i64) (aw.out.trans (by rw [V1.out]; rfl)).symm,y.out⟩
      have aj:=hide au
      clear au
      have V1:=hide (show AO r.rd (nv:Int)=true from(Cd aR.out).trans aj.out)
      refine(within2_any _ _ _ _).mono ?_; rintro e w' ⟨rfl,rfl⟩; rw [aj.out]; go_wp2_with fail
      have am:=hide (show EV=setE r.send (nm:Int) from aw.out.trans (by rw [V1.out,V2.out]; rfl))
      obtain⟨a4,a2⟩:∃e,Hid (setE r.send (nm:Int)=e):=⟨_,rfl⟩
      by_cases G:a4=0
      case neg=>
       have aN:(a4 != 0)=true:=by simp [G]
       have H0:=hide G
       clear G
       refine Calls.ret (ay _ y.out) ?_; rintro v w9 ⟨rfl,E⟩; rw [a2.out]; have I:=hide (O.out.at E); have aJ:=I.out.b2.cell; have aK:=I.out.b5.cell; have V:=hide (y.out.trans (E.mono y.out.size)); clear E; go_wp2_with fail
       go_ret
       exact⟨congrArg (Value.int .i64) (am.out.trans (by rw [a2.out])).symm,V.out⟩
      have aN:(a4 != 0)=false:=by simp [G]
      have aB:=hide G
      clear G
      have aF:=hide (show EV=0 from am.out.trans (by rw [a2.out,aB.out]))
      refine Calls.ret (ay _ y.out) ?_; rintro v w9 ⟨rfl,E⟩; rw [a2.out]; have I:=hide (O.out.at E); have aJ:=I.out.b2.cell; have aK:=I.out.b5.cell; have V:=hide (y.out.trans (E.mono y.out.size)); clear E; go_wp2_with fail
      have aC:=hide (show setE r.left (ns:Int)=0 from by rw [ai.out.1]; rfl)
      refine Calls.ret (bs _ V.out) ?_; rintro v wa ⟨rfl,a9⟩; rw [aC.out]; have a5:=hide (I.out.at a9); have bP:=a5.out.b2.cell; have bS:=a5.out.b5.cell; have a7:=hide (V.out.trans (a9.mono V.out.size)); clear a9; go_wp2_with fail
      have aE:=hide (show setE r.right (ns:Int)=0 from by rw [ai.out.2.1]; rfl)
      refine Calls.ret (bA _ a7.out) ?_; rintro v wb ⟨rfl,aa⟩; rw [aE.out]; have a6:=hide (a5.out.at aa); have bQ:=a6.out.b2.cell; have bT:=a6.out.b5.cell; have a8:=hide (a7.out.trans (aa.mono a7.out.size)); clear aa; go_wp2_with fail
      have aD:=hide (show setE r.parent (ns:Int)=0 from by rw [ai.out.2.2]; rfl)
      refine Calls.ret (bw _ a8.out) ?_; rintro v wc ⟨rfl,ab⟩; rw [aD.out]; have an:=hide (a6.out.at ab); have bR:=an.out.b2.cell; have bU:=an.out.b5.cell; have aH:=hide (a8.out.trans (ab.mono a8.out.size)); clear ab; go_wp2_with fail
      go_ret
      exact⟨congrArg (Value.int .i64) (aF.out).symm,aH.out⟩
     have bC:(r.wr != -1)=true:=by simp [af]
     have ar:=hide af
     clear af
     refine Calls.ret (b9 _ W.out) ?_; rintro v w8 ⟨rfl,J⟩; rw [aL.out]; have O:=hide (ad.out.at J); have b7:=O.out.b2.cell; have b8:=O.out.b5.cell; have y:=hide (W.out.trans (J.mono W.out.size)); clear J; go_wp2_with fail
     cases au:inC r.rd 0 ((nv:Int) - 1)
     case false=>
      have aj:=hide au
      clear au
      have V1:=hide (show AO r.rd (nv:Int)=false from(Cd aR.out).trans aj.out)
      refine(within2_any _ _ _ _).mono ?_; rintro e w' ⟨rfl,rfl⟩; rw [aj.out]; go_wp2_with fail
      go_ret
      exact⟨congrArg (Value.int .i64) (aw.out.trans (by rw [V1.out]; rfl)).symm,y.out⟩
     have aj:=hide au
     clear au
     have V1:=hide (show AO r.rd (nv:Int)=true from(Cd aR.out).trans aj.out)
     refine(within2_any _ _ _ _).mono ?_; rintro e w' ⟨rfl,rfl⟩; rw [aj.out]; go_wp2_with fail
     cases av:inC r.wr 0 ((nv:Int) - 1)
     case false=>
      have ak:=hide av
      clear av
      have V2:=hide (show AO r.wr (nv:Int)=false from(Cd ar.out).trans ak.out)
      refine(within2_any _ _ _ _).mono ?_; rintro e w' ⟨rfl,rfl⟩; rw [ak.out]; go_wp2_with fail
      go_ret
      exact⟨congrArg (Value.int .i64) (aw.out.trans (by rw [V1.out,V2.out]; rfl)).symm,y.out⟩
     have ak:=hide av
     clear av
     have V2:=hide (show AO r.wr (nv:Int)=true from(Cd ar.out).trans ak.out)
     refine(within2_any _ _ _ _).mono ?_; rintro e w' ⟨rfl,rfl⟩; rw [ak.out]; go_wp2_with fail
     have am:=hide (show EV=setE r.send (nm:Int) from aw.out.trans (by rw [V1.out,V2.out]; rfl))
     obtain⟨a4,a2⟩:∃e,Hid (setE r.send (nm:Int)=e):=⟨_,rfl⟩
     by_cases G:a4=0
     case neg=>
      have aN:(a4 != 0)=true:=by simp [G]
      have H0:=hide G
      clear G
      refine Calls.ret (ay _ y.out) ?_; rintro v w9 ⟨rfl,E⟩; rw [a2.out]; have I:=hide (O.out.at E); have aJ:=I.out.b2.cell; have aK:=I.out.b5.cell; have V:=hide (y.out.trans (E.mono y.out.size)); clear E; go_wp2_with fail
      go_ret
      exact⟨congrArg (Value.int .i64) (am.out.trans (by rw [a2.out])).symm,V.out⟩
     have aN:(a4 != 0)=false:=by simp [G]
     have aB:=hide G
     clear G
     have aF:=hide (show EV=0 from am.out.trans (by rw [a2.out,aB.out]))
     refine Calls.ret (ay _ y.out) ?_; rintro v w9 ⟨rfl,E⟩; rw [a2.out]; have I:=hide (O.out.at E); have aJ:=I.out.b2.cell; have aK:=I.out.b5.cell; have V:=hide (y.out.trans (E.mono y.out.size)); clear E; go_wp2_with fail
     have aC:=hide (show setE r.left (ns:Int)=0 from by rw [ai.out.1]; rfl)
     refine Calls.ret (bs _ V.out) ?_; rintro v wa ⟨rfl,a9⟩; rw [aC.out]; have a5:=hide (I.out.at a9); have bP:=a5.out.b2.cell; have bS:=a5.out.b5.cell; have a7:=hide (V.out.trans (a9.mono V.out.size)); clear a9; go_wp2_with fail
     have aE:=hide (show setE r.right (ns:Int)=0 from by rw [ai.out.2.1]; rfl)
     refine Calls.ret (bA _ a7.out) ?_; rintro v wb ⟨rfl,aa⟩; rw [aE.out]; have a6:=hide (a5.out.at aa); have bQ:=a6.out.b2.cell; have bT:=a6.out.b5.cell; have a8:=hide (a7.out.trans (aa.mono a7.out.size)); clear aa; go_wp2_with fail
     have aD:=hide (show setE r.parent (ns:Int)=0 from by rw [ai.out.2.2]; rfl)
     refine Calls.ret (bw _ a8.out) ?_; rintro v wc ⟨rfl,ab⟩; rw [aD.out]; have an:=hide (a6.out.at ab); have bR:=an.out.b2.cell; have bU:=an.out.b5.cell; have aH:=hide (a8.out.trans (ab.mono a8.out.size)); clear ab; go_wp2_with fail
     go_ret
     exact⟨congrArg (Value.int .i64) (aF.out).symm,aH.out⟩
end Go.Proofs.YtfcfpoemojjglaaGreatDoor.K
