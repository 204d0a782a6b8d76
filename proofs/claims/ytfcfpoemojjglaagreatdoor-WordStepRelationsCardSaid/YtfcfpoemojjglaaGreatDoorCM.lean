/-
  Part CM of a proof.
-/
import Derived.Test.YtfcfpoemojjglaaGreatDoorPA
import Derived.Test.YtfcfpoemojjglaaGreatDoorCJ
import Derived.Test.YtfcfpoemojjglaaGreatDoorCI
set_option maxHeartbeats 16000000
set_option maxRecDepth 100000
set_option linter.unusedVariables false
set_option linter.unusedSimpArgs false
namespace Go.Proofs.YtfcfpoemojjglaaGreatDoor.K
open Go.RowKit
attribute [-go_sem] loadCellsFrom storeCells
theorem SF {w:World} {cs:List Value} {p:Am} {r:Az} {i:Nat} (h:At w w.heap.size cs p) (hr:p.rules[i]?=some r) (hs:r.Small) (eS:r.name.size≤500) (b8:p.Small) (hT:A0 w) (dX:Hid (((p.rules.take i).any fun x=>decide (x.name=r.name))=false)) (cF:Hid (Ab r.name=true)) (cE:Hid (inC r.kind 1 5=true)) (bk:(decide (r.kind≤3) != (p.topo==1))=false) (bZ:Hid (B9 p.topo r=false)) (av:r.kind=1):
  Calls Tryz.prog 138 #[.agg cs.toArray,.int .i64 (i:Int)] w (Ret fun v w'=>v=.int .i64 (BC Ab p.topo (p.states.length:Int) (p.messages.length:Int) (p.values.length:Int) false r)∧Below w.heap.size w w'):=by
 obtain⟨A1,c1,A2,c2,A3,c3,A4,c4,A5,c5,A6,c6,A7,c7,cG,eT,eU,bX,dH,dI,eV,eW,eX,eY,eZ,-,-,-,-,-,-,h7,dt⟩:=h.cells
 have dv:=AP hr
 have dD:=b8.states
 have dE:=b8.messages
 have dF:=b8.values
 have eR:=b8.rules
 have df:=hide h7
 obtain⟨w1,ft,bg,cb,dx⟩:=Ae w cs.toArray 27
 have aU:=bg.trans ((Ap w1).mono bg.size)
 have bb:Blk w1.drew w.heap.size 27 cs.toArray:=cb
 obtain⟨b,fu,rc,hA,er,hC,du,dB⟩:=Du (h7.keep (w':=w1.drew) (B':=w.heap.size) (R':=AW w1.drew w.heap.size) (fun _ J=>aU.cell J) (fun _ _ h=>h.keep (fun _ J=>aU.cell J) (Nat.le_refl _)) (Nat.le_refl _)) hr
 obtain⟨w2,dY,bh,cc,dy⟩:=Ae w1.drew rc 99
 have cd:Blk w2 w1.heap.size 99 rc:=cc
 have bY:=Dv w1.drew 99 18 (by kernel_rfl) hC.size hC.one
 rw [dY] at bY
 have dW:∀c:Array Value,c.size=18→(storeCells ⟨w1.heap.size,0,none⟩ rc.toList 0).run Tryz.prog (w1.alloc (.cells c 99)).drew=.ok () w2:=bY
 clear bY
 have bE:=bb.below bh
 have aT:=hide (aU.trans (bh.mono aU.size))
 have bH:=hide (show Cp w2 w.heap.size w1.heap.size cs.toArray rc p r from⟨h.keep (fun _ J=>aT.out.cell J) aT.out.size,hC.is.keep (fun _ J=>bh.cell (by show _<w1.heap.size; have:=bg.size; omega)) aT.out.size,bE,cd,hT.below aT.out⟩)
 have cH:=hC.is.cells
 simp only [Array.toArray_toList] at cH
 obtain⟨E1,f1,E2,f2,E3,f3,E4,f4,E5,f5,E6,f6,E7,f7,E8,f8,⟨cJ,f0,f9,fj,fk,fl,fm,fn,dL,fo,fp,fb,fc,fd,fe,ff,fg,fh,fi⟩,⟨ch,ci,cj,ck,cm,cn,co,cp⟩⟩:=cH
 have ao:∀{D:Type} {sz:Nat} {enc:D→Nat→Value} {A:Option Addr} {ds:List D},Sl w1.drew w.heap.size sz enc A ds→Sl w w.heap.size sz enc A ds:=fun h=>h.keep (fun _ J=>(aU.cell J).symm) (Nat.le_refl _)
 have eq:=hide (ao ch)
 have dg:=hide (ao ci)
 have dh:=hide (ao cj)
 have di:=hide (ao ck)
 have dj:=hide (ao cm)
 have dk:=hide (ao cn)
 have dl:=hide (ao co)
 have dm:=hide (ao cp)
 have eu:=bb.cell
 have dc:=hide bb
 have db:=hide bE
 generalize dJ:cs.toArray=pc at*
 have dK:=hide cG
 obtain⟨dO,cK,dP,dQ,dR,dS,dT,dU⟩:=hs
 have dV:=hide (show r.Small from⟨dO,cK,dP,dQ,dR,dS,dT,dU⟩)
 have fq:=hide hr
 have eI:=dt
 have dG:=hide (show i<p.rules.length from dv)
 obtain⟨ns,bU⟩:∃n,n=p.states.length:=⟨_,rfl⟩
 obtain⟨nm,bT⟩:∃n,n=p.messages.length:=⟨_,rfl⟩
 obtain⟨nv,bV⟩:∃n,n=p.values.length:=⟨_,rfl⟩
 have ep:=hide (show ns=p.states.length∧nm=p.messages.length∧nv=p.values.length from⟨bU,bT,bV⟩)
 rw [←bU] at bX dD ⊢
 rw [←bT] at dH dE ⊢
 rw [←bV] at dI dF ⊢
 obtain⟨EV,cg⟩:∃e,Hid (BC Ab p.topo (ns:Int) (nm:Int) (nv:Int) false r=e):=⟨_,rfl⟩
 rw [cg.out]
 subst hA
 clear du hC dx dy bg bh aU cb cc cd bb bE cG dJ hr h h7 bU bT bV hT b8 ch ci cj ck cm cn co cp ao
 have de:=hide (show KOK Ab p.topo r from⟨cF.out,cE.out,bk,bZ.out⟩)
 have dn:=hide (DF bZ.out)
 have cB:∀C,Below w.heap.size w C→Calls Tryz.prog 97 #[.slice E3 r.ex.length f3,.int .i64 (ns:Int)] C (Ret fun v w'=>v=.int .i64 (Aa r.ex (ns:Int))∧Below C.heap.size C w'):=fun C W=>B0 (by omega) (dh.out.keep (fun _ J=>W.cell J) W.size)
 have b7:∀C,Below w.heap.size w C→Calls Tryz.prog 97 #[.slice E4 r.fa.length f4,.int .i64 (ns:Int)] C (Ret fun v w'=>v=.int .i64 (Aa r.fa (ns:Int))∧Below C.heap.size C w'):=fun C W=>B0 (by omega) (di.out.keep (fun _ J=>W.cell J) W.size)
 have aw:∀C,Below w.heap.size w C→Calls Tryz.prog 97 #[.slice E5 r.send.length f5,.int .i64 (nm:Int)] C (Ret fun v w'=>v=.int .i64 (Aa r.send (nm:Int))∧Below C.heap.size C w'):=fun C W=>B0 (by omega) (dj.out.keep (fun _ J=>W.cell J) W.size)
 have bp:∀C,Below w.heap.size w C→Calls Tryz.prog 97 #[.slice E6 r.left.length f6,.int .i64 (ns:Int)] C (Ret fun v w'=>v=.int .i64 (Aa r.left (ns:Int))∧Below C.heap.size C w'):=fun C W=>B0 (by omega) (dk.out.keep (fun _ J=>W.cell J) W.size)
 have bw:∀C,Below w.heap.size w C→Calls Tryz.prog 97 #[.slice E7 r.right.length f7,.int .i64 (ns:Int)] C (Ret fun v w'=>v=.int .i64 (Aa r.right (ns:Int))∧Below C.heap.size C w'):=fun C W=>B0 (by omega) (dl.out.keep (fun _ J=>W.cell J) W.size)
 have bt:∀C,Below w.heap.size w C→Calls Tryz.prog 97 #[.slice E8 r.parent.length f8,.int .i64 (ns:Int)] C (Ret fun v w'=>v=.int .i64 (Aa r.parent (ns:Int))∧Below C.heap.size C w'):=fun C W=>B0 (by omega) (dm.out.keep (fun _ J=>W.cell J) W.size)
 have eJ:decide (r.kind≤3)=(p.topo==1):=by cases h1:decide (r.kind≤3) <;> cases h2:(p.topo==1) <;> simp [h1,h2] at bk ⊢
 have eK:=hide bk
 clear bk
 go_enter Tryz.func138,Tryz.ntmps138
 go_wp2_with fail
 refine Reg.cI [0,1,0,7,15,0,32,96,0,287,1023] [0,1,2,3,4,5,6,7,8,9,10] ?_
 refine Reg.wI [0,1,2,3,4,5,6,7,8] [9,10] rfl fun Qf am=>?_
 go_wp2_with fail
 first | refine am _ _ ⟨rfl,?_⟩ | refine⟨rfl,?_⟩ | refine am _ _ ⟨by simp [Reg.fineT,Reg.intOp,Region.wanted,yielded,Reg.intFine,Reg.isInt,Act.eval],?_⟩
 try clear am
 refine Reg.aI 9 [10] [6] rfl fun Qf am=>?_
 simp only [gT,gS,gZ]
 go_wp2_with fail
 first | refine am _ _ ⟨?_,?_⟩ | refine⟨?_,?_⟩
 ·intro z hz q hq
  simp only [List.mem_cons,List.not_mem_nil,or_false] at hz
  subst hz
  injection hq with hq
  subst hq
  exact Reg.same_load1 rfl rfl (((dc.out.kept ((Ac.refl _ (fun _=>False)).alloc _) id).cell 2).trans bX) ((db.out.cell 2).trans bX) Tryz.underlying22 rfl
 try clear am
 refine Reg.wI [10] [] rfl fun Qf am=>?_
 go_wp2_with fail
 first | refine am _ _ ⟨rfl,?_⟩ | refine⟨rfl,?_⟩ | refine am _ _ ⟨by simp [Reg.fineT,Reg.intOp,Region.wanted,yielded,Reg.intFine,Reg.isInt,Act.eval],?_⟩
 try clear am
 first | refine Reg.restI_end ?_ | skip
 have dM:=hide cJ
 clear cJ dW dB
 have ev:=bH.out.b2.cell
 have eB:=bH.out.b5.cell
 go_wp2_with fail
 go_wp2_with (go_at_call 96; refine Calls.ret (Cm r.name _ (by omega)) ?_; rintro v w3 ⟨rfl,bK⟩; rw [cF.out]; have bI:=hide (bH.out.at bK); have ew:=bI.out.b2.cell; have eD:=bI.out.b5.cell; have cv:=hide (aT.out.trans (bK.mono aT.out.size)); clear bK)
 go_loopw [7] (fun ii wr=>∃(k:Nat),ii=.int .i64 (k:Int)∧k≤i∧Hid (Below w3.heap.size w3 wr)∧Hid ((p.rules.take k).all (fun x=>!decide (x.name=r.name))=true)) (fun ii _=>i - (intOf ii).toNat)
 case atStart=>exact⟨0,rfl,Nat.zero_le _,Below.refl _ _,by show _=_; simp⟩
 case round=>
  obtain⟨k,rfl,hk,bi,hE⟩:=hrel
  have aE:=hide (bI.out.at bi.out)
  have ey:=aE.out.b2.cell
  have eE:=aE.out.b5.cell
  have be:=hide (cv.out.trans (bi.out.mono cv.out.size))
  by_cases dC:k<i
  ·obtain⟨x,W⟩:∃x,p.rules[k]?=some x:=⟨_,List.getElem?_eq_getElem (by have:=dG.out; omega)⟩
   obtain⟨b',fv,xc,ca,et,ce,cA,-⟩:=Du (df.out.keep (w':=wr) (B':=w.heap.size) (R':=AW wr w.heap.size) (fun _ J=>be.out.cell J) (fun _ _ h=>h.keep (fun _ J=>be.out.cell J) (Nat.le_refl _)) (Nat.le_refl _)) W
   have e1:=Option.some.inj ca
   injection e1 with e1 e2 _
   subst e1 e2
   have ba:=ce.is.cells
   simp only [Array.toArray_toList] at ba
   obtain⟨-,-,-,-,-,-,-,-,-,-,-,-,-,-,-,-,⟨-,ba,-⟩,-⟩:=ba
   have e0:=cA 0 _ ba
   simp only [Nat.add_zero] at e0
   have cL:=hide W
   clear cA ce W ba ca
   by_cases bc:x.name=r.name
   ·exfalso
    have h1:=dX.out
    rw [List.any_eq_false] at h1
    refine h1 x (List.mem_of_getElem? (i:=k) ?_) (decide_eq_true bc)
    rw [List.getElem?_take,if_pos dC]
    exact cL.out
   ·have hq:(x.name.toList==r.name.toList)=false:=by rw [DM]; exact decide_eq_false bc
    have bW:=hide (Cq (p:=fun x:Az=>!decide (x.name=r.name)) cL.out hE.out (by simp [bc]))
    have dq:=hide (bi.out.trans ((Ap wr).mono bi.out.size))
    clear bc
    go_wp2_with fail
    refine Reg.cP [0,1,0,7,15,31,0,64,255] ?_
    go_wp2_with fail
    exact⟨⟨k+1,by go_num,by omega,dq.out,bW.out⟩,by simp [intOf]; omega⟩
  ·clear hE
   have bG:=hide (cg.out.symm.trans (Se de.out av))
   have q1:(r.kind==1)=true:=by rw [av]; rfl
   have q2:(r.kind==2)=false:=by rw [av]; rfl
   have q3:(r.kind==3)=false:=by rw [av]; rfl
   have q4:(r.kind==4)=false:=by rw [av]; rfl
   have q5:(r.kind==5)=false:=by rw [av]; rfl
   have fx:(r.kind==2||r.kind==5)=false:=by rw [q2,q5]; rfl
   have dA:=hide av
   clear av
   have ag:=hide (show r.left=[]∧r.right=[]∧r.parent=[] from dn.out.l (by rw [dA.out]; decide))
   have eM:=Ah aE.out.b2 dK.out
   have eN:=Ah aE.out.b5 dM.out
   go_wp2_with (first
    | (go_at_call 98; refine(Ao _ _ _ _).mono ?_; rintro e w' ⟨rfl,rfl⟩; rw [cE.out])
    | (go_at_call 192; refine Calls.ret (FD aE.out.pr aE.out.ru dV.out) ?_; rintro v w5 ⟨rfl,bL⟩; rw [bZ.out]; have bJ:=hide (aE.out.at bL); have ez:=bJ.out.b2.cell; have eF:=bJ.out.b5.cell; have bf:=hide (be.out.trans (bL.mono be.out.size)); clear bL))
   obtain⟨ng,bS⟩:∃n,n=r.guards.length:=⟨_,rfl⟩
   rw [←bS] at dL cK
   have bs:=hide bS
   clear bS
   cases bn:inC r.fr 0 ((ns:Int) - 1)
   case false=>
    have aO:=hide bn
    clear bn
    refine(Ao _ _ _ _).mono ?_; rintro e w' ⟨rfl,rfl⟩; rw [aO.out]; go_wp2_with fail
    go_ret
    exact⟨congrArg (Value.int .i64) (bG.out.trans (by rw [show inN r.fr (ns:Int)=false from aO.out]; rfl)).symm,bf.out⟩
   have aO:=hide bn
   clear bn
   refine(Ao _ _ _ _).mono ?_; rintro e w' ⟨rfl,rfl⟩; rw [aO.out]; go_wp2_with fail
   cases bx:inC r.to 0 ((ns:Int) - 1)
   case false=>
    have b0:=hide bx
    clear bx
    refine(Ao _ _ _ _).mono ?_; rintro e w' ⟨rfl,rfl⟩; rw [b0.out]; go_wp2_with fail
    go_ret
    exact⟨congrArg (Value.int .i64) (bG.out.trans (by rw [show inN r.fr (ns:Int)=true from aO.out,show inN r.to (ns:Int)=false from b0.out]; rfl)).symm,bf.out⟩
   have b0:=hide bx
   clear bx
   refine(Ao _ _ _ _).mono ?_; rintro e w' ⟨rfl,rfl⟩; rw [b0.out]; go_wp2_with fail
   have bd:=hide (show EV=orE (Aj (B7 (nm:Int)) r.guards) (orE (Ad (decide (2<r.guards.length)) 4) (orE (Aa r.ex (ns:Int)) (orE (Aa r.fa (ns:Int)) (orE (Ad (!AO r.rd (nv:Int)||!AO r.wr (nv:Int)) 5) (Aa r.send (nm:Int)))))) from bG.out.trans (by rw [show inN r.fr (ns:Int)=true from aO.out,show inN r.to (ns:Int)=true from b0.out]; rfl))
   go_loopw [10] (fun ii wr=>∃(k:Nat),ii=.int .i64 (k:Int)∧k≤ng∧Hid (Below w5.heap.size w5 wr)∧Hid (Aj (B7 (nm:Int)) (r.guards.take k)=0)) (fun ii _=>ng - (intOf ii).toNat)
   case atStart=>exact⟨0,rfl,Nat.zero_le _,Below.refl _ _,by show _=_; rfl⟩
   case round=>
    obtain⟨k,rfl,hk,bj,aS⟩:=hrel
    have b3:=hide (bJ.out.at bj.out)
    have eA:=b3.out.b2.cell
    have eG:=b3.out.b5.cell
    have an:=hide (bf.out.trans (bj.out.mono bf.out.size))
    by_cases eQ:k<ng
    ·obtain⟨b2,cO,g,da,ao,hg,cz⟩:=(dg.out.keep (w':=wr) (B':=w.heap.size) (fun _ J=>an.out.cell J) (Nat.le_refl _)).at (k:=k) (by have:=bs.out; omega)
     have eP:(loadCellsFrom ⟨b2,cO+k*6,none⟩ 0 6 #[]).run Tryz.prog wr=.ok #[.int .i64 g.msg,.int .i64 g.coef,.int .i64 g.bound.c,.int .i64 g.bound.n,.int .i64 g.bound.t,.int .i64 g.bound.f] wr:=by
      have:=run_loadCells_list (P:=Tryz.prog) wr ⟨b2,cO+k*6,none⟩ (C4 g) (fun k v O=>by
       rw [Addr.add_mid]
       have hk:=AP O
       rw [cz k hk]
       match k,hk,O with
       | 0,_,O=>exact congrArg some (Option.some.inj O)
       | 1,_,O=>exact congrArg some (Option.some.inj O)
       | 2,_,O=>exact congrArg some (Option.some.inj O)
       | 3,_,O=>exact congrArg some (Option.some.inj O)
       | 4,_,O=>exact congrArg some (Option.some.inj O)
       | 5,_,O=>exact congrArg some (Option.some.inj O))
      simpa [loadCells,C4] using this
     obtain⟨w7,dZ,af,bF,dz⟩:=Ae wr #[.int .i64 g.msg,.int .i64 g.coef,.int .i64 g.bound.c,.int .i64 g.bound.n,.int .i64 g.bound.t,.int .i64 g.bound.f] 217
     have fs:∀c:Array Value,c.size=6→(storeCells ⟨wr.heap.size,0,none⟩ [.int .i64 g.msg,.int .i64 g.coef,.int .i64 g.bound.c,.int .i64 g.bound.n,.int .i64 g.bound.t,.int .i64 g.bound.f] 0).run Tryz.prog (wr.alloc (.cells c 217))=.ok () w7:=fun c hc=>by rw [←dZ]; exact Dv wr 217 6 (by kernel_rfl) (rc:=#[.int .i64 g.msg,.int .i64 g.coef,.int .i64 g.bound.c,.int .i64 g.bound.n,.int .i64 g.bound.t,.int .i64 g.bound.f]) rfl (by simp [Value.oneCell']) c hc
     have eH:=bF.cell
     have eO:(loadCellsFrom ⟨wr.heap.size,2,none⟩ 0 4 #[]).run Tryz.prog w7=.ok #[.int .i64 g.bound.c,.int .i64 g.bound.n,.int .i64 g.bound.t,.int .i64 g.bound.f] w7:=by
      have:=run_loadCells_list (P:=Tryz.prog) w7 ⟨wr.heap.size,2,none⟩ [.int .i64 g.bound.c,.int .i64 g.bound.n,.int .i64 g.bound.t,.int .i64 g.bound.f] (fun j v O=>by
       rw [Addr.add_mid,bF.cell]
       have hj:=AP O
       match j,hj,O with
       | 0,_,O=>exact congrArg some (Option.some.inj O)
       | 1,_,O=>exact congrArg some (Option.some.inj O)
       | 2,_,O=>exact congrArg some (Option.some.inj O)
       | 3,_,O=>exact congrArg some (Option.some.inj O))
      simpa [loadCells] using this
     have bo:=hide hg
     have aa:=hide (b3.out.at af)
     have cx:=aa.out.b2.cell
     have cy:=aa.out.b5.cell
     have V:=hide (an.out.trans (af.mono an.out.size))
     have cw:=hide (bj.out.trans (af.mono bj.out.size))
     clear af
     subst da
     clear cz hg dz bF
     go_wp2_with fail
     cases br:inC g.msg 0 ((nm:Int) - 1)
     case false=>
      have ax:=hide br
      clear br
      have b9:=hide (show Aj (B7 (nm:Int)) r.guards=5 from by
       have h1:B7 (nm:Int) g=5:=by
        unfold B7
        rw [C5,ax.out]
        rfl
       rw [Ct (B7 (nm:Int)) bo.out aS.out (by rw [h1]; decide),h1])
      refine(Ao _ _ _ _).mono ?_; rintro e w' ⟨rfl,rfl⟩; rw [ax.out]; go_wp2_with fail
      go_ret
      exact⟨congrArg (Value.int .i64) (bd.out.trans (by rw [b9.out]; rfl)).symm,V.out⟩
     have ax:=hide br
     clear br
     refine(Ao _ _ _ _).mono ?_; rintro e w' ⟨rfl,rfl⟩; rw [ax.out]; go_wp2_with fail
     cases bl:inC g.coef 1 100
     case false=>
      have aN:=hide bl
      clear bl
      have b9:=hide (show Aj (B7 (nm:Int)) r.guards=1 from by
       have h1:B7 (nm:Int) g=1:=by
        unfold B7
        rw [C5,ax.out,show(decide (1≤g.coef)&&decide (g.coef≤100))=false from aN.out]
        rfl
       rw [Ct (B7 (nm:Int)) bo.out aS.out (by rw [h1]; decide),h1])
      refine(Ao _ _ _ _).mono ?_; rintro e w' ⟨rfl,rfl⟩; rw [aN.out]; go_wp2_with fail
      go_ret
      exact⟨congrArg (Value.int .i64) (bd.out.trans (by rw [b9.out]; rfl)).symm,V.out⟩
     have aN:=hide bl
     clear bl
     refine(Ao _ _ _ _).mono ?_; rintro e w' ⟨rfl,rfl⟩; rw [aN.out]; go_wp2_with fail
     cases bq:Bg g.bound
     case false=>
      have aZ:=hide bq
      clear bq
      have b9:=hide (show Aj (B7 (nm:Int)) r.guards=4 from by
       have h1:B7 (nm:Int) g=4:=by
        unfold B7
        rw [C5,ax.out,show(decide (1≤g.coef)&&decide (g.coef≤100))=true from aN.out,aZ.out]
        rfl
       rw [Ct (B7 (nm:Int)) bo.out aS.out (by rw [h1]; decide),h1])
      refine Calls.ret (Gv g.bound _) ?_; rintro v w8 ⟨rfl,I⟩; rw [aZ.out]; have M:=hide (aa.out.at I); have b4:=M.out.b2.cell; have b6:=M.out.b5.cell; have y:=hide (V.out.trans (I.mono V.out.size)); clear I; go_wp2_with fail
      go_ret
      exact⟨congrArg (Value.int .i64) (bd.out.trans (by rw [b9.out]; rfl)).symm,y.out⟩
     have aZ:=hide bq
     clear bq
     have bW:=hide (show Aj (B7 (nm:Int)) (r.guards.take (k+1))=0 from by
      rw [CD (B7 (nm:Int)) bo.out aS.out]
      unfold B7
      rw [C5,ax.out,show(decide (1≤g.coef)&&decide (g.coef≤100))=true from aN.out,aZ.out]
      rfl)
     refine Calls.ret (Gv g.bound _) ?_; rintro v w8 ⟨rfl,I⟩; rw [aZ.out]; have dp:=hide (cw.out.trans (I.mono cw.out.size)); clear I; go_wp2_with fail
     exact⟨⟨k+1,by go_num,by omega,dp.out,bW.out⟩,by simp [intOf]; omega⟩
    ·have cr:=hide (show EV=orE (Ad (decide (2<r.guards.length)) 4) (orE (Aa r.ex (ns:Int)) (orE (Aa r.fa (ns:Int)) (orE (Ad (!AO r.rd (nv:Int)||!AO r.wr (nv:Int)) 5) (Aa r.send (nm:Int))))) from bd.out.trans (by
      have h1:=aS.out
      rw [List.take_of_length_le (by have:=bs.out; omega)] at h1
      rw [h1]
      rfl))
     clear aS
     by_cases eL:2<ng
     case pos=>
      have Q2:(2:Int)<(ng:Int):=by omega
      go_wp2_with fail
      go_ret
      exact⟨congrArg (Value.int .i64) (cr.out.trans (by rw [decide_eq_true (show 2<r.guards.length by have:=bs.out; omega)]; rfl)).symm,an.out⟩
     have Q2:¬(2:Int)<(ng:Int):=by omega
     have ct:=hide (show EV=orE (Aa r.ex (ns:Int)) (orE (Aa r.fa (ns:Int)) (orE (Ad (!AO r.rd (nv:Int)||!AO r.wr (nv:Int)) 5) (Aa r.send (nm:Int)))) from cr.out.trans (by rw [decide_eq_false (show ¬2<r.guards.length by have:=bs.out; omega)]; rfl))
     go_wp2_with fail
     obtain⟨bB,bm⟩:∃e,Hid (Aa r.ex (ns:Int)=e):=⟨_,rfl⟩
     by_cases aQ:bB=0
     case neg=>
      have e5:(bB != 0)=true:=by simp [aQ]
      have H0:=hide aQ
      clear aQ
      refine Calls.ret (cB _ an.out) ?_; rintro v w7 ⟨rfl,af⟩; rw [bm.out]; have aa:=hide (b3.out.at af); have cx:=aa.out.b2.cell; have cy:=aa.out.b5.cell; have V:=hide (an.out.trans (af.mono an.out.size)); clear af; go_wp2_with fail
      go_ret
      exact⟨congrArg (Value.int .i64) (ct.out.trans (by rw [bm.out]; exact BF H0.out)).symm,V.out⟩
     have e5:(bB != 0)=false:=by simp [aQ]
     have cY:=hide aQ
     clear aQ
     have cu:=hide (show EV=orE (Aa r.fa (ns:Int)) (orE (Ad (!AO r.rd (nv:Int)||!AO r.wr (nv:Int)) 5) (Aa r.send (nm:Int))) from ct.out.trans (by rw [bm.out,cY.out]; rfl))
     refine Calls.ret (cB _ an.out) ?_; rintro v w7 ⟨rfl,af⟩; rw [bm.out]; have aa:=hide (b3.out.at af); have cx:=aa.out.b2.cell; have cy:=aa.out.b5.cell; have V:=hide (an.out.trans (af.mono an.out.size)); clear af; go_wp2_with fail
     obtain⟨bC,aJ⟩:∃e,Hid (Aa r.fa (ns:Int)=e):=⟨_,rfl⟩
     by_cases aR:bC=0
     case neg=>
      have e6:(bC != 0)=true:=by simp [aR]
      have H0:=hide aR
      clear aR
      refine Calls.ret (b7 _ V.out) ?_; rintro v w8 ⟨rfl,I⟩; rw [aJ.out]; have M:=hide (aa.out.at I); have b4:=M.out.b2.cell; have b6:=M.out.b5.cell; have y:=hide (V.out.trans (I.mono V.out.size)); clear I; go_wp2_with fail
      go_ret
      exact⟨congrArg (Value.int .i64) (cu.out.trans (by rw [aJ.out]; exact BF H0.out)).symm,y.out⟩
     have e6:(bC != 0)=false:=by simp [aR]
     have cZ:=hide aR
     clear aR
     have au:=hide (show EV=orE (Ad (!AO r.rd (nv:Int)||!AO r.wr (nv:Int)) 5) (Aa r.send (nm:Int)) from cu.out.trans (by rw [aJ.out,cZ.out]; rfl))
     by_cases aV:r.rd= -1
     case pos=>
      have d1:(r.rd != -1)=false:=by simp [aV]
      have aP:=hide aV
      clear aV
      have V1:=hide (show AO r.rd (nv:Int)=true from by rw [aP.out]; exact DW (by omega))
      by_cases ad:r.wr= -1
      case pos=>
       have bz:(r.wr != -1)=false:=by simp [ad]
       have ap:=hide ad
       clear ad
       have V2:=hide (show AO r.wr (nv:Int)=true from by rw [ap.out]; exact DW (by omega))
       refine Calls.ret (b7 _ V.out) ?_; rintro v w8 ⟨rfl,I⟩; rw [aJ.out]; have M:=hide (aa.out.at I); have b4:=M.out.b2.cell; have b6:=M.out.b5.cell; have y:=hide (V.out.trans (I.mono V.out.size)); clear I; go_wp2_with fail
       have ak:=hide (show EV=Aa r.send (nm:Int) from au.out.trans (by rw [V1.out,V2.out]; rfl))
       obtain⟨a2,Z⟩:∃e,Hid (Aa r.send (nm:Int)=e):=⟨_,rfl⟩
       by_cases F:a2=0
       case neg=>
        have aL:(a2 != 0)=true:=by simp [F]
        have H0:=hide F
        clear F
        refine Calls.ret (aw _ y.out) ?_; rintro v w9 ⟨rfl,E⟩; rw [Z.out]; have G:=hide (M.out.at E); have aG:=G.out.b2.cell; have aH:=G.out.b5.cell; have U:=hide (y.out.trans (E.mono y.out.size)); clear E; go_wp2_with fail
        go_ret
        exact⟨congrArg (Value.int .i64) (ak.out.trans (by rw [Z.out])).symm,U.out⟩
       have aL:(a2 != 0)=false:=by simp [F]
       have az:=hide F
       clear F
       have aD:=hide (show EV=0 from ak.out.trans (by rw [Z.out,az.out]))
       refine Calls.ret (aw _ y.out) ?_; rintro v w9 ⟨rfl,E⟩; rw [Z.out]; have G:=hide (M.out.at E); have aG:=G.out.b2.cell; have aH:=G.out.b5.cell; have U:=hide (y.out.trans (E.mono y.out.size)); clear E; go_wp2_with fail
       have aA:=hide (show Aa r.left (ns:Int)=0 from by rw [ag.out.1]; rfl)
       refine Calls.ret (bp _ U.out) ?_; rintro v wa ⟨rfl,a7⟩; rw [aA.out]; have a3:=hide (G.out.at a7); have bM:=a3.out.b2.cell; have bP:=a3.out.b5.cell; have a5:=hide (U.out.trans (a7.mono U.out.size)); clear a7; go_wp2_with fail
       have aC:=hide (show Aa r.right (ns:Int)=0 from by rw [ag.out.2.1]; rfl)
       refine Calls.ret (bw _ a5.out) ?_; rintro v wb ⟨rfl,a8⟩; rw [aC.out]; have a4:=hide (a3.out.at a8); have bN:=a4.out.b2.cell; have bQ:=a4.out.b5.cell; have a6:=hide (a5.out.trans (a8.mono a5.out.size)); clear a8; go_wp2_with fail
       have aB:=hide (show Aa r.parent (ns:Int)=0 from by rw [ag.out.2.2]; rfl)
       refine Calls.ret (bt _ a6.out) ?_; rintro v wc ⟨rfl,a9⟩; rw [aB.out]; have al:=hide (a4.out.at a9); have bO:=al.out.b2.cell; have bR:=al.out.b5.cell; have aF:=hide (a6.out.trans (a9.mono a6.out.size)); clear a9; go_wp2_with fail
       go_ret
       exact⟨congrArg (Value.int .i64) (aD.out).symm,aF.out⟩
      have bz:(r.wr != -1)=true:=by simp [ad]
      have ap:=hide ad
      clear ad
      refine Calls.ret (b7 _ V.out) ?_; rintro v w8 ⟨rfl,I⟩; rw [aJ.out]; have M:=hide (aa.out.at I); have b4:=M.out.b2.cell; have b6:=M.out.b5.cell; have y:=hide (V.out.trans (I.mono V.out.size)); clear I; go_wp2_with fail
      cases ar:inC r.wr 0 ((nv:Int) - 1)
      case false=>
       have ai:=hide ar
       clear ar
       have V2:=hide (show AO r.wr (nv:Int)=false from(Cd ap.out).trans ai.out)
       refine(Ao _ _ _ _).mono ?_; rintro e w' ⟨rfl,rfl⟩; rw [ai.out]; go_wp2_with fail
       go_ret
       exact⟨congrArg (Value.int .i64) (au.out.trans (by rw [V1.out,V2.out]; rfl)).symm,y.out⟩
      have ai:=hide ar
      clear ar
      have V2:=hide (show AO r.wr (nv:Int)=true from(Cd ap.out).trans ai.out)
      refine(Ao _ _ _ _).mono ?_; rintro e w' ⟨rfl,rfl⟩; rw [ai.out]; go_wp2_with fail
      have ak:=hide (show EV=Aa r.send (nm:Int) from au.out.trans (by rw [V1.out,V2.out]; rfl))
      obtain⟨a2,Z⟩:∃e,Hid (Aa r.send (nm:Int)=e):=⟨_,rfl⟩
      by_cases F:a2=0
      case neg=>
       have aL:(a2 != 0)=true:=by simp [F]
       have H0:=hide F
       clear F
       refine Calls.ret (aw _ y.out) ?_; rintro v w9 ⟨rfl,E⟩; rw [Z.out]; have G:=hide (M.out.at E); have aG:=G.out.b2.cell; have aH:=G.out.b5.cell; have U:=hide (y.out.trans (E.mono y.out.size)); clear E; go_wp2_with fail
       go_ret
       exact⟨congrArg (Value.int .i64) (ak.out.trans (by rw [Z.out])).symm,U.out⟩
      have aL:(a2 != 0)=false:=by simp [F]
      have az:=hide F
      clear F
      have aD:=hide (show EV=0 from ak.out.trans (by rw [Z.out,az.out]))
      refine Calls.ret (aw _ y.out) ?_; rintro v w9 ⟨rfl,E⟩; rw [Z.out]; have G:=hide (M.out.at E); have aG:=G.out.b2.cell; have aH:=G.out.b5.cell; have U:=hide (y.out.trans (E.mono y.out.size)); clear E; go_wp2_with fail
      have aA:=hide (show Aa r.left (ns:Int)=0 from by rw [ag.out.1]; rfl)
      refine Calls.ret (bp _ U.out) ?_; rintro v wa ⟨rfl,a7⟩; rw [aA.out]; have a3:=hide (G.out.at a7); have bM:=a3.out.b2.cell; have bP:=a3.out.b5.cell; have a5:=hide (U.out.trans (a7.mono U.out.size)); clear a7; go_wp2_with fail
      have aC:=hide (show Aa r.right (ns:Int)=0 from by rw [ag.out.2.1]; rfl)
      refine Calls.ret (bw _ a5.out) ?_; rintro v wb ⟨rfl,a8⟩; rw [aC.out]; have a4:=hide (a3.out.at a8); have bN:=a4.out.b2.cell; have bQ:=a4.out.b5.cell; have a6:=hide (a5.out.trans (a8.mono a5.out.size)); clear a8; go_wp2_with fail
      have aB:=hide (show Aa r.parent (ns:Int)=0 from by rw [ag.out.2.2]; rfl)
      refine Calls.ret (bt _ a6.out) ?_; rintro v wc ⟨rfl,a9⟩; rw [aB.out]; have al:=hide (a4.out.at a9); have bO:=al.out.b2.cell; have bR:=al.out.b5.cell; have aF:=hide (a6.out.trans (a9.mono a6.out.size)); clear a9; go_wp2_with fail
      go_ret
      exact⟨congrArg (Value.int .i64) (aD.out).symm,aF.out⟩
     have d1:(r.rd != -1)=true:=by simp [aV]
     have aP:=hide aV
     clear aV
     by_cases ad:r.wr= -1
     case pos=>
      have bz:(r.wr != -1)=false:=by simp [ad]
      have ap:=hide ad
      clear ad
      have V2:=hide (show AO r.wr (nv:Int)=true from by rw [ap.out]; exact DW (by omega))
      refine Calls.ret (b7 _ V.out) ?_; rintro v w8 ⟨rfl,I⟩; rw [aJ.out]; have M:=hide (aa.out.at I); have b4:=M.out.b2.cell; have b6:=M.out.b5.cell; have y:=hide (V.out.trans (I.mono V.out.size)); clear I; go_wp2_with fail
      cases aq:inC r.rd 0 ((nv:Int) - 1)
      case false=>
       have ah:=hide aq
       clear aq
       have V1:=hide (show AO r.rd (nv:Int)=false from(Cd aP.out).trans ah.out)
       refine(Ao _ _ _ _).mono ?_; rintro e w' ⟨rfl,rfl⟩; rw [ah.out]; go_wp2_with fail
       go_ret
       exact⟨congrArg (Value.int .i64) (au.out.trans (by rw [V1.out]; rfl)).symm,y.out⟩
      have ah:=hide aq
      clear aq
      have V1:=hide (show AO r.rd (nv:Int)=true from(Cd aP.out).trans ah.out)
      refine(Ao _ _ _ _).mono ?_; rintro e w' ⟨rfl,rfl⟩; rw [ah.out]; go_wp2_with fail
      have ak:=hide (show EV=Aa r.send (nm:Int) from au.out.trans (by rw [V1.out,V2.out]; rfl))
      obtain⟨a2,Z⟩:∃e,Hid (Aa r.send (nm:Int)=e):=⟨_,rfl⟩
      by_cases F:a2=0
      case neg=>
       have aL:(a2 != 0)=true:=by simp [F]
       have H0:=hide F
       clear F
       refine Calls.ret (aw _ y.out) ?_; rintro v w9 ⟨rfl,E⟩; rw [Z.out]; have G:=hide (M.out.at E); have aG:=G.out.b2.cell; have aH:=G.out.b5.cell; have U:=hide (y.out.trans (E.mono y.out.size)); clear E; go_wp2_with fail
       go_ret
       exact⟨congrArg (Value.int .i64) (ak.out.trans (by rw [Z.out])).symm,U.out⟩
      have aL:(a2 != 0)=false:=by simp [F]
      have az:=hide F
      clear F
      have aD:=hide (show EV=0 from ak.out.trans (by rw [Z.out,az.out]))
      refine Calls.ret (aw _ y.out) ?_; rintro v w9 ⟨rfl,E⟩; rw [Z.out]; have G:=hide (M.out.at E); have aG:=G.out.b2.cell; have aH:=G.out.b5.cell; have U:=hide (y.out.trans (E.mono y.out.size)); clear E; go_wp2_with fail
      have aA:=hide (show Aa r.left (ns:Int)=0 from by rw [ag.out.1]; rfl)
      refine Calls.ret (bp _ U.out) ?_; rintro v wa ⟨rfl,a7⟩; rw [aA.out]; have a3:=hide (G.out.at a7); have bM:=a3.out.b2.cell; have bP:=a3.out.b5.cell; have a5:=hide (U.out.trans (a7.mono U.out.size)); clear a7; go_wp2_with fail
      have aC:=hide (show Aa r.right (ns:Int)=0 from by rw [ag.out.2.1]; rfl)
      refine Calls.ret (bw _ a5.out) ?_; rintro v wb ⟨rfl,a8⟩; rw [aC.out]; have a4:=hide (a3.out.at a8); have bN:=a4.out.b2.cell; have bQ:=a4.out.b5.cell; have a6:=hide (a5.out.trans (a8.mono a5.out.size)); clear a8; go_wp2_with fail
      have aB:=hide (show Aa r.parent (ns:Int)=0 from by rw [ag.out.2.2]; rfl)
      refine Calls.ret (bt _ a6.out) ?_; rintro v wc ⟨rfl,a9⟩; rw [aB.out]; have al:=hide (a4.out.at a9); have bO:=al.out.b2.cell; have bR:=al.out.b5.cell; have aF:=hide (a6.out.trans (a9.mono a6.out.size)); clear a9; go_wp2_with fail
      go_ret
      exact⟨congrArg (Value.int .i64) (aD.out).symm,aF.out⟩
     have bz:(r.wr != -1)=true:=by simp [ad]
     have ap:=hide ad
     clear ad
     refine Calls.ret (b7 _ V.out) ?_; rintro v w8 ⟨rfl,I⟩; rw [aJ.out]; have M:=hide (aa.out.at I); have b4:=M.out.b2.cell; have b6:=M.out.b5.cell; have y:=hide (V.out.trans (I.mono V.out.size)); clear I; go_wp2_with fail
     cases aq:inC r.rd 0 ((nv:Int) - 1)
     case false=>
      have ah:=hide aq
      clear aq
      have V1:=hide (show AO r.rd (nv:Int)=false from(Cd aP.out).trans ah.out)
      refine(Ao _ _ _ _).mono ?_; rintro e w' ⟨rfl,rfl⟩; rw [ah.out]; go_wp2_with fail
      go_ret
      exact⟨congrArg (Value.int .i64) (au.out.trans (by rw [V1.out]; rfl)).symm,y.out⟩
     have ah:=hide aq
     clear aq
     have V1:=hide (show AO r.rd (nv:Int)=true from(Cd aP.out).trans ah.out)
     refine(Ao _ _ _ _).mono ?_; rintro e w' ⟨rfl,rfl⟩; rw [ah.out]; go_wp2_with fail
     cases ar:inC r.wr 0 ((nv:Int) - 1)
     case false=>
      have ai:=hide ar
      clear ar
      have V2:=hide (show AO r.wr (nv:Int)=false from(Cd ap.out).trans ai.out)
      refine(Ao _ _ _ _).mono ?_; rintro e w' ⟨rfl,rfl⟩; rw [ai.out]; go_wp2_with fail
      go_ret
      exact⟨congrArg (Value.int .i64) (au.out.trans (by rw [V1.out,V2.out]; rfl)).symm,y.out⟩
     have ai:=hide ar
     clear ar
     have V2:=hide (show AO r.wr (nv:Int)=true from(Cd ap.out).trans ai.out)
     refine(Ao _ _ _ _).mono ?_; rintro e w' ⟨rfl,rfl⟩; rw [ai.out]; go_wp2_with fail
     have ak:=hide (show EV=Aa r.send (nm:Int) from au.out.trans (by rw [V1.out,V2.out]; rfl))
     obtain⟨a2,Z⟩:∃e,Hid (Aa r.send (nm:Int)=e):=⟨_,rfl⟩
     by_cases F:a2=0
     case neg=>
      have aL:(a2 != 0)=true:=by simp [F]
      have H0:=hide F
      clear F
      refine Calls.ret (aw _ y.out) ?_; rintro v w9 ⟨rfl,E⟩; rw [Z.out]; have G:=hide (M.out.at E); have aG:=G.out.b2.cell; have aH:=G.out.b5.cell; have U:=hide (y.out.trans (E.mono y.out.size)); clear E; go_wp2_with fail
      go_ret
      exact⟨congrArg (Value.int .i64) (ak.out.trans (by rw [Z.out])).symm,U.out⟩
     have aL:(a2 != 0)=false:=by simp [F]
     have az:=hide F
     clear F
     have aD:=hide (show EV=0 from ak.out.trans (by rw [Z.out,az.out]))
     refine Calls.ret (aw _ y.out) ?_; rintro v w9 ⟨rfl,E⟩; rw [Z.out]; have G:=hide (M.out.at E); have aG:=G.out.b2.cell; have aH:=G.out.b5.cell; have U:=hide (y.out.trans (E.mono y.out.size)); clear E; go_wp2_with fail
     have aA:=hide (show Aa r.left (ns:Int)=0 from by rw [ag.out.1]; rfl)
     refine Calls.ret (bp _ U.out) ?_; rintro v wa ⟨rfl,a7⟩; rw [aA.out]; have a3:=hide (G.out.at a7); have bM:=a3.out.b2.cell; have bP:=a3.out.b5.cell; have a5:=hide (U.out.trans (a7.mono U.out.size)); clear a7; go_wp2_with fail
     have aC:=hide (show Aa r.right (ns:Int)=0 from by rw [ag.out.2.1]; rfl)
     refine Calls.ret (bw _ a5.out) ?_; rintro v wb ⟨rfl,a8⟩; rw [aC.out]; have a4:=hide (a3.out.at a8); have bN:=a4.out.b2.cell; have bQ:=a4.out.b5.cell; have a6:=hide (a5.out.trans (a8.mono a5.out.size)); clear a8; go_wp2_with fail
     have aB:=hide (show Aa r.parent (ns:Int)=0 from by rw [ag.out.2.2]; rfl)
     refine Calls.ret (bt _ a6.out) ?_; rintro v wc ⟨rfl,a9⟩; rw [aB.out]; have al:=hide (a4.out.at a9); have bO:=al.out.b2.cell; have bR:=al.out.b5.cell; have aF:=hide (a6.out.trans (a9.mono a6.out.size)); clear a9; go_wp2_with fail
     go_ret
     exact⟨congrArg (Value.int .i64) (aD.out).symm,aF.out⟩
end Go.Proofs.YtfcfpoemojjglaaGreatDoor.K
