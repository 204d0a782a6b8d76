/-
  Part CM of a proof.
-/
import Derived.Test.YtfcfpoemojjglaaGreatDoorPA
import Derived.Test.YtfcfpoemojjglaaGreatDoorCJ
import Derived.Test.YtfcfpoemojjglaaGreatDoorCI
set_option maxHeartbeats 16000000
set_option maxRecDepth 100000
set_option linter.unusedVariables false
set_option linter.unusedSimpArgs false
namespace Go.Proofs.YtfcfpoemojjglaaGreatDoor.K
open Go.RowKit
attribute [-go_sem] loadCellsFrom storeCells
theorem SF {w:World} {cs:List Value} {p:Am} {r:Az} {i:Nat} (h:At w w.heap.size cs p) (hr:p.rules[i]?=some r) (hs:r.Small) (eL:r.name.size≤500) (ba:p.Small) (hT:SpOK w) (dY:Hid (((p.rules.take i).any fun x=>decide (x.name=r.name))=false)) (cG:Hid (nameOK r.name=true)) (cF:Hid (inC r.kind 1 5=true)) (bm:(decide (r.kind≤3) != (p.topo==1))=false) (c8:Hid (B9 p.topo r=false)) (av:r.kind=1):
  Calls Tryz.prog 138 #[.agg cs.toArray,.int .i64 (i:Int)] w (Ret fun v w'=>v=.int .i64 (BC nameOK p.topo (p.states.length:Int) (p.messages.length:Int) (p.values.length:Int) false r)∧Below w.heap.size w w'):=by
 obtain⟨A1,c1,A2,c2,A3,c3,A4,c4,A5,c5,A6,c6,A7,c7,cH,eM,eN,bZ,dI,dJ,eO,eP,eQ,eR,eS,-,-,-,-,-,-,h7,du⟩:=h.cells
 have dw:=AP hr
 have dE:=ba.states
 have dF:=ba.messages
 have dG:=ba.values
 have eK:=ba.rules
 have dg:=hide h7
 obtain⟨w1,fl,bi,cd,dy⟩:=Ae w cs.toArray 27
 have aU:=bi.trans ((Ap w1).mono bi.size)
 have bd:Blk w1.drew w.heap.size 27 cs.toArray:=cd
 obtain⟨b,off,rc,hA,el,hC,dv,dC⟩:=Du (h7.keep (w':=w1.drew) (B':=w.heap.size) (R':=AW w1.drew w.heap.size) (fun _ J=>aU.cell J) (fun _ _ h=>h.keep (fun _ J=>aU.cell J) (Nat.le_refl _)) (Nat.le_refl _)) hr
 obtain⟨w2,dZ,bj,ce,dz⟩:=Ae w1.drew rc 99
 have cf:Blk w2 w1.heap.size 99 rc:=ce
 have c0:=Dv w1.drew 99 18 (by kernel_rfl) hC.size hC.one
 rw [dZ] at c0
 have dX:∀c:Array Value,c.size=18→(storeCells ⟨w1.heap.size,0,none⟩ rc.toList 0).run Tryz.prog (w1.alloc (.cells c 99)).drew=.ok () w2:=c0
 clear c0
 have bG:=bd.below bj
 have aT:=hide (aU.trans (bj.mono aU.size))
 have bJ:=hide (show Cp w2 w.heap.size w1.heap.size cs.toArray rc p r from⟨h.keep (fun _ J=>aT.out.cell J) aT.out.size,hC.is.keep (fun _ J=>bj.cell (by show _<w1.heap.size; have:=bi.size; omega)) aT.out.size,bG,cf,hT.below aT.out⟩)
 have cJ:=hC.is.cells
 simp only [Array.toArray_toList] at cJ
 obtain⟨E1,f1,E2,f2,E3,f3,E4,f4,E5,f5,E6,f6,E7,f7,E8,f8,⟨cK,eT,eU,fc,fd,fe,ff,fg,dM,fh,fi,eV,eW,eX,eY,eZ,f0,f9,fb⟩,⟨cj,ck,cl,cm,cn,co,cp,cq⟩⟩:=cJ
 have ao:∀{D:Type} {sz:Nat} {enc:D→Nat→Value} {A:Option Addr} {ds:List D},Sl w1.drew w.heap.size sz enc A ds→Sl w w.heap.size sz enc A ds:=fun h=>h.keep (fun _ J=>(aU.cell J).symm) (Nat.le_refl _)
 have ek:=hide (ao cj)
 have dh:=hide (ao ck)
 have di:=hide (ao cl)
 have dj:=hide (ao cm)
 have dk:=hide (ao cn)
 have dl:=hide (ao co)
 have dm:=hide (ao cp)
 have dn:=hide (ao cq)
 have en:=bd.cell
 have de:=hide bd
 have dc:=hide bG
 generalize dK:cs.toArray=pc at*
 have dL:=hide cH
 obtain⟨dP,cL,dQ,dR,dS,dT,dU,dV⟩:=hs
 have dW:=hide (show r.Small from⟨dP,cL,dQ,dR,dS,dT,dU,dV⟩)
 have fj:=hide hr
 have eB:=du
 have dH:=hide (show i<p.rules.length from dw)
 obtain⟨ns,bW⟩:∃n,n=p.states.length:=⟨_,rfl⟩
 obtain⟨nm,bV⟩:∃n,n=p.messages.length:=⟨_,rfl⟩
 obtain⟨nv,bX⟩:∃n,n=p.values.length:=⟨_,rfl⟩
 have ej:=hide (show ns=p.states.length∧nm=p.messages.length∧nv=p.values.length from⟨bW,bV,bX⟩)
 rw [←bW] at bZ dE ⊢
 rw [←bV] at dI dF ⊢
 rw [←bX] at dJ dG ⊢
 obtain⟨EV,ci⟩:∃e,Hid (BC nameOK p.topo (ns:Int) (nm:Int) (nv:Int) false r=e):=⟨_,rfl⟩
 rw [ci.out]
 subst hA
 clear dv hC dy dz bi bj aU cd ce cf bd bG cH dK hr h h7 bW bV bX hT ba cj ck cl cm cn co cp cq ao
 have df:=hide (show KOK nameOK p.topo r from⟨cG.out,cF.out,bm,c8.out⟩)
 have dp:=hide (DF c8.out)
 have cD:∀C,Below w.heap.size w C→Calls Tryz.prog 97 #[.slice E3 r.ex.length f3,.int .i64 (ns:Int)] C (Ret fun v w'=>v=.int .i64 (Aa r.ex (ns:Int))∧Below C.heap.size C w'):=fun C W=>B0 (by omega) (di.out.keep (fun _ J=>W.cell J) W.size)
 have b9:∀C,Below w.heap.size w C→Calls Tryz.prog 97 #[.slice E4 r.fa.length f4,.int .i64 (ns:Int)] C (Ret fun v w'=>v=.int .i64 (Aa r.fa (ns:Int))∧Below C.heap.size C w'):=fun C W=>B0 (by omega) (dj.out.keep (fun _ J=>W.cell J) W.size)
 have aw:∀C,Below w.heap.size w C→Calls Tryz.prog 97 #[.slice E5 r.send.length f5,.int .i64 (nm:Int)] C (Ret fun v w'=>v=.int .i64 (Aa r.send (nm:Int))∧Below C.heap.size C w'):=fun C W=>B0 (by omega) (dk.out.keep (fun _ J=>W.cell J) W.size)
 have br:∀C,Below w.heap.size w C→Calls Tryz.prog 97 #[.slice E6 r.left.length f6,.int .i64 (ns:Int)] C (Ret fun v w'=>v=.int .i64 (Aa r.left (ns:Int))∧Below C.heap.size C w'):=fun C W=>B0 (by omega) (dl.out.keep (fun _ J=>W.cell J) W.size)
 have bz:∀C,Below w.heap.size w C→Calls Tryz.prog 97 #[.slice E7 r.right.length f7,.int .i64 (ns:Int)] C (Ret fun v w'=>v=.int .i64 (Aa r.right (ns:Int))∧Below C.heap.size C w'):=fun C W=>B0 (by omega) (dm.out.keep (fun _ J=>W.cell J) W.size)
 have bv:∀C,Below w.heap.size w C→Calls Tryz.prog 97 #[.slice E8 r.parent.length f8,.int .i64 (ns:Int)] C (Ret fun v w'=>v=.int .i64 (Aa r.parent (ns:Int))∧Below C.heap.size C w'):=fun C W=>B0 (by omega) (dn.out.keep (fun _ J=>W.cell J) W.size)
 have eC:decide (r.kind≤3)=(p.topo==1):=by cases h1:decide (r.kind≤3) <;> cases h2:(p.topo==1) <;> simp [h1,h2] at bm ⊢
 have eD:=hide bm
 clear bm
 go_enter Tryz.func138,Tryz.ntmps138
 go_wp2_with fail
 refine Reg.cI [0,1,0,7,15,0,32,96,0,287,1023] [0,1,2,3,4,5,6,7,8,9,10] ?_
 refine Reg.wI [0,1,2,3,4,5,6,7,8] [9,10] rfl fun Qf am=>?_
 go_wp2_with fail
 first | refine am _ _ ⟨rfl,?_⟩ | refine⟨rfl,?_⟩ | refine am _ _ ⟨by simp [Reg.fineT,Reg.intOp,Region.wanted,yielded,Reg.intFine,Reg.isInt,Act.eval],?_⟩
 try clear am
 refine Reg.aI 9 [10] [6] rfl fun Qf am=>?_
 simp only [gT,gS,gZ]
 go_wp2_with fail
 first | refine am _ _ ⟨?_,?_⟩ | refine⟨?_,?_⟩
 ·intro z hz q hq
  simp only [List.mem_cons,List.not_mem_nil,or_false] at hz
  subst hz
  injection hq with hq
  subst hq
  exact Reg.same_load1 rfl rfl (((de.out.kept ((Ac.refl _ (fun _=>False)).alloc _) id).cell 2).trans bZ) ((dc.out.cell 2).trans bZ) Tryz.underlying22 rfl
 try clear am
 refine Reg.wI [10] [] rfl fun Qf am=>?_
 go_wp2_with fail
 first | refine am _ _ ⟨rfl,?_⟩ | refine⟨rfl,?_⟩ | refine am _ _ ⟨by simp [Reg.fineT,Reg.intOp,Region.wanted,yielded,Reg.intFine,Reg.isInt,Act.eval],?_⟩
 try clear am
 first | refine Reg.restI_end ?_ | skip
 have dN:=hide cK
 clear cK dX dC
 have eo:=bJ.out.b2.cell
 have eu:=bJ.out.b5.cell
 go_wp2_with fail
 go_wp2_with (go_at_call 96; refine Calls.ret (Cm r.name _ (by omega)) ?_; rintro v w3 ⟨rfl,bM⟩; rw [cG.out]; have bK:=hide (bJ.out.at bM); have ep:=bK.out.b2.cell; have ev:=bK.out.b5.cell; have cw:=hide (aT.out.trans (bM.mono aT.out.size)); clear bM)
 go_loopw [7] (fun ii wr=>∃(k:Nat),ii=.int .i64 (k:Int)∧k≤i∧Hid (Below w3.heap.size w3 wr)∧Hid ((p.rules.take k).all (fun x=>!decide (x.name=r.name))=true)) (fun ii _=>i - (intOf ii).toNat)
 case atStart=>exact⟨0,rfl,Nat.zero_le _,Below.refl _ _,by show _=_; simp⟩
 case round=>
  obtain⟨k,rfl,hk,bk,hE⟩:=hrel
  have aE:=hide (bK.out.at bk.out)
  have eq:=aE.out.b2.cell
  have ew:=aE.out.b5.cell
  have bg:=hide (cw.out.trans (bk.out.mono cw.out.size))
  by_cases dD:k<i
  ·obtain⟨x,W⟩:∃x,p.rules[k]?=some x:=⟨_,List.getElem?_eq_getElem (by have:=dH.out; omega)⟩
   obtain⟨b',fm,xc,cc,em,cg,cB,-⟩:=Du (dg.out.keep (w':=wr) (B':=w.heap.size) (R':=AW wr w.heap.size) (fun _ J=>bg.out.cell J) (fun _ _ h=>h.keep (fun _ J=>bg.out.cell J) (Nat.le_refl _)) (Nat.le_refl _)) W
   have e1:=Option.some.inj cc
   injection e1 with e1 e2 _
   subst e1 e2
   have bc:=cg.is.cells
   simp only [Array.toArray_toList] at bc
   obtain⟨-,-,-,-,-,-,-,-,-,-,-,-,-,-,-,-,⟨-,bc,-⟩,-⟩:=bc
   have e3:=cB 0 _ bc
   simp only [Nat.add_zero] at e3
   have cM:=hide W
   clear cB cg W bc cc
   by_cases be:x.name=r.name
   ·exfalso
    have h1:=dY.out
    rw [List.any_eq_false] at h1
    refine h1 x (List.mem_of_getElem? (i:=k) ?_) (decide_eq_true be)
    rw [List.getElem?_take,if_pos dD]
    exact cM.out
   ·have hq:(x.name.toList==r.name.toList)=false:=by rw [DM]; exact decide_eq_false be
    have bY:=hide (Cq (p:=fun x:Az=>!decide (x.name=r.name)) cM.out hE.out (by simp [be]))
    have dr:=hide (bk.out.trans ((Ap wr).mono bk.out.size))
    clear be
    go_wp2_with fail
    refine Reg.cP [0,1,0,7,15,31,0,64,255] ?_
    go_wp2_with fail
    exact⟨⟨k+1,by go_num,by omega,dr.out,bY.out⟩,by simp [intOf]; omega⟩
  ·clear hE
   have bI:=hide (ci.out.symm.trans (Se df.out av))
   have q1:(r.kind==1)=true:=by rw [av]; rfl
   have q2:(r.kind==2)=false:=by rw [av]; rfl
   have q3:(r.kind==3)=false:=by rw [av]; rfl
   have q4:(r.kind==4)=false:=by rw [av]; rfl
   have q5:(r.kind==5)=false:=by rw [av]; rfl
   have fo:(r.kind==2||r.kind==5)=false:=by rw [q2,q5]; rfl
   have dB:=hide av
   clear av
   have af:=hide (show r.left=[]∧r.right=[]∧r.parent=[] from dp.out.l (by rw [dB.out]; decide))
   have eF:=Ah aE.out.b2 dL.out
   have eG:=Ah aE.out.b5 dN.out
   go_wp2_with (first
    | (go_at_call 98; refine(within2_any _ _ _ _).mono ?_; rintro e w' ⟨rfl,rfl⟩; rw [cF.out])
    | (go_at_call 192; refine Calls.ret (FD aE.out.pr aE.out.ru dW.out) ?_; rintro v w5 ⟨rfl,bN⟩; rw [c8.out]; have bL:=hide (aE.out.at bN); have er:=bL.out.b2.cell; have ey:=bL.out.b5.cell; have bh:=hide (bg.out.trans (bN.mono bg.out.size)); clear bN))
   obtain⟨ng,bU⟩:∃n,n=r.guards.length:=⟨_,rfl⟩
   rw [←bU] at dM cL
   have bu:=hide bU
   clear bU
   cases bp:inC r.fr 0 ((ns:Int) - 1)
   case false=>
    have aO:=hide bp
    clear bp
    refine(within2_any _ _ _ _).mono ?_; rintro e w' ⟨rfl,rfl⟩; rw [aO.out]; go_wp2_with fail
    go_ret
    exact⟨congrArg (Value.int .i64) (bI.out.trans (by rw [show inN r.fr (ns:Int)=false from aO.out]; rfl)).symm,bh.out⟩
   have aO:=hide bp
   clear bp
   refine(within2_any _ _ _ _).mono ?_; rintro e w' ⟨rfl,rfl⟩; rw [aO.out]; go_wp2_with fail
   cases bA:inC r.to 0 ((ns:Int) - 1)
   case false=>
    have b0:=hide bA
    clear bA
    refine(within2_any _ _ _ _).mono ?_; rintro e w' ⟨rfl,rfl⟩; rw [b0.out]; go_wp2_with fail
    go_ret
    exact⟨congrArg (Value.int .i64) (bI.out.trans (by rw [show inN r.fr (ns:Int)=true from aO.out,show inN r.to (ns:Int)=false from b0.out]; rfl)).symm,bh.out⟩
   have b0:=hide bA
   clear bA
   refine(within2_any _ _ _ _).mono ?_; rintro e w' ⟨rfl,rfl⟩; rw [b0.out]; go_wp2_with fail
   have bf:=hide (show EV=orE (Aj (B7 (nm:Int)) r.guards) (orE (Ad (decide (2<r.guards.length)) 4) (orE (Aa r.ex (ns:Int)) (orE (Aa r.fa (ns:Int)) (orE (Ad (!AO r.rd (nv:Int)||!AO r.wr (nv:Int)) 5) (Aa r.send (nm:Int)))))) from bI.out.trans (by rw [show inN r.fr (ns:Int)=true from aO.out,show inN r.to (ns:Int)=true from b0.out]; rfl))
   go_loopw [10] (fun ii wr=>∃(k:Nat),ii=.int .i64 (k:Int)∧k≤ng∧Hid (Below w5.heap.size w5 wr)∧Hid (Aj (B7 (nm:Int)) (r.guards.take k)=0)) (fun ii _=>ng - (intOf ii).toNat)
   case atStart=>exact⟨0,rfl,Nat.zero_le _,Below.refl _ _,by show _=_; rfl⟩
   case round=>
    obtain⟨k,rfl,hk,bl,aS⟩:=hrel
    have b6:=hide (bL.out.at bl.out)
    have et:=b6.out.b2.cell
    have ez:=b6.out.b5.cell
    have an:=hide (bh.out.trans (bl.out.mono bh.out.size))
    by_cases eJ:k<ng
    ·obtain⟨b2,cQ,g,db,ao,hg,cA⟩:=(dh.out.keep (w':=wr) (B':=w.heap.size) (fun _ J=>an.out.cell J) (Nat.le_refl _)).at (k:=k) (by have:=bu.out; omega)
     have eI:(loadCellsFrom ⟨b2,cQ+k*6,none⟩ 0 6 #[]).run Tryz.prog wr=.ok #[.int .i64 g.msg,.int .i64 g.coef,.int .i64 g.bound.c,.int .i64 g.bound.n,.int .i64 g.bound.t,.int .i64 g.bound.f] wr:=by
      have:=run_loadCells_list (P:=Tryz.prog) wr ⟨b2,cQ+k*6,none⟩ (C4 g) (fun k v O=>by
       rw [Addr.add_mid]
       have hk:=AP O
       rw [cA k hk]
       match k,hk,O with
       | 0,_,O=>exact congrArg some (Option.some.inj O)
       | 1,_,O=>exact congrArg some (Option.some.inj O)
       | 2,_,O=>exact congrArg some (Option.some.inj O)
       | 3,_,O=>exact congrArg some (Option.some.inj O)
       | 4,_,O=>exact congrArg some (Option.some.inj O)
       | 5,_,O=>exact congrArg some (Option.some.inj O))
      simpa [loadCells,C4] using this
     obtain⟨w7,e0,ae,bH,dA⟩:=Ae wr #[.int .i64 g.msg,.int .i64 g.coef,.int .i64 g.bound.c,.int .i64 g.bound.n,.int .i64 g.bound.t,.int .i64 g.bound.f] 217
     have fk:∀c:Array Value,c.size=6→(storeCells ⟨wr.heap.size,0,none⟩ [.int .i64 g.msg,.int .i64 g.coef,.int .i64 g.bound.c,.int .i64 g.bound.n,.int .i64 g.bound.t,.int .i64 g.bound.f] 0).run Tryz.prog (wr.alloc (.cells c 217))=.ok () w7:=fun c hc=>by rw [←e0]; exact Dv wr 217 6 (by kernel_rfl) (rc:=#[.int .i64 g.msg,.int .i64 g.coef,.int .i64 g.bound.c,.int .i64 g.bound.n,.int .i64 g.bound.t,.int .i64 g.bound.f]) rfl (by simp [Value.oneCell']) c hc
     have eA:=bH.cell
     have eH:(loadCellsFrom ⟨wr.heap.size,2,none⟩ 0 4 #[]).run Tryz.prog w7=.ok #[.int .i64 g.bound.c,.int .i64 g.bound.n,.int .i64 g.bound.t,.int .i64 g.bound.f] w7:=by
      have:=run_loadCells_list (P:=Tryz.prog) w7 ⟨wr.heap.size,2,none⟩ [.int .i64 g.bound.c,.int .i64 g.bound.n,.int .i64 g.bound.t,.int .i64 g.bound.f] (fun j v O=>by
       rw [Addr.add_mid,bH.cell]
       have hj:=AP O
       match j,hj,O with
       | 0,_,O=>exact congrArg some (Option.some.inj O)
       | 1,_,O=>exact congrArg some (Option.some.inj O)
       | 2,_,O=>exact congrArg some (Option.some.inj O)
       | 3,_,O=>exact congrArg some (Option.some.inj O))
      simpa [loadCells] using this
     have bq:=hide hg
     have aa:=hide (b6.out.at ae)
     have cy:=aa.out.b2.cell
     have cz:=aa.out.b5.cell
     have V:=hide (an.out.trans (ae.mono an.out.size))
     have cx:=hide (bl.out.trans (ae.mono bl.out.size))
     clear ae
     subst db
     clear cA hg dA bH
     go_wp2_with fail
     cases bt:inC g.msg 0 ((nm:Int) - 1)
     case false=>
      have ax:=hide bt
      clear bt
      have bb:=hide (show Aj (B7 (nm:Int)) r.guards=5 from by
       have h1:B7 (nm:Int) g=5:=by
        unfold B7
        rw [C5,ax.out]
        rfl
       rw [Ct (B7 (nm:Int)) bq.out aS.out (by rw [h1]; decide),h1])
      refine(within2_any _ _ _ _).mono ?_; rintro e w' ⟨rfl,rfl⟩; rw [ax.out]; go_wp2_with fail
      go_ret
      exact⟨congrArg (Value.int .i64) (bf.out.trans (by rw [bb.out]; rfl)).symm,V.out⟩
     have ax:=hide bt
     clear bt
     refine(within2_any _ _ _ _).mono ?_; rintro e w' ⟨rfl,rfl⟩; rw [ax.out]; go_wp2_with fail
     cases bn:inC g.coef 1 100
     case false=>
      have aN:=hide bn
      clear bn
      have bb:=hide (show Aj (B7 (nm:Int)) r.guards=1 from by
       have h1:B7 (nm:Int) g=1:=by
        unfold B7
        rw [C5,ax.out,show(decide (1≤g.coef)&&decide (g.coef≤100))=false from aN.out]
        rfl
       rw [Ct (B7 (nm:Int)) bq.out aS.out (by rw [h1]; decide),h1])
      refine(within2_any _ _ _ _).mono ?_; rintro e w' ⟨rfl,rfl⟩; rw [aN.out]; go_wp2_with fail
      go_ret
      exact⟨congrArg (Value.int .i64) (bf.out.trans (by rw [bb.out]; rfl)).symm,V.out⟩
     have aN:=hide bn
     clear bn
     refine(within2_any _ _ _ _).mono ?_; rintro e w' ⟨rfl,rfl⟩; rw [aN.out]; go_wp2_with fail
     cases bs:Bg g.bound
     case false=>
      have aZ:=hide bs
      clear bs
      have bb:=hide (show Aj (B7 (nm:Int)) r.guards=4 from by
       have h1:B7 (nm:Int) g=4:=by
        unfold B7
        rw [C5,ax.out,show(decide (1≤g.coef)&&decide (g.coef≤100))=true from aN.out,aZ.out]
        rfl
       rw [Ct (B7 (nm:Int)) bq.out aS.out (by rw [h1]; decide),h1])
      refine Calls.ret (Gv g.bound _) ?_; rintro v w8 ⟨rfl,I⟩; rw [aZ.out]; have M:=hide (aa.out.at I); have b7:=M.out.b2.cell; have b8:=M.out.b5.cell; have y:=hide (V.out.trans (I.mono V.out.size)); clear I; go_wp2_with fail
      go_ret
      exact⟨congrArg (Value.int .i64) (bf.out.trans (by rw [bb.out]; rfl)).symm,y.out⟩
     have aZ:=hide bs
     clear bs
     have bY:=hide (show Aj (B7 (nm:Int)) (r.guards.take (k+1))=0 from by
      rw [CD (B7 (nm:Int)) bq.out aS.out]
      unfold B7
      rw [C5,ax.out,show(decide (1≤g.coef)&&decide (g.coef≤100))=true from aN.out,aZ.out]
      rfl)
     refine Calls.ret (Gv g.bound _) ?_; rintro v w8 ⟨rfl,I⟩; rw [aZ.out]; have dq:=hide (cx.out.trans (I.mono cx.out.size)); clear I; go_wp2_with fail
     exact⟨⟨k+1,by go_num,by omega,dq.out,bY.out⟩,by simp [intOf]; omega⟩
    ·have ct:=hide (show EV=orE (Ad (decide (2<r.guards.length)) 4) (orE (Aa r.ex (ns:Int)) (orE (Aa r.fa (ns:Int)) (orE (Ad (!AO r.rd (nv:Int)||!AO r.wr (nv:Int)) 5) (Aa r.send (nm:Int))))) from bf.out.trans (by
      have h1:=aS.out
      rw [List.take_of_length_le (by have:=bu.out; omega)] at h1
      rw [h1]
      rfl))
     clear aS
     by_cases eE:2<ng
     case pos=>
      have Q2:(2:Int)<(ng:Int):=by omega
      go_wp2_with fail
      go_ret
      exact⟨congrArg (Value.int .i64) (ct.out.trans (by rw [decide_eq_true (show 2<r.guards.length by have:=bu.out; omega)]; rfl)).symm,an.out⟩
     have Q2:¬(2:Int)<(ng:Int):=by omega
     have cu:=hide (show EV=orE (Aa r.ex (ns:Int)) (orE (Aa r.fa (ns:Int)) (orE (Ad (!AO r.rd (nv:Int)||!AO r.wr (nv:Int)) 5) (Aa r.send (nm:Int)))) from ct.out.trans (by rw [decide_eq_false (show ¬2<r.guards.length by have:=bu.out; omega)]; rfl))
     go_wp2_with fail
     obtain⟨bD,bo⟩:∃e,Hid (Aa r.ex (ns:Int)=e):=⟨_,rfl⟩
     by_cases aQ:bD=0
     case neg=>
      have e6:(bD != 0)=true:=by simp [aQ]
      have H0:=hide aQ
      clear aQ
      refine Calls.ret (cD _ an.out) ?_; rintro v w7 ⟨rfl,ae⟩; rw [bo.out]; have aa:=hide (b6.out.at ae); have cy:=aa.out.b2.cell; have cz:=aa.out.b5.cell; have V:=hide (an.out.trans (ae.mono an.out.size)); clear ae; go_wp2_with fail
      go_ret
      exact⟨congrArg (Value.int .i64) (cu.out.trans (by rw [bo.out]; exact BF H0.out)).symm,V.out⟩
     have e6:(bD != 0)=false:=by simp [aQ]
     have cZ:=hide aQ
     clear aQ
     have cv:=hide (show EV=orE (Aa r.fa (ns:Int)) (orE (Ad (!AO r.rd (nv:Int)||!AO r.wr (nv:Int)) 5) (Aa r.send (nm:Int))) from cu.out.trans (by rw [bo.out,cZ.out]; rfl))
     refine Calls.ret (cD _ an.out) ?_; rintro v w7 ⟨rfl,ae⟩; rw [bo.out]; have aa:=hide (b6.out.at ae); have cy:=aa.out.b2.cell; have cz:=aa.out.b5.cell; have V:=hide (an.out.trans (ae.mono an.out.size)); clear ae; go_wp2_with fail
     obtain⟨bE,aJ⟩:∃e,Hid (Aa r.fa (ns:Int)=e):=⟨_,rfl⟩
     by_cases aR:bE=0
     case neg=>
      have e7:(bE != 0)=true:=by simp [aR]
      have H0:=hide aR
      clear aR
      refine Calls.ret (b9 _ V.out) ?_; rintro v w8 ⟨rfl,I⟩; rw [aJ.out]; have M:=hide (aa.out.at I); have b7:=M.out.b2.cell; have b8:=M.out.b5.cell; have y:=hide (V.out.trans (I.mono V.out.size)); clear I; go_wp2_with fail
      go_ret
      exact⟨congrArg (Value.int .i64) (cv.out.trans (by rw [aJ.out]; exact BF H0.out)).symm,y.out⟩
     have e7:(bE != 0)=false:=by simp [aR]
     have d0:=hide aR
     clear aR
     have au:=hide (show EV=orE (Ad (!AO r.rd (nv:Int)||!AO r.wr (nv:Int)) 5) (Aa r.send (nm:Int)) from cv.out.trans (by rw [aJ.out,d0.out]; rfl))
     by_cases aV:r.rd= -1
     case pos=>
      have d2:(r.rd != -1)=false:=by simp [aV]
      have aP:=hide aV
      clear aV
      have V1:=hide (show AO r.rd (nv:Int)=true from by rw [aP.out]; exact DW (by omega))
      by_cases ac:r.wr= -1
      case pos=>
       have bB:(r.wr != -1)=false:=by simp [ac]
       have ap:=hide ac
       clear ac
       have V2:=hide (show AO r.wr (nv:Int)=true from by rw [ap.out]; exact DW (by omega))
       refine Calls.ret (b9 _ V.out) ?_; rintro v w8 ⟨rfl,I⟩; rw [aJ.out]; have M:=hide (aa.out.at I); have b7:=M.out.b2.cell; have b8:=M.out.b5.cell; have y:=hide (V.out.trans (I.mono V.out.size)); clear I; go_wp2_with fail
       have ak:=hide (show EV=Aa r.send (nm:Int) from au.out.trans (by rw [V1.out,V2.out]; rfl))
       obtain⟨a2,Z⟩:∃e,Hid (Aa r.send (nm:Int)=e):=⟨_,rfl⟩
       by_cases F:a2=0
       case neg=>
        have aL:(a2 != 0)=true:=by simp [F]
        have H0:=hide F
        clear F
        refine Calls.ret (aw _ y.out) ?_; rintro v w9 ⟨rfl,E⟩; rw [Z.out]; have G:=hide (M.out.at E); have aG:=G.out.b2.cell; have aH:=G.out.b5.cell; have U:=hide (y.out.trans (E.mono y.out.size)); clear E; go_wp2_with fail
        go_ret
        exact⟨congrArg (Value.int .i64) (ak.out.trans (by rw [Z.out])).symm,U.out⟩
       have aL:(a2 != 0)=false:=by simp [F]
       have az:=hide F
       clear F
       have aD:=hide (show EV=0 from ak.out.trans (by rw [Z.out,az.out]))
       refine Calls.ret (aw _ y.out) ?_; rintro v w9 ⟨rfl,E⟩; rw [Z.out]; have G:=hide (M.out.at E); have aG:=G.out.b2.cell; have aH:=G.out.b5.cell; have U:=hide (y.out.trans (E.mono y.out.size)); clear E; go_wp2_with fail
       have aA:=hide (show Aa r.left (ns:Int)=0 from by rw [af.out.1]; rfl)
       refine Calls.ret (br _ U.out) ?_; rintro v wa ⟨rfl,a7⟩; rw [aA.out]; have a3:=hide (G.out.at a7); have bO:=a3.out.b2.cell; have bR:=a3.out.b5.cell; have a5:=hide (U.out.trans (a7.mono U.out.size)); clear a7; go_wp2_with fail
       have aC:=hide (show Aa r.right (ns:Int)=0 from by rw [af.out.2.1]; rfl)
       refine Calls.ret (bz _ a5.out) ?_; rintro v wb ⟨rfl,a8⟩; rw [aC.out]; have a4:=hide (a3.out.at a8); have bP:=a4.out.b2.cell; have bS:=a4.out.b5.cell; have a6:=hide (a5.out.trans (a8.mono a5.out.size)); clear a8; go_wp2_with fail
       have aB:=hide (show Aa r.parent (ns:Int)=0 from by rw [af.out.2.2]; rfl)
       refine Calls.ret (bv _ a6.out) ?_; rintro v wc ⟨rfl,a9⟩; rw [aB.out]; have al:=hide (a4.out.at a9); have bQ:=al.out.b2.cell; have bT:=al.out.b5.cell; have aF:=hide (a6.out.trans (a9.mono a6.out.size)); clear a9; go_wp2_with fail
       go_ret
       exact⟨congrArg (Value.int .i64) (aD.out).symm,aF.out⟩
      have bB:(r.wr != -1)=true:=by simp [ac]
      have ap:=hide ac
      clear ac
      refine Calls.ret (b9 _ V.out) ?_; rintro v w8 ⟨rfl,I⟩; rw [aJ.out]; have M:=hide (aa.out.at I); have b7:=M.out.b2.cell; have b8:=M.out.b5.cell; have y:=hide (V.out.trans (I.mono V.out.size)); clear I; go_wp2_with fail
      cases ar:inC r.wr 0 ((nv:Int) - 1)
      case false=>
       have ai:=hide ar
       clear ar
       have V2:=hide (show AO r.wr (nv:Int)=false from(Cd ap.out).trans ai.out)
       refine(within2_any _ _ _ _).mono ?_; rintro e w' ⟨rfl,rfl⟩; rw [ai.out]; go_wp2_with fail
       go_ret
       exact⟨congrArg (Value.int .i64) (au.out.trans (by rw [V1.out,V2.out]; rfl)).symm,y.out⟩
      have ai:=hide ar
      clear ar
      have V2:=hide (show AO r.wr (nv:Int)=true from(Cd ap.out).trans ai.out)
      refine(within2_any _ _ _ _).mono ?_; rintro e w' ⟨rfl,rfl⟩; rw [ai.out]; go_wp2_with fail
      have ak:=hide (show EV=Aa r.send (nm:Int) from au.out.trans (by rw [V1.out,V2.out]; rfl))
      obtain⟨a2,Z⟩:∃e,Hid (Aa r.send (nm:Int)=e):=⟨_,rfl⟩
      by_cases F:a2=0
      case neg=>
       have aL:(a2 != 0)=true:=by simp [F]
       have H0:=hide F
       clear F
       refine Calls.ret (aw _ y.out) ?_; rintro v w9 ⟨rfl,E⟩; rw [Z.out]; have G:=hide (M.out.at E); have aG:=G.out.b2.cell; have aH:=G.out.b5.cell; have U:=hide (y.out.trans (E.mono y.out.size)); clear E; go_wp2_with fail
       go_ret
       exact⟨congrArg (Value.int .i64) (ak.out.trans (by rw [Z.out])).symm,U.out⟩
      have aL:(a2 != 0)=false:=by simp [F]
      have az:=hide F
      clear F
      have aD:=hide (show EV=0 from ak.out.trans (by rw [Z.out,az.out]))
      refine Calls.ret (aw _ y.out) ?_; rintro v w9 ⟨rfl,E⟩; rw [Z.out]; have G:=hide (M.out.at E); have aG:=G.out.b2.cell; have aH:=G.out.b5.cell; have U:=hide (y.out.trans (E.mono y.out.size)); clear E; go_wp2_with fail
      have aA:=hide (show Aa r.left (ns:Int)=0 from by rw [af.out.1]; rfl)
      refine Calls.ret (br _ U.out) ?_; rintro v wa ⟨rfl,a7⟩; rw [aA.out]; have a3:=hide (G.out.at a7); have bO:=a3.out.b2.cell; have bR:=a3.out.b5.cell; have a5:=hide (U.out.trans (a7.mono U.out.size)); clear a7; go_wp2_with fail
      have aC:=hide (show Aa r.right (ns:Int)=0 from by rw [af.out.2.1]; rfl)
      refine Calls.ret (bz _ a5.out) ?_; rintro v wb ⟨rfl,a8⟩; rw [aC.out]; have a4:=hide (a3.out.at a8); have bP:=a4.out.b2.cell; have bS:=a4.out.b5.cell; have a6:=hide (a5.out.trans (a8.mono a5.out.size)); clear a8; go_wp2_with fail
      have aB:=hide (show Aa r.parent (ns:Int)=0 from by rw [af.out.2.2]; rfl)
      refine Calls.ret (bv _ a6.out) ?_; rintro v wc ⟨rfl,a9⟩; rw [aB.out]; have al:=hide (a4.out.at a9); have bQ:=al.out.b2.cell; have bT:=al.out.b5.cell; have aF:=hide (a6.out.trans (a9.mono a6.out.size)); clear a9; go_wp2_with fail
      go_ret
      exact⟨congrArg (Value.int .i64) (aD.out).symm,aF.out⟩
     have d2:(r.rd != -1)=true:=by simp [aV]
     have aP:=hide aV
     clear aV
     by_cases ac:r.wr= -1
     case pos=>
      have bB:(r.wr != -1)=false:=by simp [ac]
      have ap:=hide ac
      clear ac
      have V2:=hide (show AO r.wr (nv:Int)=true from by rw [ap.out]; exact DW (by omega))
      refine Calls.ret (b9 _ V.out) ?_; rintro v w8 ⟨rfl,I⟩; rw [aJ.out]; have M:=hide (aa.out.at I); have b7:=M.out.b2.cell; have b8:=M.out.b5.cell; have y:=hide (V.out.trans (I.mono V.out.size)); clear I; go_wp2_with fail
      cases aq:inC r.rd 0 ((nv:Int) - 1)
      case false=>
       have ah:=hide aq
       clear aq
       have V1:=hide (show AO r.rd (nv:Int)=false from(Cd aP.out).trans ah.out)
       refine(within2_any _ _ _ _).mono ?_; rintro e w' ⟨rfl,rfl⟩; rw [ah.out]; go_wp2_with fail
       go_ret
       exact⟨congrArg (Value.int .i64) (au.out.trans (by rw [V1.out]; rfl)).symm,y.out⟩
      have ah:=hide aq
      clear aq
      have V1:=hide (show AO r.rd (nv:Int)=true from(Cd aP.out).trans ah.out)
      refine(within2_any _ _ _ _).mono ?_; rintro e w' ⟨rfl,rfl⟩; rw [ah.out]; go_wp2_with fail
      have ak:=hide (show EV=Aa r.send (nm:Int) from au.out.trans (by rw [V1.out,V2.out]; rfl))
      obtain⟨a2,Z⟩:∃e,Hid (Aa r.send (nm:Int)=e):=⟨_,rfl⟩
      by_cases F:a2=0
      case neg=>
       have aL:(a2 != 0)=true:=by simp [F]
       have H0:=hide F
       clear F
       refine Calls.ret (aw _ y.out) ?_; rintro v w9 ⟨rfl,E⟩; rw [Z.out]; have G:=hide (M.out.at E); have aG:=G.out.b2.cell; have aH:=G.out.b5.cell; have U:=hide (y.out.trans (E.mono y.out.size)); clear E; go_wp2_with fail
       go_ret
       exact⟨congrArg (Value.int .i64) (ak.out.trans (by rw [Z.out])).symm,U.out⟩
      have aL:(a2 != 0)=false:=by simp [F]
      have az:=hide F
      clear F
      have aD:=hide (show EV=0 from ak.out.trans (by rw [Z.out,az.out]))
      refine Calls.ret (aw _ y.out) ?_; rintro v w9 ⟨rfl,E⟩; rw [Z.out]; have G:=hide (M.out.at E); have aG:=G.out.b2.cell; have aH:=G.out.b5.cell; have U:=hide (y.out.trans (E.mono y.out.size)); clear E; go_wp2_with fail
      have aA:=hide (show Aa r.left (ns:Int)=0 from by rw [af.out.1]; rfl)
      refine Calls.ret (br _ U.out) ?_; rintro v wa ⟨rfl,a7⟩; rw [aA.out]; have a3:=hide (G.out.at a7); have bO:=a3.out.b2.cell; have bR:=a3.out.b5.cell; have a5:=hide (U.out.trans (a7.mono U.out.size)); clear a7; go_wp2_with fail
      have aC:=hide (show Aa r.right (ns:Int)=0 from by rw [af.out.2.1]; rfl)
      refine Calls.ret (bz _ a5.out) ?_; rintro v wb ⟨rfl,a8⟩; rw [aC.out]; have a4:=hide (a3.out.at a8); have bP:=a4.out.b2.cell; have bS:=a4.out.b5.cell; have a6:=hide (a5.out.trans (a8.mono a5.out.size)); clear a8; go_wp2_with fail
      have aB:=hide (show Aa r.parent (ns:Int)=0 from by rw [af.out.2.2]; rfl)
      refine Calls.ret (bv _ a6.out) ?_; rintro v wc ⟨rfl,a9⟩; rw [aB.out]; have al:=hide (a4.out.at a9); have bQ:=al.out.b2.cell; have bT:=al.out.b5.cell; have aF:=hide (a6.out.trans (a9.mono a6.out.size)); clear a9; go_wp2_with fail
      go_ret
      exact⟨congrArg (Value.int .i64) (aD.out).symm,aF.out⟩
     have bB:(r.wr != -1)=true:=by simp [ac]
     have ap:=hide ac
     clear ac
     refine Calls.ret (b9 _ V.out) ?_; rintro v w8 ⟨rfl,I⟩; rw [aJ.out]; have M:=hide (aa.out.at I); have b7:=M.out.b2.cell; have b8:=M.out.b5.cell; have y:=hide (V.out.trans (I.mono V.out.size)); clear I; go_wp2_with fail
     cases aq:inC r.rd 0 ((nv:Int) - 1)
     case false=>
      have ah:=hide aq
      clear aq
      have V1:=hide (show AO r.rd (nv:Int)=false from(Cd aP.out).trans ah.out)
      refine(within2_any _ _ _ _).mono ?_; rintro e w' ⟨rfl,rfl⟩; rw [ah.out]; go_wp2_with fail
      go_ret
      exact⟨congrArg (Value.int .i64) (au.out.trans (by rw [V1.out]; rfl)).symm,y.out⟩
     have ah:=hide aq
     clear aq
     have V1:=hide (show AO r.rd (nv:Int)=true from(Cd aP.out).trans ah.out)
     refine(within2_any _ _ _ _).mono ?_; rintro e w' ⟨rfl,rfl⟩; rw [ah.out]; go_wp2_with fail
     cases ar:inC r.wr 0 ((nv:Int) - 1)
     case false=>
      have ai:=hide ar
      clear ar
      have V2:=hide (show AO r.wr (nv:Int)=false from(Cd ap.out).trans ai.out)
      refine(within2_any _ _ _ _).mono ?_; rintro e w' ⟨rfl,rfl⟩; rw [ai.out]; go_wp2_with fail
      go_ret
      exact⟨congrArg (Value.int .i64) (au.out.trans (by rw [V1.out,V2.out]; rfl)).symm,y.out⟩
     have ai:=hide ar
     clear ar
     have V2:=hide (show AO r.wr (nv:Int)=true from(Cd ap.out).trans ai.out)
     refine(within2_any _ _ _ _).mono ?_; rintro e w' ⟨rfl,rfl⟩; rw [ai.out]; go_wp2_with fail
     have ak:=hide (show EV=Aa r.send (nm:Int) from au.out.trans (by rw [V1.out,V2.out]; rfl))
     obtain⟨a2,Z⟩:∃e,Hid (Aa r.send (nm:Int)=e):=⟨_,rfl⟩
     by_cases F:a2=0
     case neg=>
      have aL:(a2 != 0)=true:=by simp [F]
      have H0:=hide F
      clear F
      refine Calls.ret (aw _ y.out) ?_; rintro v w9 ⟨rfl,E⟩; rw [Z.out]; have G:=hide (M.out.at E); have aG:=G.out.b2.cell; have aH:=G.out.b5.cell; have U:=hide (y.out.trans (E.mono y.out.size)); clear E; go_wp2_with fail
      go_ret
      exact⟨congrArg (Value.int .i64) (ak.out.trans (by rw [Z.out])).symm,U.out⟩
     have aL:(a2 != 0)=false:=by simp [F]
     have az:=hide F
     clear F
     have aD:=hide (show EV=0 from ak.out.trans (by rw [Z.out,az.out]))
     refine Calls.ret (aw _ y.out) ?_; rintro v w9 ⟨rfl,E⟩; rw [Z.out]; have G:=hide (M.out.at E); have aG:=G.out.b2.cell; have aH:=G.out.b5.cell; have U:=hide (y.out.trans (E.mono y.out.size)); clear E; go_wp2_with fail
     have aA:=hide (show Aa r.left (ns:Int)=0 from by rw [af.out.1]; rfl)
     refine Calls.ret (br _ U.out) ?_; rintro v wa ⟨rfl,a7⟩; rw [aA.out]; have a3:=hide (G.out.at a7); have bO:=a3.out.b2.cell; have bR:=a3.out.b5.cell; have a5:=hide (U.out.trans (a7.mono U.out.size)); clear a7; go_wp2_with fail
     have aC:=hide (show Aa r.right (ns:Int)=0 from by rw [af.out.2.1]; rfl)
     refine Calls.ret (bz _ a5.out) ?_; rintro v wb ⟨rfl,a8⟩; rw [aC.out]; have a4:=hide (a3.out.at a8); have bP:=a4.out.b2.cell; have bS:=a4.out.b5.cell; have a6:=hide (a5.out.trans (a8.mono a5.out.size)); clear a8; go_wp2_with fail
     have aB:=hide (show Aa r.parent (ns:Int)=0 from by rw [af.out.2.2]; rfl)
     refine Calls.ret (bv _ a6.out) ?_; rintro v wc ⟨rfl,a9⟩; rw [aB.out]; have al:=hide (a4.out.at a9); have bQ:=al.out.b2.cell; have bT:=al.out.b5.cell; have aF:=hide (a6.out.trans (a9.mono a6.out.size)); clear a9; go_wp2_with fail
     go_ret
     exact⟨congrArg (Value.int .i64) (aD.out).symm,aF.out⟩
end Go.Proofs.YtfcfpoemojjglaaGreatDoor.K
