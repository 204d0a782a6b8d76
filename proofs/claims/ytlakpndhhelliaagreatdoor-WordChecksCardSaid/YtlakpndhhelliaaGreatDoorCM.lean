/-
  Part CM of a proof.
-/
import Derived.Test.YtlakpndhhelliaaGreatDoorPA
import Derived.Test.YtlakpndhhelliaaGreatDoorCJ
import Derived.Test.YtlakpndhhelliaaGreatDoorCI
set_option maxHeartbeats 16000000
set_option maxRecDepth 100000
set_option linter.unusedVariables false
set_option linter.unusedSimpArgs false
namespace Go.Proofs.YtlakpndhhelliaaGreatDoor.K
open Go.RowKit
attribute [-go_sem] loadCellsFrom storeCells
theorem KI {w:World} {cs:List Value} {p:Ao} {r:As} {i:Nat} (h:Ax w w.heap.size cs p) (hr:p.rules[i]?=some r) (hs:r.Small) (dp:r.name.size≤500) (aG:p.Small) (hT:AL w) (ck:Hid (((p.rules.take i).any fun x=>decide (x.name=r.name))=false)) (bJ:Hid (Ab r.name=true)) (bK:Hid (inC r.kind 1 5=true)) (aO:(decide (r.kind≤3) != (p.topo==1))=false) (b8:Hid (BR p.topo r=false)) (ai:r.kind=2):
  Calls Tryz.prog 55 #[.agg cs.toArray,.int .i64 (i:Int)] w (Ret fun v w'=>v=.int .i64 (AW Ab p.topo (p.states.length:Int) (p.messages.length:Int) (p.values.length:Int) false r)∧Below w.heap.size w w'):=by
 obtain⟨A1,c1,A2,c2,A3,c3,A4,c4,A5,c5,A6,c6,A7,c7,bL,dE,dF,b9,cm,cn,dG,dH,dI,dJ,dK,-,-,-,-,-,-,h7,co⟩:=h.cells
 have cp:=AO hr
 have cq:=aG.states
 have cr:=aG.messages
 have ct:=aG.values
 have dL:=aG.rules
 have cu:=hide h7
 obtain⟨w1,dM,aP,bM,cv⟩:=Ag w cs.toArray 27
 have ay:=aP.trans ((Ap w1).mono aP.size)
 have aQ:Blk w1.drew w.heap.size 27 cs.toArray:=bM
 obtain⟨b,dN,rc,hA,dO,hC,cx,cy⟩:=BU (h7.keep (w':=w1.drew) (B':=w.heap.size) (R':=AB w1.drew w.heap.size) (fun _ y=>ay.cell y) (fun _ _ h=>h.keep (fun _ y=>ay.cell y) (Nat.le_refl _)) (Nat.le_refl _)) hr
 obtain⟨w2,cz,aR,bN,cA⟩:=Ag w1.drew rc 48
 have bO:Blk w2 w1.heap.size 48 rc:=bN
 have bb:=Cf w1.drew 48 18 (by kernel_rfl) hC.size hC.one
 rw [cz] at bb
 have cB:∀c:Array Value,c.size=18→(storeCells ⟨w1.heap.size,0,none⟩ rc.toList 0).run Tryz.prog (w1.alloc (.cells c 48)).drew=.ok () w2:=bb
 clear bb
 have bc:=aQ.below aR
 have az:=hide (ay.trans (aR.mono ay.size))
 have bd:=hide (show BM w2 w.heap.size w1.heap.size cs.toArray rc p r from⟨h.keep (fun _ y=>az.out.cell y) az.out.size,hC.is.keep (fun _ y=>aR.cell (by show _<w1.heap.size; have:=aP.size; omega)) az.out.size,bc,bO,hT.below az.out⟩)
 have bP:=hC.is.cells
 simp only [Array.toArray_toList] at bP
 obtain⟨E1,f1,E2,f2,E3,f3,E4,f4,E5,f5,E6,f6,E7,f7,E8,f8,⟨bQ,dT,dU,dV,dW,dX,dY,dZ,cR,e0,e3,e4,e5,e6,e7,e8,e9,ea,eb⟩,⟨bR,bS,bT,bU,bV,bW,bX,bY⟩⟩:=bP
 have ae:∀{D:Type} {sz:Nat} {enc:D→Nat→Value} {A:Option Addr} {ds:List D},Sl w1.drew w.heap.size sz enc A ds→Sl w w.heap.size sz enc A ds:=fun h=>h.keep (fun _ y=>(ay.cell y).symm) (Nat.le_refl _)
 have ec:=hide (ae bR)
 have ed:=hide (ae bS)
 have cS:=hide (ae bT)
 have cT:=hide (ae bU)
 have cU:=hide (ae bV)
 have cV:=hide (ae bW)
 have cW:=hide (ae bX)
 have cX:=hide (ae bY)
 have ee:=aQ.cell
 have cY:=hide aQ
 have cZ:=hide bc
 generalize d0:cs.toArray=pc at*
 have d1:=hide bL
 obtain⟨d2,d3,d4,d5,d6,d7,d8,d9⟩:=hs
 have da:=hide (show r.Small from⟨d2,d3,d4,d5,d6,d7,d8,d9⟩)
 have ef:=hide hr
 have eg:=co
 have db:=hide (show i<p.rules.length from cp)
 obtain⟨ns,be⟩:∃n,n=p.states.length:=⟨_,rfl⟩
 obtain⟨nm,bf⟩:∃n,n=p.messages.length:=⟨_,rfl⟩
 obtain⟨nv,bg⟩:∃n,n=p.values.length:=⟨_,rfl⟩
 have eh:=hide (show ns=p.states.length∧nm=p.messages.length∧nv=p.values.length from⟨be,bf,bg⟩)
 rw [←be] at b9 cq ⊢
 rw [←bf] at cm cr ⊢
 rw [←bg] at cn ct ⊢
 obtain⟨EV,bZ⟩:∃e,Hid (AW Ab p.topo (ns:Int) (nm:Int) (nv:Int) false r=e):=⟨_,rfl⟩
 rw [bZ.out]
 subst hA
 clear cx hC cv cA aP aR ay bM bN bO aQ bc bL d0 hr h h7 be bf bg hT aG bR bS bT bU bV bW bX bY ae
 have dc:=hide (show KOK Ab p.topo r from⟨bJ.out,bK.out,aO,b8.out⟩)
 have c0:=hide (CX b8.out)
 have aK:=hide (bZ.out.symm.trans (LY dc.out ai))
 have q1:(r.kind==1)=false:=by rw [ai]; rfl
 have q2:(r.kind==2)=true:=by rw [ai]; rfl
 have q3:(r.kind==3)=false:=by rw [ai]; rfl
 have q4:(r.kind==4)=false:=by rw [ai]; rfl
 have q5:(r.kind==5)=false:=by rw [ai]; rfl
 have c8:=hide ai
 clear ai
 have ad:=hide (show r.guards=[]∧r.ex=[]∧r.fa=[]∧r.send=[] from c0.out.g (by rw [c8.out]; decide))
 have a5:=hide (show r.left=[]∧r.right=[]∧r.parent=[] from c0.out.l (by rw [c8.out]; decide))
 have de:∀f,Below w.heap.size w f→Calls Tryz.prog 33 #[.slice E3 r.ex.length f3,.int .i64 (ns:Int)] f (Ret fun v w'=>v=.int .i64 (Aa r.ex (ns:Int))∧Below f.heap.size f w'):=fun f C=>AU (by omega) (cS.out.keep (fun _ y=>C.cell y) C.size)
 have aS:∀f,Below w.heap.size w f→Calls Tryz.prog 33 #[.slice E4 r.fa.length f4,.int .i64 (ns:Int)] f (Ret fun v w'=>v=.int .i64 (Aa r.fa (ns:Int))∧Below f.heap.size f w'):=fun f C=>AU (by omega) (cT.out.keep (fun _ y=>C.cell y) C.size)
 have aT:∀f,Below w.heap.size w f→Calls Tryz.prog 33 #[.slice E5 r.send.length f5,.int .i64 (nm:Int)] f (Ret fun v w'=>v=.int .i64 (Aa r.send (nm:Int))∧Below f.heap.size f w'):=fun f C=>AU (by omega) (cU.out.keep (fun _ y=>C.cell y) C.size)
 have aU:∀f,Below w.heap.size w f→Calls Tryz.prog 33 #[.slice E6 r.left.length f6,.int .i64 (ns:Int)] f (Ret fun v w'=>v=.int .i64 (Aa r.left (ns:Int))∧Below f.heap.size f w'):=fun f C=>AU (by omega) (cV.out.keep (fun _ y=>C.cell y) C.size)
 have aV:∀f,Below w.heap.size w f→Calls Tryz.prog 33 #[.slice E7 r.right.length f7,.int .i64 (ns:Int)] f (Ret fun v w'=>v=.int .i64 (Aa r.right (ns:Int))∧Below f.heap.size f w'):=fun f C=>AU (by omega) (cW.out.keep (fun _ y=>C.cell y) C.size)
 have aW:∀f,Below w.heap.size w f→Calls Tryz.prog 33 #[.slice E8 r.parent.length f8,.int .i64 (ns:Int)] f (Ret fun v w'=>v=.int .i64 (Aa r.parent (ns:Int))∧Below f.heap.size f w'):=fun f C=>AU (by omega) (cX.out.keep (fun _ y=>C.cell y) C.size)
 have en:decide (r.kind≤3)=(p.topo==1):=by cases h1:decide (r.kind≤3) <;> cases h2:(p.topo==1) <;> simp [h1,h2] at aO ⊢
 have eo:=hide aO
 clear aO
 go_enter Tryz.func55,Tryz.ntmps55
 go_wp2_with fail
 refine Reg.cI [0,1,0,7,15,0,32,96,0,287,1023] [0,1,2,3,4,5,6,7,8,9,10] ?_
 refine Reg.wI [0,1,2,3,4,5,6,7,8] [9,10] rfl fun Qf aj=>?_
 go_wp2_with fail
 first | refine aj _ _ ⟨rfl,?_⟩ | refine⟨rfl,?_⟩ | refine aj _ _ ⟨by simp [Reg.fineT,Reg.intOp,Region.wanted,yielded,Reg.intFine,Reg.isInt,Act.eval],?_⟩
 try clear aj
 refine Reg.aI 9 [10] [6] rfl fun Qf aj=>?_
 simp only [gT,gS,gZ]
 go_wp2_with fail
 first | refine aj _ _ ⟨?_,?_⟩ | refine⟨?_,?_⟩
 ·intro z hz q hq
  simp only [List.mem_cons,List.not_mem_nil,or_false] at hz
  subst hz
  injection hq with hq
  subst hq
  exact Reg.same_load1 rfl rfl (((cY.out.kept ((Ae.refl _ (fun _=>False)).alloc _) id).cell 2).trans b9) ((cZ.out.cell 2).trans b9) Tryz.underlying22 rfl
 try clear aj
 refine Reg.wI [10] [] rfl fun Qf aj=>?_
 go_wp2_with fail
 first | refine aj _ _ ⟨rfl,?_⟩ | refine⟨rfl,?_⟩ | refine aj _ _ ⟨by simp [Reg.fineT,Reg.intOp,Region.wanted,yielded,Reg.intFine,Reg.isInt,Act.eval],?_⟩
 try clear aj
 first | refine Reg.restI_end ?_ | skip
 have dg:=hide bQ
 clear bQ cB cy
 have ep:=bd.out.b2.cell
 have eq:=bd.out.b5.cell
 go_wp2_with fail
 go_wp2_with (go_at_call 32; refine Calls.ret (BK r.name _ (by omega)) ?_; rintro v w3 ⟨rfl,bh⟩; rw [bJ.out]; have bi:=hide (bd.out.at bh); have er:=bi.out.b2.cell; have et:=bi.out.b5.cell; have cb:=hide (az.out.trans (bh.mono az.out.size)); clear bh)
 go_loopw [7] (fun ii wr=>∃(k:Nat),ii=.int .i64 (k:Int)∧k≤i∧Hid (Below w3.heap.size w3 wr)∧Hid ((p.rules.take k).all (fun x=>!decide (x.name=r.name))=true)) (fun ii _=>i - (intOf ii).toNat)
 case atStart=>exact⟨0,rfl,Nat.zero_le _,Below.refl _ _,by show _=_; simp⟩
 case round=>
  obtain⟨k,rfl,hk,aZ,hE⟩:=hrel
  have an:=hide (bi.out.at aZ.out)
  have eu:=an.out.b2.cell
  have ev:=an.out.b5.cell
  have b0:=hide (cb.out.trans (aZ.out.mono cb.out.size))
  by_cases dh:k<i
  ·obtain⟨x,C⟩:∃x,p.rules[k]?=some x:=⟨_,List.getElem?_eq_getElem (by have:=db.out; omega)⟩
   obtain⟨b',ey,xc,cd,eA,ce,cf,-⟩:=BU (cu.out.keep (w':=wr) (B':=w.heap.size) (R':=AB wr w.heap.size) (fun _ y=>b0.out.cell y) (fun _ _ h=>h.keep (fun _ y=>b0.out.cell y) (Nat.le_refl _)) (Nat.le_refl _)) C
   have e1:=Option.some.inj cd
   injection e1 with e1 e2 _
   subst e1 e2
   have aL:=ce.is.cells
   simp only [Array.toArray_toList] at aL
   obtain⟨-,-,-,-,-,-,-,-,-,-,-,-,-,-,-,-,⟨-,aL,-⟩,-⟩:=aL
   have dj:=cf 0 _ aL
   simp only [Nat.add_zero] at dj
   have cg:=hide C
   clear cf ce C aL cd
   by_cases b1:x.name=r.name
   ·exfalso
    have h1:=ck.out
    rw [List.any_eq_false] at h1
    refine h1 x (List.mem_of_getElem? (i:=k) ?_) (decide_eq_true b1)
    rw [List.getElem?_take,if_pos dh]
    exact cg.out
   ·have hq:(x.name.toList==r.name.toList)=false:=by rw [CR]; exact decide_eq_false b1
    have dk:=hide (BP (p:=fun x:As=>!decide (x.name=r.name)) cg.out hE.out (by simp [b1]))
    have dl:=hide (aZ.out.trans ((Ap wr).mono aZ.out.size))
    clear b1
    go_wp2_with fail
    refine Reg.cP [0,1,0,7,15,31,0,64,255] ?_
    go_wp2_with fail
    exact⟨⟨k+1,by go_num,by omega,dl.out,dk.out⟩,by simp [intOf]; omega⟩
  ·clear hE
   have eB:=Am an.out.b2 d1.out
   have eD:=Am an.out.b5 dg.out
   go_wp2_with (first
    | (go_at_call 35; refine(Al _ _ _ _).mono ?_; rintro e w' ⟨rfl,rfl⟩; rw [bK.out])
    | (go_at_call 81; refine Calls.ret (ES an.out.pr an.out.ru da.out) ?_; rintro v w5 ⟨rfl,bk⟩; rw [b8.out]; have bl:=hide (an.out.at bk); have eE:=bl.out.b2.cell; have eF:=bl.out.b5.cell; have aA:=hide (b0.out.trans (bk.mono b0.out.size)); clear bk))
   obtain⟨ng,bm⟩:∃n,n=r.guards.length:=⟨_,rfl⟩
   have bn:=hide (show ng=0 from by rw [bm,ad.out.1]; rfl)
   rw [←bm] at cR
   have eG:¬(2:Int)<(ng:Int):=by have:=bn.out; omega
   have eH:ng≤60:=by have:=bn.out; omega
   clear bm
   cases b3:inC r.fr 0 ((ns:Int) - 1)
   case false=>
    have ak:=hide b3
    clear b3
    refine(Al _ _ _ _).mono ?_; rintro e w' ⟨rfl,rfl⟩; rw [ak.out]; go_wp2_with fail
    go_ret
    exact⟨congrArg (Value.int .i64) (aK.out.trans (by rw [show inN r.fr (ns:Int)=false from ak.out]; rfl)).symm,aA.out⟩
   have ak:=hide b3
   clear b3
   refine(Al _ _ _ _).mono ?_; rintro e w' ⟨rfl,rfl⟩; rw [ak.out]; go_wp2_with fail
   cases b4:inC r.to 0 ((ns:Int) - 1)
   case false=>
    have ao:=hide b4
    clear b4
    refine(Al _ _ _ _).mono ?_; rintro e w' ⟨rfl,rfl⟩; rw [ao.out]; go_wp2_with fail
    go_ret
    exact⟨congrArg (Value.int .i64) (aK.out.trans (by rw [show inN r.fr (ns:Int)=true from ak.out,show inN r.to (ns:Int)=false from ao.out]; rfl)).symm,aA.out⟩
   have ao:=hide b4
   clear b4
   refine(Al _ _ _ _).mono ?_; rintro e w' ⟨rfl,rfl⟩; rw [ao.out]; go_wp2_with fail
   cases b6:inC r.pf 0 ((ns:Int) - 1)
   case false=>
    have aC:=hide b6
    clear b6
    refine(Al _ _ _ _).mono ?_; rintro e w' ⟨rfl,rfl⟩; rw [aC.out]; go_wp2_with fail
    go_ret
    exact⟨congrArg (Value.int .i64) (aK.out.trans (by rw [show inN r.fr (ns:Int)=true from ak.out,show inN r.to (ns:Int)=true from ao.out,show inN r.pf (ns:Int)=false from aC.out]; rfl)).symm,aA.out⟩
   have aC:=hide b6
   clear b6
   refine(Al _ _ _ _).mono ?_; rintro e w' ⟨rfl,rfl⟩; rw [aC.out]; go_wp2_with fail
   cases b7:inC r.pt 0 ((ns:Int) - 1)
   case false=>
    have aM:=hide b7
    clear b7
    refine(Al _ _ _ _).mono ?_; rintro e w' ⟨rfl,rfl⟩; rw [aM.out]; go_wp2_with fail
    go_ret
    exact⟨congrArg (Value.int .i64) (aK.out.trans (by rw [show inN r.fr (ns:Int)=true from ak.out,show inN r.to (ns:Int)=true from ao.out,show inN r.pf (ns:Int)=true from aC.out,show inN r.pt (ns:Int)=false from aM.out]; rfl)).symm,aA.out⟩
   have aM:=hide b7
   clear b7
   refine(Al _ _ _ _).mono ?_; rintro e w' ⟨rfl,rfl⟩; rw [aM.out]; go_wp2_with fail
   have al:=hide (show EV=Ac (!AF r.rd (nv:Int)||!AF r.wr (nv:Int)) 5 from aK.out.trans (by rw [show inN r.fr (ns:Int)=true from ak.out,show inN r.to (ns:Int)=true from ao.out,show inN r.pf (ns:Int)=true from aC.out,show inN r.pt (ns:Int)=true from aM.out]; rfl))
   go_loopw [10] (fun ii wr=>∃(k:Nat),ii=.int .i64 (k:Int)∧k≤ng∧Hid (Below w5.heap.size w5 wr)) (fun ii _=>ng - (intOf ii).toNat)
   case atStart=>exact⟨0,rfl,Nat.zero_le _,Below.refl _ _⟩
   case round=>
    obtain⟨k,rfl,hk,ci⟩:=hrel
    have bo:=hide (bl.out.at ci.out)
    have eI:=bo.out.b2.cell
    have eJ:=bo.out.b5.cell
    have bp:=hide (aA.out.trans (ci.out.mono aA.out.size))
    by_cases eK:k<ng
    ·exfalso
     have:=bn.out
     omega
    ·go_wp2_with fail
     have dm:=hide (show Aa r.ex (ns:Int)=0 from by rw [ad.out.2.1]; rfl)
     refine Calls.ret (de _ bp.out) ?_; rintro v w7 ⟨rfl,bq⟩; rw [dm.out]; have aD:=hide (bo.out.at bq); have eM:=aD.out.b2.cell; have eN:=aD.out.b5.cell; have a6:=hide (bp.out.trans (bq.mono bp.out.size)); clear bq; go_wp2_with fail
     by_cases aE:r.rd= -1
     case pos=>
      have dn:(r.rd != -1)=false:=by simp [aE]
      have aF:=hide aE
      clear aE
      have V1:=hide (show AF r.rd (nv:Int)=true from by rw [aF.out]; exact Dm (by omega))
      by_cases a4:r.wr= -1
      case pos=>
       have br:(r.wr != -1)=false:=by simp [a4]
       have af:=hide a4
       clear a4
       have V2:=hide (show AF r.wr (nv:Int)=true from by rw [af.out]; exact Dm (by omega))
       have ap:=hide (show Aa r.fa (ns:Int)=0 from by rw [ad.out.2.2.1]; rfl)
       refine Calls.ret (aS _ a6.out) ?_; rintro v w8 ⟨rfl,F⟩; rw [ap.out]; have G:=hide (aD.out.at F); have bt:=G.out.b2.cell; have bu:=G.out.b5.cell; have E:=hide (a6.out.trans (F.mono a6.out.size)); clear F; go_wp2_with fail
       have aq:=hide (show EV=0 from al.out.trans (by rw [V1.out,V2.out]; rfl))
       have ar:=hide (show Aa r.send (nm:Int)=0 from by rw [ad.out.2.2.2]; rfl)
       refine Calls.ret (aT _ E.out) ?_; rintro v w9 ⟨rfl,I⟩; rw [ar.out]; have J:=hide (G.out.at I); have bw:=J.out.b2.cell; have bx:=J.out.b5.cell; have M:=hide (E.out.trans (I.mono E.out.size)); clear I; go_wp2_with fail
       have au:=hide (show Aa r.left (ns:Int)=0 from by rw [a5.out.1]; rfl)
       refine Calls.ret (aU _ M.out) ?_; rintro v wa ⟨rfl,O⟩; rw [au.out]; have U:=hide (J.out.at O); have bA:=U.out.b2.cell; have bB:=U.out.b5.cell; have V:=hide (M.out.trans (O.mono M.out.size)); clear O; go_wp2_with fail
       have av:=hide (show Aa r.right (ns:Int)=0 from by rw [a5.out.2.1]; rfl)
       refine Calls.ret (aV _ V.out) ?_; rintro v wb ⟨rfl,W⟩; rw [av.out]; have Z:=hide (U.out.at W); have bD:=Z.out.b2.cell; have bE:=Z.out.b5.cell; have a2:=hide (V.out.trans (W.mono V.out.size)); clear W; go_wp2_with fail
       have aw:=hide (show Aa r.parent (ns:Int)=0 from by rw [a5.out.2.2]; rfl)
       refine Calls.ret (aW _ a2.out) ?_; rintro v wc ⟨rfl,a3⟩; rw [aw.out]; have a9:=hide (Z.out.at a3); have bG:=a9.out.b2.cell; have bH:=a9.out.b5.cell; have ax:=hide (a2.out.trans (a3.mono a2.out.size)); clear a3; go_wp2_with fail
       go_ret
       exact⟨congrArg (Value.int .i64) (aq.out).symm,ax.out⟩
      have br:(r.wr != -1)=true:=by simp [a4]
      have af:=hide a4
      clear a4
      have ap:=hide (show Aa r.fa (ns:Int)=0 from by rw [ad.out.2.2.1]; rfl)
      refine Calls.ret (aS _ a6.out) ?_; rintro v w8 ⟨rfl,F⟩; rw [ap.out]; have G:=hide (aD.out.at F); have bt:=G.out.b2.cell; have bu:=G.out.b5.cell; have E:=hide (a6.out.trans (F.mono a6.out.size)); clear F; go_wp2_with fail
      cases ag:inC r.wr 0 ((nv:Int) - 1)
      case false=>
       have aa:=hide ag
       clear ag
       have V2:=hide (show AF r.wr (nv:Int)=false from(BV af.out).trans aa.out)
       refine(Al _ _ _ _).mono ?_; rintro e w' ⟨rfl,rfl⟩; rw [aa.out]; go_wp2_with fail
       go_ret
       exact⟨congrArg (Value.int .i64) (al.out.trans (by rw [V1.out,V2.out]; rfl)).symm,E.out⟩
      have aa:=hide ag
      clear ag
      have V2:=hide (show AF r.wr (nv:Int)=true from(BV af.out).trans aa.out)
      refine(Al _ _ _ _).mono ?_; rintro e w' ⟨rfl,rfl⟩; rw [aa.out]; go_wp2_with fail
      have aq:=hide (show EV=0 from al.out.trans (by rw [V1.out,V2.out]; rfl))
      have ar:=hide (show Aa r.send (nm:Int)=0 from by rw [ad.out.2.2.2]; rfl)
      refine Calls.ret (aT _ E.out) ?_; rintro v w9 ⟨rfl,I⟩; rw [ar.out]; have J:=hide (G.out.at I); have bw:=J.out.b2.cell; have bx:=J.out.b5.cell; have M:=hide (E.out.trans (I.mono E.out.size)); clear I; go_wp2_with fail
      have au:=hide (show Aa r.left (ns:Int)=0 from by rw [a5.out.1]; rfl)
      refine Calls.ret (aU _ M.out) ?_; rintro v wa ⟨rfl,O⟩; rw [au.out]; have U:=hide (J.out.at O); have bA:=U.out.b2.cell; have bB:=U.out.b5.cell; have V:=hide (M.out.trans (O.mono M.out.size)); clear O; go_wp2_with fail
      have av:=hide (show Aa r.right (ns:Int)=0 from by rw [a5.out.2.1]; rfl)
      refine Calls.ret (aV _ V.out) ?_; rintro v wb ⟨rfl,W⟩; rw [av.out]; have Z:=hide (U.out.at W); have bD:=Z.out.b2.cell; have bE:=Z.out.b5.cell; have a2:=hide (V.out.trans (W.mono V.out.size)); clear W; go_wp2_with fail
      have aw:=hide (show Aa r.parent (ns:Int)=0 from by rw [a5.out.2.2]; rfl)
      refine Calls.ret (aW _ a2.out) ?_; rintro v wc ⟨rfl,a3⟩; rw [aw.out]; have a9:=hide (Z.out.at a3); have bG:=a9.out.b2.cell; have bH:=a9.out.b5.cell; have ax:=hide (a2.out.trans (a3.mono a2.out.size)); clear a3; go_wp2_with fail
      go_ret
      exact⟨congrArg (Value.int .i64) (aq.out).symm,ax.out⟩
     have dn:(r.rd != -1)=true:=by simp [aE]
     have aF:=hide aE
     clear aE
     by_cases a4:r.wr= -1
     case pos=>
      have br:(r.wr != -1)=false:=by simp [a4]
      have af:=hide a4
      clear a4
      have V2:=hide (show AF r.wr (nv:Int)=true from by rw [af.out]; exact Dm (by omega))
      have ap:=hide (show Aa r.fa (ns:Int)=0 from by rw [ad.out.2.2.1]; rfl)
      refine Calls.ret (aS _ a6.out) ?_; rintro v w8 ⟨rfl,F⟩; rw [ap.out]; have G:=hide (aD.out.at F); have bt:=G.out.b2.cell; have bu:=G.out.b5.cell; have E:=hide (a6.out.trans (F.mono a6.out.size)); clear F; go_wp2_with fail
      cases ah:inC r.rd 0 ((nv:Int) - 1)
      case false=>
       have ab:=hide ah
       clear ah
       have V1:=hide (show AF r.rd (nv:Int)=false from(BV aF.out).trans ab.out)
       refine(Al _ _ _ _).mono ?_; rintro e w' ⟨rfl,rfl⟩; rw [ab.out]; go_wp2_with fail
       go_ret
       exact⟨congrArg (Value.int .i64) (al.out.trans (by rw [V1.out]; rfl)).symm,E.out⟩
      have ab:=hide ah
      clear ah
      have V1:=hide (show AF r.rd (nv:Int)=true from(BV aF.out).trans ab.out)
      refine(Al _ _ _ _).mono ?_; rintro e w' ⟨rfl,rfl⟩; rw [ab.out]; go_wp2_with fail
      have aq:=hide (show EV=0 from al.out.trans (by rw [V1.out,V2.out]; rfl))
      have ar:=hide (show Aa r.send (nm:Int)=0 from by rw [ad.out.2.2.2]; rfl)
      refine Calls.ret (aT _ E.out) ?_; rintro v w9 ⟨rfl,I⟩; rw [ar.out]; have J:=hide (G.out.at I); have bw:=J.out.b2.cell; have bx:=J.out.b5.cell; have M:=hide (E.out.trans (I.mono E.out.size)); clear I; go_wp2_with fail
      have au:=hide (show Aa r.left (ns:Int)=0 from by rw [a5.out.1]; rfl)
      refine Calls.ret (aU _ M.out) ?_; rintro v wa ⟨rfl,O⟩; rw [au.out]; have U:=hide (J.out.at O); have bA:=U.out.b2.cell; have bB:=U.out.b5.cell; have V:=hide (M.out.trans (O.mono M.out.size)); clear O; go_wp2_with fail
      have av:=hide (show Aa r.right (ns:Int)=0 from by rw [a5.out.2.1]; rfl)
      refine Calls.ret (aV _ V.out) ?_; rintro v wb ⟨rfl,W⟩; rw [av.out]; have Z:=hide (U.out.at W); have bD:=Z.out.b2.cell; have bE:=Z.out.b5.cell; have a2:=hide (V.out.trans (W.mono V.out.size)); clear W; go_wp2_with fail
      have aw:=hide (show Aa r.parent (ns:Int)=0 from by rw [a5.out.2.2]; rfl)
      refine Calls.ret (aW _ a2.out) ?_; rintro v wc ⟨rfl,a3⟩; rw [aw.out]; have a9:=hide (Z.out.at a3); have bG:=a9.out.b2.cell; have bH:=a9.out.b5.cell; have ax:=hide (a2.out.trans (a3.mono a2.out.size)); clear a3; go_wp2_with fail
      go_ret
      exact⟨congrArg (Value.int .i64) (aq.out).symm,ax.out⟩
     have br:(r.wr != -1)=true:=by simp [a4]
     have af:=hide a4
     clear a4
     have ap:=hide (show Aa r.fa (ns:Int)=0 from by rw [ad.out.2.2.1]; rfl)
     refine Calls.ret (aS _ a6.out) ?_; rintro v w8 ⟨rfl,F⟩; rw [ap.out]; have G:=hide (aD.out.at F); have bt:=G.out.b2.cell; have bu:=G.out.b5.cell; have E:=hide (a6.out.trans (F.mono a6.out.size)); clear F; go_wp2_with fail
     cases ah:inC r.rd 0 ((nv:Int) - 1)
     case false=>
      have ab:=hide ah
      clear ah
      have V1:=hide (show AF r.rd (nv:Int)=false from(BV aF.out).trans ab.out)
      refine(Al _ _ _ _).mono ?_; rintro e w' ⟨rfl,rfl⟩; rw [ab.out]; go_wp2_with fail
      go_ret
      exact⟨congrArg (Value.int .i64) (al.out.trans (by rw [V1.out]; rfl)).symm,E.out⟩
     have ab:=hide ah
     clear ah
     have V1:=hide (show AF r.rd (nv:Int)=true from(BV aF.out).trans ab.out)
     refine(Al _ _ _ _).mono ?_; rintro e w' ⟨rfl,rfl⟩; rw [ab.out]; go_wp2_with fail
     cases ag:inC r.wr 0 ((nv:Int) - 1)
     case false=>
      have aa:=hide ag
      clear ag
      have V2:=hide (show AF r.wr (nv:Int)=false from(BV af.out).trans aa.out)
      refine(Al _ _ _ _).mono ?_; rintro e w' ⟨rfl,rfl⟩; rw [aa.out]; go_wp2_with fail
      go_ret
      exact⟨congrArg (Value.int .i64) (al.out.trans (by rw [V1.out,V2.out]; rfl)).symm,E.out⟩
     have aa:=hide ag
     clear ag
     have V2:=hide (show AF r.wr (nv:Int)=true from(BV af.out).trans aa.out)
     refine(Al _ _ _ _).mono ?_; rintro e w' ⟨rfl,rfl⟩; rw [aa.out]; go_wp2_with fail
     have aq:=hide (show EV=0 from al.out.trans (by rw [V1.out,V2.out]; rfl))
     have ar:=hide (show Aa r.send (nm:Int)=0 from by rw [ad.out.2.2.2]; rfl)
     refine Calls.ret (aT _ E.out) ?_; rintro v w9 ⟨rfl,I⟩; rw [ar.out]; have J:=hide (G.out.at I); have bw:=J.out.b2.cell; have bx:=J.out.b5.cell; have M:=hide (E.out.trans (I.mono E.out.size)); clear I; go_wp2_with fail
     have au:=hide (show Aa r.left (ns:Int)=0 from by rw [a5.out.1]; rfl)
     refine Calls.ret (aU _ M.out) ?_; rintro v wa ⟨rfl,O⟩; rw [au.out]; have U:=hide (J.out.at O); have bA:=U.out.b2.cell; have bB:=U.out.b5.cell; have V:=hide (M.out.trans (O.mono M.out.size)); clear O; go_wp2_with fail
     have av:=hide (show Aa r.right (ns:Int)=0 from by rw [a5.out.2.1]; rfl)
     refine Calls.ret (aV _ V.out) ?_; rintro v wb ⟨rfl,W⟩; rw [av.out]; have Z:=hide (U.out.at W); have bD:=Z.out.b2.cell; have bE:=Z.out.b5.cell; have a2:=hide (V.out.trans (W.mono V.out.size)); clear W; go_wp2_with fail
     have aw:=hide (show Aa r.parent (ns:Int)=0 from by rw [a5.out.2.2]; rfl)
     refine Calls.ret (aW _ a2.out) ?_; rintro v wc ⟨rfl,a3⟩; rw [aw.out]; have a9:=hide (Z.out.at a3); have bG:=a9.out.b2.cell; have bH:=a9.out.b5.cell; have ax:=hide (a2.out.trans (a3.mono a2.out.size)); clear a3; go_wp2_with fail
     go_ret
     exact⟨congrArg (Value.int .i64) (aq.out).symm,ax.out⟩
end Go.Proofs.YtlakpndhhelliaaGreatDoor.K
