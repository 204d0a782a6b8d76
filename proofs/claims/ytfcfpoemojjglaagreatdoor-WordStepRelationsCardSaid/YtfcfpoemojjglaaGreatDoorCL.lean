/-
  Part CL of a proof.
-/
import Derived.Test.YtfcfpoemojjglaaGreatDoorPA
import Derived.Test.YtfcfpoemojjglaaGreatDoorCJ
import Derived.Test.YtfcfpoemojjglaaGreatDoorCI
set_option maxHeartbeats 16000000
set_option maxRecDepth 100000
set_option linter.unusedVariables false
set_option linter.unusedSimpArgs false
namespace Go.Proofs.YtfcfpoemojjglaaGreatDoor.K
open Go.RowKit
attribute [-go_sem] loadCellsFrom storeCells
theorem SG {w:World} {cs:List Value} {p:Am} {r:Az} {i:Nat} (h:At w w.heap.size cs p) (hr:p.rules[i]?=some r) (hs:r.Small) (eR:r.name.size≤500) (bz:p.Small) (hT:A0 w) (e8:Hid (((p.rules.take i).any fun x=>decide (x.name=r.name))=false)) (cU:Hid (Ab r.name=true)) (bP:Hid (inC r.kind 1 5=true)) (bN:(decide (r.kind≤3) != (p.topo==1))=false) (bA:Hid (B9 p.topo r=false)) (a6:r.kind=2∨r.kind=3∨r.kind=5):
  Calls Tryz.prog 138 #[.agg cs.toArray,.int .i64 (i:Int)] w (Ret fun v w'=>v=.int .i64 (BC Ab p.topo (p.states.length:Int) (p.messages.length:Int) (p.values.length:Int) false r)∧Below w.heap.size w w'):=by
 obtain⟨A1,c1,A2,c2,A3,c3,A4,c4,A5,c5,A6,c6,A7,c7,cV,eS,eT,ce,dS,dT,eU,eV,eW,eX,eY,-,-,-,-,-,-,h7,dH⟩:=h.cells
 have dJ:=AP hr
 have dO:=bz.states
 have dP:=bz.messages
 have dQ:=bz.values
 have eQ:=bz.rules
 have dy:=hide h7
 obtain⟨w1,fp,bK,cm,dK⟩:=Ae w cs.toArray 27
 have bs:=bK.trans ((Ap w1).mono bK.size)
 have bG:Blk w1.drew w.heap.size 27 cs.toArray:=cm
 obtain⟨b,fq,rc,hA,eA,hC,dI,dM⟩:=Du (h7.keep (w':=w1.drew) (B':=w.heap.size) (R':=AW w1.drew w.heap.size) (fun _ hp=>bs.cell hp) (fun _ _ h=>h.keep (fun _ hp=>bs.cell hp) (Nat.le_refl _)) (Nat.le_refl _)) hr
 obtain⟨w2,e9,bL,cn,dL⟩:=Ae w1.drew rc 99
 have co:Blk w2 w1.heap.size 99 rc:=cn
 have cj:=Dv w1.drew 99 18 (by kernel_rfl) hC.size hC.one
 rw [e9] at cj
 have e6:∀c:Array Value,c.size=18→(storeCells ⟨w1.heap.size,0,none⟩ rc.toList 0).run Tryz.prog (w1.alloc (.cells c 99)).drew=.ok () w2:=cj
 clear cj
 have bW:=bG.below bL
 have br:=hide (bs.trans (bL.mono bs.size))
 have bY:=hide (show Cp w2 w.heap.size w1.heap.size cs.toArray rc p r from⟨h.keep (fun _ hp=>br.out.cell hp) br.out.size,hC.is.keep (fun _ hp=>bL.cell (by show _<w1.heap.size; have:=bK.size; omega)) br.out.size,bW,co,hT.below br.out⟩)
 have cW:=hC.is.cells
 simp only [Array.toArray_toList] at cW
 obtain⟨E1,f1,E2,f2,E3,f3,E4,f4,E5,f5,E6,f6,E7,f7,E8,f8,⟨cX,eZ,f0,fi,fj,fk,fl,dV,cg,fm,fn,f9,fb,fc,fd,fe,ff,fg,fh⟩,⟨ct,cu,cv,cw,cx,cy,cz,cA⟩⟩:=cW
 have aU:∀{D:Type} {sz:Nat} {enc:D→Nat→Value} {A:Option Addr} {ds:List D},Sl w1.drew w.heap.size sz enc A ds→Sl w w.heap.size sz enc A ds:=fun h=>h.keep (fun _ hp=>(bs.cell hp).symm) (Nat.le_refl _)
 have dz:=hide (aU ct)
 have ez:=hide (aU cu)
 have dA:=hide (aU cv)
 have dB:=hide (aU cw)
 have dC:=hide (aU cx)
 have dD:=hide (aU cy)
 have dE:=hide (aU cz)
 have dF:=hide (aU cA)
 have eE:=bG.cell
 have dx:=hide bG
 have dw:=hide bW
 generalize dU:cs.toArray=pc at*
 have cf:=hide cV
 obtain⟨cY,dX,dY,dZ,e0,e3,e4,e5⟩:=hs
 have ci:=hide (show r.Small from⟨cY,dX,dY,dZ,e0,e3,e4,e5⟩)
 have fo:=hide hr
 have eL:=dH
 have dR:=hide (show i<p.rules.length from dJ)
 obtain⟨ns,cb⟩:∃n,n=p.states.length:=⟨_,rfl⟩
 obtain⟨nm,c9⟩:∃n,n=p.messages.length:=⟨_,rfl⟩
 obtain⟨nv,cc⟩:∃n,n=p.values.length:=⟨_,rfl⟩
 have ey:=hide (show ns=p.states.length∧nm=p.messages.length∧nv=p.values.length from⟨cb,c9,cc⟩)
 rw [←cb] at ce dO ⊢
 rw [←c9] at dS dP ⊢
 rw [←cc] at dT dQ ⊢
 obtain⟨EV,bI⟩:∃e,Hid (BC Ab p.topo (ns:Int) (nm:Int) (nv:Int) false r=e):=⟨_,rfl⟩
 rw [bI.out]
 subst hA
 clear dI hC dK dL bK bL bs cm cn co bG bW cV dU hr h h7 cb c9 cc hT bz ct cu cv cw cx cy cz cA aU
 have bX:=hide (show KOK Ab p.topo r from⟨cU.out,bP.out,bN,bA.out⟩)
 have bo:=hide (DF bA.out)
 have c8:∀wx,Below w.heap.size w wx→Calls Tryz.prog 97 #[.slice E3 r.ex.length f3,.int .i64 (ns:Int)] wx (Ret fun v w'=>v=.int .i64 (Aa r.ex (ns:Int))∧Below wx.heap.size wx w'):=fun wx hx=>B0 (by omega) (dA.out.keep (fun _ hp=>hx.cell hp) hx.size)
 have aY:∀wx,Below w.heap.size w wx→Calls Tryz.prog 97 #[.slice E4 r.fa.length f4,.int .i64 (ns:Int)] wx (Ret fun v w'=>v=.int .i64 (Aa r.fa (ns:Int))∧Below wx.heap.size wx w'):=fun wx hx=>B0 (by omega) (dB.out.keep (fun _ hp=>hx.cell hp) hx.size)
 have b7:∀wx,Below w.heap.size w wx→Calls Tryz.prog 97 #[.slice E5 r.send.length f5,.int .i64 (nm:Int)] wx (Ret fun v w'=>v=.int .i64 (Aa r.send (nm:Int))∧Below wx.heap.size wx w'):=fun wx hx=>B0 (by omega) (dC.out.keep (fun _ hp=>hx.cell hp) hx.size)
 have b0:∀wx,Below w.heap.size w wx→Calls Tryz.prog 97 #[.slice E6 r.left.length f6,.int .i64 (ns:Int)] wx (Ret fun v w'=>v=.int .i64 (Aa r.left (ns:Int))∧Below wx.heap.size wx w'):=fun wx hx=>B0 (by omega) (dD.out.keep (fun _ hp=>hx.cell hp) hx.size)
 have b6:∀wx,Below w.heap.size w wx→Calls Tryz.prog 97 #[.slice E7 r.right.length f7,.int .i64 (ns:Int)] wx (Ret fun v w'=>v=.int .i64 (Aa r.right (ns:Int))∧Below wx.heap.size wx w'):=fun wx hx=>B0 (by omega) (dE.out.keep (fun _ hp=>hx.cell hp) hx.size)
 have aS:∀wx,Below w.heap.size w wx→Calls Tryz.prog 97 #[.slice E8 r.parent.length f8,.int .i64 (ns:Int)] wx (Ret fun v w'=>v=.int .i64 (Aa r.parent (ns:Int))∧Below wx.heap.size wx w'):=fun wx hx=>B0 (by omega) (dF.out.keep (fun _ hp=>hx.cell hp) hx.size)
 have eM:decide (r.kind≤3)=(p.topo==1):=by cases h1:decide (r.kind≤3) <;> cases h2:(p.topo==1) <;> simp [h1,h2] at bN ⊢
 have eN:=hide bN
 clear bN
 go_enter Tryz.func138,Tryz.ntmps138
 go_wp2_with fail
 refine Reg.cI [0,1,0,7,15,0,32,96,0,287,1023] [0,1,2,3,4,5,6,7,8,9,10] ?_
 refine Reg.wI [0,1,2,3,4,5,6,7,8] [9,10] rfl fun Qf aR=>?_
 go_wp2_with fail
 first | refine aR _ _ ⟨rfl,?_⟩ | refine⟨rfl,?_⟩ | refine aR _ _ ⟨by simp [Reg.fineT,Reg.intOp,Region.wanted,yielded,Reg.intFine,Reg.isInt,Act.eval],?_⟩
 try clear aR
 refine Reg.aI 9 [10] [6] rfl fun Qf aR=>?_
 simp only [gT,gS,gZ]
 go_wp2_with fail
 first | refine aR _ _ ⟨?_,?_⟩ | refine⟨?_,?_⟩
 ·intro z hz q hq
  simp only [List.mem_cons,List.not_mem_nil,or_false] at hz
  subst hz
  injection hq with hq
  subst hq
  exact Reg.same_load1 rfl rfl (((dx.out.kept ((Ac.refl _ (fun _=>False)).alloc _) id).cell 2).trans ce) ((dw.out.cell 2).trans ce) Tryz.underlying22 rfl
 try clear aR
 refine Reg.wI [10] [] rfl fun Qf aR=>?_
 go_wp2_with fail
 first | refine aR _ _ ⟨rfl,?_⟩ | refine⟨rfl,?_⟩ | refine aR _ _ ⟨by simp [Reg.fineT,Reg.intOp,Region.wanted,yielded,Reg.intFine,Reg.isInt,Act.eval],?_⟩
 try clear aR
 first | refine Reg.restI_end ?_ | skip
 have ch:=hide cX
 clear cX e6 dM
 have eF:=bY.out.b2.cell
 have eI:=bY.out.b5.cell
 go_wp2_with fail
 go_wp2_with (go_at_call 96; refine Calls.ret (Cm r.name _ (by omega)) ?_; rintro v w3 ⟨rfl,c0⟩; rw [cU.out]; have bZ:=hide (bY.out.at c0); have eG:=bZ.out.b2.cell; have eJ:=bZ.out.b5.cell; have cD:=hide (br.out.trans (c0.mono br.out.size)); clear c0)
 go_loopw [7] (fun ii wr=>∃(k:Nat),ii=.int .i64 (k:Int)∧k≤i∧Hid (Below w3.heap.size w3 wr)∧Hid ((p.rules.take k).all (fun x=>!decide (x.name=r.name))=true)) (fun ii _=>i - (intOf ii).toNat)
 case atStart=>exact⟨0,rfl,Nat.zero_le _,Below.refl _ _,by show _=_; simp⟩
 case round=>
  obtain⟨k,rfl,hk,bM,hE⟩:=hrel
  have aw:=hide (bZ.out.at bM.out)
  have eH:=aw.out.b2.cell
  have eK:=aw.out.b5.cell
  have b9:=hide (cD.out.trans (bM.out.mono cD.out.size))
  by_cases dN:k<i
  ·obtain⟨x,hx⟩:∃x,p.rules[k]?=some x:=⟨_,List.getElem?_eq_getElem (by have:=dR.out; omega)⟩
   obtain⟨b',fs,xc,ck,eB,cp,cL,-⟩:=Du (dy.out.keep (w':=wr) (B':=w.heap.size) (R':=AW wr w.heap.size) (fun _ hp=>b9.out.cell hp) (fun _ _ h=>h.keep (fun _ hp=>b9.out.cell hp) (Nat.le_refl _)) (Nat.le_refl _)) hx
   have e1:=Option.some.inj ck
   injection e1 with e1 e2 _
   subst e1 e2
   have bB:=cp.is.cells
   simp only [Array.toArray_toList] at bB
   obtain⟨-,-,-,-,-,-,-,-,-,-,-,-,-,-,-,-,⟨-,bB,-⟩,-⟩:=bB
   have ea:=cL 0 _ bB
   simp only [Nat.add_zero] at ea
   have d1:=hide hx
   clear cL cp hx bB ck
   by_cases bJ:x.name=r.name
   ·exfalso
    have h1:=e8.out
    rw [List.any_eq_false] at h1
    refine h1 x (List.mem_of_getElem? (i:=k) ?_) (decide_eq_true bJ)
    rw [List.getElem?_take,if_pos dN]
    exact d1.out
   ·have hq:(x.name.toList==r.name.toList)=false:=by rw [DM]; exact decide_eq_false bJ
    have cd:=hide (Cq (p:=fun x:Az=>!decide (x.name=r.name)) d1.out hE.out (by simp [bJ]))
    have dG:=hide (bM.out.trans ((Ap wr).mono bM.out.size))
    clear bJ
    go_wp2_with fail
    refine Reg.cP [0,1,0,7,15,31,0,64,255] ?_
    go_wp2_with fail
    exact⟨⟨k+1,by go_num,by omega,dG.out,cd.out⟩,by simp [intOf]; omega⟩
  ·clear hE
   rcases a6 with a6 | a6 | a6
   ·have ay:=hide (bI.out.symm.trans (Sf bX.out a6))
    have q1:(r.kind==1)=false:=by rw [a6]; rfl
    have q2:(r.kind==2)=true:=by rw [a6]; rfl
    have q3:(r.kind==3)=false:=by rw [a6]; rfl
    have q4:(r.kind==4)=false:=by rw [a6]; rfl
    have q5:(r.kind==5)=false:=by rw [a6]; rfl
    have d6:(r.kind==2||r.kind==5)=true:=by rw [q2,q5]; rfl
    have aZ:=hide a6
    clear a6
    have a9:=hide (show r.guards=[]∧r.ex=[]∧r.fa=[]∧r.send=[] from bo.out.g (by rw [aZ.out]; decide))
    have a3:=hide (show r.left=[]∧r.right=[]∧r.parent=[] from bo.out.l (by rw [aZ.out]; decide))
    have cO:=Ah aw.out.b2 cf.out
    have cQ:=Ah aw.out.b5 ch.out
    go_wp2_with (first
     | (go_at_call 98; refine(Ao _ _ _ _).mono ?_; rintro e w' ⟨rfl,rfl⟩; rw [bP.out])
     | (go_at_call 192; refine Calls.ret (FD aw.out.pr aw.out.ru ci.out) ?_; rintro v w5 ⟨rfl,aN⟩; rw [bA.out]; have aK:=hide (aw.out.at aN); have cE:=aK.out.b2.cell; have cH:=aK.out.b5.cell; have ah:=hide (b9.out.trans (aN.mono b9.out.size)); clear aN))
    obtain⟨ng,aP⟩:∃n,n=r.guards.length:=⟨_,rfl⟩
    have aQ:=hide (show ng=0 from by rw [aP,a9.out.1]; rfl)
    rw [←aP] at cg
    have cS:¬(2:Int)<(ng:Int):=by have:=aQ.out; omega
    have cT:ng≤60:=by have:=aQ.out; omega
    clear aP
    cases aB:inC r.fr 0 ((ns:Int) - 1)
    case false=>
     have aa:=hide aB
     clear aB
     refine(Ao _ _ _ _).mono ?_; rintro e w' ⟨rfl,rfl⟩; rw [aa.out]; go_wp2_with fail
     go_ret
     exact⟨congrArg (Value.int .i64) (ay.out.trans (by rw [show inN r.fr (ns:Int)=false from aa.out]; rfl)).symm,ah.out⟩
    have aa:=hide aB
    clear aB
    refine(Ao _ _ _ _).mono ?_; rintro e w' ⟨rfl,rfl⟩; rw [aa.out]; go_wp2_with fail
    cases aC:inC r.to 0 ((ns:Int) - 1)
    case false=>
     have ad:=hide aC
     clear aC
     refine(Ao _ _ _ _).mono ?_; rintro e w' ⟨rfl,rfl⟩; rw [ad.out]; go_wp2_with fail
     go_ret
     exact⟨congrArg (Value.int .i64) (ay.out.trans (by rw [show inN r.fr (ns:Int)=true from aa.out,show inN r.to (ns:Int)=false from ad.out]; rfl)).symm,ah.out⟩
    have ad:=hide aC
    clear aC
    refine(Ao _ _ _ _).mono ?_; rintro e w' ⟨rfl,rfl⟩; rw [ad.out]; go_wp2_with fail
    cases b1:inC r.pf 0 ((ns:Int) - 1)
    case false=>
     have aD:=hide b1
     clear b1
     refine(Ao _ _ _ _).mono ?_; rintro e w' ⟨rfl,rfl⟩; rw [aD.out]; go_wp2_with fail
     go_ret
     exact⟨congrArg (Value.int .i64) (ay.out.trans (by rw [show inN r.fr (ns:Int)=true from aa.out,show inN r.to (ns:Int)=true from ad.out,show inN r.pf (ns:Int)=false from aD.out]; rfl)).symm,ah.out⟩
    have aD:=hide b1
    clear b1
    refine(Ao _ _ _ _).mono ?_; rintro e w' ⟨rfl,rfl⟩; rw [aD.out]; go_wp2_with fail
    cases b4:inC r.pt 0 ((ns:Int) - 1)
    case false=>
     have aJ:=hide b4
     clear b4
     refine(Ao _ _ _ _).mono ?_; rintro e w' ⟨rfl,rfl⟩; rw [aJ.out]; go_wp2_with fail
     go_ret
     exact⟨congrArg (Value.int .i64) (ay.out.trans (by rw [show inN r.fr (ns:Int)=true from aa.out,show inN r.to (ns:Int)=true from ad.out,show inN r.pf (ns:Int)=true from aD.out,show inN r.pt (ns:Int)=false from aJ.out]; rfl)).symm,ah.out⟩
    have aJ:=hide b4
    clear b4
    refine(Ao _ _ _ _).mono ?_; rintro e w' ⟨rfl,rfl⟩; rw [aJ.out]; go_wp2_with fail
    have az:=hide (show EV=Ad (!AO r.rd (nv:Int)||!AO r.wr (nv:Int)) 5 from ay.out.trans (by rw [show inN r.fr (ns:Int)=true from aa.out,show inN r.to (ns:Int)=true from ad.out,show inN r.pf (ns:Int)=true from aD.out,show inN r.pt (ns:Int)=true from aJ.out]; rfl))
    go_loopw [10] (fun ii wr=>∃(k:Nat),ii=.int .i64 (k:Int)∧k≤ng∧Hid (Below w5.heap.size w5 wr)) (fun ii _=>ng - (intOf ii).toNat)
    case atStart=>exact⟨0,rfl,Nat.zero_le _,Below.refl _ _⟩
    case round=>
     obtain⟨k,rfl,hk,ba⟩:=hrel
     have aL:=hide (aK.out.at ba.out)
     have cF:=aL.out.b2.cell
     have cJ:=aL.out.b5.cell
     have aM:=hide (ah.out.trans (ba.out.mono ah.out.size))
     by_cases cR:k<ng
     ·exfalso
      have:=aQ.out
      omega
     ·go_wp2_with fail
      have bu:=hide (show Aa r.ex (ns:Int)=0 from by rw [a9.out.2.1]; rfl)
      refine Calls.ret (c8 _ aM.out) ?_; rintro v w7 ⟨rfl,aO⟩; rw [bu.out]; have ax:=hide (aL.out.at aO); have cG:=ax.out.b2.cell; have cK:=ax.out.b5.cell; have a5:=hide (aM.out.trans (aO.mono aM.out.size)); clear aO; go_wp2_with fail
      by_cases aF:r.rd= -1
      case pos=>
       have bT:(r.rd != -1)=false:=by simp [aF]
       have aE:=hide aF
       clear aF
       have V1:=hide (show AO r.rd (nv:Int)=true from by rw [aE.out]; exact DW (by omega))
       by_cases a7:r.wr= -1
       case pos=>
        have bn:(r.wr != -1)=false:=by simp [a7]
        have al:=hide a7
        clear a7
        have V2:=hide (show AO r.wr (nv:Int)=true from by rw [al.out]; exact DW (by omega))
        have aq:=hide (show Aa r.fa (ns:Int)=0 from by rw [a9.out.2.2.1]; rfl)
        refine Calls.ret (aY _ a5.out) ?_; rintro v w8 ⟨rfl,U⟩; rw [aq.out]; have G:=hide (ax.out.at U); have bb:=G.out.b2.cell; have bf:=G.out.b5.cell; have y:=hide (a5.out.trans (U.mono a5.out.size)); clear U; go_wp2_with fail
        have aA:=hide (show EV=0 from az.out.trans (by rw [V1.out,V2.out]; rfl))
        have av:=hide (show Aa r.send (nm:Int)=0 from by rw [a9.out.2.2.2]; rfl)
        refine Calls.ret (b7 _ y.out) ?_; rintro v w9 ⟨rfl,V⟩; rw [av.out]; have I:=hide (G.out.at V); have bc:=I.out.b2.cell; have bg:=I.out.b5.cell; have M:=hide (y.out.trans (V.mono y.out.size)); clear V; go_wp2_with fail
        have ar:=hide (show Aa r.left (ns:Int)=0 from by rw [a3.out.1]; rfl)
        refine Calls.ret (b0 _ M.out) ?_; rintro v wa ⟨rfl,W⟩; rw [ar.out]; have J:=hide (I.out.at W); have bd:=J.out.b2.cell; have bh:=J.out.b5.cell; have O:=hide (M.out.trans (W.mono M.out.size)); clear W; go_wp2_with fail
        have au:=hide (show Aa r.right (ns:Int)=0 from by rw [a3.out.2.1]; rfl)
        refine Calls.ret (b6 _ O.out) ?_; rintro v wb ⟨rfl,Z⟩; rw [au.out]; have F:=hide (J.out.at Z); have be:=F.out.b2.cell; have bi:=F.out.b5.cell; have E:=hide (O.out.trans (Z.mono O.out.size)); clear Z; go_wp2_with fail
        have am:=hide (show Aa r.parent (ns:Int)=0 from by rw [a3.out.2.2]; rfl)
        refine Calls.ret (aS _ E.out) ?_; rintro v wc ⟨rfl,C⟩; rw [am.out]; have a4:=hide (F.out.at C); have aV:=a4.out.b2.cell; have aW:=a4.out.b5.cell; have ai:=hide (E.out.trans (C.mono E.out.size)); clear C; go_wp2_with fail
        go_ret
        exact⟨congrArg (Value.int .i64) (aA.out).symm,ai.out⟩
       have bn:(r.wr != -1)=true:=by simp [a7]
       have al:=hide a7
       clear a7
       have aq:=hide (show Aa r.fa (ns:Int)=0 from by rw [a9.out.2.2.1]; rfl)
       refine Calls.ret (aY _ a5.out) ?_; rintro v w8 ⟨rfl,U⟩; rw [aq.out]; have G:=hide (ax.out.at U); have bb:=G.out.b2.cell; have bf:=G.out.b5.cell; have y:=hide (a5.out.trans (U.mono a5.out.size)); clear U; go_wp2_with fail
       cases ao:inC r.wr 0 ((nv:Int) - 1)
       case false=>
        have af:=hide ao
        clear ao
        have V2:=hide (show AO r.wr (nv:Int)=false from(Cd al.out).trans af.out)
        refine(Ao _ _ _ _).mono ?_; rintro e w' ⟨rfl,rfl⟩; rw [af.out]; go_wp2_with fail
        go_ret
        exact⟨congrArg (Value.int .i64) (az.out.trans (by rw [V1.out,V2.out]; rfl)).symm,y.out⟩
       have af:=hide ao
       clear ao
       have V2:=hide (show AO r.wr (nv:Int)=true from(Cd al.out).trans af.out)
       refine(Ao _ _ _ _).mono ?_; rintro e w' ⟨rfl,rfl⟩; rw [af.out]; go_wp2_with fail
       have aA:=hide (show EV=0 from az.out.trans (by rw [V1.out,V2.out]; rfl))
       have av:=hide (show Aa r.send (nm:Int)=0 from by rw [a9.out.2.2.2]; rfl)
       refine Calls.ret (b7 _ y.out) ?_; rintro v w9 ⟨rfl,V⟩; rw [av.out]; have I:=hide (G.out.at V); have bc:=I.out.b2.cell; have bg:=I.out.b5.cell; have M:=hide (y.out.trans (V.mono y.out.size)); clear V; go_wp2_with fail
       have ar:=hide (show Aa r.left (ns:Int)=0 from by rw [a3.out.1]; rfl)
       refine Calls.ret (b0 _ M.out) ?_; rintro v wa ⟨rfl,W⟩; rw [ar.out]; have J:=hide (I.out.at W); have bd:=J.out.b2.cell; have bh:=J.out.b5.cell; have O:=hide (M.out.trans (W.mono M.out.size)); clear W; go_wp2_with fail
       have au:=hide (show Aa r.right (ns:Int)=0 from by rw [a3.out.2.1]; rfl)
       refine Calls.ret (b6 _ O.out) ?_; rintro v wb ⟨rfl,Z⟩; rw [au.out]; have F:=hide (J.out.at Z); have be:=F.out.b2.cell; have bi:=F.out.b5.cell; have E:=hide (O.out.trans (Z.mono O.out.size)); clear Z; go_wp2_with fail
       have am:=hide (show Aa r.parent (ns:Int)=0 from by rw [a3.out.2.2]; rfl)
       refine Calls.ret (aS _ E.out) ?_; rintro v wc ⟨rfl,C⟩; rw [am.out]; have a4:=hide (F.out.at C); have aV:=a4.out.b2.cell; have aW:=a4.out.b5.cell; have ai:=hide (E.out.trans (C.mono E.out.size)); clear C; go_wp2_with fail
       go_ret
       exact⟨congrArg (Value.int .i64) (aA.out).symm,ai.out⟩
      have bT:(r.rd != -1)=true:=by simp [aF]
      have aE:=hide aF
      clear aF
      by_cases a7:r.wr= -1
      case pos=>
       have bn:(r.wr != -1)=false:=by simp [a7]
       have al:=hide a7
       clear a7
       have V2:=hide (show AO r.wr (nv:Int)=true from by rw [al.out]; exact DW (by omega))
       have aq:=hide (show Aa r.fa (ns:Int)=0 from by rw [a9.out.2.2.1]; rfl)
       refine Calls.ret (aY _ a5.out) ?_; rintro v w8 ⟨rfl,U⟩; rw [aq.out]; have G:=hide (ax.out.at U); have bb:=G.out.b2.cell; have bf:=G.out.b5.cell; have y:=hide (a5.out.trans (U.mono a5.out.size)); clear U; go_wp2_with fail
       cases an:inC r.rd 0 ((nv:Int) - 1)
       case false=>
        have ae:=hide an
        clear an
        have V1:=hide (show AO r.rd (nv:Int)=false from(Cd aE.out).trans ae.out)
        refine(Ao _ _ _ _).mono ?_; rintro e w' ⟨rfl,rfl⟩; rw [ae.out]; go_wp2_with fail
        go_ret
        exact⟨congrArg (Value.int .i64) (az.out.trans (by rw [V1.out]; rfl)).symm,y.out⟩
       have ae:=hide an
       clear an
       have V1:=hide (show AO r.rd (nv:Int)=true from(Cd aE.out).trans ae.out)
       refine(Ao _ _ _ _).mono ?_; rintro e w' ⟨rfl,rfl⟩; rw [ae.out]; go_wp2_with fail
       have aA:=hide (show EV=0 from az.out.trans (by rw [V1.out,V2.out]; rfl))
       have av:=hide (show Aa r.send (nm:Int)=0 from by rw [a9.out.2.2.2]; rfl)
       refine Calls.ret (b7 _ y.out) ?_; rintro v w9 ⟨rfl,V⟩; rw [av.out]; have I:=hide (G.out.at V); have bc:=I.out.b2.cell; have bg:=I.out.b5.cell; have M:=hide (y.out.trans (V.mono y.out.size)); clear V; go_wp2_with fail
       have ar:=hide (show Aa r.left (ns:Int)=0 from by rw [a3.out.1]; rfl)
       refine Calls.ret (b0 _ M.out) ?_; rintro v wa ⟨rfl,W⟩; rw [ar.out]; have J:=hide (I.out.at W); have bd:=J.out.b2.cell; have bh:=J.out.b5.cell; have O:=hide (M.out.trans (W.mono M.out.size)); clear W; go_wp2_with fail
       have au:=hide (show Aa r.right (ns:Int)=0 from by rw [a3.out.2.1]; rfl)
       refine Calls.ret (b6 _ O.out) ?_; rintro v wb ⟨rfl,Z⟩; rw [au.out]; have F:=hide (J.out.at Z); have be:=F.out.b2.cell; have bi:=F.out.b5.cell; have E:=hide (O.out.trans (Z.mono O.out.size)); clear Z; go_wp2_with fail
       have am:=hide (show Aa r.parent (ns:Int)=0 from by rw [a3.out.2.2]; rfl)
       refine Calls.ret (aS _ E.out) ?_; rintro v wc ⟨rfl,C⟩; rw [am.out]; have a4:=hide (F.out.at C); have aV:=a4.out.b2.cell; have aW:=a4.out.b5.cell; have ai:=hide (E.out.trans (C.mono E.out.size)); clear C; go_wp2_with fail
       go_ret
       exact⟨congrArg (Value.int .i64) (aA.out).symm,ai.out⟩
      have bn:(r.wr != -1)=true:=by simp [a7]
      have al:=hide a7
      clear a7
      have aq:=hide (show Aa r.fa (ns:Int)=0 from by rw [a9.out.2.2.1]; rfl)
      refine Calls.ret (aY _ a5.out) ?_; rintro v w8 ⟨rfl,U⟩; rw [aq.out]; have G:=hide (ax.out.at U); have bb:=G.out.b2.cell; have bf:=G.out.b5.cell; have y:=hide (a5.out.trans (U.mono a5.out.size)); clear U; go_wp2_with fail
      cases an:inC r.rd 0 ((nv:Int) - 1)
      case false=>
       have ae:=hide an
       clear an
       have V1:=hide (show AO r.rd (nv:Int)=false from(Cd aE.out).trans ae.out)
       refine(Ao _ _ _ _).mono ?_; rintro e w' ⟨rfl,rfl⟩; rw [ae.out]; go_wp2_with fail
       go_ret
       exact⟨congrArg (Value.int .i64) (az.out.trans (by rw [V1.out]; rfl)).symm,y.out⟩
      have ae:=hide an
      clear an
      have V1:=hide (show AO r.rd (nv:Int)=true from(Cd aE.out).trans ae.out)
      refine(Ao _ _ _ _).mono ?_; rintro e w' ⟨rfl,rfl⟩; rw [ae.out]; go_wp2_with fail
      cases ao:inC r.wr 0 ((nv:Int) - 1)
      case false=>
       have af:=hide ao
       clear ao
       have V2:=hide (show AO r.wr (nv:Int)=false from(Cd al.out).trans af.out)
       refine(Ao _ _ _ _).mono ?_; rintro e w' ⟨rfl,rfl⟩; rw [af.out]; go_wp2_with fail
       go_ret
       exact⟨congrArg (Value.int .i64) (az.out.trans (by rw [V1.out,V2.out]; rfl)).symm,y.out⟩
      have af:=hide ao
      clear ao
      have V2:=hide (show AO r.wr (nv:Int)=true from(Cd al.out).trans af.out)
      refine(Ao _ _ _ _).mono ?_; rintro e w' ⟨rfl,rfl⟩; rw [af.out]; go_wp2_with fail
      have aA:=hide (show EV=0 from az.out.trans (by rw [V1.out,V2.out]; rfl))
      have av:=hide (show Aa r.send (nm:Int)=0 from by rw [a9.out.2.2.2]; rfl)
      refine Calls.ret (b7 _ y.out) ?_; rintro v w9 ⟨rfl,V⟩; rw [av.out]; have I:=hide (G.out.at V); have bc:=I.out.b2.cell; have bg:=I.out.b5.cell; have M:=hide (y.out.trans (V.mono y.out.size)); clear V; go_wp2_with fail
      have ar:=hide (show Aa r.left (ns:Int)=0 from by rw [a3.out.1]; rfl)
      refine Calls.ret (b0 _ M.out) ?_; rintro v wa ⟨rfl,W⟩; rw [ar.out]; have J:=hide (I.out.at W); have bd:=J.out.b2.cell; have bh:=J.out.b5.cell; have O:=hide (M.out.trans (W.mono M.out.size)); clear W; go_wp2_with fail
      have au:=hide (show Aa r.right (ns:Int)=0 from by rw [a3.out.2.1]; rfl)
      refine Calls.ret (b6 _ O.out) ?_; rintro v wb ⟨rfl,Z⟩; rw [au.out]; have F:=hide (J.out.at Z); have be:=F.out.b2.cell; have bi:=F.out.b5.cell; have E:=hide (O.out.trans (Z.mono O.out.size)); clear Z; go_wp2_with fail
      have am:=hide (show Aa r.parent (ns:Int)=0 from by rw [a3.out.2.2]; rfl)
      refine Calls.ret (aS _ E.out) ?_; rintro v wc ⟨rfl,C⟩; rw [am.out]; have a4:=hide (F.out.at C); have aV:=a4.out.b2.cell; have aW:=a4.out.b5.cell; have ai:=hide (E.out.trans (C.mono E.out.size)); clear C; go_wp2_with fail
      go_ret
      exact⟨congrArg (Value.int .i64) (aA.out).symm,ai.out⟩
   ·have ay:=hide (bI.out.symm.trans (Sg bX.out a6))
    have q1:(r.kind==1)=false:=by rw [a6]; rfl
    have q2:(r.kind==2)=false:=by rw [a6]; rfl
    have q3:(r.kind==3)=true:=by rw [a6]; rfl
    have q4:(r.kind==4)=false:=by rw [a6]; rfl
    have q5:(r.kind==5)=false:=by rw [a6]; rfl
    have d6:(r.kind==2||r.kind==5)=false:=by rw [q2,q5]; rfl
    have aZ:=hide a6
    clear a6
    have a9:=hide (show r.guards=[]∧r.ex=[]∧r.fa=[]∧r.send=[] from bo.out.g (by rw [aZ.out]; decide))
    have a3:=hide (show r.left=[]∧r.right=[]∧r.parent=[] from bo.out.l (by rw [aZ.out]; decide))
    have cO:=Ah aw.out.b2 cf.out
    have cQ:=Ah aw.out.b5 ch.out
    go_wp2_with (first
     | (go_at_call 98; refine(Ao _ _ _ _).mono ?_; rintro e w' ⟨rfl,rfl⟩; rw [bP.out])
     | (go_at_call 192; refine Calls.ret (FD aw.out.pr aw.out.ru ci.out) ?_; rintro v w5 ⟨rfl,aN⟩; rw [bA.out]; have aK:=hide (aw.out.at aN); have cE:=aK.out.b2.cell; have cH:=aK.out.b5.cell; have ah:=hide (b9.out.trans (aN.mono b9.out.size)); clear aN))
    obtain⟨ng,aP⟩:∃n,n=r.guards.length:=⟨_,rfl⟩
    have aQ:=hide (show ng=0 from by rw [aP,a9.out.1]; rfl)
    rw [←aP] at cg
    have cS:¬(2:Int)<(ng:Int):=by have:=aQ.out; omega
    have cT:ng≤60:=by have:=aQ.out; omega
    clear aP
    obtain⟨nq,ca⟩:∃n,n=r.resp.length:=⟨_,rfl⟩
    rw [←ca] at dV cY
    have bQ:=hide ca
    clear ca
    cases aB:inC r.fr 0 ((ns:Int) - 1)
    case false=>
     have aa:=hide aB
     clear aB
     refine(Ao _ _ _ _).mono ?_; rintro e w' ⟨rfl,rfl⟩; rw [aa.out]; go_wp2_with fail
     go_ret
     exact⟨congrArg (Value.int .i64) (ay.out.trans (by rw [show inN r.fr (ns:Int)=false from aa.out]; rfl)).symm,ah.out⟩
    have aa:=hide aB
    clear aB
    refine(Ao _ _ _ _).mono ?_; rintro e w' ⟨rfl,rfl⟩; rw [aa.out]; go_wp2_with fail
    cases aC:inC r.to 0 ((ns:Int) - 1)
    case false=>
     have ad:=hide aC
     clear aC
     refine(Ao _ _ _ _).mono ?_; rintro e w' ⟨rfl,rfl⟩; rw [ad.out]; go_wp2_with fail
     go_ret
     exact⟨congrArg (Value.int .i64) (ay.out.trans (by rw [show inN r.fr (ns:Int)=true from aa.out,show inN r.to (ns:Int)=false from ad.out]; rfl)).symm,ah.out⟩
    have ad:=hide aC
    clear aC
    by_cases bx:nq=ns
    case neg=>
     have Q0:((nq:Int) != (ns:Int))=true:=by
      have:((nq:Int)==(ns:Int))=false:=by
       simp
       omega
      simp [bne,this]
     have HL:=hide bx
     clear bx
     refine(Ao _ _ _ _).mono ?_; rintro e w' ⟨rfl,rfl⟩; rw [ad.out]; go_wp2_with fail
     go_ret
     exact⟨congrArg (Value.int .i64) (ay.out.trans (by rw [show inN r.fr (ns:Int)=true from aa.out,show inN r.to (ns:Int)=true from ad.out,show C8 (ns:Int) r.resp=1 from if_pos (by have h1:=HL.out; have h2:=bQ.out; omega)]; rfl)).symm,ah.out⟩
    have Q0:((nq:Int) != (ns:Int))=false:=by simp [bx]
    have HL:=hide bx
    clear bx
    refine(Ao _ _ _ _).mono ?_; rintro e w' ⟨rfl,rfl⟩; rw [ad.out]; go_wp2_with fail
    have az:=hide (show EV=orE (C8 (ns:Int) r.resp) (Ad (!AO r.rd (nv:Int)||!AO r.wr (nv:Int)) 5) from ay.out.trans (by rw [show inN r.fr (ns:Int)=true from aa.out,show inN r.to (ns:Int)=true from ad.out]; rfl))
    have cr:=hide (show C8 (ns:Int) r.resp=Aj (fun x=>Ad (!inE x (ns:Int)) 5) r.resp from if_neg (by have h1:=HL.out; have h2:=bQ.out; omega))
    go_loopw [9] (fun ii wr=>∃(k:Nat),ii=.int .i64 (k:Int)∧k≤ns∧w5=wr∧Hid (Aj (fun x=>Ad (!inE x (ns:Int)) 5) (r.resp.take k)=0)) (fun ii _=>ns - (intOf ii).toNat)
    case atStart=>exact⟨0,rfl,Nat.zero_le _,(by first | rfl | trivial),by show _=_; rfl⟩
    case round=>
     obtain⟨k3,rfl,eO,rfl,bH⟩:=hrel
     by_cases eP:k3<ns
     ·obtain⟨b3,ft,x,dv,eD,cZ,cM⟩:=(dz.out.keep (w':=w5) (B':=w.heap.size) (fun _ hp=>ah.out.cell hp) (Nat.le_refl _)).at (k:=k3) (by have h1:=HL.out; have h2:=bQ.out; omega)
      have d3:=cM 0 (by omega)
      simp only [Nat.add_zero,Nat.mul_one,Ai] at d3
      have d0:=hide cZ
      have ek:k3<nq:=by have h1:=HL.out; omega
      subst dv
      clear cM cZ
      go_wp2_with fail
      cases bO:inC x 0 ((ns:Int) - 1)
      ·have Fin:=hide bO
       clear bO
       have e7:=hide (show C8 (ns:Int) r.resp=5 from by
        have h1:Ad (!inE x (ns:Int)) 5=5:=by rw [C5,Fin.out]; rfl
        rw [cr.out,Ct (fun x=>Ad (!inE x (ns:Int)) 5) d0.out bH.out (by rw [h1]; decide),h1])
       refine(Ao _ _ _ _).mono ?_; rintro e w' ⟨rfl,rfl⟩; rw [Fin.out]; go_wp2_with fail
       go_ret
       exact⟨congrArg (Value.int .i64) (az.out.trans (by rw [e7.out]; rfl)).symm,ah.out⟩
      ·have Fin:=hide bO
       clear bO
       have cd:=hide (show Aj (fun x=>Ad (!inE x (ns:Int)) 5) (r.resp.take (k3+1))=0 from by
        rw [CD (fun x=>Ad (!inE x (ns:Int)) 5) d0.out bH.out,C5,Fin.out]
        rfl)
       refine(Ao _ _ _ _).mono ?_; rintro e w' ⟨rfl,rfl⟩; rw [Fin.out]; go_wp2_with fail
       exact⟨⟨k3+1,by go_num,by omega,(by first | rfl | trivial),cd.out⟩,by simp [intOf]; omega⟩
     ·have aA:=hide (show EV=Ad (!AO r.rd (nv:Int)||!AO r.wr (nv:Int)) 5 from az.out.trans (by
       have h1:=bH.out
       rw [List.take_of_length_le (by have h1:=HL.out; have h2:=bQ.out; omega)] at h1
       rw [cr.out,h1]
       rfl))
      clear bH
      go_wp2_with fail
      go_loopw [10] (fun ii wr=>∃(k:Nat),ii=.int .i64 (k:Int)∧k≤ng∧Hid (Below w5.heap.size w5 wr)) (fun ii _=>ng - (intOf ii).toNat)
      case atStart=>exact⟨0,rfl,Nat.zero_le _,Below.refl _ _⟩
      case round=>
       obtain⟨k,rfl,hk,ba⟩:=hrel
       have aL:=hide (aK.out.at ba.out)
       have cF:=aL.out.b2.cell
       have cJ:=aL.out.b5.cell
       have aM:=hide (ah.out.trans (ba.out.mono ah.out.size))
       by_cases cR:k<ng
       ·exfalso
        have:=aQ.out
        omega
       ·go_wp2_with fail
        have bu:=hide (show Aa r.ex (ns:Int)=0 from by rw [a9.out.2.1]; rfl)
        refine Calls.ret (c8 _ aM.out) ?_; rintro v w7 ⟨rfl,aO⟩; rw [bu.out]; have ax:=hide (aL.out.at aO); have cG:=ax.out.b2.cell; have cK:=ax.out.b5.cell; have a5:=hide (aM.out.trans (aO.mono aM.out.size)); clear aO; go_wp2_with fail
        by_cases aF:r.rd= -1
        case pos=>
         have bT:(r.rd != -1)=false:=by simp [aF]
         have aE:=hide aF
         clear aF
         have V1:=hide (show AO r.rd (nv:Int)=true from by rw [aE.out]; exact DW (by omega))
         by_cases a7:r.wr= -1
         case pos=>
          have bn:(r.wr != -1)=false:=by simp [a7]
          have al:=hide a7
          clear a7
          have V2:=hide (show AO r.wr (nv:Int)=true from by rw [al.out]; exact DW (by omega))
          have aq:=hide (show Aa r.fa (ns:Int)=0 from by rw [a9.out.2.2.1]; rfl)
          refine Calls.ret (aY _ a5.out) ?_; rintro v w8 ⟨rfl,U⟩; rw [aq.out]; have G:=hide (ax.out.at U); have bb:=G.out.b2.cell; have bf:=G.out.b5.cell; have y:=hide (a5.out.trans (U.mono a5.out.size)); clear U; go_wp2_with fail
          have bp:=hide (show EV=0 from aA.out.trans (by rw [V1.out,V2.out]; rfl))
          have av:=hide (show Aa r.send (nm:Int)=0 from by rw [a9.out.2.2.2]; rfl)
          refine Calls.ret (b7 _ y.out) ?_; rintro v w9 ⟨rfl,V⟩; rw [av.out]; have I:=hide (G.out.at V); have bc:=I.out.b2.cell; have bg:=I.out.b5.cell; have M:=hide (y.out.trans (V.mono y.out.size)); clear V; go_wp2_with fail
          have ar:=hide (show Aa r.left (ns:Int)=0 from by rw [a3.out.1]; rfl)
          refine Calls.ret (b0 _ M.out) ?_; rintro v wa ⟨rfl,W⟩; rw [ar.out]; have J:=hide (I.out.at W); have bd:=J.out.b2.cell; have bh:=J.out.b5.cell; have O:=hide (M.out.trans (W.mono M.out.size)); clear W; go_wp2_with fail
          have au:=hide (show Aa r.right (ns:Int)=0 from by rw [a3.out.2.1]; rfl)
          refine Calls.ret (b6 _ O.out) ?_; rintro v wb ⟨rfl,Z⟩; rw [au.out]; have F:=hide (J.out.at Z); have be:=F.out.b2.cell; have bi:=F.out.b5.cell; have E:=hide (O.out.trans (Z.mono O.out.size)); clear Z; go_wp2_with fail
          have am:=hide (show Aa r.parent (ns:Int)=0 from by rw [a3.out.2.2]; rfl)
          refine Calls.ret (aS _ E.out) ?_; rintro v wc ⟨rfl,C⟩; rw [am.out]; have a4:=hide (F.out.at C); have aV:=a4.out.b2.cell; have aW:=a4.out.b5.cell; have ai:=hide (E.out.trans (C.mono E.out.size)); clear C; go_wp2_with fail
          go_ret
          exact⟨congrArg (Value.int .i64) (bp.out).symm,ai.out⟩
         have bn:(r.wr != -1)=true:=by simp [a7]
         have al:=hide a7
         clear a7
         have aq:=hide (show Aa r.fa (ns:Int)=0 from by rw [a9.out.2.2.1]; rfl)
         refine Calls.ret (aY _ a5.out) ?_; rintro v w8 ⟨rfl,U⟩; rw [aq.out]; have G:=hide (ax.out.at U); have bb:=G.out.b2.cell; have bf:=G.out.b5.cell; have y:=hide (a5.out.trans (U.mono a5.out.size)); clear U; go_wp2_with fail
         cases ao:inC r.wr 0 ((nv:Int) - 1)
         case false=>
          have af:=hide ao
          clear ao
          have V2:=hide (show AO r.wr (nv:Int)=false from(Cd al.out).trans af.out)
          refine(Ao _ _ _ _).mono ?_; rintro e w' ⟨rfl,rfl⟩; rw [af.out]; go_wp2_with fail
          go_ret
          exact⟨congrArg (Value.int .i64) (aA.out.trans (by rw [V1.out,V2.out]; rfl)).symm,y.out⟩
         have af:=hide ao
         clear ao
         have V2:=hide (show AO r.wr (nv:Int)=true from(Cd al.out).trans af.out)
         refine(Ao _ _ _ _).mono ?_; rintro e w' ⟨rfl,rfl⟩; rw [af.out]; go_wp2_with fail
         have bp:=hide (show EV=0 from aA.out.trans (by rw [V1.out,V2.out]; rfl))
         have av:=hide (show Aa r.send (nm:Int)=0 from by rw [a9.out.2.2.2]; rfl)
         refine Calls.ret (b7 _ y.out) ?_; rintro v w9 ⟨rfl,V⟩; rw [av.out]; have I:=hide (G.out.at V); have bc:=I.out.b2.cell; have bg:=I.out.b5.cell; have M:=hide (y.out.trans (V.mono y.out.size)); clear V; go_wp2_with fail
         have ar:=hide (show Aa r.left (ns:Int)=0 from by rw [a3.out.1]; rfl)
         refine Calls.ret (b0 _ M.out) ?_; rintro v wa ⟨rfl,W⟩; rw [ar.out]; have J:=hide (I.out.at W); have bd:=J.out.b2.cell; have bh:=J.out.b5.cell; have O:=hide (M.out.trans (W.mono M.out.size)); clear W; go_wp2_with fail
         have au:=hide (show Aa r.right (ns:Int)=0 from by rw [a3.out.2.1]; rfl)
         refine Calls.ret (b6 _ O.out) ?_; rintro v wb ⟨rfl,Z⟩; rw [au.out]; have F:=hide (J.out.at Z); have be:=F.out.b2.cell; have bi:=F.out.b5.cell; have E:=hide (O.out.trans (Z.mono O.out.size)); clear Z; go_wp2_with fail
         have am:=hide (show Aa r.parent (ns:Int)=0 from by rw [a3.out.2.2]; rfl)
         refine Calls.ret (aS _ E.out) ?_; rintro v wc ⟨rfl,C⟩; rw [am.out]; have a4:=hide (F.out.at C); have aV:=a4.out.b2.cell; have aW:=a4.out.b5.cell; have ai:=hide (E.out.trans (C.mono E.out.size)); clear C; go_wp2_with fail
         go_ret
         exact⟨congrArg (Value.int .i64) (bp.out).symm,ai.out⟩
        have bT:(r.rd != -1)=true:=by simp [aF]
        have aE:=hide aF
        clear aF
        by_cases a7:r.wr= -1
        case pos=>
         have bn:(r.wr != -1)=false:=by simp [a7]
         have al:=hide a7
         clear a7
         have V2:=hide (show AO r.wr (nv:Int)=true from by rw [al.out]; exact DW (by omega))
         have aq:=hide (show Aa r.fa (ns:Int)=0 from by rw [a9.out.2.2.1]; rfl)
         refine Calls.ret (aY _ a5.out) ?_; rintro v w8 ⟨rfl,U⟩; rw [aq.out]; have G:=hide (ax.out.at U); have bb:=G.out.b2.cell; have bf:=G.out.b5.cell; have y:=hide (a5.out.trans (U.mono a5.out.size)); clear U; go_wp2_with fail
         cases an:inC r.rd 0 ((nv:Int) - 1)
         case false=>
          have ae:=hide an
          clear an
          have V1:=hide (show AO r.rd (nv:Int)=false from(Cd aE.out).trans ae.out)
          refine(Ao _ _ _ _).mono ?_; rintro e w' ⟨rfl,rfl⟩; rw [ae.out]; go_wp2_with fail
          go_ret
          exact⟨congrArg (Value.int .i64) (aA.out.trans (by rw [V1.out]; rfl)).symm,y.out⟩
         have ae:=hide an
         clear an
         have V1:=hide (show AO r.rd (nv:Int)=true from(Cd aE.out).trans ae.out)
         refine(Ao _ _ _ _).mono ?_; rintro e w' ⟨rfl,rfl⟩; rw [ae.out]; go_wp2_with fail
         have bp:=hide (show EV=0 from aA.out.trans (by rw [V1.out,V2.out]; rfl))
         have av:=hide (show Aa r.send (nm:Int)=0 from by rw [a9.out.2.2.2]; rfl)
         refine Calls.ret (b7 _ y.out) ?_; rintro v w9 ⟨rfl,V⟩; rw [av.out]; have I:=hide (G.out.at V); have bc:=I.out.b2.cell; have bg:=I.out.b5.cell; have M:=hide (y.out.trans (V.mono y.out.size)); clear V; go_wp2_with fail
         have ar:=hide (show Aa r.left (ns:Int)=0 from by rw [a3.out.1]; rfl)
         refine Calls.ret (b0 _ M.out) ?_; rintro v wa ⟨rfl,W⟩; rw [ar.out]; have J:=hide (I.out.at W); have bd:=J.out.b2.cell; have bh:=J.out.b5.cell; have O:=hide (M.out.trans (W.mono M.out.size)); clear W; go_wp2_with fail
         have au:=hide (show Aa r.right (ns:Int)=0 from by rw [a3.out.2.1]; rfl)
         refine Calls.ret (b6 _ O.out) ?_; rintro v wb ⟨rfl,Z⟩; rw [au.out]; have F:=hide (J.out.at Z); have be:=F.out.b2.cell; have bi:=F.out.b5.cell; have E:=hide (O.out.trans (Z.mono O.out.size)); clear Z; go_wp2_with fail
         have am:=hide (show Aa r.parent (ns:Int)=0 from by rw [a3.out.2.2]; rfl)
         refine Calls.ret (aS _ E.out) ?_; rintro v wc ⟨rfl,C⟩; rw [am.out]; have a4:=hide (F.out.at C); have aV:=a4.out.b2.cell; have aW:=a4.out.b5.cell; have ai:=hide (E.out.trans (C.mono E.out.size)); clear C; go_wp2_with fail
         go_ret
         exact⟨congrArg (Value.int .i64) (bp.out).symm,ai.out⟩
        have bn:(r.wr != -1)=true:=by simp [a7]
        have al:=hide a7
        clear a7
        have aq:=hide (show Aa r.fa (ns:Int)=0 from by rw [a9.out.2.2.1]; rfl)
        refine Calls.ret (aY _ a5.out) ?_; rintro v w8 ⟨rfl,U⟩; rw [aq.out]; have G:=hide (ax.out.at U); have bb:=G.out.b2.cell; have bf:=G.out.b5.cell; have y:=hide (a5.out.trans (U.mono a5.out.size)); clear U; go_wp2_with fail
        cases an:inC r.rd 0 ((nv:Int) - 1)
        case false=>
         have ae:=hide an
         clear an
         have V1:=hide (show AO r.rd (nv:Int)=false from(Cd aE.out).trans ae.out)
         refine(Ao _ _ _ _).mono ?_; rintro e w' ⟨rfl,rfl⟩; rw [ae.out]; go_wp2_with fail
         go_ret
         exact⟨congrArg (Value.int .i64) (aA.out.trans (by rw [V1.out]; rfl)).symm,y.out⟩
        have ae:=hide an
        clear an
        have V1:=hide (show AO r.rd (nv:Int)=true from(Cd aE.out).trans ae.out)
        refine(Ao _ _ _ _).mono ?_; rintro e w' ⟨rfl,rfl⟩; rw [ae.out]; go_wp2_with fail
        cases ao:inC r.wr 0 ((nv:Int) - 1)
        case false=>
         have af:=hide ao
         clear ao
         have V2:=hide (show AO r.wr (nv:Int)=false from(Cd al.out).trans af.out)
         refine(Ao _ _ _ _).mono ?_; rintro e w' ⟨rfl,rfl⟩; rw [af.out]; go_wp2_with fail
         go_ret
         exact⟨congrArg (Value.int .i64) (aA.out.trans (by rw [V1.out,V2.out]; rfl)).symm,y.out⟩
        have af:=hide ao
        clear ao
        have V2:=hide (show AO r.wr (nv:Int)=true from(Cd al.out).trans af.out)
        refine(Ao _ _ _ _).mono ?_; rintro e w' ⟨rfl,rfl⟩; rw [af.out]; go_wp2_with fail
        have bp:=hide (show EV=0 from aA.out.trans (by rw [V1.out,V2.out]; rfl))
        have av:=hide (show Aa r.send (nm:Int)=0 from by rw [a9.out.2.2.2]; rfl)
        refine Calls.ret (b7 _ y.out) ?_; rintro v w9 ⟨rfl,V⟩; rw [av.out]; have I:=hide (G.out.at V); have bc:=I.out.b2.cell; have bg:=I.out.b5.cell; have M:=hide (y.out.trans (V.mono y.out.size)); clear V; go_wp2_with fail
        have ar:=hide (show Aa r.left (ns:Int)=0 from by rw [a3.out.1]; rfl)
        refine Calls.ret (b0 _ M.out) ?_; rintro v wa ⟨rfl,W⟩; rw [ar.out]; have J:=hide (I.out.at W); have bd:=J.out.b2.cell; have bh:=J.out.b5.cell; have O:=hide (M.out.trans (W.mono M.out.size)); clear W; go_wp2_with fail
        have au:=hide (show Aa r.right (ns:Int)=0 from by rw [a3.out.2.1]; rfl)
        refine Calls.ret (b6 _ O.out) ?_; rintro v wb ⟨rfl,Z⟩; rw [au.out]; have F:=hide (J.out.at Z); have be:=F.out.b2.cell; have bi:=F.out.b5.cell; have E:=hide (O.out.trans (Z.mono O.out.size)); clear Z; go_wp2_with fail
        have am:=hide (show Aa r.parent (ns:Int)=0 from by rw [a3.out.2.2]; rfl)
        refine Calls.ret (aS _ E.out) ?_; rintro v wc ⟨rfl,C⟩; rw [am.out]; have a4:=hide (F.out.at C); have aV:=a4.out.b2.cell; have aW:=a4.out.b5.cell; have ai:=hide (E.out.trans (C.mono E.out.size)); clear C; go_wp2_with fail
        go_ret
        exact⟨congrArg (Value.int .i64) (bp.out).symm,ai.out⟩
   ·have ay:=hide (bI.out.symm.trans (Si bX.out a6 (by omega)))
    have q1:(r.kind==1)=false:=by rw [a6]; rfl
    have q2:(r.kind==2)=false:=by rw [a6]; rfl
    have q3:(r.kind==3)=false:=by rw [a6]; rfl
    have q4:(r.kind==4)=false:=by rw [a6]; rfl
    have q5:(r.kind==5)=true:=by rw [a6]; rfl
    have d6:(r.kind==2||r.kind==5)=true:=by rw [q2,q5]; rfl
    have aZ:=hide a6
    clear a6
    have a9:=hide (show r.guards=[]∧r.ex=[]∧r.fa=[]∧r.send=[] from bo.out.g (by rw [aZ.out]; decide))
    have d4:=hide (show r.rd= -1∧r.wr= -1 from bo.out.v (by rw [aZ.out]; decide))
    have a3:=hide (show r.left=[]∧r.right=[]∧r.parent=[] from bo.out.l (by rw [aZ.out]; decide))
    have cO:=Ah aw.out.b2 cf.out
    have cQ:=Ah aw.out.b5 ch.out
    go_wp2_with (first
     | (go_at_call 98; refine(Ao _ _ _ _).mono ?_; rintro e w' ⟨rfl,rfl⟩; rw [bP.out])
     | (go_at_call 192; refine Calls.ret (FD aw.out.pr aw.out.ru ci.out) ?_; rintro v w5 ⟨rfl,aN⟩; rw [bA.out]; have aK:=hide (aw.out.at aN); have cE:=aK.out.b2.cell; have cH:=aK.out.b5.cell; have ah:=hide (b9.out.trans (aN.mono b9.out.size)); clear aN))
    obtain⟨ng,aP⟩:∃n,n=r.guards.length:=⟨_,rfl⟩
    have aQ:=hide (show ng=0 from by rw [aP,a9.out.1]; rfl)
    rw [←aP] at cg
    have cS:¬(2:Int)<(ng:Int):=by have:=aQ.out; omega
    have cT:ng≤60:=by have:=aQ.out; omega
    clear aP
    cases aB:inC r.fr 0 ((ns:Int) - 1)
    case false=>
     have aa:=hide aB
     clear aB
     refine(Ao _ _ _ _).mono ?_; rintro e w' ⟨rfl,rfl⟩; rw [aa.out]; go_wp2_with fail
     go_ret
     exact⟨congrArg (Value.int .i64) (ay.out.trans (by rw [show inN r.fr (ns:Int)=false from aa.out]; rfl)).symm,ah.out⟩
    have aa:=hide aB
    clear aB
    refine(Ao _ _ _ _).mono ?_; rintro e w' ⟨rfl,rfl⟩; rw [aa.out]; go_wp2_with fail
    cases aC:inC r.to 0 ((ns:Int) - 1)
    case false=>
     have ad:=hide aC
     clear aC
     refine(Ao _ _ _ _).mono ?_; rintro e w' ⟨rfl,rfl⟩; rw [ad.out]; go_wp2_with fail
     go_ret
     exact⟨congrArg (Value.int .i64) (ay.out.trans (by rw [show inN r.fr (ns:Int)=true from aa.out,show inN r.to (ns:Int)=false from ad.out]; rfl)).symm,ah.out⟩
    have ad:=hide aC
    clear aC
    refine(Ao _ _ _ _).mono ?_; rintro e w' ⟨rfl,rfl⟩; rw [ad.out]; go_wp2_with fail
    cases b1:inC r.pf 0 ((ns:Int) - 1)
    case false=>
     have aD:=hide b1
     clear b1
     refine(Ao _ _ _ _).mono ?_; rintro e w' ⟨rfl,rfl⟩; rw [aD.out]; go_wp2_with fail
     go_ret
     exact⟨congrArg (Value.int .i64) (ay.out.trans (by rw [show inN r.fr (ns:Int)=true from aa.out,show inN r.to (ns:Int)=true from ad.out,show inN r.pf (ns:Int)=false from aD.out]; rfl)).symm,ah.out⟩
    have aD:=hide b1
    clear b1
    refine(Ao _ _ _ _).mono ?_; rintro e w' ⟨rfl,rfl⟩; rw [aD.out]; go_wp2_with fail
    cases b4:inC r.pt 0 ((ns:Int) - 1)
    case false=>
     have aJ:=hide b4
     clear b4
     refine(Ao _ _ _ _).mono ?_; rintro e w' ⟨rfl,rfl⟩; rw [aJ.out]; go_wp2_with fail
     go_ret
     exact⟨congrArg (Value.int .i64) (ay.out.trans (by rw [show inN r.fr (ns:Int)=true from aa.out,show inN r.to (ns:Int)=true from ad.out,show inN r.pf (ns:Int)=true from aD.out,show inN r.pt (ns:Int)=false from aJ.out]; rfl)).symm,ah.out⟩
    have aJ:=hide b4
    clear b4
    refine(Ao _ _ _ _).mono ?_; rintro e w' ⟨rfl,rfl⟩; rw [aJ.out]; go_wp2_with fail
    have az:=hide (show EV=Ad (if p.topo=4 then !inC r.dir 3 4 else !inC r.dir 1 2) 1 from ay.out.trans (by rw [show inN r.fr (ns:Int)=true from aa.out,show inN r.to (ns:Int)=true from ad.out,show inN r.pf (ns:Int)=true from aD.out,show inN r.pt (ns:Int)=true from aJ.out]; rfl))
    go_loopw [10] (fun ii wr=>∃(k:Nat),ii=.int .i64 (k:Int)∧k≤ng∧Hid (Below w5.heap.size w5 wr)) (fun ii _=>ng - (intOf ii).toNat)
    case atStart=>exact⟨0,rfl,Nat.zero_le _,Below.refl _ _⟩
    case round=>
     obtain⟨k,rfl,hk,ba⟩:=hrel
     have aL:=hide (aK.out.at ba.out)
     have cF:=aL.out.b2.cell
     have cJ:=aL.out.b5.cell
     have aM:=hide (ah.out.trans (ba.out.mono ah.out.size))
     by_cases cR:k<ng
     ·exfalso
      have:=aQ.out
      omega
     ·go_wp2_with fail
      have bu:=hide (show Aa r.ex (ns:Int)=0 from by rw [a9.out.2.1]; rfl)
      refine Calls.ret (c8 _ aM.out) ?_; rintro v w7 ⟨rfl,aO⟩; rw [bu.out]; have ax:=hide (aL.out.at aO); have cG:=ax.out.b2.cell; have cK:=ax.out.b5.cell; have a5:=hide (aM.out.trans (aO.mono aM.out.size)); clear aO; go_wp2_with fail
      have Y1:(r.rd != -1)=false:=by rw [d4.out.1]; rfl
      have Y2:(r.wr != -1)=false:=by rw [d4.out.2]; rfl
      have aq:=hide (show Aa r.fa (ns:Int)=0 from by rw [a9.out.2.2.1]; rfl)
      refine Calls.ret (aY _ a5.out) ?_; rintro v w8 ⟨rfl,U⟩; rw [aq.out]; have G:=hide (ax.out.at U); have bb:=G.out.b2.cell; have bf:=G.out.b5.cell; have y:=hide (a5.out.trans (U.mono a5.out.size)); clear U; go_wp2_with fail
      have av:=hide (show Aa r.send (nm:Int)=0 from by rw [a9.out.2.2.2]; rfl)
      refine Calls.ret (b7 _ y.out) ?_; rintro v w9 ⟨rfl,V⟩; rw [av.out]; have I:=hide (G.out.at V); have bc:=I.out.b2.cell; have bg:=I.out.b5.cell; have M:=hide (y.out.trans (V.mono y.out.size)); clear V; go_wp2_with fail
      have ar:=hide (show Aa r.left (ns:Int)=0 from by rw [a3.out.1]; rfl)
      refine Calls.ret (b0 _ M.out) ?_; rintro v wa ⟨rfl,W⟩; rw [ar.out]; have J:=hide (I.out.at W); have bd:=J.out.b2.cell; have bh:=J.out.b5.cell; have O:=hide (M.out.trans (W.mono M.out.size)); clear W; go_wp2_with fail
      have au:=hide (show Aa r.right (ns:Int)=0 from by rw [a3.out.2.1]; rfl)
      refine Calls.ret (b6 _ O.out) ?_; rintro v wb ⟨rfl,Z⟩; rw [au.out]; have F:=hide (J.out.at Z); have be:=F.out.b2.cell; have bi:=F.out.b5.cell; have E:=hide (O.out.trans (Z.mono O.out.size)); clear Z; go_wp2_with fail
      by_cases ht:p.topo=4
      case pos=>
       have G1:(p.topo==4)=true:=by simp [ht]
       have G2:(p.topo != 4)=false:=by simp [ht]
       have HT:=hide ht
       clear ht
       have am:=hide (show Aa r.parent (ns:Int)=0 from by rw [a3.out.2.2]; rfl)
       refine Calls.ret (aS _ E.out) ?_; rintro v wc ⟨rfl,C⟩; rw [am.out]; have a4:=hide (F.out.at C); have aV:=a4.out.b2.cell; have aW:=a4.out.b5.cell; have ai:=hide (E.out.trans (C.mono E.out.size)); clear C; go_wp2_with fail
       cases aX:inC r.dir 3 4
       case false=>
        have aH:=hide aX
        clear aX
        refine(Ao _ _ _ _).mono ?_; rintro e w' ⟨rfl,rfl⟩; rw [aH.out]; go_wp2_with fail
        go_ret
        exact⟨congrArg (Value.int .i64) (az.out.trans (by rw [if_pos HT.out,aH.out]; rfl)).symm,ai.out⟩
       have aH:=hide aX
       clear aX
       refine(Ao _ _ _ _).mono ?_; rintro e w' ⟨rfl,rfl⟩; rw [aH.out]; go_wp2_with fail
       go_ret
       exact⟨congrArg (Value.int .i64) (az.out.trans (by rw [if_pos HT.out,aH.out]; rfl)).symm,ai.out⟩
      have G1:(p.topo==4)=false:=by simp [ht]
      have G2:(p.topo != 4)=true:=by simp [ht]
      have HT:=hide ht
      clear ht
      have am:=hide (show Aa r.parent (ns:Int)=0 from by rw [a3.out.2.2]; rfl)
      refine Calls.ret (aS _ E.out) ?_; rintro v wc ⟨rfl,C⟩; rw [am.out]; have a4:=hide (F.out.at C); have aV:=a4.out.b2.cell; have aW:=a4.out.b5.cell; have ai:=hide (E.out.trans (C.mono E.out.size)); clear C; go_wp2_with fail
      cases aX:inC r.dir 1 2
      case false=>
       have aH:=hide aX
       clear aX
       refine(Ao _ _ _ _).mono ?_; rintro e w' ⟨rfl,rfl⟩; rw [aH.out]; go_wp2_with fail
       go_ret
       exact⟨congrArg (Value.int .i64) (az.out.trans (by rw [if_neg HT.out,aH.out]; rfl)).symm,ai.out⟩
      have aH:=hide aX
      clear aX
      refine(Ao _ _ _ _).mono ?_; rintro e w' ⟨rfl,rfl⟩; rw [aH.out]; go_wp2_with fail
      go_ret
      exact⟨congrArg (Value.int .i64) (az.out.trans (by rw [if_neg HT.out,aH.out]; rfl)).symm,ai.out⟩
end Go.Proofs.YtfcfpoemojjglaaGreatDoor.K
