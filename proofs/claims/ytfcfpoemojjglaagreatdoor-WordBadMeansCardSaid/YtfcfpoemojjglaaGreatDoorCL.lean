/-
  Part CL of a proof.
-/
import Derived.Test.YtfcfpoemojjglaaGreatDoorPA
import Derived.Test.YtfcfpoemojjglaaGreatDoorCJ
import Derived.Test.YtfcfpoemojjglaaGreatDoorCI
set_option maxHeartbeats 16000000
set_option maxRecDepth 100000
set_option linter.unusedVariables false
set_option linter.unusedSimpArgs false
namespace Go.Proofs.YtfcfpoemojjglaaGreatDoor.K
open Go.RowKit
attribute [-go_sem] loadCellsFrom storeCells
theorem SG {w:World} {cs:List Value} {p:Am} {r:Az} {i:Nat} (h:At w w.heap.size cs p) (hr:p.rules[i]?=some r) (hs:r.Small) (eS:r.name.size≤500) (bC:p.Small) (hT:SpOK w) (ea:Hid (((p.rules.take i).any fun x=>decide (x.name=r.name))=false)) (cX:Hid (nameOK r.name=true)) (bS:Hid (inC r.kind 1 5=true)) (bQ:(decide (r.kind≤3) != (p.topo==1))=false) (bD:Hid (B9 p.topo r=false)) (a7:r.kind=2∨r.kind=3∨r.kind=5):
  Calls Tryz.prog 138 #[.agg cs.toArray,.int .i64 (i:Int)] w (Ret fun v w'=>v=.int .i64 (BC nameOK p.topo (p.states.length:Int) (p.messages.length:Int) (p.values.length:Int) false r)∧Below w.heap.size w w'):=by
 obtain⟨A1,c1,A2,c2,A3,c3,A4,c4,A5,c5,A6,c6,A7,c7,cY,eT,eU,ch,dU,dV,eV,eW,eX,eY,eZ,-,-,-,-,-,-,h7,dJ⟩:=h.cells
 have dL:=AP hr
 have dQ:=bC.states
 have dR:=bC.messages
 have dS:=bC.values
 have eR:=bC.rules
 have dA:=hide h7
 obtain⟨w1,fq,bN,cp,dM⟩:=Ae w cs.toArray 27
 have bv:=bN.trans ((Ap w1).mono bN.size)
 have bJ:Blk w1.drew w.heap.size 27 cs.toArray:=cp
 obtain⟨b,fs,rc,hA,eB,hC,dK,dO⟩:=Du (h7.keep (w':=w1.drew) (B':=w.heap.size) (R':=AW w1.drew w.heap.size) (fun _ hp=>bv.cell hp) (fun _ _ h=>h.keep (fun _ hp=>bv.cell hp) (Nat.le_refl _)) (Nat.le_refl _)) hr
 obtain⟨w2,eb,bO,cq,dN⟩:=Ae w1.drew rc 99
 have cr:Blk w2 w1.heap.size 99 rc:=cq
 have cn:=Dv w1.drew 99 18 (by kernel_rfl) hC.size hC.one
 rw [eb] at cn
 have e8:∀c:Array Value,c.size=18→(storeCells ⟨w1.heap.size,0,none⟩ rc.toList 0).run Tryz.prog (w1.alloc (.cells c 99)).drew=.ok () w2:=cn
 clear cn
 have bZ:=bJ.below bO
 have bu:=hide (bv.trans (bO.mono bv.size))
 have c8:=hide (show Cp w2 w.heap.size w1.heap.size cs.toArray rc p r from⟨h.keep (fun _ hp=>bu.out.cell hp) bu.out.size,hC.is.keep (fun _ hp=>bO.cell (by show _<w1.heap.size; have:=bN.size; omega)) bu.out.size,bZ,cr,hT.below bu.out⟩)
 have cZ:=hC.is.cells
 simp only [Array.toArray_toList] at cZ
 obtain⟨E1,f1,E2,f2,E3,f3,E4,f4,E5,f5,E6,f6,E7,f7,E8,f8,⟨d0,f0,f9,fj,fk,fl,fm,dX,cj,fn,fo,fb,fc,fd,fe,ff,fg,fh,fi⟩,⟨cw,cx,cy,cz,cA,cB,cD,cE⟩⟩:=cZ
 have aW:∀{D:Type} {sz:Nat} {enc:D→Nat→Value} {A:Option Addr} {ds:List D},Sl w1.drew w.heap.size sz enc A ds→Sl w w.heap.size sz enc A ds:=fun h=>h.keep (fun _ hp=>(bv.cell hp).symm) (Nat.le_refl _)
 have dB:=hide (aW cw)
 have eA:=hide (aW cx)
 have dC:=hide (aW cy)
 have dD:=hide (aW cz)
 have dE:=hide (aW cA)
 have dF:=hide (aW cB)
 have dG:=hide (aW cD)
 have dH:=hide (aW cE)
 have eF:=bJ.cell
 have dz:=hide bJ
 have dy:=hide bZ
 generalize dW:cs.toArray=pc at*
 have ci:=hide cY
 obtain⟨d1,dZ,e0,e3,e4,e5,e6,e7⟩:=hs
 have cm:=hide (show r.Small from⟨d1,dZ,e0,e3,e4,e5,e6,e7⟩)
 have fp:=hide hr
 have eM:=dJ
 have dT:=hide (show i<p.rules.length from dL)
 obtain⟨ns,ce⟩:∃n,n=p.states.length:=⟨_,rfl⟩
 obtain⟨nm,cc⟩:∃n,n=p.messages.length:=⟨_,rfl⟩
 obtain⟨nv,cf⟩:∃n,n=p.values.length:=⟨_,rfl⟩
 have ez:=hide (show ns=p.states.length∧nm=p.messages.length∧nv=p.values.length from⟨ce,cc,cf⟩)
 rw [←ce] at ch dQ ⊢
 rw [←cc] at dU dR ⊢
 rw [←cf] at dV dS ⊢
 obtain⟨EV,bL⟩:∃e,Hid (BC nameOK p.topo (ns:Int) (nm:Int) (nv:Int) false r=e):=⟨_,rfl⟩
 rw [bL.out]
 subst hA
 clear dK hC dM dN bN bO bv cp cq cr bJ bZ cY dW hr h h7 ce cc cf hT bC cw cx cy cz cA cB cD cE aW
 have c0:=hide (show KOK nameOK p.topo r from⟨cX.out,bS.out,bQ,bD.out⟩)
 have br:=hide (DF bD.out)
 have cb:∀wx,Below w.heap.size w wx→Calls Tryz.prog 97 #[.slice E3 r.ex.length f3,.int .i64 (ns:Int)] wx (Ret fun v w'=>v=.int .i64 (setE r.ex (ns:Int))∧Below wx.heap.size wx w'):=fun wx hx=>B0 (by omega) (dC.out.keep (fun _ hp=>hx.cell hp) hx.size)
 have b0:∀wx,Below w.heap.size w wx→Calls Tryz.prog 97 #[.slice E4 r.fa.length f4,.int .i64 (ns:Int)] wx (Ret fun v w'=>v=.int .i64 (setE r.fa (ns:Int))∧Below wx.heap.size wx w'):=fun wx hx=>B0 (by omega) (dD.out.keep (fun _ hp=>hx.cell hp) hx.size)
 have b9:∀wx,Below w.heap.size w wx→Calls Tryz.prog 97 #[.slice E5 r.send.length f5,.int .i64 (nm:Int)] wx (Ret fun v w'=>v=.int .i64 (setE r.send (nm:Int))∧Below wx.heap.size wx w'):=fun wx hx=>B0 (by omega) (dE.out.keep (fun _ hp=>hx.cell hp) hx.size)
 have b4:∀wx,Below w.heap.size w wx→Calls Tryz.prog 97 #[.slice E6 r.left.length f6,.int .i64 (ns:Int)] wx (Ret fun v w'=>v=.int .i64 (setE r.left (ns:Int))∧Below wx.heap.size wx w'):=fun wx hx=>B0 (by omega) (dF.out.keep (fun _ hp=>hx.cell hp) hx.size)
 have b8:∀wx,Below w.heap.size w wx→Calls Tryz.prog 97 #[.slice E7 r.right.length f7,.int .i64 (ns:Int)] wx (Ret fun v w'=>v=.int .i64 (setE r.right (ns:Int))∧Below wx.heap.size wx w'):=fun wx hx=>B0 (by omega) (dG.out.keep (fun _ hp=>hx.cell hp) hx.size)
 have aU:∀wx,Below w.heap.size w wx→Calls Tryz.prog 97 #[.slice E8 r.parent.length f8,.int .i64 (ns:Int)] wx (Ret fun v w'=>v=.int .i64 (setE r.parent (ns:Int))∧Below wx.heap.size wx w'):=fun wx hx=>B0 (by omega) (dH.out.keep (fun _ hp=>hx.cell hp) hx.size)
 have eN:decide (r.kind≤3)=(p.topo==1):=by cases h1:decide (r.kind≤3) <;> cases h2:(p.topo==1) <;> simp [h1,h2] at bQ ⊢
 have eO:=hide bQ
 clear bQ
 go_enter Tryz.func138,Tryz.ntmps138
 go_wp2_with fail
 refine Reg.cI [0,1,0,7,15,0,32,96,0,287,1023] [0,1,2,3,4,5,6,7,8,9,10] ?_
 refine Reg.wI [0,1,2,3,4,5,6,7,8] [9,10] rfl fun Qf aT=>?_
 go_wp2_with fail
 first | refine aT _ _ ⟨rfl,?_⟩ | refine⟨rfl,?_⟩ | refine aT _ _ ⟨by simp [Reg.fineT,Reg.intOp,Region.wanted,yielded,Reg.intFine,Reg.isInt,Act.eval],?_⟩
 try clear aT
 refine Reg.aI 9 [10] [6] rfl fun Qf aT=>?_
 simp only [gT,gS,gZ]
 go_wp2_with fail
 first | refine aT _ _ ⟨?_,?_⟩ | refine⟨?_,?_⟩
 ·intro z hz q hq
  simp only [List.mem_cons,List.not_mem_nil,or_false] at hz
  subst hz
  injection hq with hq
  subst hq
  exact Reg.same_load1 rfl rfl (((dz.out.kept ((Ac.refl _ (fun _=>False)).alloc _) id).cell 2).trans ch) ((dy.out.cell 2).trans ch) Tryz.underlying22 rfl
 try clear aT
 refine Reg.wI [10] [] rfl fun Qf aT=>?_
 go_wp2_with fail
 first | refine aT _ _ ⟨rfl,?_⟩ | refine⟨rfl,?_⟩ | refine aT _ _ ⟨by simp [Reg.fineT,Reg.intOp,Region.wanted,yielded,Reg.intFine,Reg.isInt,Act.eval],?_⟩
 try clear aT
 first | refine Reg.restI_end ?_ | skip
 have ck:=hide d0
 clear d0 e8 dO
 have eG:=c8.out.b2.cell
 have eJ:=c8.out.b5.cell
 go_wp2_with fail
 go_wp2_with (go_at_call 96; refine Calls.ret (Cm r.name _ (by omega)) ?_; rintro v w3 ⟨rfl,ca⟩; rw [cX.out]; have c9:=hide (c8.out.at ca); have eH:=c9.out.b2.cell; have eK:=c9.out.b5.cell; have cG:=hide (bu.out.trans (ca.mono bu.out.size)); clear ca)
 go_loopw [7] (fun ii wr=>∃(k:Nat),ii=.int .i64 (k:Int)∧k≤i∧Hid (Below w3.heap.size w3 wr)∧Hid ((p.rules.take k).all (fun x=>!decide (x.name=r.name))=true)) (fun ii _=>i - (intOf ii).toNat)
 case atStart=>exact⟨0,rfl,Nat.zero_le _,Below.refl _ _,by show _=_; simp⟩
 case round=>
  obtain⟨k,rfl,hk,bP,hE⟩:=hrel
  have ax:=hide (c9.out.at bP.out)
  have eI:=ax.out.b2.cell
  have eL:=ax.out.b5.cell
  have bb:=hide (cG.out.trans (bP.out.mono cG.out.size))
  by_cases dP:k<i
  ·obtain⟨x,hx⟩:∃x,p.rules[k]?=some x:=⟨_,List.getElem?_eq_getElem (by have:=dT.out; omega)⟩
   obtain⟨b',ft,xc,co,eD,ct,cQ,-⟩:=Du (dA.out.keep (w':=wr) (B':=w.heap.size) (R':=AW wr w.heap.size) (fun _ hp=>bb.out.cell hp) (fun _ _ h=>h.keep (fun _ hp=>bb.out.cell hp) (Nat.le_refl _)) (Nat.le_refl _)) hx
   have e1:=Option.some.inj co
   injection e1 with e1 e2 _
   subst e1 e2
   have bE:=ct.is.cells
   simp only [Array.toArray_toList] at bE
   obtain⟨-,-,-,-,-,-,-,-,-,-,-,-,-,-,-,-,⟨-,bE,-⟩,-⟩:=bE
   have ec:=cQ 0 _ bE
   simp only [Nat.add_zero] at ec
   have d5:=hide hx
   clear cQ ct hx bE co
   by_cases bM:x.name=r.name
   ·exfalso
    have h1:=ea.out
    rw [List.any_eq_false] at h1
    refine h1 x (List.mem_of_getElem? (i:=k) ?_) (decide_eq_true bM)
    rw [List.getElem?_take,if_pos dP]
    exact d5.out
   ·have hq:(x.name.toList==r.name.toList)=false:=by rw [DM]; exact decide_eq_false bM
    have cg:=hide (Cq (p:=fun x:Az=>!decide (x.name=r.name)) d5.out hE.out (by simp [bM]))
    have dI:=hide (bP.out.trans ((Ap wr).mono bP.out.size))
    clear bM
    go_wp2_with fail
    refine Reg.cP [0,1,0,7,15,31,0,64,255] ?_
    go_wp2_with fail
    exact⟨⟨k+1,by go_num,by omega,dI.out,cg.out⟩,by simp [intOf]; omega⟩
  ·clear hE
   rcases a7 with a7 | a7 | a7
   ·have az:=hide (bL.out.symm.trans (Sf c0.out a7))
    have q1:(r.kind==1)=false:=by rw [a7]; rfl
    have q2:(r.kind==2)=true:=by rw [a7]; rfl
    have q3:(r.kind==3)=false:=by rw [a7]; rfl
    have q4:(r.kind==4)=false:=by rw [a7]; rfl
    have q5:(r.kind==5)=false:=by rw [a7]; rfl
    have d9:(r.kind==2||r.kind==5)=true:=by rw [q2,q5]; rfl
    have b1:=hide a7
    clear a7
    have aa:=hide (show r.guards=[]∧r.ex=[]∧r.fa=[]∧r.send=[] from br.out.g (by rw [b1.out]; decide))
    have a4:=hide (show r.left=[]∧r.right=[]∧r.parent=[] from br.out.l (by rw [b1.out]; decide))
    have cS:=Ah ax.out.b2 ci.out
    have cT:=Ah ax.out.b5 ck.out
    go_wp2_with (first
     | (go_at_call 98; refine(within2_any _ _ _ _).mono ?_; rintro e w' ⟨rfl,rfl⟩; rw [bS.out])
     | (go_at_call 192; refine Calls.ret (FD ax.out.pr ax.out.ru cm.out) ?_; rintro v w5 ⟨rfl,aP⟩; rw [bD.out]; have aM:=hide (ax.out.at aP); have cH:=aM.out.b2.cell; have cL:=aM.out.b5.cell; have ai:=hide (bb.out.trans (aP.mono bb.out.size)); clear aP))
    obtain⟨ng,aR⟩:∃n,n=r.guards.length:=⟨_,rfl⟩
    have aS:=hide (show ng=0 from by rw [aR,aa.out.1]; rfl)
    rw [←aR] at cj
    have cV:¬(2:Int)<(ng:Int):=by have:=aS.out; omega
    have cW:ng≤60:=by have:=aS.out; omega
    clear aR
    cases aD:inC r.fr 0 ((ns:Int) - 1)
    case false=>
     have ab:=hide aD
     clear aD
     refine(within2_any _ _ _ _).mono ?_; rintro e w' ⟨rfl,rfl⟩; rw [ab.out]; go_wp2_with fail
     go_ret
     exact⟨congrArg (Value.int .i64) (az.out.trans (by rw [show inN r.fr (ns:Int)=false from ab.out]; rfl)).symm,ai.out⟩
    have ab:=hide aD
    clear aD
    refine(within2_any _ _ _ _).mono ?_; rintro e w' ⟨rfl,rfl⟩; rw [ab.out]; go_wp2_with fail
    cases aE:inC r.to 0 ((ns:Int) - 1)
    case false=>
     have ae:=hide aE
     clear aE
     refine(within2_any _ _ _ _).mono ?_; rintro e w' ⟨rfl,rfl⟩; rw [ae.out]; go_wp2_with fail
     go_ret
     exact⟨congrArg (Value.int .i64) (az.out.trans (by rw [show inN r.fr (ns:Int)=true from ab.out,show inN r.to (ns:Int)=false from ae.out]; rfl)).symm,ai.out⟩
    have ae:=hide aE
    clear aE
    refine(within2_any _ _ _ _).mono ?_; rintro e w' ⟨rfl,rfl⟩; rw [ae.out]; go_wp2_with fail
    cases b6:inC r.pf 0 ((ns:Int) - 1)
    case false=>
     have aF:=hide b6
     clear b6
     refine(within2_any _ _ _ _).mono ?_; rintro e w' ⟨rfl,rfl⟩; rw [aF.out]; go_wp2_with fail
     go_ret
     exact⟨congrArg (Value.int .i64) (az.out.trans (by rw [show inN r.fr (ns:Int)=true from ab.out,show inN r.to (ns:Int)=true from ae.out,show inN r.pf (ns:Int)=false from aF.out]; rfl)).symm,ai.out⟩
    have aF:=hide b6
    clear b6
    refine(within2_any _ _ _ _).mono ?_; rintro e w' ⟨rfl,rfl⟩; rw [aF.out]; go_wp2_with fail
    cases b7:inC r.pt 0 ((ns:Int) - 1)
    case false=>
     have aL:=hide b7
     clear b7
     refine(within2_any _ _ _ _).mono ?_; rintro e w' ⟨rfl,rfl⟩; rw [aL.out]; go_wp2_with fail
     go_ret
     exact⟨congrArg (Value.int .i64) (az.out.trans (by rw [show inN r.fr (ns:Int)=true from ab.out,show inN r.to (ns:Int)=true from ae.out,show inN r.pf (ns:Int)=true from aF.out,show inN r.pt (ns:Int)=false from aL.out]; rfl)).symm,ai.out⟩
    have aL:=hide b7
    clear b7
    refine(within2_any _ _ _ _).mono ?_; rintro e w' ⟨rfl,rfl⟩; rw [aL.out]; go_wp2_with fail
    have aA:=hide (show EV=Ad (!AO r.rd (nv:Int)||!AO r.wr (nv:Int)) 5 from az.out.trans (by rw [show inN r.fr (ns:Int)=true from ab.out,show inN r.to (ns:Int)=true from ae.out,show inN r.pf (ns:Int)=true from aF.out,show inN r.pt (ns:Int)=true from aL.out]; rfl))
    go_loopw [10] (fun ii wr=>∃(k:Nat),ii=.int .i64 (k:Int)∧k≤ng∧Hid (Below w5.heap.size w5 wr)) (fun ii _=>ng - (intOf ii).toNat)
    case atStart=>exact⟨0,rfl,Nat.zero_le _,Below.refl _ _⟩
    case round=>
     obtain⟨k,rfl,hk,bd⟩:=hrel
     have aN:=hide (aM.out.at bd.out)
     have cJ:=aN.out.b2.cell
     have cM:=aN.out.b5.cell
     have aO:=hide (ai.out.trans (bd.out.mono ai.out.size))
     by_cases cU:k<ng
     ·exfalso
      have:=aS.out
      omega
     ·go_wp2_with fail
      have bx:=hide (show setE r.ex (ns:Int)=0 from by rw [aa.out.2.1]; rfl)
      refine Calls.ret (cb _ aO.out) ?_; rintro v w7 ⟨rfl,aQ⟩; rw [bx.out]; have ay:=hide (aN.out.at aQ); have cK:=ay.out.b2.cell; have cO:=ay.out.b5.cell; have a6:=hide (aO.out.trans (aQ.mono aO.out.size)); clear aQ; go_wp2_with fail
      by_cases aH:r.rd= -1
      case pos=>
       have bW:(r.rd != -1)=false:=by simp [aH]
       have aG:=hide aH
       clear aH
       have V1:=hide (show AO r.rd (nv:Int)=true from by rw [aG.out]; exact DW (by omega))
       by_cases a8:r.wr= -1
       case pos=>
        have bq:(r.wr != -1)=false:=by simp [a8]
        have am:=hide a8
        clear a8
        have V2:=hide (show AO r.wr (nv:Int)=true from by rw [am.out]; exact DW (by omega))
        have ar:=hide (show setE r.fa (ns:Int)=0 from by rw [aa.out.2.2.1]; rfl)
        refine Calls.ret (b0 _ a6.out) ?_; rintro v w8 ⟨rfl,V⟩; rw [ar.out]; have I:=hide (ay.out.at V); have be:=I.out.b2.cell; have bi:=I.out.b5.cell; have y:=hide (a6.out.trans (V.mono a6.out.size)); clear V; go_wp2_with fail
        have aB:=hide (show EV=0 from aA.out.trans (by rw [V1.out,V2.out]; rfl))
        have aw:=hide (show setE r.send (nm:Int)=0 from by rw [aa.out.2.2.2]; rfl)
        refine Calls.ret (b9 _ y.out) ?_; rintro v w9 ⟨rfl,W⟩; rw [aw.out]; have J:=hide (I.out.at W); have bf:=J.out.b2.cell; have bj:=J.out.b5.cell; have O:=hide (y.out.trans (W.mono y.out.size)); clear W; go_wp2_with fail
        have au:=hide (show setE r.left (ns:Int)=0 from by rw [a4.out.1]; rfl)
        refine Calls.ret (b4 _ O.out) ?_; rintro v wa ⟨rfl,Z⟩; rw [au.out]; have M:=hide (J.out.at Z); have bg:=M.out.b2.cell; have bk:=M.out.b5.cell; have U:=hide (O.out.trans (Z.mono O.out.size)); clear Z; go_wp2_with fail
        have av:=hide (show setE r.right (ns:Int)=0 from by rw [a4.out.2.1]; rfl)
        refine Calls.ret (b8 _ U.out) ?_; rintro v wb ⟨rfl,a2⟩; rw [av.out]; have G:=hide (M.out.at a2); have bh:=G.out.b2.cell; have bl:=G.out.b5.cell; have E:=hide (U.out.trans (a2.mono U.out.size)); clear a2; go_wp2_with fail
        have an:=hide (show setE r.parent (ns:Int)=0 from by rw [a4.out.2.2]; rfl)
        refine Calls.ret (aU _ E.out) ?_; rintro v wc ⟨rfl,C⟩; rw [an.out]; have a5:=hide (G.out.at C); have aX:=a5.out.b2.cell; have aY:=a5.out.b5.cell; have aj:=hide (E.out.trans (C.mono E.out.size)); clear C; go_wp2_with fail
        go_ret
        exact⟨congrArg (Value.int .i64) (aB.out).symm,aj.out⟩
       have bq:(r.wr != -1)=true:=by simp [a8]
       have am:=hide a8
       clear a8
       have ar:=hide (show setE r.fa (ns:Int)=0 from by rw [aa.out.2.2.1]; rfl)
       refine Calls.ret (b0 _ a6.out) ?_; rintro v w8 ⟨rfl,V⟩; rw [ar.out]; have I:=hide (ay.out.at V); have be:=I.out.b2.cell; have bi:=I.out.b5.cell; have y:=hide (a6.out.trans (V.mono a6.out.size)); clear V; go_wp2_with fail
       cases ap:inC r.wr 0 ((nv:Int) - 1)
       case false=>
        have ag:=hide ap
        clear ap
        have V2:=hide (show AO r.wr (nv:Int)=false from(Cd am.out).trans ag.out)
        refine(within2_any _ _ _ _).mono ?_; rintro e w' ⟨rfl,rfl⟩; rw [ag.out]; go_wp2_with fail
        go_ret
        exact⟨congrArg (Value.int .i64) (aA.out.trans (by rw [V1.out,V2.out]; rfl)).symm,y.out⟩
       have ag:=hide ap
       clear ap
       have V2:=hide (show AO r.wr (nv:Int)=true from(Cd am.out).trans ag.out)
       refine(within2_any _ _ _ _).mono ?_; rintro e w' ⟨rfl,rfl⟩; rw [ag.out]; go_wp2_with fail
       have aB:=hide (show EV=0 from aA.out.trans (by rw [V1.out,V2.out]; rfl))
       have aw:=hide (show setE r.send (nm:Int)=0 from by rw [aa.out.2.2.2]; rfl)
       refine Calls.ret (b9 _ y.out) ?_; rintro v w9 ⟨rfl,W⟩; rw [aw.out]; have J:=hide (I.out.at W); have bf:=J.out.b2.cell; have bj:=J.out.b5.cell; have O:=hide (y.out.trans (W.mono y.out.size)); clear W; go_wp2_with fail
       have au:=hide (show setE r.left (ns:Int)=0 from by rw [a4.out.1]; rfl)
       refine Calls.ret (b4 _ O.out) ?_; rintro v wa ⟨rfl,Z⟩; rw [au.out]; have M:=hide (J.out.at Z); have bg:=M.out.b2.cell; have bk:=M.out.b5.cell; have U:=hide (O.out.trans (Z.mono O.out.size)); clear Z; go_wp2_with fail
       have av:=hide (show setE r.right (ns:Int)=0 from by rw [a4.out.2.1]; rfl)
       refine Calls.ret (b8 _ U.out) ?_; rintro v wb ⟨rfl,a2⟩; rw [av.out]; have G:=hide (M.out.at a2); have bh:=G.out.b2.cell; have bl:=G.out.b5.cell; have E:=hide (U.out.trans (a2.mono U.out.size)); clear a2; go_wp2_with fail
       have an:=hide (show setE r.parent (ns:Int)=0 from by rw [a4.out.2.2]; rfl)
       refine Calls.ret (aU _ E.out) ?_; rintro v wc ⟨rfl,C⟩; rw [an.out]; have a5:=hide (G.out.at C); have aX:=a5.out.b2.cell; have aY:=a5.out.b5.cell; have aj:=hide (E.out.trans (C.mono E.out.size)); clear C; go_wp2_with fail
       go_ret
       exact⟨congrArg (Value.int .i64) (aB.out).symm,aj.out⟩
      have bW:(r.rd != -1)=true:=by simp [aH]
      have aG:=hide aH
      clear aH
      by_cases a8:r.wr= -1
      case pos=>
       have bq:(r.wr != -1)=false:=by simp [a8]
       have am:=hide a8
       clear a8
       have V2:=hide (show AO r.wr (nv:Int)=true from by rw [am.out]; exact DW (by omega))
       have ar:=hide (show setE r.fa (ns:Int)=0 from by rw [aa.out.2.2.1]; rfl)
       refine Calls.ret (b0 _ a6.out) ?_; rintro v w8 ⟨rfl,V⟩; rw [ar.out]; have I:=hide (ay.out.at V); have be:=I.out.b2.cell; have bi:=I.out.b5.cell; have y:=hide (a6.out.trans (V.mono a6.out.size)); clear V; go_wp2_with fail
       cases ao:inC r.rd 0 ((nv:Int) - 1)
       case false=>
        have af:=hide ao
        clear ao
        have V1:=hide (show AO r.rd (nv:Int)=false from(Cd aG.out).trans af.out)
        refine(within2_any _ _ _ _).mono ?_; rintro e w' ⟨rfl,rfl⟩; rw [af.out]; go_wp2_with fail
        go_ret
        exact⟨congrArg (Value.int .i64) (aA.out.trans (by rw [V1.out]; rfl)).symm,y.out⟩
       have af:=hide ao
       clear ao
       have V1:=hide (show AO r.rd (nv:Int)=true from(Cd aG.out).trans af.out)
       refine(within2_any _ _ _ _).mono ?_; rintro e w' ⟨rfl,rfl⟩; rw [af.out]; go_wp2_with fail
       have aB:=hide (show EV=0 from aA.out.trans (by rw [V1.out,V2.out]; rfl))
       have aw:=hide (show setE r.send (nm:Int)=0 from by rw [aa.out.2.2.2]; rfl)
       refine Calls.ret (b9 _ y.out) ?_; rintro v w9 ⟨rfl,W⟩; rw [aw.out]; have J:=hide (I.out.at W); have bf:=J.out.b2.cell; have bj:=J.out.b5.cell; have O:=hide (y.out.trans (W.mono y.out.size)); clear W; go_wp2_with fail
       have au:=hide (show setE r.left (ns:Int)=0 from by rw [a4.out.1]; rfl)
       refine Calls.ret (b4 _ O.out) ?_; rintro v wa ⟨rfl,Z⟩; rw [au.out]; have M:=hide (J.out.at Z); have bg:=M.out.b2.cell; have bk:=M.out.b5.cell; have U:=hide (O.out.trans (Z.mono O.out.size)); clear Z; go_wp2_with fail
       have av:=hide (show setE r.right (ns:Int)=0 from by rw [a4.out.2.1]; rfl)
       refine Calls.ret (b8 _ U.out) ?_; rintro v wb ⟨rfl,a2⟩; rw [av.out]; have G:=hide (M.out.at a2); have bh:=G.out.b2.cell; have bl:=G.out.b5.cell; have E:=hide (U.out.trans (a2.mono U.out.size)); clear a2; go_wp2_with fail
       have an:=hide (show setE r.parent (ns:Int)=0 from by rw [a4.out.2.2]; rfl)
       refine Calls.ret (aU _ E.out) ?_; rintro v wc ⟨rfl,C⟩; rw [an.out]; have a5:=hide (G.out.at C); have aX:=a5.out.b2.cell; have aY:=a5.out.b5.cell; have aj:=hide (E.out.trans (C.mono E.out.size)); clear C; go_wp2_with fail
       go_ret
       exact⟨congrArg (Value.int .i64) (aB.out).symm,aj.out⟩
      have bq:(r.wr != -1)=true:=by simp [a8]
      have am:=hide a8
      clear a8
      have ar:=hide (show setE r.fa (ns:Int)=0 from by rw [aa.out.2.2.1]; rfl)
      refine Calls.ret (b0 _ a6.out) ?_; rintro v w8 ⟨rfl,V⟩; rw [ar.out]; have I:=hide (ay.out.at V); have be:=I.out.b2.cell; have bi:=I.out.b5.cell; have y:=hide (a6.out.trans (V.mono a6.out.size)); clear V; go_wp2_with fail
      cases ao:inC r.rd 0 ((nv:Int) - 1)
      case false=>
       have af:=hide ao
       clear ao
       have V1:=hide (show AO r.rd (nv:Int)=false from(Cd aG.out).trans af.out)
       refine(within2_any _ _ _ _).mono ?_; rintro e w' ⟨rfl,rfl⟩; rw [af.out]; go_wp2_with fail
       go_ret
       exact⟨congrArg (Value.int .i64) (aA.out.trans (by rw [V1.out]; rfl)).symm,y.out⟩
      have af:=hide ao
      clear ao
      have V1:=hide (show AO r.rd (nv:Int)=true from(Cd aG.out).trans af.out)
      refine(within2_any _ _ _ _).mono ?_; rintro e w' ⟨rfl,rfl⟩; rw [af.out]; go_wp2_with fail
      cases ap:inC r.wr 0 ((nv:Int) - 1)
      case false=>
       have ag:=hide ap
       clear ap
       have V2:=hide (show AO r.wr (nv:Int)=false from(Cd am.out).trans ag.out)
       refine(within2_any _ _ _ _).mono ?_; rintro e w' ⟨rfl,rfl⟩; rw [ag.out]; go_wp2_with fail
       go_ret
       exact⟨congrArg (Value.int .i64) (aA.out.trans (by rw [V1.out,V2.out]; rfl)).symm,y.out⟩
      have ag:=hide ap
      clear ap
      have V2:=hide (show AO r.wr (nv:Int)=true from(Cd am.out).trans ag.out)
      refine(within2_any _ _ _ _).mono ?_; rintro e w' ⟨rfl,rfl⟩; rw [ag.out]; go_wp2_with fail
      have aB:=hide (show EV=0 from aA.out.trans (by rw [V1.out,V2.out]; rfl))
      have aw:=hide (show setE r.send (nm:Int)=0 from by rw [aa.out.2.2.2]; rfl)
      refine Calls.ret (b9 _ y.out) ?_; rintro v w9 ⟨rfl,W⟩; rw [aw.out]; have J:=hide (I.out.at W); have bf:=J.out.b2.cell; have bj:=J.out.b5.cell; have O:=hide (y.out.trans (W.mono y.out.size)); clear W; go_wp2_with fail
      have au:=hide (show setE r.left (ns:Int)=0 from by rw [a4.out.1]; rfl)
      refine Calls.ret (b4 _ O.out) ?_; rintro v wa ⟨rfl,Z⟩; rw [au.out]; have M:=hide (J.out.at Z); have bg:=M.out.b2.cell; have bk:=M.out.b5.cell; have U:=hide (O.out.trans (Z.mono O.out.size)); clear Z; go_wp2_with fail
      have av:=hide (show setE r.right (ns:Int)=0 from by rw [a4.out.2.1]; rfl)
      refine Calls.ret (b8 _ U.out) ?_; rintro v wb ⟨rfl,a2⟩; rw [av.out]; have G:=hide (M.out.at a2); have bh:=G.out.b2.cell; have bl:=G.out.b5.cell; have E:=hide (U.out.trans (a2.mono U.out.size)); clear a2; go_wp2_with fail
      have an:=hide (show setE r.parent (ns:Int)=0 from by rw [a4.out.2.2]; rfl)
      refine Calls.ret (aU _ E.out) ?_; rintro v wc ⟨rfl,C⟩; rw [an.out]; have a5:=hide (G.out.at C); have aX:=a5.out.b2.cell; have aY:=a5.out.b5.cell; have aj:=hide (E.out.trans (C.mono E.out.size)); clear C; go_wp2_with fail
      go_ret
      exact⟨congrArg (Value.int .i64) (aB.out).symm,aj.out⟩
   ·have az:=hide (bL.out.symm.trans (Sg c0.out a7))
    have q1:(r.kind==1)=false:=by rw [a7]; rfl
    have q2:(r.kind==2)=false:=by rw [a7]; rfl
    have q3:(r.kind==3)=true:=by rw [a7]; rfl
    have q4:(r.kind==4)=false:=by rw [a7]; rfl
    have q5:(r.kind==5)=false:=by rw [a7]; rfl
    have d9:(r.kind==2||r.kind==5)=false:=by rw [q2,q5]; rfl
    have b1:=hide a7
    clear a7
    have aa:=hide (show r.guards=[]∧r.ex=[]∧r.fa=[]∧r.send=[] from br.out.g (by rw [b1.out]; decide))
    have a4:=hide (show r.left=[]∧r.right=[]∧r.parent=[] from br.out.l (by rw [b1.out]; decide))
    have cS:=Ah ax.out.b2 ci.out
    have cT:=Ah ax.out.b5 ck.out
    go_wp2_with (first
     | (go_at_call 98; refine(within2_any _ _ _ _).mono ?_; rintro e w' ⟨rfl,rfl⟩; rw [bS.out])
     | (go_at_call 192; refine Calls.ret (FD ax.out.pr ax.out.ru cm.out) ?_; rintro v w5 ⟨rfl,aP⟩; rw [bD.out]; have aM:=hide (ax.out.at aP); have cH:=aM.out.b2.cell; have cL:=aM.out.b5.cell; have ai:=hide (bb.out.trans (aP.mono bb.out.size)); clear aP))
    obtain⟨ng,aR⟩:∃n,n=r.guards.length:=⟨_,rfl⟩
    have aS:=hide (show ng=0 from by rw [aR,aa.out.1]; rfl)
    rw [←aR] at cj
    have cV:¬(2:Int)<(ng:Int):=by have:=aS.out; omega
    have cW:ng≤60:=by have:=aS.out; omega
    clear aR
    obtain⟨nq,cd⟩:∃n,n=r.resp.length:=⟨_,rfl⟩
    rw [←cd] at dX d1
    have bT:=hide cd
    clear cd
    cases aD:inC r.fr 0 ((ns:Int) - 1)
    case false=>
     have ab:=hide aD
     clear aD
     refine(within2_any _ _ _ _).mono ?_; rintro e w' ⟨rfl,rfl⟩; rw [ab.out]; go_wp2_with fail
     go_ret
     exact⟨congrArg (Value.int .i64) (az.out.trans (by rw [show inN r.fr (ns:Int)=false from ab.out]; rfl)).symm,ai.out⟩
    have ab:=hide aD
    clear aD
    refine(within2_any _ _ _ _).mono ?_; rintro e w' ⟨rfl,rfl⟩; rw [ab.out]; go_wp2_with fail
    cases aE:inC r.to 0 ((ns:Int) - 1)
    case false=>
     have ae:=hide aE
     clear aE
     refine(within2_any _ _ _ _).mono ?_; rintro e w' ⟨rfl,rfl⟩; rw [ae.out]; go_wp2_with fail
     go_ret
     exact⟨congrArg (Value.int .i64) (az.out.trans (by rw [show inN r.fr (ns:Int)=true from ab.out,show inN r.to (ns:Int)=false from ae.out]; rfl)).symm,ai.out⟩
    have ae:=hide aE
    clear aE
    by_cases bB:nq=ns
    case neg=>
     have Q0:((nq:Int) != (ns:Int))=true:=by
      have:((nq:Int)==(ns:Int))=false:=by
       simp
       omega
      simp [bne,this]
     have HL:=hide bB
     clear bB
     refine(within2_any _ _ _ _).mono ?_; rintro e w' ⟨rfl,rfl⟩; rw [ae.out]; go_wp2_with fail
     go_ret
     exact⟨congrArg (Value.int .i64) (az.out.trans (by rw [show inN r.fr (ns:Int)=true from ab.out,show inN r.to (ns:Int)=true from ae.out,show C8 (ns:Int) r.resp=1 from if_pos (by have h1:=HL.out; have h2:=bT.out; omega)]; rfl)).symm,ai.out⟩
    have Q0:((nq:Int) != (ns:Int))=false:=by simp [bB]
    have HL:=hide bB
    clear bB
    refine(within2_any _ _ _ _).mono ?_; rintro e w' ⟨rfl,rfl⟩; rw [ae.out]; go_wp2_with fail
    have aA:=hide (show EV=orE (C8 (ns:Int) r.resp) (Ad (!AO r.rd (nv:Int)||!AO r.wr (nv:Int)) 5) from az.out.trans (by rw [show inN r.fr (ns:Int)=true from ab.out,show inN r.to (ns:Int)=true from ae.out]; rfl))
    have cv:=hide (show C8 (ns:Int) r.resp=Aj (fun x=>Ad (!inE x (ns:Int)) 5) r.resp from if_neg (by have h1:=HL.out; have h2:=bT.out; omega))
    go_loopw [9] (fun ii wr=>∃(k:Nat),ii=.int .i64 (k:Int)∧k≤ns∧w5=wr∧Hid (Aj (fun x=>Ad (!inE x (ns:Int)) 5) (r.resp.take k)=0)) (fun ii _=>ns - (intOf ii).toNat)
    case atStart=>exact⟨0,rfl,Nat.zero_le _,(by first | rfl | trivial),by show _=_; rfl⟩
    case round=>
     obtain⟨k3,rfl,eP,rfl,bK⟩:=hrel
     by_cases eQ:k3<ns
     ·obtain⟨b3,fu,x,dx,eE,d2,cR⟩:=(dB.out.keep (w':=w5) (B':=w.heap.size) (fun _ hp=>ai.out.cell hp) (Nat.le_refl _)).at (k:=k3) (by have h1:=HL.out; have h2:=bT.out; omega)
      have d3:=cR 0 (by omega)
      simp only [Nat.add_zero,Nat.mul_one,Ai] at d3
      have d4:=hide d2
      have em:k3<nq:=by have h1:=HL.out; omega
      subst dx
      clear cR d2
      go_wp2_with fail
      cases bR:inC x 0 ((ns:Int) - 1)
      ·have Fin:=hide bR
       clear bR
       have e9:=hide (show C8 (ns:Int) r.resp=5 from by
        have h1:Ad (!inE x (ns:Int)) 5=5:=by rw [C5,Fin.out]; rfl
        rw [cv.out,Ct (fun x=>Ad (!inE x (ns:Int)) 5) d4.out bK.out (by rw [h1]; decide),h1])
       refine(within2_any _ _ _ _).mono ?_; rintro e w' ⟨rfl,rfl⟩; rw [Fin.out]; go_wp2_with fail
       go_ret
       exact⟨congrArg (Value.int .i64) (aA.out.trans (by rw [e9.out]; rfl)).symm,ai.out⟩
      ·have Fin:=hide bR
       clear bR
       have cg:=hide (show Aj (fun x=>Ad (!inE x (ns:Int)) 5) (r.resp.take (k3+1))=0 from by
        rw [CD (fun x=>Ad (!inE x (ns:Int)) 5) d4.out bK.out,C5,Fin.out]
        rfl)
       refine(within2_any _ _ _ _).mono ?_; rintro e w' ⟨rfl,rfl⟩; rw [Fin.out]; go_wp2_with fail
       exact⟨⟨k3+1,by go_num,by omega,(by first | rfl | trivial),cg.out⟩,by simp [intOf]; omega⟩
     ·have aB:=hide (show EV=Ad (!AO r.rd (nv:Int)||!AO r.wr (nv:Int)) 5 from aA.out.trans (by
       have h1:=bK.out
       rw [List.take_of_length_le (by have h1:=HL.out; have h2:=bT.out; omega)] at h1
       rw [cv.out,h1]
       rfl))
      clear bK
      go_wp2_with fail
      go_loopw [10] (fun ii wr=>∃(k:Nat),ii=.int .i64 (k:Int)∧k≤ng∧Hid (Below w5.heap.size w5 wr)) (fun ii _=>ng - (intOf ii).toNat)
      case atStart=>exact⟨0,rfl,Nat.zero_le _,Below.refl _ _⟩
      case round=>
       obtain⟨k,rfl,hk,bd⟩:=hrel
       have aN:=hide (aM.out.at bd.out)
       have cJ:=aN.out.b2.cell
       have cM:=aN.out.b5.cell
       have aO:=hide (ai.out.trans (bd.out.mono ai.out.size))
       by_cases cU:k<ng
       ·exfalso
        have:=aS.out
        omega
       ·go_wp2_with fail
        have bx:=hide (show setE r.ex (ns:Int)=0 from by rw [aa.out.2.1]; rfl)
        refine Calls.ret (cb _ aO.out) ?_; rintro v w7 ⟨rfl,aQ⟩; rw [bx.out]; have ay:=hide (aN.out.at aQ); have cK:=ay.out.b2.cell; have cO:=ay.out.b5.cell; have a6:=hide (aO.out.trans (aQ.mono aO.out.size)); clear aQ; go_wp2_with fail
        by_cases aH:r.rd= -1
        case pos=>
         have bW:(r.rd != -1)=false:=by simp [aH]
         have aG:=hide aH
         clear aH
         have V1:=hide (show AO r.rd (nv:Int)=true from by rw [aG.out]; exact DW (by omega))
         by_cases a8:r.wr= -1
         case pos=>
          have bq:(r.wr != -1)=false:=by simp [a8]
          have am:=hide a8
          clear a8
          have V2:=hide (show AO r.wr (nv:Int)=true from by rw [am.out]; exact DW (by omega))
          have ar:=hide (show setE r.fa (ns:Int)=0 from by rw [aa.out.2.2.1]; rfl)
          refine Calls.ret (b0 _ a6.out) ?_; rintro v w8 ⟨rfl,V⟩; rw [ar.out]; have I:=hide (ay.out.at V); have be:=I.out.b2.cell; have bi:=I.out.b5.cell; have y:=hide (a6.out.trans (V.mono a6.out.size)); clear V; go_wp2_with fail
          have bs:=hide (show EV=0 from aB.out.trans (by rw [V1.out,V2.out]; rfl))
          have aw:=hide (show setE r.send (nm:Int)=0 from by rw [aa.out.2.2.2]; rfl)
          refine Calls.ret (b9 _ y.out) ?_; rintro v w9 ⟨rfl,W⟩; rw [aw.out]; have J:=hide (I.out.at W); have bf:=J.out.b2.cell; have bj:=J.out.b5.cell; have O:=hide (y.out.trans (W.mono y.out.size)); clear W; go_wp2_with fail
          have au:=hide (show setE r.left (ns:Int)=0 from by rw [a4.out.1]; rfl)
          refine Calls.ret (b4 _ O.out) ?_; rintro v wa ⟨rfl,Z⟩; rw [au.out]; have M:=hide (J.out.at Z); have bg:=M.out.b2.cell; have bk:=M.out.b5.cell; have U:=hide (O.out.trans (Z.mono O.out.size)); clear Z; go_wp2_with fail
          have av:=hide (show setE r.right (ns:Int)=0 from by rw [a4.out.2.1]; rfl)
          refine Calls.ret (b8 _ U.out) ?_; rintro v wb ⟨rfl,a2⟩; rw [av.out]; have G:=hide (M.out.at a2); have bh:=G.out.b2.cell; have bl:=G.out.b5.cell; have E:=hide (U.out.trans (a2.mono U.out.size)); clear a2; go_wp2_with fail
          have an:=hide (show setE r.parent (ns:Int)=0 from by rw [a4.out.2.2]; rfl)
          refine Calls.ret (aU _ E.out) ?_; rintro v wc ⟨rfl,C⟩; rw [an.out]; have a5:=hide (G.out.at C); have aX:=a5.out.b2.cell; have aY:=a5.out.b5.cell; have aj:=hide (E.out.trans (C.mono E.out.size)); clear C; go_wp2_with fail
          go_ret
          exact⟨congrArg (Value.int .i64) (bs.out).symm,aj.out⟩
         have bq:(r.wr != -1)=true:=by simp [a8]
         have am:=hide a8
         clear a8
         have ar:=hide (show setE r.fa (ns:Int)=0 from by rw [aa.out.2.2.1]; rfl)
         refine Calls.ret (b0 _ a6.out) ?_; rintro v w8 ⟨rfl,V⟩; rw [ar.out]; have I:=hide (ay.out.at V); have be:=I.out.b2.cell; have bi:=I.out.b5.cell; have y:=hide (a6.out.trans (V.mono a6.out.size)); clear V; go_wp2_with fail
         cases ap:inC r.wr 0 ((nv:Int) - 1)
         case false=>
          have ag:=hide ap
          clear ap
          have V2:=hide (show AO r.wr (nv:Int)=false from(Cd am.out).trans ag.out)
          refine(within2_any _ _ _ _).mono ?_; rintro e w' ⟨rfl,rfl⟩; rw [ag.out]; go_wp2_with fail
          go_ret
          exact⟨congrArg (Value.int .i64) (aB.out.trans (by rw [V1.out,V2.out]; rfl)).symm,y.out⟩
         have ag:=hide ap
         clear ap
         have V2:=hide (show AO r.wr (nv:Int)=true from(Cd am.out).trans ag.out)
         refine(within2_any _ _ _ _).mono ?_; rintro e w' ⟨rfl,rfl⟩; rw [ag.out]; go_wp2_with fail
         have bs:=hide (show EV=0 from aB.out.trans (by rw [V1.out,V2.out]; rfl))
         have aw:=hide (show setE r.send (nm:Int)=0 from by rw [aa.out.2.2.2]; rfl)
         refine Calls.ret (b9 _ y.out) ?_; rintro v w9 ⟨rfl,W⟩; rw [aw.out]; have J:=hide (I.out.at W); have bf:=J.out.b2.cell; have bj:=J.out.b5.cell; have O:=hide (y.out.trans (W.mono y.out.size)); clear W; go_wp2_with fail
         have au:=hide (show setE r.left (ns:Int)=0 from by rw [a4.out.1]; rfl)
         refine Calls.ret (b4 _ O.out) ?_; rintro v wa ⟨rfl,Z⟩; rw [au.out]; have M:=hide (J.out.at Z); have bg:=M.out.b2.cell; have bk:=M.out.b5.cell; have U:=hide (O.out.trans (Z.mono O.out.size)); clear Z; go_wp2_with fail
         have av:=hide (show setE r.right (ns:Int)=0 from by rw [a4.out.2.1]; rfl)
         refine Calls.ret (b8 _ U.out) ?_; rintro v wb ⟨rfl,a2⟩; rw [av.out]; have G:=hide (M.out.at a2); have bh:=G.out.b2.cell; have bl:=G.out.b5.cell; have E:=hide (U.out.trans (a2.mono U.out.size)); clear a2; go_wp2_with fail
         have an:=hide (show setE r.parent (ns:Int)=0 from by rw [a4.out.2.2]; rfl)
         refine Calls.ret (aU _ E.out) ?_; rintro v wc ⟨rfl,C⟩; rw [an.out]; have a5:=hide (G.out.at C); have aX:=a5.out.b2.cell; have aY:=a5.out.b5.cell; have aj:=hide (E.out.trans (C.mono E.out.size)); clear C; go_wp2_with fail
         go_ret
         exact⟨congrArg (Value.int .i64) (bs.out).symm,aj.out⟩
        have bW:(r.rd != -1)=true:=by simp [aH]
        have aG:=hide aH
        clear aH
        by_cases a8:r.wr= -1
        case pos=>
         have bq:(r.wr != -1)=false:=by simp [a8]
         have am:=hide a8
         clear a8
         have V2:=hide (show AO r.wr (nv:Int)=true from by rw [am.out]; exact DW (by omega))
         have ar:=hide (show setE r.fa (ns:Int)=0 from by rw [aa.out.2.2.1]; rfl)
         refine Calls.ret (b0 _ a6.out) ?_; rintro v w8 ⟨rfl,V⟩; rw [ar.out]; have I:=hide (ay.out.at V); have be:=I.out.b2.cell; have bi:=I.out.b5.cell; have y:=hide (a6.out.trans (V.mono a6.out.size)); clear V; go_wp2_with fail
         cases ao:inC r.rd 0 ((nv:Int) - 1)
         case false=>
          have af:=hide ao
          clear ao
          have V1:=hide (show AO r.rd (nv:Int)=false from(Cd aG.out).trans af.out)
          refine(within2_any _ _ _ _).mono ?_; rintro e w' ⟨rfl,rfl⟩; rw [af.out]; go_wp2_with fail
          go_ret
          exact⟨congrArg (Value.int .i64) (aB.out.trans (by rw [V1.out]; rfl)).symm,y.out⟩
         have af:=hide ao
         clear ao
         have V1:=hide (show AO r.rd (nv:Int)=true from(Cd aG.out).trans af.out)
         refine(within2_any _ _ _ _).mono ?_; rintro e w' ⟨rfl,rfl⟩; rw [af.out]; go_wp2_with fail
         have bs:=hide (show EV=0 from aB.out.trans (by rw [V1.out,V2.out]; rfl))
         have aw:=hide (show setE r.send (nm:Int)=0 from by rw [aa.out.2.2.2]; rfl)
         refine Calls.ret (b9 _ y.out) ?_; rintro v w9 ⟨rfl,W⟩; rw [aw.out]; have J:=hide (I.out.at W); have bf:=J.out.b2.cell; have bj:=J.out.b5.cell; have O:=hide (y.out.trans (W.mono y.out.size)); clear W; go_wp2_with fail
         have au:=hide (show setE r.left (ns:Int)=0 from by rw [a4.out.1]; rfl)
         refine Calls.ret (b4 _ O.out) ?_; rintro v wa ⟨rfl,Z⟩; rw [au.out]; have M:=hide (J.out.at Z); have bg:=M.out.b2.cell; have bk:=M.out.b5.cell; have U:=hide (O.out.trans (Z.mono O.out.size)); clear Z; go_wp2_with fail
         have av:=hide (show setE r.right (ns:Int)=0 from by rw [a4.out.2.1]; rfl)
         refine Calls.ret (b8 _ U.out) ?_; rintro v wb ⟨rfl,a2⟩; rw [av.out]; have G:=hide (M.out.at a2); have bh:=G.out.b2.cell; have bl:=G.out.b5.cell; have E:=hide (U.out.trans (a2.mono U.out.size)); clear a2; go_wp2_with fail
         have an:=hide (show setE r.parent (ns:Int)=0 from by rw [a4.out.2.2]; rfl)
         refine Calls.ret (aU _ E.out) ?_; rintro v wc ⟨rfl,C⟩; rw [an.out]; have a5:=hide (G.out.at C); have aX:=a5.out.b2.cell; have aY:=a5.out.b5.cell; have aj:=hide (E.out.trans (C.mono E.out.size)); clear C; go_wp2_with fail
         go_ret
         exact⟨congrArg (Value.int .i64) (bs.out).symm,aj.out⟩
        have bq:(r.wr != -1)=true:=by simp [a8]
        have am:=hide a8
        clear a8
        have ar:=hide (show setE r.fa (ns:Int)=0 from by rw [aa.out.2.2.1]; rfl)
        refine Calls.ret (b0 _ a6.out) ?_; rintro v w8 ⟨rfl,V⟩; rw [ar.out]; have I:=hide (ay.out.at V); have be:=I.out.b2.cell; have bi:=I.out.b5.cell; have y:=hide (a6.out.trans (V.mono a6.out.size)); clear V; go_wp2_with fail
        cases ao:inC r.rd 0 ((nv:Int) - 1)
        case false=>
         have af:=hide ao
         clear ao
         have V1:=hide (show AO r.rd (nv:Int)=false from(Cd aG.out).trans af.out)
         refine(within2_any _ _ _ _).mono ?_; rintro e w' ⟨rfl,rfl⟩; rw [af.out]; go_wp2_with fail
         go_ret
         exact⟨congrArg (Value.int .i64) (aB.out.trans (by rw [V1.out]; rfl)).symm,y.out⟩
        have af:=hide ao
        clear ao
        have V1:=hide (show AO r.rd (nv:Int)=true from(Cd aG.out).trans af.out)
        refine(within2_any _ _ _ _).mono ?_; rintro e w' ⟨rfl,rfl⟩; rw [af.out]; go_wp2_with fail
        cases ap:inC r.wr 0 ((nv:Int) - 1)
        case false=>
         have ag:=hide ap
         clear ap
         have V2:=hide (show AO r.wr (nv:Int)=false from(Cd am.out).trans ag.out)
         refine(within2_any _ _ _ _).mono ?_; rintro e w' ⟨rfl,rfl⟩; rw [ag.out]; go_wp2_with fail
         go_ret
         exact⟨congrArg (Value.int .i64) (aB.out.trans (by rw [V1.out,V2.out]; rfl)).symm,y.out⟩
        have ag:=hide ap
        clear ap
        have V2:=hide (show AO r.wr (nv:Int)=true from(Cd am.out).trans ag.out)
        refine(within2_any _ _ _ _).mono ?_; rintro e w' ⟨rfl,rfl⟩; rw [ag.out]; go_wp2_with fail
        have bs:=hide (show EV=0 from aB.out.trans (by rw [V1.out,V2.out]; rfl))
        have aw:=hide (show setE r.send (nm:Int)=0 from by rw [aa.out.2.2.2]; rfl)
        refine Calls.ret (b9 _ y.out) ?_; rintro v w9 ⟨rfl,W⟩; rw [aw.out]; have J:=hide (I.out.at W); have bf:=J.out.b2.cell; have bj:=J.out.b5.cell; have O:=hide (y.out.trans (W.mono y.out.size)); clear W; go_wp2_with fail
        have au:=hide (show setE r.left (ns:Int)=0 from by rw [a4.out.1]; rfl)
        refine Calls.ret (b4 _ O.out) ?_; rintro v wa ⟨rfl,Z⟩; rw [au.out]; have M:=hide (J.out.at Z); have bg:=M.out.b2.cell; have bk:=M.out.b5.cell; have U:=hide (O.out.trans (Z.mono O.out.size)); clear Z; go_wp2_with fail
        have av:=hide (show setE r.right (ns:Int)=0 from by rw [a4.out.2.1]; rfl)
        refine Calls.ret (b8 _ U.out) ?_; rintro v wb ⟨rfl,a2⟩; rw [av.out]; have G:=hide (M.out.at a2); have bh:=G.out.b2.cell; have bl:=G.out.b5.cell; have E:=hide (U.out.trans (a2.mono U.out.size)); clear a2; go_wp2_with fail
        have an:=hide (show setE r.parent (ns:Int)=0 from by rw [a4.out.2.2]; rfl)
        refine Calls.ret (aU _ E.out) ?_; rintro v wc ⟨rfl,C⟩; rw [an.out]; have a5:=hide (G.out.at C); have aX:=a5.out.b2.cell; have aY:=a5.out.b5.cell; have aj:=hide (E.out.trans (C.mono E.out.size)); clear C; go_wp2_with fail
        go_ret
        exact⟨congrArg (Value.int .i64) (bs.out).symm,aj.out⟩
   ·have az:=hide (bL.out.symm.trans (Si c0.out a7 (by omega)))
    have q1:(r.kind==1)=false:=by rw [a7]; rfl
    have q2:(r.kind==2)=false:=by rw [a7]; rfl
    have q3:(r.kind==3)=false:=by rw [a7]; rfl
    have q4:(r.kind==4)=false:=by rw [a7]; rfl
    have q5:(r.kind==5)=true:=by rw [a7]; rfl
    have d9:(r.kind==2||r.kind==5)=true:=by rw [q2,q5]; rfl
    have b1:=hide a7
    clear a7
    have aa:=hide (show r.guards=[]∧r.ex=[]∧r.fa=[]∧r.send=[] from br.out.g (by rw [b1.out]; decide))
    have d7:=hide (show r.rd= -1∧r.wr= -1 from br.out.v (by rw [b1.out]; decide))
    have a4:=hide (show r.left=[]∧r.right=[]∧r.parent=[] from br.out.l (by rw [b1.out]; decide))
    have cS:=Ah ax.out.b2 ci.out
    have cT:=Ah ax.out.b5 ck.out
    go_wp2_with (first
     | (go_at_call 98; refine(within2_any _ _ _ _).mono ?_; rintro e w' ⟨rfl,rfl⟩; rw [bS.out])
     | (go_at_call 192; refine Calls.ret (FD ax.out.pr ax.out.ru cm.out) ?_; rintro v w5 ⟨rfl,aP⟩; rw [bD.out]; have aM:=hide (ax.out.at aP); have cH:=aM.out.b2.cell; have cL:=aM.out.b5.cell; have ai:=hide (bb.out.trans (aP.mono bb.out.size)); clear aP))
    obtain⟨ng,aR⟩:∃n,n=r.guards.length:=⟨_,rfl⟩
    have aS:=hide (show ng=0 from by rw [aR,aa.out.1]; rfl)
    rw [←aR] at cj
    have cV:¬(2:Int)<(ng:Int):=by have:=aS.out; omega
    have cW:ng≤60:=by have:=aS.out; omega
    clear aR
    cases aD:inC r.fr 0 ((ns:Int) - 1)
    case false=>
     have ab:=hide aD
     clear aD
     refine(within2_any _ _ _ _).mono ?_; rintro e w' ⟨rfl,rfl⟩; rw [ab.out]; go_wp2_with fail
     go_ret
     exact⟨congrArg (Value.int .i64) (az.out.trans (by rw [show inN r.fr (ns:Int)=false from ab.out]; rfl)).symm,ai.out⟩
    have ab:=hide aD
    clear aD
    refine(within2_any _ _ _ _).mono ?_; rintro e w' ⟨rfl,rfl⟩; rw [ab.out]; go_wp2_with fail
    cases aE:inC r.to 0 ((ns:Int) - 1)
    case false=>
     have ae:=hide aE
     clear aE
     refine(within2_any _ _ _ _).mono ?_; rintro e w' ⟨rfl,rfl⟩; rw [ae.out]; go_wp2_with fail
     go_ret
     exact⟨congrArg (Value.int .i64) (az.out.trans (by rw [show inN r.fr (ns:Int)=true from ab.out,show inN r.to (ns:Int)=false from ae.out]; rfl)).symm,ai.out⟩
    have ae:=hide aE
    clear aE
    refine(within2_any _ _ _ _).mono ?_; rintro e w' ⟨rfl,rfl⟩; rw [ae.out]; go_wp2_with fail
    cases b6:inC r.pf 0 ((ns:Int) - 1)
    case false=>
     have aF:=hide b6
     clear b6
     refine(within2_any _ _ _ _).mono ?_; rintro e w' ⟨rfl,rfl⟩; rw [aF.out]; go_wp2_with fail
     go_ret
     exact⟨congrArg (Value.int .i64) (az.out.trans (by rw [show inN r.fr (ns:Int)=true from ab.out,show inN r.to (ns:Int)=true from ae.out,show inN r.pf (ns:Int)=false from aF.out]; rfl)).symm,ai.out⟩
    have aF:=hide b6
    clear b6
    refine(within2_any _ _ _ _).mono ?_; rintro e w' ⟨rfl,rfl⟩; rw [aF.out]; go_wp2_with fail
    cases b7:inC r.pt 0 ((ns:Int) - 1)
    case false=>
     have aL:=hide b7
     clear b7
     refine(within2_any _ _ _ _).mono ?_; rintro e w' ⟨rfl,rfl⟩; rw [aL.out]; go_wp2_with fail
     go_ret
     exact⟨congrArg (Value.int .i64) (az.out.trans (by rw [show inN r.fr (ns:Int)=true from ab.out,show inN r.to (ns:Int)=true from ae.out,show inN r.pf (ns:Int)=true from aF.out,show inN r.pt (ns:Int)=false from aL.out]; rfl)).symm,ai.out⟩
    have aL:=hide b7
    clear b7
    refine(within2_any _ _ _ _).mono ?_; rintro e w' ⟨rfl,rfl⟩; rw [aL.out]; go_wp2_with fail
    have aA:=hide (show EV=Ad (if p.topo=4 then !inC r.dir 3 4 else !inC r.dir 1 2) 1 from az.out.trans (by rw [show inN r.fr (ns:Int)=true from ab.out,show inN r.to (ns:Int)=true from ae.out,show inN r.pf (ns:Int)=true from aF.out,show inN r.pt (ns:Int)=true from aL.out]; rfl))
    go_loopw [10] (fun ii wr=>∃(k:Nat),ii=.int .i64 (k:Int)∧k≤ng∧Hid (Below w5.heap.size w5 wr)) (fun ii _=>ng - (intOf ii).toNat)
    case atStart=>exact⟨0,rfl,Nat.zero_le _,Below.refl _ _⟩
    case round=>
     obtain⟨k,rfl,hk,bd⟩:=hrel
     have aN:=hide (aM.out.at bd.out)
     have cJ:=aN.out.b2.cell
     have cM:=aN.out.b5.cell
     have aO:=hide (ai.out.trans (bd.out.mono ai.out.size))
     by_cases cU:k<ng
     ·exfalso
      have:=aS.out
      omega
     ·go_wp2_with fail
      have bx:=hide (show setE r.ex (ns:Int)=0 from by rw [aa.out.2.1]; rfl)
      refine Calls.ret (cb _ aO.out) ?_; rintro v w7 ⟨rfl,aQ⟩; rw [bx.out]; have ay:=hide (aN.out.at aQ); have cK:=ay.out.b2.cell; have cO:=ay.out.b5.cell; have a6:=hide (aO.out.trans (aQ.mono aO.out.size)); clear aQ; go_wp2_with fail
      have Y1:(r.rd != -1)=false:=by rw [d7.out.1]; rfl
      have Y2:(r.wr != -1)=false:=by rw [d7.out.2]; rfl
      have ar:=hide (show setE r.fa (ns:Int)=0 from by rw [aa.out.2.2.1]; rfl)
      refine Calls.ret (b0 _ a6.out) ?_; rintro v w8 ⟨rfl,V⟩; rw [ar.out]; have I:=hide (ay.out.at V); have be:=I.out.b2.cell; have bi:=I.out.b5.cell; have y:=hide (a6.out.trans (V.mono a6.out.size)); clear V; go_wp2_with fail
      have aw:=hide (show setE r.send (nm:Int)=0 from by rw [aa.out.2.2.2]; rfl)
      refine Calls.ret (b9 _ y.out) ?_; rintro v w9 ⟨rfl,W⟩; rw [aw.out]; have J:=hide (I.out.at W); have bf:=J.out.b2.cell; have bj:=J.out.b5.cell; have O:=hide (y.out.trans (W.mono y.out.size)); clear W; go_wp2_with fail
      have au:=hide (show setE r.left (ns:Int)=0 from by rw [a4.out.1]; rfl)
      refine Calls.ret (b4 _ O.out) ?_; rintro v wa ⟨rfl,Z⟩; rw [au.out]; have M:=hide (J.out.at Z); have bg:=M.out.b2.cell; have bk:=M.out.b5.cell; have U:=hide (O.out.trans (Z.mono O.out.size)); clear Z; go_wp2_with fail
      have av:=hide (show setE r.right (ns:Int)=0 from by rw [a4.out.2.1]; rfl)
      refine Calls.ret (b8 _ U.out) ?_; rintro v wb ⟨rfl,a2⟩; rw [av.out]; have G:=hide (M.out.at a2); have bh:=G.out.b2.cell; have bl:=G.out.b5.cell; have E:=hide (U.out.trans (a2.mono U.out.size)); clear a2; go_wp2_with fail
      by_cases ht:p.topo=4
      case pos=>
       have G1:(p.topo==4)=true:=by simp [ht]
       have G2:(p.topo != 4)=false:=by simp [ht]
       have HT:=hide ht
       clear ht
       have an:=hide (show setE r.parent (ns:Int)=0 from by rw [a4.out.2.2]; rfl)
       refine Calls.ret (aU _ E.out) ?_; rintro v wc ⟨rfl,C⟩; rw [an.out]; have a5:=hide (G.out.at C); have aX:=a5.out.b2.cell; have aY:=a5.out.b5.cell; have aj:=hide (E.out.trans (C.mono E.out.size)); clear C; go_wp2_with fail
       cases aZ:inC r.dir 3 4
       case false=>
        have aK:=hide aZ
        clear aZ
        refine(within2_any _ _ _ _).mono ?_; rintro e w' ⟨rfl,rfl⟩; rw [aK.out]; go_wp2_with fail
        go_ret
        exact⟨congrArg (Value.int .i64) (aA.out.trans (by rw [if_pos HT.out,aK.out]; rfl)).symm,aj.out⟩
       have aK:=hide aZ
       clear aZ
       refine(within2_any _ _ _ _).mono ?_; rintro e w' ⟨rfl,rfl⟩; rw [aK.out]; go_wp2_with fail
       go_ret
       exact⟨congrArg (Value.int .i64) (aA.out.trans (by rw [if_pos HT.out,aK.out]; rfl)).symm,aj.out⟩
      have G1:(p.topo==4)=false:=by simp [ht]
      have G2:(p.topo != 4)=true:=by simp [ht]
      have HT:=hide ht
      clear ht
      have an:=hide (show setE r.parent (ns:Int)=0 from by rw [a4.out.2.2]; rfl)
      refine Calls.ret (aU _ E.out) ?_; rintro v wc ⟨rfl,C⟩; rw [an.out]; have a5:=hide (G.out.at C); have aX:=a5.out.b2.cell; have aY:=a5.out.b5.cell; have aj:=hide (E.out.trans (C.mono E.out.size)); clear C; go_wp2_with fail
      cases aZ:inC r.dir 1 2
      case false=>
       have aK:=hide aZ
       clear aZ
       refine(within2_any _ _ _ _).mono ?_; rintro e w' ⟨rfl,rfl⟩; rw [aK.out]; go_wp2_with fail
       go_ret
       exact⟨congrArg (Value.int .i64) (aA.out.trans (by rw [if_neg HT.out,aK.out]; rfl)).symm,aj.out⟩
      have aK:=hide aZ
      clear aZ
      refine(within2_any _ _ _ _).mono ?_; rintro e w' ⟨rfl,rfl⟩; rw [aK.out]; go_wp2_with fail
      go_ret
      exact⟨congrArg (Value.int .i64) (aA.out.trans (by rw [if_neg HT.out,aK.out]; rfl)).symm,aj.out⟩
end Go.Proofs.YtfcfpoemojjglaaGreatDoor.K
