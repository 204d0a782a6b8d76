/-
  Part CL of a proof.
-/
import Derived.Test.YtfcfpoemojjglaaGreatDoorPA
import Derived.Test.YtfcfpoemojjglaaGreatDoorCJ
import Derived.Test.YtfcfpoemojjglaaGreatDoorCI
set_option maxHeartbeats 16000000
set_option maxRecDepth 100000
set_option linter.unusedVariables false
set_option linter.unusedSimpArgs false
namespace Go.Proofs.YtfcfpoemojjglaaGreatDoor.K
open Go.RowKit
attribute [-go_sem] loadCellsFrom storeCells
theorem SG {w:World} {cs:List Value} {p:Am} {r:Az} {i:Nat} (h:At w w.heap.size cs p) (hr:p.rules[i]?=some r) (hs:r.Small) (eI:r.name.size≤500) (bz:p.Small) (hT:SpOK w) (e7:Hid (((p.rules.take i).any fun x=>decide (x.name=r.name))=false)) (cT:Hid (nameOK r.name=true)) (bO:Hid (inC r.kind 1 5=true)) (bM:(decide (r.kind≤3) != (p.topo==1))=false) (bA:Hid (B9 p.topo r=false)) (a6:r.kind=2∨r.kind=3∨r.kind=5):
  Calls Tryz.prog 138 #[.agg cs.toArray,.int .i64 (i:Int)] w (Ret fun v w'=>v=.int .i64 (BC nameOK p.topo (p.states.length:Int) (p.messages.length:Int) (p.values.length:Int) false r)∧Below w.heap.size w w'):=by
 obtain⟨A1,c1,A2,c2,A3,c3,A4,c4,A5,c5,A6,c6,A7,c7,cU,eJ,eK,cd,dR,dS,eL,eM,eN,eO,eP,-,-,-,-,-,-,h7,dG⟩:=h.cells
 have dI:=AP hr
 have dN:=bz.states
 have dO:=bz.messages
 have dP:=bz.values
 have eH:=bz.rules
 have dx:=hide h7
 obtain⟨w1,fg,bJ,cl,dJ⟩:=Ae w cs.toArray 27
 have bs:=bJ.trans ((Ap w1).mono bJ.size)
 have bF:Blk w1.drew w.heap.size 27 cs.toArray:=cl
 obtain⟨b,off,rc,hA,eq,hC,dH,dL⟩:=Du (h7.keep (w':=w1.drew) (B':=w.heap.size) (R':=AW w1.drew w.heap.size) (fun _ hp=>bs.cell hp) (fun _ _ h=>h.keep (fun _ hp=>bs.cell hp) (Nat.le_refl _)) (Nat.le_refl _)) hr
 obtain⟨w2,e8,bK,cm,dK⟩:=Ae w1.drew rc 99
 have cn:Blk w2 w1.heap.size 99 rc:=cm
 have ci:=Dv w1.drew 99 18 (by kernel_rfl) hC.size hC.one
 rw [e8] at ci
 have e5:∀c:Array Value,c.size=18→(storeCells ⟨w1.heap.size,0,none⟩ rc.toList 0).run Tryz.prog (w1.alloc (.cells c 99)).drew=.ok () w2:=ci
 clear ci
 have bV:=bF.below bK
 have br:=hide (bs.trans (bK.mono bs.size))
 have bX:=hide (show Cp w2 w.heap.size w1.heap.size cs.toArray rc p r from⟨h.keep (fun _ hp=>br.out.cell hp) br.out.size,hC.is.keep (fun _ hp=>bK.cell (by show _<w1.heap.size; have:=bJ.size; omega)) br.out.size,bV,cn,hT.below br.out⟩)
 have cV:=hC.is.cells
 simp only [Array.toArray_toList] at cV
 obtain⟨E1,f1,E2,f2,E3,f3,E4,f4,E5,f5,E6,f6,E7,f7,E8,f8,⟨cW,eQ,eR,f0,f9,fb,fc,dU,cf,fd,fe,eS,eT,eU,eV,eW,eX,eY,eZ⟩,⟨cr,ct,cu,cv,cw,cx,cy,cz⟩⟩:=cV
 have aU:∀{D:Type} {sz:Nat} {enc:D→Nat→Value} {A:Option Addr} {ds:List D},Sl w1.drew w.heap.size sz enc A ds→Sl w w.heap.size sz enc A ds:=fun h=>h.keep (fun _ hp=>(bs.cell hp).symm) (Nat.le_refl _)
 have dy:=hide (aU cr)
 have ep:=hide (aU ct)
 have dz:=hide (aU cu)
 have dA:=hide (aU cv)
 have dB:=hide (aU cw)
 have dC:=hide (aU cx)
 have dD:=hide (aU cy)
 have dE:=hide (aU cz)
 have eu:=bF.cell
 have dw:=hide bF
 have dv:=hide bV
 generalize dT:cs.toArray=pc at*
 have ce:=hide cU
 obtain⟨cX,dW,dX,dY,dZ,e0,e3,e4⟩:=hs
 have ch:=hide (show r.Small from⟨cX,dW,dX,dY,dZ,e0,e3,e4⟩)
 have ff:=hide hr
 have eC:=dG
 have dQ:=hide (show i<p.rules.length from dI)
 obtain⟨ns,ca⟩:∃n,n=p.states.length:=⟨_,rfl⟩
 obtain⟨nm,c8⟩:∃n,n=p.messages.length:=⟨_,rfl⟩
 obtain⟨nv,cb⟩:∃n,n=p.values.length:=⟨_,rfl⟩
 have eo:=hide (show ns=p.states.length∧nm=p.messages.length∧nv=p.values.length from⟨ca,c8,cb⟩)
 rw [←ca] at cd dN ⊢
 rw [←c8] at dR dO ⊢
 rw [←cb] at dS dP ⊢
 obtain⟨EV,bH⟩:∃e,Hid (BC nameOK p.topo (ns:Int) (nm:Int) (nv:Int) false r=e):=⟨_,rfl⟩
 rw [bH.out]
 subst hA
 clear dH hC dJ dK bJ bK bs cl cm cn bF bV cU dT hr h h7 ca c8 cb hT bz cr ct cu cv cw cx cy cz aU
 have bW:=hide (show KOK nameOK p.topo r from⟨cT.out,bO.out,bM,bA.out⟩)
 have bo:=hide (DF bA.out)
 have c0:∀wx,Below w.heap.size w wx→Calls Tryz.prog 97 #[.slice E3 r.ex.length f3,.int .i64 (ns:Int)] wx (Ret fun v w'=>v=.int .i64 (Aa r.ex (ns:Int))∧Below wx.heap.size wx w'):=fun wx hx=>B0 (by omega) (dz.out.keep (fun _ hp=>hx.cell hp) hx.size)
 have aY:∀wx,Below w.heap.size w wx→Calls Tryz.prog 97 #[.slice E4 r.fa.length f4,.int .i64 (ns:Int)] wx (Ret fun v w'=>v=.int .i64 (Aa r.fa (ns:Int))∧Below wx.heap.size wx w'):=fun wx hx=>B0 (by omega) (dA.out.keep (fun _ hp=>hx.cell hp) hx.size)
 have b8:∀wx,Below w.heap.size w wx→Calls Tryz.prog 97 #[.slice E5 r.send.length f5,.int .i64 (nm:Int)] wx (Ret fun v w'=>v=.int .i64 (Aa r.send (nm:Int))∧Below wx.heap.size wx w'):=fun wx hx=>B0 (by omega) (dB.out.keep (fun _ hp=>hx.cell hp) hx.size)
 have b0:∀wx,Below w.heap.size w wx→Calls Tryz.prog 97 #[.slice E6 r.left.length f6,.int .i64 (ns:Int)] wx (Ret fun v w'=>v=.int .i64 (Aa r.left (ns:Int))∧Below wx.heap.size wx w'):=fun wx hx=>B0 (by omega) (dC.out.keep (fun _ hp=>hx.cell hp) hx.size)
 have b7:∀wx,Below w.heap.size w wx→Calls Tryz.prog 97 #[.slice E7 r.right.length f7,.int .i64 (ns:Int)] wx (Ret fun v w'=>v=.int .i64 (Aa r.right (ns:Int))∧Below wx.heap.size wx w'):=fun wx hx=>B0 (by omega) (dD.out.keep (fun _ hp=>hx.cell hp) hx.size)
 have aS:∀wx,Below w.heap.size w wx→Calls Tryz.prog 97 #[.slice E8 r.parent.length f8,.int .i64 (ns:Int)] wx (Ret fun v w'=>v=.int .i64 (Aa r.parent (ns:Int))∧Below wx.heap.size wx w'):=fun wx hx=>B0 (by omega) (dE.out.keep (fun _ hp=>hx.cell hp) hx.size)
 have eD:decide (r.kind≤3)=(p.topo==1):=by cases h1:decide (r.kind≤3) <;> cases h2:(p.topo==1) <;> simp [h1,h2] at bM ⊢
 have eE:=hide bM
 clear bM
 go_enter Tryz.func138,Tryz.ntmps138
 go_wp2_with fail
 refine Reg.cI [0,1,0,7,15,0,32,96,0,287,1023] [0,1,2,3,4,5,6,7,8,9,10] ?_
 refine Reg.wI [0,1,2,3,4,5,6,7,8] [9,10] rfl fun Qf aR=>?_
 go_wp2_with fail
 first | refine aR _ _ ⟨rfl,?_⟩ | refine⟨rfl,?_⟩ | refine aR _ _ ⟨by simp [Reg.fineT,Reg.intOp,Region.wanted,yielded,Reg.intFine,Reg.isInt,Act.eval],?_⟩
 try clear aR
 refine Reg.aI 9 [10] [6] rfl fun Qf aR=>?_
 simp only [gT,gS,gZ]
 go_wp2_with fail
 first | refine aR _ _ ⟨?_,?_⟩ | refine⟨?_,?_⟩
 ·intro z hz q hq
  simp only [List.mem_cons,List.not_mem_nil,or_false] at hz
  subst hz
  injection hq with hq
  subst hq
  exact Reg.same_load1 rfl rfl (((dw.out.kept ((Ac.refl _ (fun _=>False)).alloc _) id).cell 2).trans cd) ((dv.out.cell 2).trans cd) Tryz.underlying22 rfl
 try clear aR
 refine Reg.wI [10] [] rfl fun Qf aR=>?_
 go_wp2_with fail
 first | refine aR _ _ ⟨rfl,?_⟩ | refine⟨rfl,?_⟩ | refine aR _ _ ⟨by simp [Reg.fineT,Reg.intOp,Region.wanted,yielded,Reg.intFine,Reg.isInt,Act.eval],?_⟩
 try clear aR
 first | refine Reg.restI_end ?_ | skip
 have cg:=hide cW
 clear cW e5 dL
 have ev:=bX.out.b2.cell
 have ez:=bX.out.b5.cell
 go_wp2_with fail
 go_wp2_with (go_at_call 96; refine Calls.ret (Cm r.name _ (by omega)) ?_; rintro v w3 ⟨rfl,bZ⟩; rw [cT.out]; have bY:=hide (bX.out.at bZ); have ew:=bY.out.b2.cell; have eA:=bY.out.b5.cell; have cB:=hide (br.out.trans (bZ.mono br.out.size)); clear bZ)
 go_loopw [7] (fun ii wr=>∃(k:Nat),ii=.int .i64 (k:Int)∧k≤i∧Hid (Below w3.heap.size w3 wr)∧Hid ((p.rules.take k).all (fun x=>!decide (x.name=r.name))=true)) (fun ii _=>i - (intOf ii).toNat)
 case atStart=>exact⟨0,rfl,Nat.zero_le _,Below.refl _ _,by show _=_; simp⟩
 case round=>
  obtain⟨k,rfl,hk,bL,hE⟩:=hrel
  have av:=hide (bY.out.at bL.out)
  have ey:=av.out.b2.cell
  have eB:=av.out.b5.cell
  have b9:=hide (cB.out.trans (bL.out.mono cB.out.size))
  by_cases dM:k<i
  ·obtain⟨x,hx⟩:∃x,p.rules[k]?=some x:=⟨_,List.getElem?_eq_getElem (by have:=dQ.out; omega)⟩
   obtain⟨b',fh,xc,ck,er,co,cK,-⟩:=Du (dx.out.keep (w':=wr) (B':=w.heap.size) (R':=AW wr w.heap.size) (fun _ hp=>b9.out.cell hp) (fun _ _ h=>h.keep (fun _ hp=>b9.out.cell hp) (Nat.le_refl _)) (Nat.le_refl _)) hx
   have e1:=Option.some.inj ck
   injection e1 with e1 e2 _
   subst e1 e2
   have bB:=co.is.cells
   simp only [Array.toArray_toList] at bB
   obtain⟨-,-,-,-,-,-,-,-,-,-,-,-,-,-,-,-,⟨-,bB,-⟩,-⟩:=bB
   have e9:=cK 0 _ bB
   simp only [Nat.add_zero] at e9
   have d0:=hide hx
   clear cK co hx bB ck
   by_cases bI:x.name=r.name
   ·exfalso
    have h1:=e7.out
    rw [List.any_eq_false] at h1
    refine h1 x (List.mem_of_getElem? (i:=k) ?_) (decide_eq_true bI)
    rw [List.getElem?_take,if_pos dM]
    exact d0.out
   ·have hq:(x.name.toList==r.name.toList)=false:=by rw [DM]; exact decide_eq_false bI
    have cc:=hide (Cq (p:=fun x:Az=>!decide (x.name=r.name)) d0.out hE.out (by simp [bI]))
    have dF:=hide (bL.out.trans ((Ap wr).mono bL.out.size))
    clear bI
    go_wp2_with fail
    refine Reg.cP [0,1,0,7,15,31,0,64,255] ?_
    go_wp2_with fail
    exact⟨⟨k+1,by go_num,by omega,dF.out,cc.out⟩,by simp [intOf]; omega⟩
  ·clear hE
   rcases a6 with a6 | a6 | a6
   ·have ax:=hide (bH.out.symm.trans (Sf bW.out a6))
    have q1:(r.kind==1)=false:=by rw [a6]; rfl
    have q2:(r.kind==2)=true:=by rw [a6]; rfl
    have q3:(r.kind==3)=false:=by rw [a6]; rfl
    have q4:(r.kind==4)=false:=by rw [a6]; rfl
    have q5:(r.kind==5)=false:=by rw [a6]; rfl
    have d5:(r.kind==2||r.kind==5)=true:=by rw [q2,q5]; rfl
    have aZ:=hide a6
    clear a6
    have a9:=hide (show r.guards=[]∧r.ex=[]∧r.fa=[]∧r.send=[] from bo.out.g (by rw [aZ.out]; decide))
    have a3:=hide (show r.left=[]∧r.right=[]∧r.parent=[] from bo.out.l (by rw [aZ.out]; decide))
    have cM:=Ah av.out.b2 ce.out
    have cO:=Ah av.out.b5 cg.out
    go_wp2_with (first
     | (go_at_call 98; refine(within2_any _ _ _ _).mono ?_; rintro e w' ⟨rfl,rfl⟩; rw [bO.out])
     | (go_at_call 192; refine Calls.ret (FD av.out.pr av.out.ru ch.out) ?_; rintro v w5 ⟨rfl,aN⟩; rw [bA.out]; have aK:=hide (av.out.at aN); have cD:=aK.out.b2.cell; have cG:=aK.out.b5.cell; have ag:=hide (b9.out.trans (aN.mono b9.out.size)); clear aN))
    obtain⟨ng,aP⟩:∃n,n=r.guards.length:=⟨_,rfl⟩
    have aQ:=hide (show ng=0 from by rw [aP,a9.out.1]; rfl)
    rw [←aP] at cf
    have cR:¬(2:Int)<(ng:Int):=by have:=aQ.out; omega
    have cS:ng≤60:=by have:=aQ.out; omega
    clear aP
    cases aA:inC r.fr 0 ((ns:Int) - 1)
    case false=>
     have aa:=hide aA
     clear aA
     refine(within2_any _ _ _ _).mono ?_; rintro e w' ⟨rfl,rfl⟩; rw [aa.out]; go_wp2_with fail
     go_ret
     exact⟨congrArg (Value.int .i64) (ax.out.trans (by rw [show inN r.fr (ns:Int)=false from aa.out]; rfl)).symm,ag.out⟩
    have aa:=hide aA
    clear aA
    refine(within2_any _ _ _ _).mono ?_; rintro e w' ⟨rfl,rfl⟩; rw [aa.out]; go_wp2_with fail
    cases aB:inC r.to 0 ((ns:Int) - 1)
    case false=>
     have ac:=hide aB
     clear aB
     refine(within2_any _ _ _ _).mono ?_; rintro e w' ⟨rfl,rfl⟩; rw [ac.out]; go_wp2_with fail
     go_ret
     exact⟨congrArg (Value.int .i64) (ax.out.trans (by rw [show inN r.fr (ns:Int)=true from aa.out,show inN r.to (ns:Int)=false from ac.out]; rfl)).symm,ag.out⟩
    have ac:=hide aB
    clear aB
    refine(within2_any _ _ _ _).mono ?_; rintro e w' ⟨rfl,rfl⟩; rw [ac.out]; go_wp2_with fail
    cases b4:inC r.pf 0 ((ns:Int) - 1)
    case false=>
     have aC:=hide b4
     clear b4
     refine(within2_any _ _ _ _).mono ?_; rintro e w' ⟨rfl,rfl⟩; rw [aC.out]; go_wp2_with fail
     go_ret
     exact⟨congrArg (Value.int .i64) (ax.out.trans (by rw [show inN r.fr (ns:Int)=true from aa.out,show inN r.to (ns:Int)=true from ac.out,show inN r.pf (ns:Int)=false from aC.out]; rfl)).symm,ag.out⟩
    have aC:=hide b4
    clear b4
    refine(within2_any _ _ _ _).mono ?_; rintro e w' ⟨rfl,rfl⟩; rw [aC.out]; go_wp2_with fail
    cases b6:inC r.pt 0 ((ns:Int) - 1)
    case false=>
     have aJ:=hide b6
     clear b6
     refine(within2_any _ _ _ _).mono ?_; rintro e w' ⟨rfl,rfl⟩; rw [aJ.out]; go_wp2_with fail
     go_ret
     exact⟨congrArg (Value.int .i64) (ax.out.trans (by rw [show inN r.fr (ns:Int)=true from aa.out,show inN r.to (ns:Int)=true from ac.out,show inN r.pf (ns:Int)=true from aC.out,show inN r.pt (ns:Int)=false from aJ.out]; rfl)).symm,ag.out⟩
    have aJ:=hide b6
    clear b6
    refine(within2_any _ _ _ _).mono ?_; rintro e w' ⟨rfl,rfl⟩; rw [aJ.out]; go_wp2_with fail
    have ay:=hide (show EV=Ad (!AO r.rd (nv:Int)||!AO r.wr (nv:Int)) 5 from ax.out.trans (by rw [show inN r.fr (ns:Int)=true from aa.out,show inN r.to (ns:Int)=true from ac.out,show inN r.pf (ns:Int)=true from aC.out,show inN r.pt (ns:Int)=true from aJ.out]; rfl))
    go_loopw [10] (fun ii wr=>∃(k:Nat),ii=.int .i64 (k:Int)∧k≤ng∧Hid (Below w5.heap.size w5 wr)) (fun ii _=>ng - (intOf ii).toNat)
    case atStart=>exact⟨0,rfl,Nat.zero_le _,Below.refl _ _⟩
    case round=>
     obtain⟨k,rfl,hk,ba⟩:=hrel
     have aL:=hide (aK.out.at ba.out)
     have cE:=aL.out.b2.cell
     have cH:=aL.out.b5.cell
     have aM:=hide (ag.out.trans (ba.out.mono ag.out.size))
     by_cases cQ:k<ng
     ·exfalso
      have:=aQ.out
      omega
     ·go_wp2_with fail
      have bu:=hide (show Aa r.ex (ns:Int)=0 from by rw [a9.out.2.1]; rfl)
      refine Calls.ret (c0 _ aM.out) ?_; rintro v w7 ⟨rfl,aO⟩; rw [bu.out]; have aw:=hide (aL.out.at aO); have cF:=aw.out.b2.cell; have cJ:=aw.out.b5.cell; have a5:=hide (aM.out.trans (aO.mono aM.out.size)); clear aO; go_wp2_with fail
      by_cases aE:r.rd= -1
      case pos=>
       have bS:(r.rd != -1)=false:=by simp [aE]
       have aD:=hide aE
       clear aE
       have V1:=hide (show AO r.rd (nv:Int)=true from by rw [aD.out]; exact DW (by omega))
       by_cases a7:r.wr= -1
       case pos=>
        have bn:(r.wr != -1)=false:=by simp [a7]
        have ak:=hide a7
        clear a7
        have V2:=hide (show AO r.wr (nv:Int)=true from by rw [ak.out]; exact DW (by omega))
        have ap:=hide (show Aa r.fa (ns:Int)=0 from by rw [a9.out.2.2.1]; rfl)
        refine Calls.ret (aY _ a5.out) ?_; rintro v w8 ⟨rfl,U⟩; rw [ap.out]; have G:=hide (aw.out.at U); have bb:=G.out.b2.cell; have bf:=G.out.b5.cell; have y:=hide (a5.out.trans (U.mono a5.out.size)); clear U; go_wp2_with fail
        have az:=hide (show EV=0 from ay.out.trans (by rw [V1.out,V2.out]; rfl))
        have au:=hide (show Aa r.send (nm:Int)=0 from by rw [a9.out.2.2.2]; rfl)
        refine Calls.ret (b8 _ y.out) ?_; rintro v w9 ⟨rfl,V⟩; rw [au.out]; have I:=hide (G.out.at V); have bc:=I.out.b2.cell; have bg:=I.out.b5.cell; have M:=hide (y.out.trans (V.mono y.out.size)); clear V; go_wp2_with fail
        have aq:=hide (show Aa r.left (ns:Int)=0 from by rw [a3.out.1]; rfl)
        refine Calls.ret (b0 _ M.out) ?_; rintro v wa ⟨rfl,W⟩; rw [aq.out]; have J:=hide (I.out.at W); have bd:=J.out.b2.cell; have bh:=J.out.b5.cell; have O:=hide (M.out.trans (W.mono M.out.size)); clear W; go_wp2_with fail
        have ar:=hide (show Aa r.right (ns:Int)=0 from by rw [a3.out.2.1]; rfl)
        refine Calls.ret (b7 _ O.out) ?_; rintro v wb ⟨rfl,Z⟩; rw [ar.out]; have F:=hide (J.out.at Z); have be:=F.out.b2.cell; have bi:=F.out.b5.cell; have E:=hide (O.out.trans (Z.mono O.out.size)); clear Z; go_wp2_with fail
        have al:=hide (show Aa r.parent (ns:Int)=0 from by rw [a3.out.2.2]; rfl)
        refine Calls.ret (aS _ E.out) ?_; rintro v wc ⟨rfl,C⟩; rw [al.out]; have a4:=hide (F.out.at C); have aV:=a4.out.b2.cell; have aW:=a4.out.b5.cell; have ah:=hide (E.out.trans (C.mono E.out.size)); clear C; go_wp2_with fail
        go_ret
        exact⟨congrArg (Value.int .i64) (az.out).symm,ah.out⟩
       have bn:(r.wr != -1)=true:=by simp [a7]
       have ak:=hide a7
       clear a7
       have ap:=hide (show Aa r.fa (ns:Int)=0 from by rw [a9.out.2.2.1]; rfl)
       refine Calls.ret (aY _ a5.out) ?_; rintro v w8 ⟨rfl,U⟩; rw [ap.out]; have G:=hide (aw.out.at U); have bb:=G.out.b2.cell; have bf:=G.out.b5.cell; have y:=hide (a5.out.trans (U.mono a5.out.size)); clear U; go_wp2_with fail
       cases an:inC r.wr 0 ((nv:Int) - 1)
       case false=>
        have ae:=hide an
        clear an
        have V2:=hide (show AO r.wr (nv:Int)=false from(Cd ak.out).trans ae.out)
        refine(within2_any _ _ _ _).mono ?_; rintro e w' ⟨rfl,rfl⟩; rw [ae.out]; go_wp2_with fail
        go_ret
        exact⟨congrArg (Value.int .i64) (ay.out.trans (by rw [V1.out,V2.out]; rfl)).symm,y.out⟩
       have ae:=hide an
       clear an
       have V2:=hide (show AO r.wr (nv:Int)=true from(Cd ak.out).trans ae.out)
       refine(within2_any _ _ _ _).mono ?_; rintro e w' ⟨rfl,rfl⟩; rw [ae.out]; go_wp2_with fail
       have az:=hide (show EV=0 from ay.out.trans (by rw [V1.out,V2.out]; rfl))
       have au:=hide (show Aa r.send (nm:Int)=0 from by rw [a9.out.2.2.2]; rfl)
       refine Calls.ret (b8 _ y.out) ?_; rintro v w9 ⟨rfl,V⟩; rw [au.out]; have I:=hide (G.out.at V); have bc:=I.out.b2.cell; have bg:=I.out.b5.cell; have M:=hide (y.out.trans (V.mono y.out.size)); clear V; go_wp2_with fail
       have aq:=hide (show Aa r.left (ns:Int)=0 from by rw [a3.out.1]; rfl)
       refine Calls.ret (b0 _ M.out) ?_; rintro v wa ⟨rfl,W⟩; rw [aq.out]; have J:=hide (I.out.at W); have bd:=J.out.b2.cell; have bh:=J.out.b5.cell; have O:=hide (M.out.trans (W.mono M.out.size)); clear W; go_wp2_with fail
       have ar:=hide (show Aa r.right (ns:Int)=0 from by rw [a3.out.2.1]; rfl)
       refine Calls.ret (b7 _ O.out) ?_; rintro v wb ⟨rfl,Z⟩; rw [ar.out]; have F:=hide (J.out.at Z); have be:=F.out.b2.cell; have bi:=F.out.b5.cell; have E:=hide (O.out.trans (Z.mono O.out.size)); clear Z; go_wp2_with fail
       have al:=hide (show Aa r.parent (ns:Int)=0 from by rw [a3.out.2.2]; rfl)
       refine Calls.ret (aS _ E.out) ?_; rintro v wc ⟨rfl,C⟩; rw [al.out]; have a4:=hide (F.out.at C); have aV:=a4.out.b2.cell; have aW:=a4.out.b5.cell; have ah:=hide (E.out.trans (C.mono E.out.size)); clear C; go_wp2_with fail
       go_ret
       exact⟨congrArg (Value.int .i64) (az.out).symm,ah.out⟩
      have bS:(r.rd != -1)=true:=by simp [aE]
      have aD:=hide aE
      clear aE
      by_cases a7:r.wr= -1
      case pos=>
       have bn:(r.wr != -1)=false:=by simp [a7]
       have ak:=hide a7
       clear a7
       have V2:=hide (show AO r.wr (nv:Int)=true from by rw [ak.out]; exact DW (by omega))
       have ap:=hide (show Aa r.fa (ns:Int)=0 from by rw [a9.out.2.2.1]; rfl)
       refine Calls.ret (aY _ a5.out) ?_; rintro v w8 ⟨rfl,U⟩; rw [ap.out]; have G:=hide (aw.out.at U); have bb:=G.out.b2.cell; have bf:=G.out.b5.cell; have y:=hide (a5.out.trans (U.mono a5.out.size)); clear U; go_wp2_with fail
       cases am:inC r.rd 0 ((nv:Int) - 1)
       case false=>
        have ad:=hide am
        clear am
        have V1:=hide (show AO r.rd (nv:Int)=false from(Cd aD.out).trans ad.out)
        refine(within2_any _ _ _ _).mono ?_; rintro e w' ⟨rfl,rfl⟩; rw [ad.out]; go_wp2_with fail
        go_ret
        exact⟨congrArg (Value.int .i64) (ay.out.trans (by rw [V1.out]; rfl)).symm,y.out⟩
       have ad:=hide am
       clear am
       have V1:=hide (show AO r.rd (nv:Int)=true from(Cd aD.out).trans ad.out)
       refine(within2_any _ _ _ _).mono ?_; rintro e w' ⟨rfl,rfl⟩; rw [ad.out]; go_wp2_with fail
       have az:=hide (show EV=0 from ay.out.trans (by rw [V1.out,V2.out]; rfl))
       have au:=hide (show Aa r.send (nm:Int)=0 from by rw [a9.out.2.2.2]; rfl)
       refine Calls.ret (b8 _ y.out) ?_; rintro v w9 ⟨rfl,V⟩; rw [au.out]; have I:=hide (G.out.at V); have bc:=I.out.b2.cell; have bg:=I.out.b5.cell; have M:=hide (y.out.trans (V.mono y.out.size)); clear V; go_wp2_with fail
       have aq:=hide (show Aa r.left (ns:Int)=0 from by rw [a3.out.1]; rfl)
       refine Calls.ret (b0 _ M.out) ?_; rintro v wa ⟨rfl,W⟩; rw [aq.out]; have J:=hide (I.out.at W); have bd:=J.out.b2.cell; have bh:=J.out.b5.cell; have O:=hide (M.out.trans (W.mono M.out.size)); clear W; go_wp2_with fail
       have ar:=hide (show Aa r.right (ns:Int)=0 from by rw [a3.out.2.1]; rfl)
       refine Calls.ret (b7 _ O.out) ?_; rintro v wb ⟨rfl,Z⟩; rw [ar.out]; have F:=hide (J.out.at Z); have be:=F.out.b2.cell; have bi:=F.out.b5.cell; have E:=hide (O.out.trans (Z.mono O.out.size)); clear Z; go_wp2_with fail
       have al:=hide (show Aa r.parent (ns:Int)=0 from by rw [a3.out.2.2]; rfl)
       refine Calls.ret (aS _ E.out) ?_; rintro v wc ⟨rfl,C⟩; rw [al.out]; have a4:=hide (F.out.at C); have aV:=a4.out.b2.cell; have aW:=a4.out.b5.cell; have ah:=hide (E.out.trans (C.mono E.out.size)); clear C; go_wp2_with fail
       go_ret
       exact⟨congrArg (Value.int .i64) (az.out).symm,ah.out⟩
      have bn:(r.wr != -1)=true:=by simp [a7]
      have ak:=hide a7
      clear a7
      have ap:=hide (show Aa r.fa (ns:Int)=0 from by rw [a9.out.2.2.1]; rfl)
      refine Calls.ret (aY _ a5.out) ?_; rintro v w8 ⟨rfl,U⟩; rw [ap.out]; have G:=hide (aw.out.at U); have bb:=G.out.b2.cell; have bf:=G.out.b5.cell; have y:=hide (a5.out.trans (U.mono a5.out.size)); clear U; go_wp2_with fail
      cases am:inC r.rd 0 ((nv:Int) - 1)
      case false=>
       have ad:=hide am
       clear am
       have V1:=hide (show AO r.rd (nv:Int)=false from(Cd aD.out).trans ad.out)
       refine(within2_any _ _ _ _).mono ?_; rintro e w' ⟨rfl,rfl⟩; rw [ad.out]; go_wp2_with fail
       go_ret
       exact⟨congrArg (Value.int .i64) (ay.out.trans (by rw [V1.out]; rfl)).symm,y.out⟩
      have ad:=hide am
      clear am
      have V1:=hide (show AO r.rd (nv:Int)=true from(Cd aD.out).trans ad.out)
      refine(within2_any _ _ _ _).mono ?_; rintro e w' ⟨rfl,rfl⟩; rw [ad.out]; go_wp2_with fail
      cases an:inC r.wr 0 ((nv:Int) - 1)
      case false=>
       have ae:=hide an
       clear an
       have V2:=hide (show AO r.wr (nv:Int)=false from(Cd ak.out).trans ae.out)
       refine(within2_any _ _ _ _).mono ?_; rintro e w' ⟨rfl,rfl⟩; rw [ae.out]; go_wp2_with fail
       go_ret
       exact⟨congrArg (Value.int .i64) (ay.out.trans (by rw [V1.out,V2.out]; rfl)).symm,y.out⟩
      have ae:=hide an
      clear an
      have V2:=hide (show AO r.wr (nv:Int)=true from(Cd ak.out).trans ae.out)
      refine(within2_any _ _ _ _).mono ?_; rintro e w' ⟨rfl,rfl⟩; rw [ae.out]; go_wp2_with fail
      have az:=hide (show EV=0 from ay.out.trans (by rw [V1.out,V2.out]; rfl))
      have au:=hide (show Aa r.send (nm:Int)=0 from by rw [a9.out.2.2.2]; rfl)
      refine Calls.ret (b8 _ y.out) ?_; rintro v w9 ⟨rfl,V⟩; rw [au.out]; have I:=hide (G.out.at V); have bc:=I.out.b2.cell; have bg:=I.out.b5.cell; have M:=hide (y.out.trans (V.mono y.out.size)); clear V; go_wp2_with fail
      have aq:=hide (show Aa r.left (ns:Int)=0 from by rw [a3.out.1]; rfl)
      refine Calls.ret (b0 _ M.out) ?_; rintro v wa ⟨rfl,W⟩; rw [aq.out]; have J:=hide (I.out.at W); have bd:=J.out.b2.cell; have bh:=J.out.b5.cell; have O:=hide (M.out.trans (W.mono M.out.size)); clear W; go_wp2_with fail
      have ar:=hide (show Aa r.right (ns:Int)=0 from by rw [a3.out.2.1]; rfl)
      refine Calls.ret (b7 _ O.out) ?_; rintro v wb ⟨rfl,Z⟩; rw [ar.out]; have F:=hide (J.out.at Z); have be:=F.out.b2.cell; have bi:=F.out.b5.cell; have E:=hide (O.out.trans (Z.mono O.out.size)); clear Z; go_wp2_with fail
      have al:=hide (show Aa r.parent (ns:Int)=0 from by rw [a3.out.2.2]; rfl)
      refine Calls.ret (aS _ E.out) ?_; rintro v wc ⟨rfl,C⟩; rw [al.out]; have a4:=hide (F.out.at C); have aV:=a4.out.b2.cell; have aW:=a4.out.b5.cell; have ah:=hide (E.out.trans (C.mono E.out.size)); clear C; go_wp2_with fail
      go_ret
      exact⟨congrArg (Value.int .i64) (az.out).symm,ah.out⟩
   ·have ax:=hide (bH.out.symm.trans (Sg bW.out a6))
    have q1:(r.kind==1)=false:=by rw [a6]; rfl
    have q2:(r.kind==2)=false:=by rw [a6]; rfl
    have q3:(r.kind==3)=true:=by rw [a6]; rfl
    have q4:(r.kind==4)=false:=by rw [a6]; rfl
    have q5:(r.kind==5)=false:=by rw [a6]; rfl
    have d5:(r.kind==2||r.kind==5)=false:=by rw [q2,q5]; rfl
    have aZ:=hide a6
    clear a6
    have a9:=hide (show r.guards=[]∧r.ex=[]∧r.fa=[]∧r.send=[] from bo.out.g (by rw [aZ.out]; decide))
    have a3:=hide (show r.left=[]∧r.right=[]∧r.parent=[] from bo.out.l (by rw [aZ.out]; decide))
    have cM:=Ah av.out.b2 ce.out
    have cO:=Ah av.out.b5 cg.out
    go_wp2_with (first
     | (go_at_call 98; refine(within2_any _ _ _ _).mono ?_; rintro e w' ⟨rfl,rfl⟩; rw [bO.out])
     | (go_at_call 192; refine Calls.ret (FD av.out.pr av.out.ru ch.out) ?_; rintro v w5 ⟨rfl,aN⟩; rw [bA.out]; have aK:=hide (av.out.at aN); have cD:=aK.out.b2.cell; have cG:=aK.out.b5.cell; have ag:=hide (b9.out.trans (aN.mono b9.out.size)); clear aN))
    obtain⟨ng,aP⟩:∃n,n=r.guards.length:=⟨_,rfl⟩
    have aQ:=hide (show ng=0 from by rw [aP,a9.out.1]; rfl)
    rw [←aP] at cf
    have cR:¬(2:Int)<(ng:Int):=by have:=aQ.out; omega
    have cS:ng≤60:=by have:=aQ.out; omega
    clear aP
    obtain⟨nq,c9⟩:∃n,n=r.resp.length:=⟨_,rfl⟩
    rw [←c9] at dU cX
    have bP:=hide c9
    clear c9
    cases aA:inC r.fr 0 ((ns:Int) - 1)
    case false=>
     have aa:=hide aA
     clear aA
     refine(within2_any _ _ _ _).mono ?_; rintro e w' ⟨rfl,rfl⟩; rw [aa.out]; go_wp2_with fail
     go_ret
     exact⟨congrArg (Value.int .i64) (ax.out.trans (by rw [show inN r.fr (ns:Int)=false from aa.out]; rfl)).symm,ag.out⟩
    have aa:=hide aA
    clear aA
    refine(within2_any _ _ _ _).mono ?_; rintro e w' ⟨rfl,rfl⟩; rw [aa.out]; go_wp2_with fail
    cases aB:inC r.to 0 ((ns:Int) - 1)
    case false=>
     have ac:=hide aB
     clear aB
     refine(within2_any _ _ _ _).mono ?_; rintro e w' ⟨rfl,rfl⟩; rw [ac.out]; go_wp2_with fail
     go_ret
     exact⟨congrArg (Value.int .i64) (ax.out.trans (by rw [show inN r.fr (ns:Int)=true from aa.out,show inN r.to (ns:Int)=false from ac.out]; rfl)).symm,ag.out⟩
    have ac:=hide aB
    clear aB
    by_cases bx:nq=ns
    case neg=>
     have Q0:((nq:Int) != (ns:Int))=true:=by
      have:((nq:Int)==(ns:Int))=false:=by
       simp
       omega
      simp [bne,this]
     have HL:=hide bx
     clear bx
     refine(within2_any _ _ _ _).mono ?_; rintro e w' ⟨rfl,rfl⟩; rw [ac.out]; go_wp2_with fail
     go_ret
     exact⟨congrArg (Value.int .i64) (ax.out.trans (by rw [show inN r.fr (ns:Int)=true from aa.out,show inN r.to (ns:Int)=true from ac.out,show C8 (ns:Int) r.resp=1 from if_pos (by have h1:=HL.out; have h2:=bP.out; omega)]; rfl)).symm,ag.out⟩
    have Q0:((nq:Int) != (ns:Int))=false:=by simp [bx]
    have HL:=hide bx
    clear bx
    refine(within2_any _ _ _ _).mono ?_; rintro e w' ⟨rfl,rfl⟩; rw [ac.out]; go_wp2_with fail
    have ay:=hide (show EV=orE (C8 (ns:Int) r.resp) (Ad (!AO r.rd (nv:Int)||!AO r.wr (nv:Int)) 5) from ax.out.trans (by rw [show inN r.fr (ns:Int)=true from aa.out,show inN r.to (ns:Int)=true from ac.out]; rfl))
    have cq:=hide (show C8 (ns:Int) r.resp=Aj (fun x=>Ad (!inE x (ns:Int)) 5) r.resp from if_neg (by have h1:=HL.out; have h2:=bP.out; omega))
    go_loopw [9] (fun ii wr=>∃(k:Nat),ii=.int .i64 (k:Int)∧k≤ns∧w5=wr∧Hid (Aj (fun x=>Ad (!inE x (ns:Int)) 5) (r.resp.take k)=0)) (fun ii _=>ns - (intOf ii).toNat)
    case atStart=>exact⟨0,rfl,Nat.zero_le _,(by first | rfl | trivial),by show _=_; rfl⟩
    case round=>
     obtain⟨k3,rfl,eF,rfl,bG⟩:=hrel
     by_cases eG:k3<ns
     ·obtain⟨b3,fi,x,du,et,cY,cL⟩:=(dy.out.keep (w':=w5) (B':=w.heap.size) (fun _ hp=>ag.out.cell hp) (Nat.le_refl _)).at (k:=k3) (by have h1:=HL.out; have h2:=bP.out; omega)
      have d3:=cL 0 (by omega)
      simp only [Nat.add_zero,Nat.mul_one,Ai] at d3
      have cZ:=hide cY
      have ef:k3<nq:=by have h1:=HL.out; omega
      subst du
      clear cL cY
      go_wp2_with fail
      cases bN:inC x 0 ((ns:Int) - 1)
      ·have Fin:=hide bN
       clear bN
       have e6:=hide (show C8 (ns:Int) r.resp=5 from by
        have h1:Ad (!inE x (ns:Int)) 5=5:=by rw [C5,Fin.out]; rfl
        rw [cq.out,Ct (fun x=>Ad (!inE x (ns:Int)) 5) cZ.out bG.out (by rw [h1]; decide),h1])
       refine(within2_any _ _ _ _).mono ?_; rintro e w' ⟨rfl,rfl⟩; rw [Fin.out]; go_wp2_with fail
       go_ret
       exact⟨congrArg (Value.int .i64) (ay.out.trans (by rw [e6.out]; rfl)).symm,ag.out⟩
      ·have Fin:=hide bN
       clear bN
       have cc:=hide (show Aj (fun x=>Ad (!inE x (ns:Int)) 5) (r.resp.take (k3+1))=0 from by
        rw [CD (fun x=>Ad (!inE x (ns:Int)) 5) cZ.out bG.out,C5,Fin.out]
        rfl)
       refine(within2_any _ _ _ _).mono ?_; rintro e w' ⟨rfl,rfl⟩; rw [Fin.out]; go_wp2_with fail
       exact⟨⟨k3+1,by go_num,by omega,(by first | rfl | trivial),cc.out⟩,by simp [intOf]; omega⟩
     ·have az:=hide (show EV=Ad (!AO r.rd (nv:Int)||!AO r.wr (nv:Int)) 5 from ay.out.trans (by
       have h1:=bG.out
       rw [List.take_of_length_le (by have h1:=HL.out; have h2:=bP.out; omega)] at h1
       rw [cq.out,h1]
       rfl))
      clear bG
      go_wp2_with fail
      go_loopw [10] (fun ii wr=>∃(k:Nat),ii=.int .i64 (k:Int)∧k≤ng∧Hid (Below w5.heap.size w5 wr)) (fun ii _=>ng - (intOf ii).toNat)
      case atStart=>exact⟨0,rfl,Nat.zero_le _,Below.refl _ _⟩
      case round=>
       obtain⟨k,rfl,hk,ba⟩:=hrel
       have aL:=hide (aK.out.at ba.out)
       have cE:=aL.out.b2.cell
       have cH:=aL.out.b5.cell
       have aM:=hide (ag.out.trans (ba.out.mono ag.out.size))
       by_cases cQ:k<ng
       ·exfalso
        have:=aQ.out
        omega
       ·go_wp2_with fail
        have bu:=hide (show Aa r.ex (ns:Int)=0 from by rw [a9.out.2.1]; rfl)
        refine Calls.ret (c0 _ aM.out) ?_; rintro v w7 ⟨rfl,aO⟩; rw [bu.out]; have aw:=hide (aL.out.at aO); have cF:=aw.out.b2.cell; have cJ:=aw.out.b5.cell; have a5:=hide (aM.out.trans (aO.mono aM.out.size)); clear aO; go_wp2_with fail
        by_cases aE:r.rd= -1
        case pos=>
         have bS:(r.rd != -1)=false:=by simp [aE]
         have aD:=hide aE
         clear aE
         have V1:=hide (show AO r.rd (nv:Int)=true from by rw [aD.out]; exact DW (by omega))
         by_cases a7:r.wr= -1
         case pos=>
          have bn:(r.wr != -1)=false:=by simp [a7]
          have ak:=hide a7
          clear a7
          have V2:=hide (show AO r.wr (nv:Int)=true from by rw [ak.out]; exact DW (by omega))
          have ap:=hide (show Aa r.fa (ns:Int)=0 from by rw [a9.out.2.2.1]; rfl)
          refine Calls.ret (aY _ a5.out) ?_; rintro v w8 ⟨rfl,U⟩; rw [ap.out]; have G:=hide (aw.out.at U); have bb:=G.out.b2.cell; have bf:=G.out.b5.cell; have y:=hide (a5.out.trans (U.mono a5.out.size)); clear U; go_wp2_with fail
          have bp:=hide (show EV=0 from az.out.trans (by rw [V1.out,V2.out]; rfl))
          have au:=hide (show Aa r.send (nm:Int)=0 from by rw [a9.out.2.2.2]; rfl)
          refine Calls.ret (b8 _ y.out) ?_; rintro v w9 ⟨rfl,V⟩; rw [au.out]; have I:=hide (G.out.at V); have bc:=I.out.b2.cell; have bg:=I.out.b5.cell; have M:=hide (y.out.trans (V.mono y.out.size)); clear V; go_wp2_with fail
          have aq:=hide (show Aa r.left (ns:Int)=0 from by rw [a3.out.1]; rfl)
          refine Calls.ret (b0 _ M.out) ?_; rintro v wa ⟨rfl,W⟩; rw [aq.out]; have J:=hide (I.out.at W); have bd:=J.out.b2.cell; have bh:=J.out.b5.cell; have O:=hide (M.out.trans (W.mono M.out.size)); clear W; go_wp2_with fail
          have ar:=hide (show Aa r.right (ns:Int)=0 from by rw [a3.out.2.1]; rfl)
          refine Calls.ret (b7 _ O.out) ?_; rintro v wb ⟨rfl,Z⟩; rw [ar.out]; have F:=hide (J.out.at Z); have be:=F.out.b2.cell; have bi:=F.out.b5.cell; have E:=hide (O.out.trans (Z.mono O.out.size)); clear Z; go_wp2_with fail
          have al:=hide (show Aa r.parent (ns:Int)=0 from by rw [a3.out.2.2]; rfl)
          refine Calls.ret (aS _ E.out) ?_; rintro v wc ⟨rfl,C⟩; rw [al.out]; have a4:=hide (F.out.at C); have aV:=a4.out.b2.cell; have aW:=a4.out.b5.cell; have ah:=hide (E.out.trans (C.mono E.out.size)); clear C; go_wp2_with fail
          go_ret
          exact⟨congrArg (Value.int .i64) (bp.out).symm,ah.out⟩
         have bn:(r.wr != -1)=true:=by simp [a7]
         have ak:=hide a7
         clear a7
         have ap:=hide (show Aa r.fa (ns:Int)=0 from by rw [a9.out.2.2.1]; rfl)
         refine Calls.ret (aY _ a5.out) ?_; rintro v w8 ⟨rfl,U⟩; rw [ap.out]; have G:=hide (aw.out.at U); have bb:=G.out.b2.cell; have bf:=G.out.b5.cell; have y:=hide (a5.out.trans (U.mono a5.out.size)); clear U; go_wp2_with fail
         cases an:inC r.wr 0 ((nv:Int) - 1)
         case false=>
          have ae:=hide an
          clear an
          have V2:=hide (show AO r.wr (nv:Int)=false from(Cd ak.out).trans ae.out)
          refine(within2_any _ _ _ _).mono ?_; rintro e w' ⟨rfl,rfl⟩; rw [ae.out]; go_wp2_with fail
          go_ret
          exact⟨congrArg (Value.int .i64) (az.out.trans (by rw [V1.out,V2.out]; rfl)).symm,y.out⟩
         have ae:=hide an
         clear an
         have V2:=hide (show AO r.wr (nv:Int)=true from(Cd ak.out).trans ae.out)
         refine(within2_any _ _ _ _).mono ?_; rintro e w' ⟨rfl,rfl⟩; rw [ae.out]; go_wp2_with fail
         have bp:=hide (show EV=0 from az.out.trans (by rw [V1.out,V2.out]; rfl))
         have au:=hide (show Aa r.send (nm:Int)=0 from by rw [a9.out.2.2.2]; rfl)
         refine Calls.ret (b8 _ y.out) ?_; rintro v w9 ⟨rfl,V⟩; rw [au.out]; have I:=hide (G.out.at V); have bc:=I.out.b2.cell; have bg:=I.out.b5.cell; have M:=hide (y.out.trans (V.mono y.out.size)); clear V; go_wp2_with fail
         have aq:=hide (show Aa r.left (ns:Int)=0 from by rw [a3.out.1]; rfl)
         refine Calls.ret (b0 _ M.out) ?_; rintro v wa ⟨rfl,W⟩; rw [aq.out]; have J:=hide (I.out.at W); have bd:=J.out.b2.cell; have bh:=J.out.b5.cell; have O:=hide (M.out.trans (W.mono M.out.size)); clear W; go_wp2_with fail
         have ar:=hide (show Aa r.right (ns:Int)=0 from by rw [a3.out.2.1]; rfl)
         refine Calls.ret (b7 _ O.out) ?_; rintro v wb ⟨rfl,Z⟩; rw [ar.out]; have F:=hide (J.out.at Z); have be:=F.out.b2.cell; have bi:=F.out.b5.cell; have E:=hide (O.out.trans (Z.mono O.out.size)); clear Z; go_wp2_with fail
         have al:=hide (show Aa r.parent (ns:Int)=0 from by rw [a3.out.2.2]; rfl)
         refine Calls.ret (aS _ E.out) ?_; rintro v wc ⟨rfl,C⟩; rw [al.out]; have a4:=hide (F.out.at C); have aV:=a4.out.b2.cell; have aW:=a4.out.b5.cell; have ah:=hide (E.out.trans (C.mono E.out.size)); clear C; go_wp2_with fail
         go_ret
         exact⟨congrArg (Value.int .i64) (bp.out).symm,ah.out⟩
        have bS:(r.rd != -1)=true:=by simp [aE]
        have aD:=hide aE
        clear aE
        by_cases a7:r.wr= -1
        case pos=>
         have bn:(r.wr != -1)=false:=by simp [a7]
         have ak:=hide a7
         clear a7
         have V2:=hide (show AO r.wr (nv:Int)=true from by rw [ak.out]; exact DW (by omega))
         have ap:=hide (show Aa r.fa (ns:Int)=0 from by rw [a9.out.2.2.1]; rfl)
         refine Calls.ret (aY _ a5.out) ?_; rintro v w8 ⟨rfl,U⟩; rw [ap.out]; have G:=hide (aw.out.at U); have bb:=G.out.b2.cell; have bf:=G.out.b5.cell; have y:=hide (a5.out.trans (U.mono a5.out.size)); clear U; go_wp2_with fail
         cases am:inC r.rd 0 ((nv:Int) - 1)
         case false=>
          have ad:=hide am
          clear am
          have V1:=hide (show AO r.rd (nv:Int)=false from(Cd aD.out).trans ad.out)
          refine(within2_any _ _ _ _).mono ?_; rintro e w' ⟨rfl,rfl⟩; rw [ad.out]; go_wp2_with fail
          go_ret
          exact⟨congrArg (Value.int .i64) (az.out.trans (by rw [V1.out]; rfl)).symm,y.out⟩
         have ad:=hide am
         clear am
         have V1:=hide (show AO r.rd (nv:Int)=true from(Cd aD.out).trans ad.out)
         refine(within2_any _ _ _ _).mono ?_; rintro e w' ⟨rfl,rfl⟩; rw [ad.out]; go_wp2_with fail
         have bp:=hide (show EV=0 from az.out.trans (by rw [V1.out,V2.out]; rfl))
         have au:=hide (show Aa r.send (nm:Int)=0 from by rw [a9.out.2.2.2]; rfl)
         refine Calls.ret (b8 _ y.out) ?_; rintro v w9 ⟨rfl,V⟩; rw [au.out]; have I:=hide (G.out.at V); have bc:=I.out.b2.cell; have bg:=I.out.b5.cell; have M:=hide (y.out.trans (V.mono y.out.size)); clear V; go_wp2_with fail
         have aq:=hide (show Aa r.left (ns:Int)=0 from by rw [a3.out.1]; rfl)
         refine Calls.ret (b0 _ M.out) ?_; rintro v wa ⟨rfl,W⟩; rw [aq.out]; have J:=hide (I.out.at W); have bd:=J.out.b2.cell; have bh:=J.out.b5.cell; have O:=hide (M.out.trans (W.mono M.out.size)); clear W; go_wp2_with fail
         have ar:=hide (show Aa r.right (ns:Int)=0 from by rw [a3.out.2.1]; rfl)
         refine Calls.ret (b7 _ O.out) ?_; rintro v wb ⟨rfl,Z⟩; rw [ar.out]; have F:=hide (J.out.at Z); have be:=F.out.b2.cell; have bi:=F.out.b5.cell; have E:=hide (O.out.trans (Z.mono O.out.size)); clear Z; go_wp2_with fail
         have al:=hide (show Aa r.parent (ns:Int)=0 from by rw [a3.out.2.2]; rfl)
         refine Calls.ret (aS _ E.out) ?_; rintro v wc ⟨rfl,C⟩; rw [al.out]; have a4:=hide (F.out.at C); have aV:=a4.out.b2.cell; have aW:=a4.out.b5.cell; have ah:=hide (E.out.trans (C.mono E.out.size)); clear C; go_wp2_with fail
         go_ret
         exact⟨congrArg (Value.int .i64) (bp.out).symm,ah.out⟩
        have bn:(r.wr != -1)=true:=by simp [a7]
        have ak:=hide a7
        clear a7
        have ap:=hide (show Aa r.fa (ns:Int)=0 from by rw [a9.out.2.2.1]; rfl)
        refine Calls.ret (aY _ a5.out) ?_; rintro v w8 ⟨rfl,U⟩; rw [ap.out]; have G:=hide (aw.out.at U); have bb:=G.out.b2.cell; have bf:=G.out.b5.cell; have y:=hide (a5.out.trans (U.mono a5.out.size)); clear U; go_wp2_with fail
        cases am:inC r.rd 0 ((nv:Int) - 1)
        case false=>
         have ad:=hide am
         clear am
         have V1:=hide (show AO r.rd (nv:Int)=false from(Cd aD.out).trans ad.out)
         refine(within2_any _ _ _ _).mono ?_; rintro e w' ⟨rfl,rfl⟩; rw [ad.out]; go_wp2_with fail
         go_ret
         exact⟨congrArg (Value.int .i64) (az.out.trans (by rw [V1.out]; rfl)).symm,y.out⟩
        have ad:=hide am
        clear am
        have V1:=hide (show AO r.rd (nv:Int)=true from(Cd aD.out).trans ad.out)
        refine(within2_any _ _ _ _).mono ?_; rintro e w' ⟨rfl,rfl⟩; rw [ad.out]; go_wp2_with fail
        cases an:inC r.wr 0 ((nv:Int) - 1)
        case false=>
         have ae:=hide an
         clear an
         have V2:=hide (show AO r.wr (nv:Int)=false from(Cd ak.out).trans ae.out)
         refine(within2_any _ _ _ _).mono ?_; rintro e w' ⟨rfl,rfl⟩; rw [ae.out]; go_wp2_with fail
         go_ret
         exact⟨congrArg (Value.int .i64) (az.out.trans (by rw [V1.out,V2.out]; rfl)).symm,y.out⟩
        have ae:=hide an
        clear an
        have V2:=hide (show AO r.wr (nv:Int)=true from(Cd ak.out).trans ae.out)
        refine(within2_any _ _ _ _).mono ?_; rintro e w' ⟨rfl,rfl⟩; rw [ae.out]; go_wp2_with fail
        have bp:=hide (show EV=0 from az.out.trans (by rw [V1.out,V2.out]; rfl))
        have au:=hide (show Aa r.send (nm:Int)=0 from by rw [a9.out.2.2.2]; rfl)
        refine Calls.ret (b8 _ y.out) ?_; rintro v w9 ⟨rfl,V⟩; rw [au.out]; have I:=hide (G.out.at V); have bc:=I.out.b2.cell; have bg:=I.out.b5.cell; have M:=hide (y.out.trans (V.mono y.out.size)); clear V; go_wp2_with fail
        have aq:=hide (show Aa r.left (ns:Int)=0 from by rw [a3.out.1]; rfl)
        refine Calls.ret (b0 _ M.out) ?_; rintro v wa ⟨rfl,W⟩; rw [aq.out]; have J:=hide (I.out.at W); have bd:=J.out.b2.cell; have bh:=J.out.b5.cell; have O:=hide (M.out.trans (W.mono M.out.size)); clear W; go_wp2_with fail
        have ar:=hide (show Aa r.right (ns:Int)=0 from by rw [a3.out.2.1]; rfl)
        refine Calls.ret (b7 _ O.out) ?_; rintro v wb ⟨rfl,Z⟩; rw [ar.out]; have F:=hide (J.out.at Z); have be:=F.out.b2.cell; have bi:=F.out.b5.cell; have E:=hide (O.out.trans (Z.mono O.out.size)); clear Z; go_wp2_with fail
        have al:=hide (show Aa r.parent (ns:Int)=0 from by rw [a3.out.2.2]; rfl)
        refine Calls.ret (aS _ E.out) ?_; rintro v wc ⟨rfl,C⟩; rw [al.out]; have a4:=hide (F.out.at C); have aV:=a4.out.b2.cell; have aW:=a4.out.b5.cell; have ah:=hide (E.out.trans (C.mono E.out.size)); clear C; go_wp2_with fail
        go_ret
        exact⟨congrArg (Value.int .i64) (bp.out).symm,ah.out⟩
   ·have ax:=hide (bH.out.symm.trans (Si bW.out a6 (by omega)))
    have q1:(r.kind==1)=false:=by rw [a6]; rfl
    have q2:(r.kind==2)=false:=by rw [a6]; rfl
    have q3:(r.kind==3)=false:=by rw [a6]; rfl
    have q4:(r.kind==4)=false:=by rw [a6]; rfl
    have q5:(r.kind==5)=true:=by rw [a6]; rfl
    have d5:(r.kind==2||r.kind==5)=true:=by rw [q2,q5]; rfl
    have aZ:=hide a6
    clear a6
    have a9:=hide (show r.guards=[]∧r.ex=[]∧r.fa=[]∧r.send=[] from bo.out.g (by rw [aZ.out]; decide))
    have d2:=hide (show r.rd= -1∧r.wr= -1 from bo.out.v (by rw [aZ.out]; decide))
    have a3:=hide (show r.left=[]∧r.right=[]∧r.parent=[] from bo.out.l (by rw [aZ.out]; decide))
    have cM:=Ah av.out.b2 ce.out
    have cO:=Ah av.out.b5 cg.out
    go_wp2_with (first
     | (go_at_call 98; refine(within2_any _ _ _ _).mono ?_; rintro e w' ⟨rfl,rfl⟩; rw [bO.out])
     | (go_at_call 192; refine Calls.ret (FD av.out.pr av.out.ru ch.out) ?_; rintro v w5 ⟨rfl,aN⟩; rw [bA.out]; have aK:=hide (av.out.at aN); have cD:=aK.out.b2.cell; have cG:=aK.out.b5.cell; have ag:=hide (b9.out.trans (aN.mono b9.out.size)); clear aN))
    obtain⟨ng,aP⟩:∃n,n=r.guards.length:=⟨_,rfl⟩
    have aQ:=hide (show ng=0 from by rw [aP,a9.out.1]; rfl)
    rw [←aP] at cf
    have cR:¬(2:Int)<(ng:Int):=by have:=aQ.out; omega
    have cS:ng≤60:=by have:=aQ.out; omega
    clear aP
    cases aA:inC r.fr 0 ((ns:Int) - 1)
    case false=>
     have aa:=hide aA
     clear aA
     refine(within2_any _ _ _ _).mono ?_; rintro e w' ⟨rfl,rfl⟩; rw [aa.out]; go_wp2_with fail
     go_ret
     exact⟨congrArg (Value.int .i64) (ax.out.trans (by rw [show inN r.fr (ns:Int)=false from aa.out]; rfl)).symm,ag.out⟩
    have aa:=hide aA
    clear aA
    refine(within2_any _ _ _ _).mono ?_; rintro e w' ⟨rfl,rfl⟩; rw [aa.out]; go_wp2_with fail
    cases aB:inC r.to 0 ((ns:Int) - 1)
    case false=>
     have ac:=hide aB
     clear aB
     refine(within2_any _ _ _ _).mono ?_; rintro e w' ⟨rfl,rfl⟩; rw [ac.out]; go_wp2_with fail
     go_ret
     exact⟨congrArg (Value.int .i64) (ax.out.trans (by rw [show inN r.fr (ns:Int)=true from aa.out,show inN r.to (ns:Int)=false from ac.out]; rfl)).symm,ag.out⟩
    have ac:=hide aB
    clear aB
    refine(within2_any _ _ _ _).mono ?_; rintro e w' ⟨rfl,rfl⟩; rw [ac.out]; go_wp2_with fail
    cases b4:inC r.pf 0 ((ns:Int) - 1)
    case false=>
     have aC:=hide b4
     clear b4
     refine(within2_any _ _ _ _).mono ?_; rintro e w' ⟨rfl,rfl⟩; rw [aC.out]; go_wp2_with fail
     go_ret
     exact⟨congrArg (Value.int .i64) (ax.out.trans (by rw [show inN r.fr (ns:Int)=true from aa.out,show inN r.to (ns:Int)=true from ac.out,show inN r.pf (ns:Int)=false from aC.out]; rfl)).symm,ag.out⟩
    have aC:=hide b4
    clear b4
    refine(within2_any _ _ _ _).mono ?_; rintro e w' ⟨rfl,rfl⟩; rw [aC.out]; go_wp2_with fail
    cases b6:inC r.pt 0 ((ns:Int) - 1)
    case false=>
     have aJ:=hide b6
     clear b6
     refine(within2_any _ _ _ _).mono ?_; rintro e w' ⟨rfl,rfl⟩; rw [aJ.out]; go_wp2_with fail
     go_ret
     exact⟨congrArg (Value.int .i64) (ax.out.trans (by rw [show inN r.fr (ns:Int)=true from aa.out,show inN r.to (ns:Int)=true from ac.out,show inN r.pf (ns:Int)=true from aC.out,show inN r.pt (ns:Int)=false from aJ.out]; rfl)).symm,ag.out⟩
    have aJ:=hide b6
    clear b6
    refine(within2_any _ _ _ _).mono ?_; rintro e w' ⟨rfl,rfl⟩; rw [aJ.out]; go_wp2_with fail
    have ay:=hide (show EV=Ad (if p.topo=4 then !inC r.dir 3 4 else !inC r.dir 1 2) 1 from ax.out.trans (by rw [show inN r.fr (ns:Int)=true from aa.out,show inN r.to (ns:Int)=true from ac.out,show inN r.pf (ns:Int)=true from aC.out,show inN r.pt (ns:Int)=true from aJ.out]; rfl))
    go_loopw [10] (fun ii wr=>∃(k:Nat),ii=.int .i64 (k:Int)∧k≤ng∧Hid (Below w5.heap.size w5 wr)) (fun ii _=>ng - (intOf ii).toNat)
    case atStart=>exact⟨0,rfl,Nat.zero_le _,Below.refl _ _⟩
    case round=>
     obtain⟨k,rfl,hk,ba⟩:=hrel
     have aL:=hide (aK.out.at ba.out)
     have cE:=aL.out.b2.cell
     have cH:=aL.out.b5.cell
     have aM:=hide (ag.out.trans (ba.out.mono ag.out.size))
     by_cases cQ:k<ng
     ·exfalso
      have:=aQ.out
      omega
     ·go_wp2_with fail
      have bu:=hide (show Aa r.ex (ns:Int)=0 from by rw [a9.out.2.1]; rfl)
      refine Calls.ret (c0 _ aM.out) ?_; rintro v w7 ⟨rfl,aO⟩; rw [bu.out]; have aw:=hide (aL.out.at aO); have cF:=aw.out.b2.cell; have cJ:=aw.out.b5.cell; have a5:=hide (aM.out.trans (aO.mono aM.out.size)); clear aO; go_wp2_with fail
      have Y1:(r.rd != -1)=false:=by rw [d2.out.1]; rfl
      have Y2:(r.wr != -1)=false:=by rw [d2.out.2]; rfl
      have ap:=hide (show Aa r.fa (ns:Int)=0 from by rw [a9.out.2.2.1]; rfl)
      refine Calls.ret (aY _ a5.out) ?_; rintro v w8 ⟨rfl,U⟩; rw [ap.out]; have G:=hide (aw.out.at U); have bb:=G.out.b2.cell; have bf:=G.out.b5.cell; have y:=hide (a5.out.trans (U.mono a5.out.size)); clear U; go_wp2_with fail
      have au:=hide (show Aa r.send (nm:Int)=0 from by rw [a9.out.2.2.2]; rfl)
      refine Calls.ret (b8 _ y.out) ?_; rintro v w9 ⟨rfl,V⟩; rw [au.out]; have I:=hide (G.out.at V); have bc:=I.out.b2.cell; have bg:=I.out.b5.cell; have M:=hide (y.out.trans (V.mono y.out.size)); clear V; go_wp2_with fail
      have aq:=hide (show Aa r.left (ns:Int)=0 from by rw [a3.out.1]; rfl)
      refine Calls.ret (b0 _ M.out) ?_; rintro v wa ⟨rfl,W⟩; rw [aq.out]; have J:=hide (I.out.at W); have bd:=J.out.b2.cell; have bh:=J.out.b5.cell; have O:=hide (M.out.trans (W.mono M.out.size)); clear W; go_wp2_with fail
      have ar:=hide (show Aa r.right (ns:Int)=0 from by rw [a3.out.2.1]; rfl)
      refine Calls.ret (b7 _ O.out) ?_; rintro v wb ⟨rfl,Z⟩; rw [ar.out]; have F:=hide (J.out.at Z); have be:=F.out.b2.cell; have bi:=F.out.b5.cell; have E:=hide (O.out.trans (Z.mono O.out.size)); clear Z; go_wp2_with fail
      by_cases ht:p.topo=4
      case pos=>
       have G1:(p.topo==4)=true:=by simp [ht]
       have G2:(p.topo != 4)=false:=by simp [ht]
       have HT:=hide ht
       clear ht
       have al:=hide (show Aa r.parent (ns:Int)=0 from by rw [a3.out.2.2]; rfl)
       refine Calls.ret (aS _ E.out) ?_; rintro v wc ⟨rfl,C⟩; rw [al.out]; have a4:=hide (F.out.at C); have aV:=a4.out.b2.cell; have aW:=a4.out.b5.cell; have ah:=hide (E.out.trans (C.mono E.out.size)); clear C; go_wp2_with fail
       cases aX:inC r.dir 3 4
       case false=>
        have aH:=hide aX
        clear aX
        refine(within2_any _ _ _ _).mono ?_; rintro e w' ⟨rfl,rfl⟩; rw [aH.out]; go_wp2_with fail
        go_ret
        exact⟨congrArg (Value.int .i64) (ay.out.trans (by rw [if_pos HT.out,aH.out]; rfl)).symm,ah.out⟩
       have aH:=hide aX
       clear aX
       refine(within2_any _ _ _ _).mono ?_; rintro e w' ⟨rfl,rfl⟩; rw [aH.out]; go_wp2_with fail
       go_ret
       exact⟨congrArg (Value.int .i64) (ay.out.trans (by rw [if_pos HT.out,aH.out]; rfl)).symm,ah.out⟩
      have G1:(p.topo==4)=false:=by simp [ht]
      have G2:(p.topo != 4)=true:=by simp [ht]
      have HT:=hide ht
      clear ht
      have al:=hide (show Aa r.parent (ns:Int)=0 from by rw [a3.out.2.2]; rfl)
      refine Calls.ret (aS _ E.out) ?_; rintro v wc ⟨rfl,C⟩; rw [al.out]; have a4:=hide (F.out.at C); have aV:=a4.out.b2.cell; have aW:=a4.out.b5.cell; have ah:=hide (E.out.trans (C.mono E.out.size)); clear C; go_wp2_with fail
      cases aX:inC r.dir 1 2
      case false=>
       have aH:=hide aX
       clear aX
       refine(within2_any _ _ _ _).mono ?_; rintro e w' ⟨rfl,rfl⟩; rw [aH.out]; go_wp2_with fail
       go_ret
       exact⟨congrArg (Value.int .i64) (ay.out.trans (by rw [if_neg HT.out,aH.out]; rfl)).symm,ah.out⟩
      have aH:=hide aX
      clear aX
      refine(within2_any _ _ _ _).mono ?_; rintro e w' ⟨rfl,rfl⟩; rw [aH.out]; go_wp2_with fail
      go_ret
      exact⟨congrArg (Value.int .i64) (ay.out.trans (by rw [if_neg HT.out,aH.out]; rfl)).symm,ah.out⟩
end Go.Proofs.YtfcfpoemojjglaaGreatDoor.K
