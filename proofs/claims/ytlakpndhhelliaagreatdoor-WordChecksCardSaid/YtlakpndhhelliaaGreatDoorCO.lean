/-
  Part CO of a proof.
-/
import Derived.Test.YtlakpndhhelliaaGreatDoorPA
import Derived.Test.YtlakpndhhelliaaGreatDoorCJ
import Derived.Test.YtlakpndhhelliaaGreatDoorCI
set_option maxHeartbeats 16000000
set_option maxRecDepth 100000
set_option linter.unusedVariables false
set_option linter.unusedSimpArgs false
namespace Go.Proofs.YtlakpndhhelliaaGreatDoor.K
open Go.RowKit
attribute [-go_sem] loadCellsFrom storeCells
theorem Ox {w:World} {cs:List Value} {p:Ao} {r:As} {i:Nat} (h:Ax w w.heap.size cs p) (hr:p.rules[i]?=some r) (hs:r.Small) (dp:r.name.size≤500) (ah:p.Small) (hT:AL w) (bT:Hid (((p.rules.take i).any fun x=>decide (x.name=r.name))=false)) (bh:Hid (Ab r.name=true)) (bi:Hid (inC r.kind 1 5=true)) (an:(decide (r.kind≤3) != (p.topo==1))=false) (aK:Hid (BR p.topo r=false)) (I:r.kind=4):
  Calls Tryz.prog 55 #[.agg cs.toArray,.int .i64 (i:Int)] w (Ret fun v w'=>v=.int .i64 (AW Ab p.topo (p.states.length:Int) (p.messages.length:Int) (p.values.length:Int) false r)∧Below w.heap.size w w'):=by
 obtain⟨A1,c1,A2,c2,A3,c3,A4,c4,A5,c5,A6,c6,A7,c7,bj,dE,dF,aL,bU,bV,dG,dH,dI,dJ,dK,-,-,-,-,-,-,h7,bW⟩:=h.cells
 have bX:=AO hr
 have bY:=ah.states
 have bZ:=ah.messages
 have c0:=ah.values
 have dL:=ah.rules
 have c8:=hide h7
 obtain⟨w1,dM,ao,bk,c9⟩:=Ag w cs.toArray 27
 have a5:=ao.trans ((Ap w1).mono ao.size)
 have ap:Blk w1.drew w.heap.size 27 cs.toArray:=bk
 obtain⟨b,dN,rc,hA,dO,hC,cb,cc⟩:=BU (h7.keep (w':=w1.drew) (B':=w.heap.size) (R':=AB w1.drew w.heap.size) (fun _ y=>a5.cell y) (fun _ _ h=>h.keep (fun _ y=>a5.cell y) (Nat.le_refl _)) (Nat.le_refl _)) hr
 obtain⟨w2,cd,aq,bl,ce⟩:=Ag w1.drew rc 48
 have bm:Blk w2 w1.heap.size 48 rc:=bl
 have aN:=Cf w1.drew 48 18 (by kernel_rfl) hC.size hC.one
 rw [cd] at aN
 have cf:∀c:Array Value,c.size=18→(storeCells ⟨w1.heap.size,0,none⟩ rc.toList 0).run Tryz.prog (w1.alloc (.cells c 48)).drew=.ok () w2:=aN
 clear aN
 have aO:=ap.below aq
 have a6:=hide (a5.trans (aq.mono a5.size))
 have aP:=hide (show BM w2 w.heap.size w1.heap.size cs.toArray rc p r from⟨h.keep (fun _ y=>a6.out.cell y) a6.out.size,hC.is.keep (fun _ y=>aq.cell (by show _<w1.heap.size; have:=ao.size; omega)) a6.out.size,aO,bm,hT.below a6.out⟩)
 have bn:=hC.is.cells
 simp only [Array.toArray_toList] at bn
 obtain⟨E1,f1,E2,f2,E3,f3,E4,f4,E5,f5,E6,f6,E7,f7,E8,f8,⟨bo,dT,dU,dV,dW,dX,dY,dZ,ct,e0,e3,e4,e5,e6,e7,e8,e9,ea,eb⟩,⟨bp,bq,br,bs,bt,bu,bv,bw⟩⟩:=bn
 have F:∀{D:Type} {sz:Nat} {enc:D→Nat→Value} {A:Option Addr} {ds:List D},Sl w1.drew w.heap.size sz enc A ds→Sl w w.heap.size sz enc A ds:=fun h=>h.keep (fun _ y=>(a5.cell y).symm) (Nat.le_refl _)
 have ec:=hide (F bp)
 have ed:=hide (F bq)
 have cu:=hide (F br)
 have cv:=hide (F bs)
 have cw:=hide (F bt)
 have cx:=hide (F bu)
 have cy:=hide (F bv)
 have cz:=hide (F bw)
 have ee:=ap.cell
 have cA:=hide ap
 have cB:=hide aO
 generalize cD:cs.toArray=pc at*
 have cE:=hide bj
 obtain⟨cF,cG,cH,cJ,cK,cL,cM,cO⟩:=hs
 have cQ:=hide (show r.Small from⟨cF,cG,cH,cJ,cK,cL,cM,cO⟩)
 have ef:=hide hr
 have eg:=bW
 have cR:=hide (show i<p.rules.length from bX)
 obtain⟨ns,aQ⟩:∃n,n=p.states.length:=⟨_,rfl⟩
 obtain⟨nm,aR⟩:∃n,n=p.messages.length:=⟨_,rfl⟩
 obtain⟨nv,aS⟩:∃n,n=p.values.length:=⟨_,rfl⟩
 have eh:=hide (show ns=p.states.length∧nm=p.messages.length∧nv=p.values.length from⟨aQ,aR,aS⟩)
 rw [←aQ] at aL bY ⊢
 rw [←aR] at bU bZ ⊢
 rw [←aS] at bV c0 ⊢
 obtain⟨EV,bx⟩:∃e,Hid (AW Ab p.topo (ns:Int) (nm:Int) (nv:Int) false r=e):=⟨_,rfl⟩
 rw [bx.out]
 subst hA
 clear cb hC c9 ce ao aq a5 bk bl bm ap aO bj cD hr h h7 aQ aR aS hT ah bp bq br bs bt bu bv bw F
 have cS:=hide (show KOK Ab p.topo r from⟨bh.out,bi.out,an,aK.out⟩)
 have bz:=hide (CX aK.out)
 have aT:=hide (bx.out.symm.trans (Ni cS.out I (by omega)))
 have q1:(r.kind==1)=false:=by rw [I]; rfl
 have q2:(r.kind==2)=false:=by rw [I]; rfl
 have q3:(r.kind==3)=false:=by rw [I]; rfl
 have q4:(r.kind==4)=true:=by rw [I]; rfl
 have q5:(r.kind==5)=false:=by rw [I]; rfl
 have bA:=hide I
 clear I
 have au:=hide (show r.guards=[]∧r.ex=[]∧r.fa=[]∧r.send=[] from bz.out.g (by rw [bA.out]; decide))
 have bB:=hide (show r.rd= -1∧r.wr= -1 from bz.out.v (by rw [bA.out]; decide))
 have cT:∀f,Below w.heap.size w f→Calls Tryz.prog 33 #[.slice E3 r.ex.length f3,.int .i64 (ns:Int)] f (Ret fun v w'=>v=.int .i64 (Aa r.ex (ns:Int))∧Below f.heap.size f w'):=fun f C=>AU (by omega) (cu.out.keep (fun _ y=>C.cell y) C.size)
 have cU:∀f,Below w.heap.size w f→Calls Tryz.prog 33 #[.slice E4 r.fa.length f4,.int .i64 (ns:Int)] f (Ret fun v w'=>v=.int .i64 (Aa r.fa (ns:Int))∧Below f.heap.size f w'):=fun f C=>AU (by omega) (cv.out.keep (fun _ y=>C.cell y) C.size)
 have cV:∀f,Below w.heap.size w f→Calls Tryz.prog 33 #[.slice E5 r.send.length f5,.int .i64 (nm:Int)] f (Ret fun v w'=>v=.int .i64 (Aa r.send (nm:Int))∧Below f.heap.size f w'):=fun f C=>AU (by omega) (cw.out.keep (fun _ y=>C.cell y) C.size)
 have bC:∀f,Below w.heap.size w f→Calls Tryz.prog 33 #[.slice E6 r.left.length f6,.int .i64 (ns:Int)] f (Ret fun v w'=>v=.int .i64 (Aa r.left (ns:Int))∧Below f.heap.size f w'):=fun f C=>AU (by omega) (cx.out.keep (fun _ y=>C.cell y) C.size)
 have bD:∀f,Below w.heap.size w f→Calls Tryz.prog 33 #[.slice E7 r.right.length f7,.int .i64 (ns:Int)] f (Ret fun v w'=>v=.int .i64 (Aa r.right (ns:Int))∧Below f.heap.size f w'):=fun f C=>AU (by omega) (cy.out.keep (fun _ y=>C.cell y) C.size)
 have bE:∀f,Below w.heap.size w f→Calls Tryz.prog 33 #[.slice E8 r.parent.length f8,.int .i64 (ns:Int)] f (Ret fun v w'=>v=.int .i64 (Aa r.parent (ns:Int))∧Below f.heap.size f w'):=fun f C=>AU (by omega) (cz.out.keep (fun _ y=>C.cell y) C.size)
 have en:decide (r.kind≤3)=(p.topo==1):=by cases h1:decide (r.kind≤3) <;> cases h2:(p.topo==1) <;> simp [h1,h2] at an ⊢
 have eo:=hide an
 clear an
 go_enter Tryz.func55,Tryz.ntmps55
 go_wp2_with fail
 refine Reg.cI [0,1,0,7,15,0,32,96,0,287,1023] [0,1,2,3,4,5,6,7,8,9,10] ?_
 refine Reg.wI [0,1,2,3,4,5,6,7,8] [9,10] rfl fun Qf J=>?_
 go_wp2_with fail
 first | refine J _ _ ⟨rfl,?_⟩ | refine⟨rfl,?_⟩ | refine J _ _ ⟨by simp [Reg.fineT,Reg.intOp,Region.wanted,yielded,Reg.intFine,Reg.isInt,Act.eval],?_⟩
 try clear J
 refine Reg.aI 9 [10] [6] rfl fun Qf J=>?_
 simp only [gT,gS,gZ]
 go_wp2_with fail
 first | refine J _ _ ⟨?_,?_⟩ | refine⟨?_,?_⟩
 ·intro z hz q hq
  simp only [List.mem_cons,List.not_mem_nil,or_false] at hz
  subst hz
  injection hq with hq
  subst hq
  exact Reg.same_load1 rfl rfl (((cA.out.kept ((Ae.refl _ (fun _=>False)).alloc _) id).cell 2).trans aL) ((cB.out.cell 2).trans aL) Tryz.underlying22 rfl
 try clear J
 refine Reg.wI [10] [] rfl fun Qf J=>?_
 go_wp2_with fail
 first | refine J _ _ ⟨rfl,?_⟩ | refine⟨rfl,?_⟩ | refine J _ _ ⟨by simp [Reg.fineT,Reg.intOp,Region.wanted,yielded,Reg.intFine,Reg.isInt,Act.eval],?_⟩
 try clear J
 first | refine Reg.restI_end ?_ | skip
 have cX:=hide bo
 clear bo cf cc
 have ep:=aP.out.b2.cell
 have eq:=aP.out.b5.cell
 go_wp2_with fail
 go_wp2_with (go_at_call 32; refine Calls.ret (BK r.name _ (by omega)) ?_; rintro v w3 ⟨rfl,aU⟩; rw [bh.out]; have aV:=hide (aP.out.at aU); have er:=aV.out.b2.cell; have et:=aV.out.b5.cell; have bH:=hide (a6.out.trans (aU.mono a6.out.size)); clear aU)
 go_loopw [7] (fun U wr=>∃(k:Nat),U=.int .i64 (k:Int)∧k≤i∧Hid (Below w3.heap.size w3 wr)∧Hid ((p.rules.take k).all (fun x=>!decide (x.name=r.name))=true)) (fun U _=>i - (intOf U).toNat)
 case atStart=>exact⟨0,rfl,Nat.zero_le _,Below.refl _ _,by show _=_; simp⟩
 case round=>
  obtain⟨k,rfl,hk,ax,hE⟩:=hrel
  have V:=hide (aV.out.at ax.out)
  have eu:=V.out.b2.cell
  have ev:=V.out.b5.cell
  have ay:=hide (bH.out.trans (ax.out.mono bH.out.size))
  by_cases cY:k<i
  ·obtain⟨x,C⟩:∃x,p.rules[k]?=some x:=⟨_,List.getElem?_eq_getElem (by have:=cR.out; omega)⟩
   obtain⟨b',ey,xc,bJ,eA,bK,bL,-⟩:=BU (c8.out.keep (w':=wr) (B':=w.heap.size) (R':=AB wr w.heap.size) (fun _ y=>ay.out.cell y) (fun _ _ h=>h.keep (fun _ y=>ay.out.cell y) (Nat.le_refl _)) (Nat.le_refl _)) C
   have e1:=Option.some.inj bJ
   injection e1 with e1 e2 _
   subst e1 e2
   have aj:=bK.is.cells
   simp only [Array.toArray_toList] at aj
   obtain⟨-,-,-,-,-,-,-,-,-,-,-,-,-,-,-,-,⟨-,aj,-⟩,-⟩:=aj
   have d0:=bL 0 _ aj
   simp only [Nat.add_zero] at d0
   have bM:=hide C
   clear bL bK C aj bJ
   by_cases az:x.name=r.name
   ·exfalso
    have h1:=bT.out
    rw [List.any_eq_false] at h1
    refine h1 x (List.mem_of_getElem? (i:=k) ?_) (decide_eq_true az)
    rw [List.getElem?_take,if_pos cY]
    exact bM.out
   ·have hq:(x.name.toList==r.name.toList)=false:=by rw [CR]; exact decide_eq_false az
    have d1:=hide (BP (p:=fun x:As=>!decide (x.name=r.name)) bM.out hE.out (by simp [az]))
    have d2:=hide (ax.out.trans ((Ap wr).mono ax.out.size))
    clear az
    go_wp2_with fail
    refine Reg.cP [0,1,0,7,15,31,0,64,255] ?_
    go_wp2_with fail
    exact⟨⟨k+1,by go_num,by omega,d2.out,d1.out⟩,by simp [intOf]; omega⟩
  ·clear hE
   have eB:=Am V.out.b2 cE.out
   have eD:=Am V.out.b5 cX.out
   go_wp2_with (first
    | (go_at_call 35; refine(Al _ _ _ _).mono ?_; rintro e w' ⟨rfl,rfl⟩; rw [bi.out])
    | (go_at_call 81; refine Calls.ret (ES V.out.pr V.out.ru cQ.out) ?_; rintro v w5 ⟨rfl,aX⟩; rw [aK.out]; have aY:=hide (V.out.at aX); have eE:=aY.out.b2.cell; have eF:=aY.out.b5.cell; have aA:=hide (ay.out.trans (aX.mono ay.out.size)); clear aX))
   obtain⟨ng,aZ⟩:∃n,n=r.guards.length:=⟨_,rfl⟩
   have b0:=hide (show ng=0 from by rw [aZ,au.out.1]; rfl)
   rw [←aZ] at ct
   have eG:¬(2:Int)<(ng:Int):=by have:=b0.out; omega
   have eH:ng≤60:=by have:=b0.out; omega
   clear aZ
   cases aB:inC r.fr 0 ((ns:Int) - 1)
   case false=>
    have a8:=hide aB
    clear aB
    refine(Al _ _ _ _).mono ?_; rintro e w' ⟨rfl,rfl⟩; rw [a8.out]; go_wp2_with fail
    go_ret
    exact⟨congrArg (Value.int .i64) (aT.out.trans (by rw [show inN r.fr (ns:Int)=false from a8.out]; rfl)).symm,aA.out⟩
   have a8:=hide aB
   clear aB
   refine(Al _ _ _ _).mono ?_; rintro e w' ⟨rfl,rfl⟩; rw [a8.out]; go_wp2_with fail
   cases aC:inC r.to 0 ((ns:Int) - 1)
   case false=>
    have ak:=hide aC
    clear aC
    refine(Al _ _ _ _).mono ?_; rintro e w' ⟨rfl,rfl⟩; rw [ak.out]; go_wp2_with fail
    go_ret
    exact⟨congrArg (Value.int .i64) (aT.out.trans (by rw [show inN r.fr (ns:Int)=true from a8.out,show inN r.to (ns:Int)=false from ak.out]; rfl)).symm,aA.out⟩
   have ak:=hide aC
   clear aC
   refine(Al _ _ _ _).mono ?_; rintro e w' ⟨rfl,rfl⟩; rw [ak.out]; go_wp2_with fail
   have bO:=hide (show EV=orE (Aa r.left (ns:Int)) (orE (Aa r.right (ns:Int)) (orE (Aa r.parent (ns:Int)) (Ac (!inC r.at_ 0 2||(!decide (r.at_=0)&&decide (p.topo=3))) 1))) from aT.out.trans (by rw [show inN r.fr (ns:Int)=true from a8.out,show inN r.to (ns:Int)=true from ak.out]; rfl))
   go_loopw [10] (fun U wr=>∃(k:Nat),U=.int .i64 (k:Int)∧k≤ng∧Hid (Below w5.heap.size w5 wr)) (fun U _=>ng - (intOf U).toNat)
   case atStart=>exact⟨0,rfl,Nat.zero_le _,Below.refl _ _⟩
   case round=>
    obtain⟨k,rfl,hk,bP⟩:=hrel
    have b1:=hide (aY.out.at bP.out)
    have eI:=b1.out.b2.cell
    have eJ:=b1.out.b5.cell
    have b3:=hide (aA.out.trans (bP.out.mono aA.out.size))
    by_cases eK:k<ng
    ·exfalso
     have:=b0.out
     omega
    ·go_wp2_with fail
     have d3:=hide (show Aa r.ex (ns:Int)=0 from by rw [au.out.2.1]; rfl)
     refine Calls.ret (cT _ b3.out) ?_; rintro v w7 ⟨rfl,b4⟩; rw [d3.out]; have b6:=hide (b1.out.at b4); have eM:=b6.out.b2.cell; have eN:=b6.out.b5.cell; have b7:=hide (b3.out.trans (b4.mono b3.out.size)); clear b4; go_wp2_with fail
     have Y1:(r.rd != -1)=false:=by rw [bB.out.1]; rfl
     have Y2:(r.wr != -1)=false:=by rw [bB.out.2]; rfl
     have d4:=hide (show Aa r.fa (ns:Int)=0 from by rw [au.out.2.2.1]; rfl)
     refine Calls.ret (cU _ b7.out) ?_; rintro v w8 ⟨rfl,b8⟩; rw [d4.out]; have b9:=hide (b6.out.at b8); have eR:=b9.out.b2.cell; have eS:=b9.out.b5.cell; have ba:=hide (b7.out.trans (b8.mono b7.out.size)); clear b8; go_wp2_with fail
     have d5:=hide (show Aa r.send (nm:Int)=0 from by rw [au.out.2.2.2]; rfl)
     refine Calls.ret (cV _ ba.out) ?_; rintro v w9 ⟨rfl,bb⟩; rw [d5.out]; have aD:=hide (b9.out.at bb); have eU:=aD.out.b2.cell; have eV:=aD.out.b5.cell; have a9:=hide (ba.out.trans (bb.mono ba.out.size)); clear bb; go_wp2_with fail
     obtain⟨bc,aE⟩:∃e,Hid (Aa r.left (ns:Int)=e):=⟨_,rfl⟩
     by_cases aa:bc=0
     case neg=>
      have d6:(bc != 0)=true:=by simp [aa]
      have E:=hide aa
      clear aa
      refine Calls.ret (bC _ a9.out) ?_; rintro v wa ⟨rfl,W⟩; rw [aE.out]; have Z:=hide (aD.out.at W); have d8:=Z.out.b2.cell; have d9:=Z.out.b5.cell; have M:=hide (a9.out.trans (W.mono a9.out.size)); clear W; go_wp2_with fail
      go_ret
      exact⟨congrArg (Value.int .i64) (bO.out.trans (by rw [aE.out]; exact Bz E.out)).symm,M.out⟩
     have d6:(bc != 0)=false:=by simp [aa]
     have da:=hide aa
     clear aa
     have bQ:=hide (show EV=orE (Aa r.right (ns:Int)) (orE (Aa r.parent (ns:Int)) (Ac (!inC r.at_ 0 2||(!decide (r.at_=0)&&decide (p.topo=3))) 1)) from bO.out.trans (by rw [aE.out,da.out]; rfl))
     refine Calls.ret (bC _ a9.out) ?_; rintro v wa ⟨rfl,W⟩; rw [aE.out]; have Z:=hide (aD.out.at W); have d8:=Z.out.b2.cell; have d9:=Z.out.b5.cell; have M:=hide (a9.out.trans (W.mono a9.out.size)); clear W; go_wp2_with fail
     obtain⟨bd,aF⟩:∃e,Hid (Aa r.right (ns:Int)=e):=⟨_,rfl⟩
     by_cases ab:bd=0
     case neg=>
      have db:(bd != 0)=true:=by simp [ab]
      have E:=hide ab
      clear ab
      refine Calls.ret (bD _ M.out) ?_; rintro v wb ⟨rfl,a2⟩; rw [aF.out]; have a3:=hide (Z.out.at a2); have de:=a3.out.b2.cell; have df:=a3.out.b5.cell; have O:=hide (M.out.trans (a2.mono M.out.size)); clear a2; go_wp2_with fail
      go_ret
      exact⟨congrArg (Value.int .i64) (bQ.out.trans (by rw [aF.out]; exact Bz E.out)).symm,O.out⟩
     have db:(bd != 0)=false:=by simp [ab]
     have dg:=hide ab
     clear ab
     have bR:=hide (show EV=orE (Aa r.parent (ns:Int)) (Ac (!inC r.at_ 0 2||(!decide (r.at_=0)&&decide (p.topo=3))) 1) from bQ.out.trans (by rw [aF.out,dg.out]; rfl))
     refine Calls.ret (bD _ M.out) ?_; rintro v wb ⟨rfl,a2⟩; rw [aF.out]; have a3:=hide (Z.out.at a2); have de:=a3.out.b2.cell; have df:=a3.out.b5.cell; have O:=hide (M.out.trans (a2.mono M.out.size)); clear a2; go_wp2_with fail
     obtain⟨be,aG⟩:∃e,Hid (Aa r.parent (ns:Int)=e):=⟨_,rfl⟩
     by_cases ad:be=0
     case neg=>
      have dh:(be != 0)=true:=by simp [ad]
      have E:=hide ad
      clear ad
      refine Calls.ret (bE _ O.out) ?_; rintro v wc ⟨rfl,a4⟩; rw [aG.out]; have al:=hide (a3.out.at a4); have dj:=al.out.b2.cell; have dk:=al.out.b5.cell; have ae:=hide (O.out.trans (a4.mono O.out.size)); clear a4; go_wp2_with fail
      go_ret
      exact⟨congrArg (Value.int .i64) (bR.out.trans (by rw [aG.out]; exact Bz E.out)).symm,ae.out⟩
     have dh:(be != 0)=false:=by simp [ad]
     have dl:=hide ad
     clear ad
     have aH:=hide (show EV=Ac (!inC r.at_ 0 2||(!decide (r.at_=0)&&decide (p.topo=3))) 1 from bR.out.trans (by rw [aG.out,dl.out]; rfl))
     refine Calls.ret (bE _ O.out) ?_; rintro v wc ⟨rfl,a4⟩; rw [aG.out]; have al:=hide (a3.out.at a4); have dj:=al.out.b2.cell; have dk:=al.out.b5.cell; have ae:=hide (O.out.trans (a4.mono O.out.size)); clear a4; go_wp2_with fail
     have eW:=hide (show True from trivial)
     cases aJ:inC r.at_ 0 2
     case false=>
      have G:=hide aJ
      clear aJ
      refine(Al _ _ _ _).mono ?_; rintro e w' ⟨rfl,rfl⟩; rw [G.out]; go_wp2_with fail
      go_ret
      exact⟨congrArg (Value.int .i64) (aH.out.trans (by rw [G.out]; rfl)).symm,ae.out⟩
     have G:=hide aJ
     clear aJ
     by_cases af:r.at_=0
     case pos=>
      have G0:(r.at_ != 0)=false:=by simp [af]
      have E:=hide af
      clear af
      refine(Al _ _ _ _).mono ?_; rintro e w' ⟨rfl,rfl⟩; rw [G.out]; go_wp2_with fail
      go_ret
      exact⟨congrArg (Value.int .i64) (aH.out.trans (by rw [G.out,decide_eq_true E.out]; rfl)).symm,ae.out⟩
     have G0:(r.at_ != 0)=true:=by simp [af]
     have E:=hide af
     clear af
     by_cases ag:p.topo=3
     case pos=>
      have G1:(p.topo==3)=true:=by simp [ag]
      have H1:=hide ag
      clear ag
      refine(Al _ _ _ _).mono ?_; rintro e w' ⟨rfl,rfl⟩; rw [G.out]; go_wp2_with fail
      go_ret
      exact⟨congrArg (Value.int .i64) (aH.out.trans (by rw [G.out,decide_eq_false E.out,decide_eq_true H1.out]; rfl)).symm,ae.out⟩
     have G1:(p.topo==3)=false:=by simp [ag]
     have H1:=hide ag
     clear ag
     refine(Al _ _ _ _).mono ?_; rintro e w' ⟨rfl,rfl⟩; rw [G.out]; go_wp2_with fail
     go_ret
     exact⟨congrArg (Value.int .i64) (aH.out.trans (by rw [G.out,decide_eq_false E.out,decide_eq_false H1.out]; rfl)).symm,ae.out⟩
end Go.Proofs.YtlakpndhhelliaaGreatDoor.K
namespace Go.Proofs.YtlakpndhhelliaaGreatDoor.K
open Go.RowKit
attribute [-go_sem] loadCellsFrom storeCells
theorem QE {w:World} {cs:List Value} {p:Ao} {r:As} {i:Nat} (h:Ax w w.heap.size cs p) (hr:p.rules[i]?=some r) (hs:r.Small) (d4:r.name.size≤500) (a7:p.Small) (hT:AL w) (bH:Hid (((p.rules.take i).any fun x=>decide (x.name=r.name))=false)) (bc:Hid (Ab r.name=true)) (bd:Hid (inC r.kind 1 5=true)) (ah:(decide (r.kind≤3) != (p.topo==1))=false) (aA:Hid (BR p.topo r=false)) (I:r.kind=5):
  Calls Tryz.prog 55 #[.agg cs.toArray,.int .i64 (i:Int)] w (Ret fun v w'=>v=.int .i64 (AW Ab p.topo (p.states.length:Int) (p.messages.length:Int) (p.values.length:Int) false r)∧Below w.heap.size w w'):=by
 obtain⟨A1,c1,A2,c2,A3,c3,A4,c4,A5,c5,A6,c6,A7,c7,be,dj,dk,aB,bI,bJ,dl,dm,dn,dp,dq,-,-,-,-,-,-,h7,bK⟩:=h.cells
 have bL:=AO hr
 have bM:=a7.states
 have bN:=a7.messages
 have bO:=a7.values
 have dr:=a7.rules
 have bP:=hide h7
 obtain⟨w1,dt,ai,bf,bQ⟩:=Ag w cs.toArray 27
 have Z:=ai.trans ((Ap w1).mono ai.size)
 have aj:Blk w1.drew w.heap.size 27 cs.toArray:=bf
 obtain⟨b,du,rc,hA,dv,hC,bS,bT⟩:=BU (h7.keep (w':=w1.drew) (B':=w.heap.size) (R':=AB w1.drew w.heap.size) (fun _ y=>Z.cell y) (fun _ _ h=>h.keep (fun _ y=>Z.cell y) (Nat.le_refl _)) (Nat.le_refl _)) hr
 obtain⟨w2,bU,ak,bg,bV⟩:=Ag w1.drew rc 48
 have bh:Blk w2 w1.heap.size 48 rc:=bg
 have aD:=Cf w1.drew 48 18 (by kernel_rfl) hC.size hC.one
 rw [bU] at aD
 have bW:∀c:Array Value,c.size=18→(storeCells ⟨w1.heap.size,0,none⟩ rc.toList 0).run Tryz.prog (w1.alloc (.cells c 48)).drew=.ok () w2:=aD
 clear aD
 have aE:=aj.below ak
 have a2:=hide (Z.trans (ak.mono Z.size))
 have aF:=hide (show BM w2 w.heap.size w1.heap.size cs.toArray rc p r from⟨h.keep (fun _ y=>a2.out.cell y) a2.out.size,hC.is.keep (fun _ y=>ak.cell (by show _<w1.heap.size; have:=ai.size; omega)) a2.out.size,aE,bh,hT.below a2.out⟩)
 have bi:=hC.is.cells
 simp only [Array.toArray_toList] at bi
 obtain⟨E1,f1,E2,f2,E3,f3,E4,f4,E5,f5,E6,f6,E7,f7,E8,f8,⟨bj,dA,dB,dC,dD,dE,dF,dG,cf,dH,dI,dJ,dK,dL,dM,dN,dO,dP,dQ⟩,⟨bk,bl,bm,bn,bo,bp,bq,br⟩⟩:=bi
 have F:∀{D:Type} {sz:Nat} {enc:D→Nat→Value} {A:Option Addr} {ds:List D},Sl w1.drew w.heap.size sz enc A ds→Sl w w.heap.size sz enc A ds:=fun h=>h.keep (fun _ y=>(Z.cell y).symm) (Nat.le_refl _)
 have dR:=hide (F bk)
 have dS:=hide (F bl)
 have cg:=hide (F bm)
 have ch:=hide (F bn)
 have ci:=hide (F bo)
 have cj:=hide (F bp)
 have ck:=hide (F bq)
 have cm:=hide (F br)
 have dT:=aj.cell
 have cn:=hide aj
 have co:=hide aE
 generalize cp:cs.toArray=pc at*
 have cq:=hide be
 obtain⟨cr,ct,cu,cv,cw,cx,cy,cz⟩:=hs
 have cA:=hide (show r.Small from⟨cr,ct,cu,cv,cw,cx,cy,cz⟩)
 have dU:=hide hr
 have dV:=bK
 have cB:=hide (show i<p.rules.length from bL)
 obtain⟨ns,aG⟩:∃n,n=p.states.length:=⟨_,rfl⟩
 obtain⟨nm,aH⟩:∃n,n=p.messages.length:=⟨_,rfl⟩
 obtain⟨nv,aJ⟩:∃n,n=p.values.length:=⟨_,rfl⟩
 have dW:=hide (show ns=p.states.length∧nm=p.messages.length∧nv=p.values.length from⟨aG,aH,aJ⟩)
 rw [←aG] at aB bM ⊢
 rw [←aH] at bI bN ⊢
 rw [←aJ] at bJ bO ⊢
 obtain⟨EV,bs⟩:∃e,Hid (AW Ab p.topo (ns:Int) (nm:Int) (nv:Int) false r=e):=⟨_,rfl⟩
 rw [bs.out]
 subst hA
 clear bS hC bQ bV ai ak Z bf bg bh aj aE be cp hr h h7 aG aH aJ hT a7 bk bl bm bn bo bp bq br F
 have cE:=hide (show KOK Ab p.topo r from⟨bc.out,bd.out,ah,aA.out⟩)
 have aK:=hide (CX aA.out)
 have a9:=hide (bs.out.symm.trans (Pz cE.out I (by omega)))
 have q1:(r.kind==1)=false:=by rw [I]; rfl
 have q2:(r.kind==2)=false:=by rw [I]; rfl
 have q3:(r.kind==3)=false:=by rw [I]; rfl
 have q4:(r.kind==4)=false:=by rw [I]; rfl
 have q5:(r.kind==5)=true:=by rw [I]; rfl
 have aL:=hide I
 clear I
 have al:=hide (show r.guards=[]∧r.ex=[]∧r.fa=[]∧r.send=[] from aK.out.g (by rw [aL.out]; decide))
 have bt:=hide (show r.rd= -1∧r.wr= -1 from aK.out.v (by rw [aL.out]; decide))
 have am:=hide (show r.left=[]∧r.right=[]∧r.parent=[] from aK.out.l (by rw [aL.out]; decide))
 have cF:∀f,Below w.heap.size w f→Calls Tryz.prog 33 #[.slice E3 r.ex.length f3,.int .i64 (ns:Int)] f (Ret fun v w'=>v=.int .i64 (Aa r.ex (ns:Int))∧Below f.heap.size f w'):=fun f C=>AU (by omega) (cg.out.keep (fun _ y=>C.cell y) C.size)
 have cG:∀f,Below w.heap.size w f→Calls Tryz.prog 33 #[.slice E4 r.fa.length f4,.int .i64 (ns:Int)] f (Ret fun v w'=>v=.int .i64 (Aa r.fa (ns:Int))∧Below f.heap.size f w'):=fun f C=>AU (by omega) (ch.out.keep (fun _ y=>C.cell y) C.size)
 have cH:∀f,Below w.heap.size w f→Calls Tryz.prog 33 #[.slice E5 r.send.length f5,.int .i64 (nm:Int)] f (Ret fun v w'=>v=.int .i64 (Aa r.send (nm:Int))∧Below f.heap.size f w'):=fun f C=>AU (by omega) (ci.out.keep (fun _ y=>C.cell y) C.size)
 have cJ:∀f,Below w.heap.size w f→Calls Tryz.prog 33 #[.slice E6 r.left.length f6,.int .i64 (ns:Int)] f (Ret fun v w'=>v=.int .i64 (Aa r.left (ns:Int))∧Below f.heap.size f w'):=fun f C=>AU (by omega) (cj.out.keep (fun _ y=>C.cell y) C.size)
 have cK:∀f,Below w.heap.size w f→Calls Tryz.prog 33 #[.slice E7 r.right.length f7,.int .i64 (ns:Int)] f (Ret fun v w'=>v=.int .i64 (Aa r.right (ns:Int))∧Below f.heap.size f w'):=fun f C=>AU (by omega) (ck.out.keep (fun _ y=>C.cell y) C.size)
 have bu:∀f,Below w.heap.size w f→Calls Tryz.prog 33 #[.slice E8 r.parent.length f8,.int .i64 (ns:Int)] f (Ret fun v w'=>v=.int .i64 (Aa r.parent (ns:Int))∧Below f.heap.size f w'):=fun f C=>AU (by omega) (cm.out.keep (fun _ y=>C.cell y) C.size)
 have e4:decide (r.kind≤3)=(p.topo==1):=by cases h1:decide (r.kind≤3) <;> cases h2:(p.topo==1) <;> simp [h1,h2] at ah ⊢
 have e5:=hide ah
 clear ah
 go_enter Tryz.func55,Tryz.ntmps55
 go_wp2_with fail
 refine Reg.cI [0,1,0,7,15,0,32,96,0,287,1023] [0,1,2,3,4,5,6,7,8,9,10] ?_
 refine Reg.wI [0,1,2,3,4,5,6,7,8] [9,10] rfl fun Qf J=>?_
 go_wp2_with fail
 first | refine J _ _ ⟨rfl,?_⟩ | refine⟨rfl,?_⟩ | refine J _ _ ⟨by simp [Reg.fineT,Reg.intOp,Region.wanted,yielded,Reg.intFine,Reg.isInt,Act.eval],?_⟩
 try clear J
 refine Reg.aI 9 [10] [6] rfl fun Qf J=>?_
 simp only [gT,gS,gZ]
 go_wp2_with fail
 first | refine J _ _ ⟨?_,?_⟩ | refine⟨?_,?_⟩
 ·intro z hz q hq
  simp only [List.mem_cons,List.not_mem_nil,or_false] at hz
  subst hz
  injection hq with hq
  subst hq
  exact Reg.same_load1 rfl rfl (((cn.out.kept ((Ae.refl _ (fun _=>False)).alloc _) id).cell 2).trans aB) ((co.out.cell 2).trans aB) Tryz.underlying22 rfl
 try clear J
 refine Reg.wI [10] [] rfl fun Qf J=>?_
 go_wp2_with fail
 first | refine J _ _ ⟨rfl,?_⟩ | refine⟨rfl,?_⟩ | refine J _ _ ⟨by simp [Reg.fineT,Reg.intOp,Region.wanted,yielded,Reg.intFine,Reg.isInt,Act.eval],?_⟩
 try clear J
 first | refine Reg.restI_end ?_ | skip
 have cM:=hide bj
 clear bj bW bT
 have e6:=aF.out.b2.cell
 have e7:=aF.out.b5.cell
 go_wp2_with fail
 go_wp2_with (go_at_call 32; refine Calls.ret (BK r.name _ (by omega)) ?_; rintro v w3 ⟨rfl,aM⟩; rw [bc.out]; have aN:=hide (aF.out.at aM); have e8:=aN.out.b2.cell; have e9:=aN.out.b5.cell; have bx:=hide (a2.out.trans (aM.mono a2.out.size)); clear aM)
 go_loopw [7] (fun O wr=>∃(k:Nat),O=.int .i64 (k:Int)∧k≤i∧Hid (Below w3.heap.size w3 wr)∧Hid ((p.rules.take k).all (fun x=>!decide (x.name=r.name))=true)) (fun O _=>i - (intOf O).toNat)
 case atStart=>exact⟨0,rfl,Nat.zero_le _,Below.refl _ _,by show _=_; simp⟩
 case round=>
  obtain⟨k,rfl,hk,ap,hE⟩:=hrel
  have U:=hide (aN.out.at ap.out)
  have ea:=U.out.b2.cell
  have eb:=U.out.b5.cell
  have aq:=hide (bx.out.trans (ap.out.mono bx.out.size))
  by_cases cO:k<i
  ·obtain⟨x,C⟩:∃x,p.rules[k]?=some x:=⟨_,List.getElem?_eq_getElem (by have:=cB.out; omega)⟩
   obtain⟨b',ed,xc,bA,ef,bB,bC,-⟩:=BU (bP.out.keep (w':=wr) (B':=w.heap.size) (R':=AB wr w.heap.size) (fun _ y=>aq.out.cell y) (fun _ _ h=>h.keep (fun _ y=>aq.out.cell y) (Nat.le_refl _)) (Nat.le_refl _)) C
   have e1:=Option.some.inj bA
   injection e1 with e1 e2 _
   subst e1 e2
   have aa:=bB.is.cells
   simp only [Array.toArray_toList] at aa
   obtain⟨-,-,-,-,-,-,-,-,-,-,-,-,-,-,-,-,⟨-,aa,-⟩,-⟩:=aa
   have cR:=bC 0 _ aa
   simp only [Nat.add_zero] at cR
   have bD:=hide C
   clear bC bB C aa bA
   by_cases ar:x.name=r.name
   ·exfalso
    have h1:=bH.out
    rw [List.any_eq_false] at h1
    refine h1 x (List.mem_of_getElem? (i:=k) ?_) (decide_eq_true ar)
    rw [List.getElem?_take,if_pos cO]
    exact bD.out
   ·have hq:(x.name.toList==r.name.toList)=false:=by rw [CR]; exact decide_eq_false ar
    have cS:=hide (BP (p:=fun x:As=>!decide (x.name=r.name)) bD.out hE.out (by simp [ar]))
    have cT:=hide (ap.out.trans ((Ap wr).mono ap.out.size))
    clear ar
    go_wp2_with fail
    refine Reg.cP [0,1,0,7,15,31,0,64,255] ?_
    go_wp2_with fail
    exact⟨⟨k+1,by go_num,by omega,cT.out,cS.out⟩,by simp [intOf]; omega⟩
  ·clear hE
   have eg:=Am U.out.b2 cq.out
   have eh:=Am U.out.b5 cM.out
   go_wp2_with (first
    | (go_at_call 35; refine(Al _ _ _ _).mono ?_; rintro e w' ⟨rfl,rfl⟩; rw [bd.out])
    | (go_at_call 81; refine Calls.ret (ES U.out.pr U.out.ru cA.out) ?_; rintro v w5 ⟨rfl,aP⟩; rw [aA.out]; have aQ:=hide (U.out.at aP); have ei:=aQ.out.b2.cell; have ej:=aQ.out.b5.cell; have a3:=hide (aq.out.trans (aP.mono aq.out.size)); clear aP))
   obtain⟨ng,aR⟩:∃n,n=r.guards.length:=⟨_,rfl⟩
   have aS:=hide (show ng=0 from by rw [aR,al.out.1]; rfl)
   rw [←aR] at cf
   have ek:¬(2:Int)<(ng:Int):=by have:=aS.out; omega
   have el:ng≤60:=by have:=aS.out; omega
   clear aR
   cases au:inC r.fr 0 ((ns:Int) - 1)
   case false=>
    have M:=hide au
    clear au
    refine(Al _ _ _ _).mono ?_; rintro e w' ⟨rfl,rfl⟩; rw [M.out]; go_wp2_with fail
    go_ret
    exact⟨congrArg (Value.int .i64) (a9.out.trans (by rw [show inN r.fr (ns:Int)=false from M.out]; rfl)).symm,a3.out⟩
   have M:=hide au
   clear au
   refine(Al _ _ _ _).mono ?_; rintro e w' ⟨rfl,rfl⟩; rw [M.out]; go_wp2_with fail
   cases av:inC r.to 0 ((ns:Int) - 1)
   case false=>
    have V:=hide av
    clear av
    refine(Al _ _ _ _).mono ?_; rintro e w' ⟨rfl,rfl⟩; rw [V.out]; go_wp2_with fail
    go_ret
    exact⟨congrArg (Value.int .i64) (a9.out.trans (by rw [show inN r.fr (ns:Int)=true from M.out,show inN r.to (ns:Int)=false from V.out]; rfl)).symm,a3.out⟩
   have V:=hide av
   clear av
   refine(Al _ _ _ _).mono ?_; rintro e w' ⟨rfl,rfl⟩; rw [V.out]; go_wp2_with fail
   cases aw:inC r.pf 0 ((ns:Int) - 1)
   case false=>
    have a5:=hide aw
    clear aw
    refine(Al _ _ _ _).mono ?_; rintro e w' ⟨rfl,rfl⟩; rw [a5.out]; go_wp2_with fail
    go_ret
    exact⟨congrArg (Value.int .i64) (a9.out.trans (by rw [show inN r.fr (ns:Int)=true from M.out,show inN r.to (ns:Int)=true from V.out,show inN r.pf (ns:Int)=false from a5.out]; rfl)).symm,a3.out⟩
   have a5:=hide aw
   clear aw
   refine(Al _ _ _ _).mono ?_; rintro e w' ⟨rfl,rfl⟩; rw [a5.out]; go_wp2_with fail
   cases ax:inC r.pt 0 ((ns:Int) - 1)
   case false=>
    have ab:=hide ax
    clear ax
    refine(Al _ _ _ _).mono ?_; rintro e w' ⟨rfl,rfl⟩; rw [ab.out]; go_wp2_with fail
    go_ret
    exact⟨congrArg (Value.int .i64) (a9.out.trans (by rw [show inN r.fr (ns:Int)=true from M.out,show inN r.to (ns:Int)=true from V.out,show inN r.pf (ns:Int)=true from a5.out,show inN r.pt (ns:Int)=false from ab.out]; rfl)).symm,a3.out⟩
   have ab:=hide ax
   clear ax
   refine(Al _ _ _ _).mono ?_; rintro e w' ⟨rfl,rfl⟩; rw [ab.out]; go_wp2_with fail
   have ay:=hide (show EV=Ac (if p.topo=4 then !inC r.dir 3 4 else !inC r.dir 1 2) 1 from a9.out.trans (by rw [show inN r.fr (ns:Int)=true from M.out,show inN r.to (ns:Int)=true from V.out,show inN r.pf (ns:Int)=true from a5.out,show inN r.pt (ns:Int)=true from ab.out]; rfl))
   go_loopw [10] (fun O wr=>∃(k:Nat),O=.int .i64 (k:Int)∧k≤ng∧Hid (Below w5.heap.size w5 wr)) (fun O _=>ng - (intOf O).toNat)
   case atStart=>exact⟨0,rfl,Nat.zero_le _,Below.refl _ _⟩
   case round=>
    obtain⟨k,rfl,hk,bF⟩:=hrel
    have aT:=hide (aQ.out.at bF.out)
    have em:=aT.out.b2.cell
    have en:=aT.out.b5.cell
    have aU:=hide (a3.out.trans (bF.out.mono a3.out.size))
    by_cases eo:k<ng
    ·exfalso
     have:=aS.out
     omega
    ·go_wp2_with fail
     have cU:=hide (show Aa r.ex (ns:Int)=0 from by rw [al.out.2.1]; rfl)
     refine Calls.ret (cF _ aU.out) ?_; rintro v w7 ⟨rfl,aV⟩; rw [cU.out]; have aW:=hide (aT.out.at aV); have eq:=aW.out.b2.cell; have er:=aW.out.b5.cell; have aX:=hide (aU.out.trans (aV.mono aU.out.size)); clear aV; go_wp2_with fail
     have Y1:(r.rd != -1)=false:=by rw [bt.out.1]; rfl
     have Y2:(r.wr != -1)=false:=by rw [bt.out.2]; rfl
     have cV:=hide (show Aa r.fa (ns:Int)=0 from by rw [al.out.2.2.1]; rfl)
     refine Calls.ret (cG _ aX.out) ?_; rintro v w8 ⟨rfl,aY⟩; rw [cV.out]; have aZ:=hide (aW.out.at aY); have ew:=aZ.out.b2.cell; have ey:=aZ.out.b5.cell; have b0:=hide (aX.out.trans (aY.mono aX.out.size)); clear aY; go_wp2_with fail
     have cW:=hide (show Aa r.send (nm:Int)=0 from by rw [al.out.2.2.2]; rfl)
     refine Calls.ret (cH _ b0.out) ?_; rintro v w9 ⟨rfl,b1⟩; rw [cW.out]; have b3:=hide (aZ.out.at b1); have eA:=b3.out.b2.cell; have eB:=b3.out.b5.cell; have b4:=hide (b0.out.trans (b1.mono b0.out.size)); clear b1; go_wp2_with fail
     have cX:=hide (show Aa r.left (ns:Int)=0 from by rw [am.out.1]; rfl)
     refine Calls.ret (cJ _ b4.out) ?_; rintro v wa ⟨rfl,b6⟩; rw [cX.out]; have b7:=hide (b3.out.at b6); have eE:=b7.out.b2.cell; have eF:=b7.out.b5.cell; have b8:=hide (b4.out.trans (b6.mono b4.out.size)); clear b6; go_wp2_with fail
     have cY:=hide (show Aa r.right (ns:Int)=0 from by rw [am.out.2.1]; rfl)
     refine Calls.ret (cK _ b8.out) ?_; rintro v wb ⟨rfl,b9⟩; rw [cY.out]; have az:=hide (b7.out.at b9); have eH:=az.out.b2.cell; have eI:=az.out.b5.cell; have a6:=hide (b8.out.trans (b9.mono b8.out.size)); clear b9; go_wp2_with fail
     by_cases ht:p.topo=4
     case pos=>
      have G1:(p.topo==4)=true:=by simp [ht]
      have G2:(p.topo != 4)=false:=by simp [ht]
      have HT:=hide ht
      clear ht
      have ba:=hide (show Aa r.parent (ns:Int)=0 from by rw [am.out.2.2]; rfl)
      refine Calls.ret (bu _ a6.out) ?_; rintro v wc ⟨rfl,W⟩; rw [ba.out]; have ae:=hide (az.out.at W); have d2:=ae.out.b2.cell; have d3:=ae.out.b5.cell; have af:=hide (a6.out.trans (W.mono a6.out.size)); clear W; go_wp2_with fail
      cases G:inC r.dir 3 4
      case false=>
       have E:=hide G
       clear G
       refine(Al _ _ _ _).mono ?_; rintro e w' ⟨rfl,rfl⟩; rw [E.out]; go_wp2_with fail
       go_ret
       exact⟨congrArg (Value.int .i64) (ay.out.trans (by rw [if_pos HT.out,E.out]; rfl)).symm,af.out⟩
      have E:=hide G
      clear G
      refine(Al _ _ _ _).mono ?_; rintro e w' ⟨rfl,rfl⟩; rw [E.out]; go_wp2_with fail
      go_ret
      exact⟨congrArg (Value.int .i64) (ay.out.trans (by rw [if_pos HT.out,E.out]; rfl)).symm,af.out⟩
     have G1:(p.topo==4)=false:=by simp [ht]
     have G2:(p.topo != 4)=true:=by simp [ht]
     have HT:=hide ht
     clear ht
     have ba:=hide (show Aa r.parent (ns:Int)=0 from by rw [am.out.2.2]; rfl)
     refine Calls.ret (bu _ a6.out) ?_; rintro v wc ⟨rfl,W⟩; rw [ba.out]; have ae:=hide (az.out.at W); have d2:=ae.out.b2.cell; have d3:=ae.out.b5.cell; have af:=hide (a6.out.trans (W.mono a6.out.size)); clear W; go_wp2_with fail
     cases G:inC r.dir 1 2
     case false=>
      have E:=hide G
      clear G
      refine(Al _ _ _ _).mono ?_; rintro e w' ⟨rfl,rfl⟩; rw [E.out]; go_wp2_with fail
      go_ret
      exact⟨congrArg (Value.int .i64) (ay.out.trans (by rw [if_neg HT.out,E.out]; rfl)).symm,af.out⟩
     have E:=hide G
     clear G
     refine(Al _ _ _ _).mono ?_; rintro e w' ⟨rfl,rfl⟩; rw [E.out]; go_wp2_with fail
     go_ret
     exact⟨congrArg (Value.int .i64) (ay.out.trans (by rw [if_neg HT.out,E.out]; rfl)).symm,af.out⟩
end Go.Proofs.YtlakpndhhelliaaGreatDoor.K
