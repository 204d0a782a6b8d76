/-
  Part CN of a proof.
-/
import Derived.Test.YtlakpndhhelliaaGreatDoorPA
import Derived.Test.YtlakpndhhelliaaGreatDoorCJ
import Derived.Test.YtlakpndhhelliaaGreatDoorCI
set_option maxHeartbeats 16000000
set_option maxRecDepth 100000
set_option linter.unusedVariables false
set_option linter.unusedSimpArgs false
namespace Go.Proofs.YtlakpndhhelliaaGreatDoor.K
open Go.RowKit
attribute [-go_sem] loadCellsFrom storeCells
theorem On {w:World} {cs:List Value} {p:Ao} {r:As} {i:Nat} (h:Ax w w.heap.size cs p) (hr:p.rules[i]?=some r) (hs:r.Small) (dI:r.name.size≤500) (aJ:p.Small) (hT:AL w) (cA:Hid (((p.rules.take i).any fun x=>decide (x.name=r.name))=false)) (bS:Hid (Ab r.name=true)) (bT:Hid (inC r.kind 1 5=true)) (aS:(decide (r.kind≤3) != (p.topo==1))=false) (bf:Hid (BR p.topo r=false)) (ak:r.kind=3):
  Calls Tryz.prog 55 #[.agg cs.toArray,.int .i64 (i:Int)] w (Ret fun v w'=>v=.int .i64 (AW Ab p.topo (p.states.length:Int) (p.messages.length:Int) (p.values.length:Int) false r)∧Below w.heap.size w w'):=by
 obtain⟨A1,c1,A2,c2,A3,c3,A4,c4,A5,c5,A6,c6,A7,c7,bU,dW,dX,bg,cB,cD,dY,dZ,e0,e3,e4,-,-,-,-,-,-,h7,cE⟩:=h.cells
 have cF:=AO hr
 have cG:=aJ.states
 have cH:=aJ.messages
 have cJ:=aJ.values
 have e5:=aJ.rules
 have cK:=hide h7
 obtain⟨w1,e6,aT,bV,cL⟩:=Ag w cs.toArray 27
 have aA:=aT.trans ((Ap w1).mono aT.size)
 have aU:Blk w1.drew w.heap.size 27 cs.toArray:=bV
 obtain⟨b,e7,rc,hA,e8,hC,cO,cQ⟩:=BU (h7.keep (w':=w1.drew) (B':=w.heap.size) (R':=AB w1.drew w.heap.size) (fun _ y=>aA.cell y) (fun _ _ h=>h.keep (fun _ y=>aA.cell y) (Nat.le_refl _)) (Nat.le_refl _)) hr
 obtain⟨w2,cR,aV,bW,cS⟩:=Ag w1.drew rc 48
 have bX:Blk w2 w1.heap.size 48 rc:=bW
 have bi:=Cf w1.drew 48 18 (by kernel_rfl) hC.size hC.one
 rw [cR] at bi
 have cT:∀c:Array Value,c.size=18→(storeCells ⟨w1.heap.size,0,none⟩ rc.toList 0).run Tryz.prog (w1.alloc (.cells c 48)).drew=.ok () w2:=bi
 clear bi
 have bj:=aU.below aV
 have aB:=hide (aA.trans (aV.mono aA.size))
 have bk:=hide (show BM w2 w.heap.size w1.heap.size cs.toArray rc p r from⟨h.keep (fun _ y=>aB.out.cell y) aB.out.size,hC.is.keep (fun _ y=>aV.cell (by show _<w1.heap.size; have:=aT.size; omega)) aB.out.size,bj,bX,hT.below aB.out⟩)
 have bY:=hC.is.cells
 simp only [Array.toArray_toList] at bY
 obtain⟨E1,f1,E2,f2,E3,f3,E4,f4,E5,f5,E6,f6,E7,f7,E8,f8,⟨bZ,ed,ee,ef,eg,eh,ei,d6,d7,ej,ek,el,em,en,eo,ep,eq,er,et⟩,⟨c0,c8,c9,ca,cb,cc,cd,ce⟩⟩:=bY
 have ag:∀{D:Type} {sz:Nat} {enc:D→Nat→Value} {A:Option Addr} {ds:List D},Sl w1.drew w.heap.size sz enc A ds→Sl w w.heap.size sz enc A ds:=fun h=>h.keep (fun _ y=>(aA.cell y).symm) (Nat.le_refl _)
 have d8:=hide (ag c0)
 have eu:=hide (ag c8)
 have d9:=hide (ag c9)
 have da:=hide (ag ca)
 have db:=hide (ag cb)
 have dc:=hide (ag cc)
 have de:=hide (ag cd)
 have df:=hide (ag ce)
 have ev:=aU.cell
 have dg:=hide aU
 have dh:=hide bj
 generalize di:cs.toArray=pc at*
 have dj:=hide bU
 obtain⟨cf,dk,dl,dm,dn,dp,dq,dr⟩:=hs
 have dt:=hide (show r.Small from⟨cf,dk,dl,dm,dn,dp,dq,dr⟩)
 have ew:=hide hr
 have ey:=cE
 have du:=hide (show i<p.rules.length from cF)
 obtain⟨ns,bl⟩:∃n,n=p.states.length:=⟨_,rfl⟩
 obtain⟨nm,bm⟩:∃n,n=p.messages.length:=⟨_,rfl⟩
 obtain⟨nv,bn⟩:∃n,n=p.values.length:=⟨_,rfl⟩
 have ez:=hide (show ns=p.states.length∧nm=p.messages.length∧nv=p.values.length from⟨bl,bm,bn⟩)
 rw [←bl] at bg cG ⊢
 rw [←bm] at cB cH ⊢
 rw [←bn] at cD cJ ⊢
 obtain⟨EV,cg⟩:∃e,Hid (AW Ab p.topo (ns:Int) (nm:Int) (nv:Int) false r=e):=⟨_,rfl⟩
 rw [cg.out]
 subst hA
 clear cO hC cL cS aT aV aA bV bW bX aU bj bU di hr h h7 bl bm bn hT aJ c0 c8 c9 ca cb cc cd ce ag
 have dv:=hide (show KOK Ab p.topo r from⟨bS.out,bT.out,aS,bf.out⟩)
 have ch:=hide (CX bf.out)
 have aW:=hide (cg.out.symm.trans (MZ dv.out ak))
 have q1:(r.kind==1)=false:=by rw [ak]; rfl
 have q2:(r.kind==2)=false:=by rw [ak]; rfl
 have q3:(r.kind==3)=true:=by rw [ak]; rfl
 have q4:(r.kind==4)=false:=by rw [ak]; rfl
 have q5:(r.kind==5)=false:=by rw [ak]; rfl
 have ci:=hide ak
 clear ak
 have af:=hide (show r.guards=[]∧r.ex=[]∧r.fa=[]∧r.send=[] from ch.out.g (by rw [ci.out]; decide))
 have a6:=hide (show r.left=[]∧r.right=[]∧r.parent=[] from ch.out.l (by rw [ci.out]; decide))
 have dw:∀f,Below w.heap.size w f→Calls Tryz.prog 33 #[.slice E3 r.ex.length f3,.int .i64 (ns:Int)] f (Ret fun v w'=>v=.int .i64 (Aa r.ex (ns:Int))∧Below f.heap.size f w'):=fun f C=>AU (by omega) (d9.out.keep (fun _ y=>C.cell y) C.size)
 have aX:∀f,Below w.heap.size w f→Calls Tryz.prog 33 #[.slice E4 r.fa.length f4,.int .i64 (ns:Int)] f (Ret fun v w'=>v=.int .i64 (Aa r.fa (ns:Int))∧Below f.heap.size f w'):=fun f C=>AU (by omega) (da.out.keep (fun _ y=>C.cell y) C.size)
 have aY:∀f,Below w.heap.size w f→Calls Tryz.prog 33 #[.slice E5 r.send.length f5,.int .i64 (nm:Int)] f (Ret fun v w'=>v=.int .i64 (Aa r.send (nm:Int))∧Below f.heap.size f w'):=fun f C=>AU (by omega) (db.out.keep (fun _ y=>C.cell y) C.size)
 have aZ:∀f,Below w.heap.size w f→Calls Tryz.prog 33 #[.slice E6 r.left.length f6,.int .i64 (ns:Int)] f (Ret fun v w'=>v=.int .i64 (Aa r.left (ns:Int))∧Below f.heap.size f w'):=fun f C=>AU (by omega) (dc.out.keep (fun _ y=>C.cell y) C.size)
 have b0:∀f,Below w.heap.size w f→Calls Tryz.prog 33 #[.slice E7 r.right.length f7,.int .i64 (ns:Int)] f (Ret fun v w'=>v=.int .i64 (Aa r.right (ns:Int))∧Below f.heap.size f w'):=fun f C=>AU (by omega) (de.out.keep (fun _ y=>C.cell y) C.size)
 have b1:∀f,Below w.heap.size w f→Calls Tryz.prog 33 #[.slice E8 r.parent.length f8,.int .i64 (ns:Int)] f (Ret fun v w'=>v=.int .i64 (Aa r.parent (ns:Int))∧Below f.heap.size f w'):=fun f C=>AU (by omega) (df.out.keep (fun _ y=>C.cell y) C.size)
 have eG:decide (r.kind≤3)=(p.topo==1):=by cases F:decide (r.kind≤3) <;> cases h2:(p.topo==1) <;> simp [F,h2] at aS ⊢
 have eH:=hide aS
 clear aS
 go_enter Tryz.func55,Tryz.ntmps55
 go_wp2_with fail
 refine Reg.cI [0,1,0,7,15,0,32,96,0,287,1023] [0,1,2,3,4,5,6,7,8,9,10] ?_
 refine Reg.wI [0,1,2,3,4,5,6,7,8] [9,10] rfl fun Qf al=>?_
 go_wp2_with fail
 first | refine al _ _ ⟨rfl,?_⟩ | refine⟨rfl,?_⟩ | refine al _ _ ⟨by simp [Reg.fineT,Reg.intOp,Region.wanted,yielded,Reg.intFine,Reg.isInt,Act.eval],?_⟩
 try clear al
 refine Reg.aI 9 [10] [6] rfl fun Qf al=>?_
 simp only [gT,gS,gZ]
 go_wp2_with fail
 first | refine al _ _ ⟨?_,?_⟩ | refine⟨?_,?_⟩
 ·intro z hz q hq
  simp only [List.mem_cons,List.not_mem_nil,or_false] at hz
  subst hz
  injection hq with hq
  subst hq
  exact Reg.same_load1 rfl rfl (((dg.out.kept ((Ae.refl _ (fun _=>False)).alloc _) id).cell 2).trans bg) ((dh.out.cell 2).trans bg) Tryz.underlying22 rfl
 try clear al
 refine Reg.wI [10] [] rfl fun Qf al=>?_
 go_wp2_with fail
 first | refine al _ _ ⟨rfl,?_⟩ | refine⟨rfl,?_⟩ | refine al _ _ ⟨by simp [Reg.fineT,Reg.intOp,Region.wanted,yielded,Reg.intFine,Reg.isInt,Act.eval],?_⟩
 try clear al
 first | refine Reg.restI_end ?_ | skip
 have dx:=hide bZ
 clear bZ cT cQ
 have eI:=bk.out.b2.cell
 have eJ:=bk.out.b5.cell
 go_wp2_with fail
 go_wp2_with (go_at_call 32; refine Calls.ret (BK r.name _ (by omega)) ?_; rintro v w3 ⟨rfl,bo⟩; rw [bS.out]; have bp:=hide (bk.out.at bo); have eK:=bp.out.b2.cell; have eL:=bp.out.b5.cell; have cm:=hide (aB.out.trans (bo.mono aB.out.size)); clear bo)
 go_loopw [7] (fun ii wr=>∃(k:Nat),ii=.int .i64 (k:Int)∧k≤i∧Hid (Below w3.heap.size w3 wr)∧Hid ((p.rules.take k).all (fun x=>!decide (x.name=r.name))=true)) (fun ii _=>i - (intOf ii).toNat)
 case atStart=>exact⟨0,rfl,Nat.zero_le _,Below.refl _ _,by show _=_; simp⟩
 case round=>
  obtain⟨k,rfl,hk,b6,hE⟩:=hrel
  have an:=hide (bp.out.at b6.out)
  have eM:=an.out.b2.cell
  have eN:=an.out.b5.cell
  have b7:=hide (cm.out.trans (b6.out.mono cm.out.size))
  by_cases dy:k<i
  ·obtain⟨x,C⟩:∃x,p.rules[k]?=some x:=⟨_,List.getElem?_eq_getElem (by have:=du.out; omega)⟩
   obtain⟨b',eP,xc,co,eR,cp,cq,-⟩:=BU (cK.out.keep (w':=wr) (B':=w.heap.size) (R':=AB wr w.heap.size) (fun _ y=>b7.out.cell y) (fun _ _ h=>h.keep (fun _ y=>b7.out.cell y) (Nat.le_refl _)) (Nat.le_refl _)) C
   have e1:=Option.some.inj co
   injection e1 with e1 e2 _
   subst e1 e2
   have aM:=cp.is.cells
   simp only [Array.toArray_toList] at aM
   obtain⟨-,-,-,-,-,-,-,-,-,-,-,-,-,-,-,-,⟨-,aM,-⟩,-⟩:=aM
   have dA:=cq 0 _ aM
   simp only [Nat.add_zero] at dA
   have cr:=hide C
   clear cq cp C aM co
   by_cases b8:x.name=r.name
   ·exfalso
    have F:=cA.out
    rw [List.any_eq_false] at F
    refine F x (List.mem_of_getElem? (i:=k) ?_) (decide_eq_true b8)
    rw [List.getElem?_take,if_pos dy]
    exact cr.out
   ·have hq:(x.name.toList==r.name.toList)=false:=by rw [CR]; exact decide_eq_false b8
    have br:=hide (BP (p:=fun x:As=>!decide (x.name=r.name)) cr.out hE.out (by simp [b8]))
    have dB:=hide (b6.out.trans ((Ap wr).mono b6.out.size))
    clear b8
    go_wp2_with fail
    refine Reg.cP [0,1,0,7,15,31,0,64,255] ?_
    go_wp2_with fail
    exact⟨⟨k+1,by go_num,by omega,dB.out,br.out⟩,by simp [intOf]; omega⟩
  ·clear hE
   have eS:=Am an.out.b2 dj.out
   have eT:=Am an.out.b5 dx.out
   go_wp2_with (first
    | (go_at_call 35; refine(Al _ _ _ _).mono ?_; rintro e w' ⟨rfl,rfl⟩; rw [bT.out])
    | (go_at_call 81; refine Calls.ret (ES an.out.pr an.out.ru dt.out) ?_; rintro v w5 ⟨rfl,bs⟩; rw [bf.out]; have bt:=hide (an.out.at bs); have eU:=bt.out.b2.cell; have eV:=bt.out.b5.cell; have ao:=hide (b7.out.trans (bs.mono b7.out.size)); clear bs))
   obtain⟨ng,bu⟩:∃n,n=r.guards.length:=⟨_,rfl⟩
   have bv:=hide (show ng=0 from by rw [bu,af.out.1]; rfl)
   rw [←bu] at d7
   have eW:¬(2:Int)<(ng:Int):=by have:=bv.out; omega
   have eX:ng≤60:=by have:=bv.out; omega
   clear bu
   obtain⟨nq,bw⟩:∃n,n=r.resp.length:=⟨_,rfl⟩
   rw [←bw] at d6 cf
   have ba:=hide bw
   clear bw
   cases bb:inC r.fr 0 ((ns:Int) - 1)
   case false=>
    have ap:=hide bb
    clear bb
    refine(Al _ _ _ _).mono ?_; rintro e w' ⟨rfl,rfl⟩; rw [ap.out]; go_wp2_with fail
    go_ret
    exact⟨congrArg (Value.int .i64) (aW.out.trans (by rw [show inN r.fr (ns:Int)=false from ap.out]; rfl)).symm,ao.out⟩
   have ap:=hide bb
   clear bb
   refine(Al _ _ _ _).mono ?_; rintro e w' ⟨rfl,rfl⟩; rw [ap.out]; go_wp2_with fail
   cases bc:inC r.to 0 ((ns:Int) - 1)
   case false=>
    have aq:=hide bc
    clear bc
    refine(Al _ _ _ _).mono ?_; rintro e w' ⟨rfl,rfl⟩; rw [aq.out]; go_wp2_with fail
    go_ret
    exact⟨congrArg (Value.int .i64) (aW.out.trans (by rw [show inN r.fr (ns:Int)=true from ap.out,show inN r.to (ns:Int)=false from aq.out]; rfl)).symm,ao.out⟩
   have aq:=hide bc
   clear bc
   by_cases aO:nq=ns
   case neg=>
    have Q0:((nq:Int) != (ns:Int))=true:=by
     have:((nq:Int)==(ns:Int))=false:=by
      simp
      omega
     simp [bne,this]
    have HL:=hide aO
    clear aO
    refine(Al _ _ _ _).mono ?_; rintro e w' ⟨rfl,rfl⟩; rw [aq.out]; go_wp2_with fail
    go_ret
    exact⟨congrArg (Value.int .i64) (aW.out.trans (by rw [show inN r.fr (ns:Int)=true from ap.out,show inN r.to (ns:Int)=true from aq.out,show CL (ns:Int) r.resp=1 from if_pos (by have F:=HL.out; have h2:=ba.out; omega)]; rfl)).symm,ao.out⟩
   have Q0:((nq:Int) != (ns:Int))=false:=by simp [aO]
   have HL:=hide aO
   clear aO
   refine(Al _ _ _ _).mono ?_; rintro e w' ⟨rfl,rfl⟩; rw [aq.out]; go_wp2_with fail
   have ct:=hide (show EV=orE (CL (ns:Int) r.resp) (Ac (!AF r.rd (nv:Int)||!AF r.wr (nv:Int)) 5) from aW.out.trans (by rw [show inN r.fr (ns:Int)=true from ap.out,show inN r.to (ns:Int)=true from aq.out]; rfl))
   have cu:=hide (show CL (ns:Int) r.resp=Ah (fun x=>Ac (!inE x (ns:Int)) 5) r.resp from if_neg (by have F:=HL.out; have h2:=ba.out; omega))
   go_loopw [9] (fun ii wr=>∃(k:Nat),ii=.int .i64 (k:Int)∧k≤ns∧w5=wr∧Hid (Ah (fun x=>Ac (!inE x (ns:Int)) 5) (r.resp.take k)=0)) (fun ii _=>ns - (intOf ii).toNat)
   case atStart=>exact⟨0,rfl,Nat.zero_le _,(by first | rfl | trivial),by show _=_; rfl⟩
   case round=>
    obtain⟨k3,rfl,eY,rfl,bd⟩:=hrel
    by_cases eZ:k3<ns
    ·obtain⟨b3,f0,x,dD,f9,cv,cw⟩:=(d8.out.keep (w':=w5) (B':=w.heap.size) (fun _ y=>ao.out.cell y) (Nat.le_refl _)).at (k:=k3) (by have F:=HL.out; have h2:=ba.out; omega)
     have d3:=cw 0 (by omega)
     simp only [Nat.add_zero,Nat.mul_one,Ai] at d3
     have cx:=hide cv
     have fb:k3<nq:=by have F:=HL.out; omega
     subst dD
     clear cw cv
     go_wp2_with fail
     cases be:inC x 0 ((ns:Int) - 1)
     ·have aQ:=hide be
      clear be
      have dF:=hide (show CL (ns:Int) r.resp=5 from by
       have F:Ac (!inE x (ns:Int)) 5=5:=by rw [CJ,aQ.out]; rfl
       rw [cu.out,Cd (fun x=>Ac (!inE x (ns:Int)) 5) cx.out bd.out (by rw [F]; decide),F])
      refine(Al _ _ _ _).mono ?_; rintro e w' ⟨rfl,rfl⟩; rw [aQ.out]; go_wp2_with fail
      go_ret
      exact⟨congrArg (Value.int .i64) (ct.out.trans (by rw [dF.out]; rfl)).symm,ao.out⟩
     ·have aQ:=hide be
      clear be
      have br:=hide (show Ah (fun x=>Ac (!inE x (ns:Int)) 5) (r.resp.take (k3+1))=0 from by
       rw [Cq (fun x=>Ac (!inE x (ns:Int)) 5) cx.out bd.out,CJ,aQ.out]
       rfl)
      refine(Al _ _ _ _).mono ?_; rintro e w' ⟨rfl,rfl⟩; rw [aQ.out]; go_wp2_with fail
      exact⟨⟨k3+1,by go_num,by omega,(by first | rfl | trivial),br.out⟩,by simp [intOf]; omega⟩
    ·have am:=hide (show EV=Ac (!AF r.rd (nv:Int)||!AF r.wr (nv:Int)) 5 from ct.out.trans (by
      have F:=bd.out
      rw [List.take_of_length_le (by have F:=HL.out; have h2:=ba.out; omega)] at F
      rw [cu.out,F]
      rfl))
     clear bd
     go_wp2_with fail
     go_loopw [10] (fun ii wr=>∃(k:Nat),ii=.int .i64 (k:Int)∧k≤ng∧Hid (Below w5.heap.size w5 wr)) (fun ii _=>ng - (intOf ii).toNat)
     case atStart=>exact⟨0,rfl,Nat.zero_le _,Below.refl _ _⟩
     case round=>
      obtain⟨k,rfl,hk,cy⟩:=hrel
      have bx:=hide (bt.out.at cy.out)
      have fc:=bx.out.b2.cell
      have fd:=bx.out.b5.cell
      have bz:=hide (ao.out.trans (cy.out.mono ao.out.size))
      by_cases fe:k<ng
      ·exfalso
       have:=bv.out
       omega
      ·go_wp2_with fail
       have dG:=hide (show Aa r.ex (ns:Int)=0 from by rw [af.out.2.1]; rfl)
       refine Calls.ret (dw _ bz.out) ?_; rintro v w7 ⟨rfl,bA⟩; rw [dG.out]; have aF:=hide (bx.out.at bA); have fg:=aF.out.b2.cell; have fh:=aF.out.b5.cell; have a7:=hide (bz.out.trans (bA.mono bz.out.size)); clear bA; go_wp2_with fail
       by_cases aG:r.rd= -1
       case pos=>
        have dH:(r.rd != -1)=false:=by simp [aG]
        have aH:=hide aG
        clear aG
        have V1:=hide (show AF r.rd (nv:Int)=true from by rw [aH.out]; exact Dm (by omega))
        by_cases a5:r.wr= -1
        case pos=>
         have bB:(r.wr != -1)=false:=by simp [a5]
         have ah:=hide a5
         clear a5
         have V2:=hide (show AF r.wr (nv:Int)=true from by rw [ah.out]; exact Dm (by omega))
         have ar:=hide (show Aa r.fa (ns:Int)=0 from by rw [af.out.2.2.1]; rfl)
         refine Calls.ret (aX _ a7.out) ?_; rintro v w8 ⟨rfl,G⟩; rw [ar.out]; have I:=hide (aF.out.at G); have bD:=I.out.b2.cell; have bE:=I.out.b5.cell; have E:=hide (a7.out.trans (G.mono a7.out.size)); clear G; go_wp2_with fail
         have au:=hide (show EV=0 from am.out.trans (by rw [V1.out,V2.out]; rfl))
         have av:=hide (show Aa r.send (nm:Int)=0 from by rw [af.out.2.2.2]; rfl)
         refine Calls.ret (aY _ E.out) ?_; rintro v w9 ⟨rfl,J⟩; rw [av.out]; have M:=hide (I.out.at J); have bG:=M.out.b2.cell; have bH:=M.out.b5.cell; have O:=hide (E.out.trans (J.mono E.out.size)); clear J; go_wp2_with fail
         have aw:=hide (show Aa r.left (ns:Int)=0 from by rw [a6.out.1]; rfl)
         refine Calls.ret (aZ _ O.out) ?_; rintro v wa ⟨rfl,U⟩; rw [aw.out]; have V:=hide (M.out.at U); have bJ:=V.out.b2.cell; have bK:=V.out.b5.cell; have W:=hide (O.out.trans (U.mono O.out.size)); clear U; go_wp2_with fail
         have ax:=hide (show Aa r.right (ns:Int)=0 from by rw [a6.out.2.1]; rfl)
         refine Calls.ret (b0 _ W.out) ?_; rintro v wb ⟨rfl,Z⟩; rw [ax.out]; have a2:=hide (V.out.at Z); have bM:=a2.out.b2.cell; have bN:=a2.out.b5.cell; have a3:=hide (W.out.trans (Z.mono W.out.size)); clear Z; go_wp2_with fail
         have ay:=hide (show Aa r.parent (ns:Int)=0 from by rw [a6.out.2.2]; rfl)
         refine Calls.ret (b1 _ a3.out) ?_; rintro v wc ⟨rfl,a4⟩; rw [ay.out]; have ab:=hide (a2.out.at a4); have bP:=ab.out.b2.cell; have bQ:=ab.out.b5.cell; have az:=hide (a3.out.trans (a4.mono a3.out.size)); clear a4; go_wp2_with fail
         go_ret
         exact⟨congrArg (Value.int .i64) (au.out).symm,az.out⟩
        have bB:(r.wr != -1)=true:=by simp [a5]
        have ah:=hide a5
        clear a5
        have ar:=hide (show Aa r.fa (ns:Int)=0 from by rw [af.out.2.2.1]; rfl)
        refine Calls.ret (aX _ a7.out) ?_; rintro v w8 ⟨rfl,G⟩; rw [ar.out]; have I:=hide (aF.out.at G); have bD:=I.out.b2.cell; have bE:=I.out.b5.cell; have E:=hide (a7.out.trans (G.mono a7.out.size)); clear G; go_wp2_with fail
        cases ai:inC r.wr 0 ((nv:Int) - 1)
        case false=>
         have ad:=hide ai
         clear ai
         have V2:=hide (show AF r.wr (nv:Int)=false from(BV ah.out).trans ad.out)
         refine(Al _ _ _ _).mono ?_; rintro e w' ⟨rfl,rfl⟩; rw [ad.out]; go_wp2_with fail
         go_ret
         exact⟨congrArg (Value.int .i64) (am.out.trans (by rw [V1.out,V2.out]; rfl)).symm,E.out⟩
        have ad:=hide ai
        clear ai
        have V2:=hide (show AF r.wr (nv:Int)=true from(BV ah.out).trans ad.out)
        refine(Al _ _ _ _).mono ?_; rintro e w' ⟨rfl,rfl⟩; rw [ad.out]; go_wp2_with fail
        have au:=hide (show EV=0 from am.out.trans (by rw [V1.out,V2.out]; rfl))
        have av:=hide (show Aa r.send (nm:Int)=0 from by rw [af.out.2.2.2]; rfl)
        refine Calls.ret (aY _ E.out) ?_; rintro v w9 ⟨rfl,J⟩; rw [av.out]; have M:=hide (I.out.at J); have bG:=M.out.b2.cell; have bH:=M.out.b5.cell; have O:=hide (E.out.trans (J.mono E.out.size)); clear J; go_wp2_with fail
        have aw:=hide (show Aa r.left (ns:Int)=0 from by rw [a6.out.1]; rfl)
        refine Calls.ret (aZ _ O.out) ?_; rintro v wa ⟨rfl,U⟩; rw [aw.out]; have V:=hide (M.out.at U); have bJ:=V.out.b2.cell; have bK:=V.out.b5.cell; have W:=hide (O.out.trans (U.mono O.out.size)); clear U; go_wp2_with fail
        have ax:=hide (show Aa r.right (ns:Int)=0 from by rw [a6.out.2.1]; rfl)
        refine Calls.ret (b0 _ W.out) ?_; rintro v wb ⟨rfl,Z⟩; rw [ax.out]; have a2:=hide (V.out.at Z); have bM:=a2.out.b2.cell; have bN:=a2.out.b5.cell; have a3:=hide (W.out.trans (Z.mono W.out.size)); clear Z; go_wp2_with fail
        have ay:=hide (show Aa r.parent (ns:Int)=0 from by rw [a6.out.2.2]; rfl)
        refine Calls.ret (b1 _ a3.out) ?_; rintro v wc ⟨rfl,a4⟩; rw [ay.out]; have ab:=hide (a2.out.at a4); have bP:=ab.out.b2.cell; have bQ:=ab.out.b5.cell; have az:=hide (a3.out.trans (a4.mono a3.out.size)); clear a4; go_wp2_with fail
        go_ret
        exact⟨congrArg (Value.int .i64) (au.out).symm,az.out⟩
       have dH:(r.rd != -1)=true:=by simp [aG]
       have aH:=hide aG
       clear aG
       by_cases a5:r.wr= -1
       case pos=>
        have bB:(r.wr != -1)=false:=by simp [a5]
        have ah:=hide a5
        clear a5
        have V2:=hide (show AF r.wr (nv:Int)=true from by rw [ah.out]; exact Dm (by omega))
        have ar:=hide (show Aa r.fa (ns:Int)=0 from by rw [af.out.2.2.1]; rfl)
        refine Calls.ret (aX _ a7.out) ?_; rintro v w8 ⟨rfl,G⟩; rw [ar.out]; have I:=hide (aF.out.at G); have bD:=I.out.b2.cell; have bE:=I.out.b5.cell; have E:=hide (a7.out.trans (G.mono a7.out.size)); clear G; go_wp2_with fail
        cases aj:inC r.rd 0 ((nv:Int) - 1)
        case false=>
         have ae:=hide aj
         clear aj
         have V1:=hide (show AF r.rd (nv:Int)=false from(BV aH.out).trans ae.out)
         refine(Al _ _ _ _).mono ?_; rintro e w' ⟨rfl,rfl⟩; rw [ae.out]; go_wp2_with fail
         go_ret
         exact⟨congrArg (Value.int .i64) (am.out.trans (by rw [V1.out]; rfl)).symm,E.out⟩
        have ae:=hide aj
        clear aj
        have V1:=hide (show AF r.rd (nv:Int)=true from(BV aH.out).trans ae.out)
        refine(Al _ _ _ _).mono ?_; rintro e w' ⟨rfl,rfl⟩; rw [ae.out]; go_wp2_with fail
        have au:=hide (show EV=0 from am.out.trans (by rw [V1.out,V2.out]; rfl))
        have av:=hide (show Aa r.send (nm:Int)=0 from by rw [af.out.2.2.2]; rfl)
        refine Calls.ret (aY _ E.out) ?_; rintro v w9 ⟨rfl,J⟩; rw [av.out]; have M:=hide (I.out.at J); have bG:=M.out.b2.cell; have bH:=M.out.b5.cell; have O:=hide (E.out.trans (J.mono E.out.size)); clear J; go_wp2_with fail
        have aw:=hide (show Aa r.left (ns:Int)=0 from by rw [a6.out.1]; rfl)
        refine Calls.ret (aZ _ O.out) ?_; rintro v wa ⟨rfl,U⟩; rw [aw.out]; have V:=hide (M.out.at U); have bJ:=V.out.b2.cell; have bK:=V.out.b5.cell; have W:=hide (O.out.trans (U.mono O.out.size)); clear U; go_wp2_with fail
        have ax:=hide (show Aa r.right (ns:Int)=0 from by rw [a6.out.2.1]; rfl)
        refine Calls.ret (b0 _ W.out) ?_; rintro v wb ⟨rfl,Z⟩; rw [ax.out]; have a2:=hide (V.out.at Z); have bM:=a2.out.b2.cell; have bN:=a2.out.b5.cell; have a3:=hide (W.out.trans (Z.mono W.out.size)); clear Z; go_wp2_with fail
        have ay:=hide (show Aa r.parent (ns:Int)=0 from by rw [a6.out.2.2]; rfl)
        refine Calls.ret (b1 _ a3.out) ?_; rintro v wc ⟨rfl,a4⟩; rw [ay.out]; have ab:=hide (a2.out.at a4); have bP:=ab.out.b2.cell; have bQ:=ab.out.b5.cell; have az:=hide (a3.out.trans (a4.mono a3.out.size)); clear a4; go_wp2_with fail
        go_ret
        exact⟨congrArg (Value.int .i64) (au.out).symm,az.out⟩
       have bB:(r.wr != -1)=true:=by simp [a5]
       have ah:=hide a5
       clear a5
       have ar:=hide (show Aa r.fa (ns:Int)=0 from by rw [af.out.2.2.1]; rfl)
       refine Calls.ret (aX _ a7.out) ?_; rintro v w8 ⟨rfl,G⟩; rw [ar.out]; have I:=hide (aF.out.at G); have bD:=I.out.b2.cell; have bE:=I.out.b5.cell; have E:=hide (a7.out.trans (G.mono a7.out.size)); clear G; go_wp2_with fail
       cases aj:inC r.rd 0 ((nv:Int) - 1)
       case false=>
        have ae:=hide aj
        clear aj
        have V1:=hide (show AF r.rd (nv:Int)=false from(BV aH.out).trans ae.out)
        refine(Al _ _ _ _).mono ?_; rintro e w' ⟨rfl,rfl⟩; rw [ae.out]; go_wp2_with fail
        go_ret
        exact⟨congrArg (Value.int .i64) (am.out.trans (by rw [V1.out]; rfl)).symm,E.out⟩
       have ae:=hide aj
       clear aj
       have V1:=hide (show AF r.rd (nv:Int)=true from(BV aH.out).trans ae.out)
       refine(Al _ _ _ _).mono ?_; rintro e w' ⟨rfl,rfl⟩; rw [ae.out]; go_wp2_with fail
       cases ai:inC r.wr 0 ((nv:Int) - 1)
       case false=>
        have ad:=hide ai
        clear ai
        have V2:=hide (show AF r.wr (nv:Int)=false from(BV ah.out).trans ad.out)
        refine(Al _ _ _ _).mono ?_; rintro e w' ⟨rfl,rfl⟩; rw [ad.out]; go_wp2_with fail
        go_ret
        exact⟨congrArg (Value.int .i64) (am.out.trans (by rw [V1.out,V2.out]; rfl)).symm,E.out⟩
       have ad:=hide ai
       clear ai
       have V2:=hide (show AF r.wr (nv:Int)=true from(BV ah.out).trans ad.out)
       refine(Al _ _ _ _).mono ?_; rintro e w' ⟨rfl,rfl⟩; rw [ad.out]; go_wp2_with fail
       have au:=hide (show EV=0 from am.out.trans (by rw [V1.out,V2.out]; rfl))
       have av:=hide (show Aa r.send (nm:Int)=0 from by rw [af.out.2.2.2]; rfl)
       refine Calls.ret (aY _ E.out) ?_; rintro v w9 ⟨rfl,J⟩; rw [av.out]; have M:=hide (I.out.at J); have bG:=M.out.b2.cell; have bH:=M.out.b5.cell; have O:=hide (E.out.trans (J.mono E.out.size)); clear J; go_wp2_with fail
       have aw:=hide (show Aa r.left (ns:Int)=0 from by rw [a6.out.1]; rfl)
       refine Calls.ret (aZ _ O.out) ?_; rintro v wa ⟨rfl,U⟩; rw [aw.out]; have V:=hide (M.out.at U); have bJ:=V.out.b2.cell; have bK:=V.out.b5.cell; have W:=hide (O.out.trans (U.mono O.out.size)); clear U; go_wp2_with fail
       have ax:=hide (show Aa r.right (ns:Int)=0 from by rw [a6.out.2.1]; rfl)
       refine Calls.ret (b0 _ W.out) ?_; rintro v wb ⟨rfl,Z⟩; rw [ax.out]; have a2:=hide (V.out.at Z); have bM:=a2.out.b2.cell; have bN:=a2.out.b5.cell; have a3:=hide (W.out.trans (Z.mono W.out.size)); clear Z; go_wp2_with fail
       have ay:=hide (show Aa r.parent (ns:Int)=0 from by rw [a6.out.2.2]; rfl)
       refine Calls.ret (b1 _ a3.out) ?_; rintro v wc ⟨rfl,a4⟩; rw [ay.out]; have ab:=hide (a2.out.at a4); have bP:=ab.out.b2.cell; have bQ:=ab.out.b5.cell; have az:=hide (a3.out.trans (a4.mono a3.out.size)); clear a4; go_wp2_with fail
       go_ret
       exact⟨congrArg (Value.int .i64) (au.out).symm,az.out⟩
end Go.Proofs.YtlakpndhhelliaaGreatDoor.K
