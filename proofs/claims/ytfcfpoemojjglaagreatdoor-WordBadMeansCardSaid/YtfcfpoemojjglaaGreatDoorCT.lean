/-
  Part CT of a proof.
-/
import Derived.Test.YtfcfpoemojjglaaGreatDoorPA
import Derived.Test.YtfcfpoemojjglaaGreatDoorCS
set_option maxHeartbeats 16000000
set_option maxRecDepth 100000
set_option linter.unusedVariables false
set_option linter.unusedSimpArgs false
namespace Go.Proofs.YtfcfpoemojjglaaGreatDoor.K
open Go.RowKit
attribute [-go_sem] loadCellsFrom storeCells
theorem Sy {w:World} {cs ds:List Value} {p:Am} {q:AB} (h:At w w.heap.size cs p) (h':Ba w w.heap.size ds q) (bZ:p.Small) (c0:q.Small) (hT:SpOK w) (bH:Hid (protE nameOK p=0)) (bq:Hid (nameOK q.name=true)) (ba:Hid (q.kind=1)):
  Calls Tryz.prog 48 #[.agg cs.toArray,.agg ds.toArray] w (Ret fun v w'=>v=.int .i64 (propE nameOK p q)∧Below w.heap.size w w'):=by
 obtain⟨w1,w2,A1,c1,A5,c5,B1,d1,B2,d2,B3,d3,B4,d4,ns,ni,nt,nb,C,ng,kq,H⟩:=Dj h h' bZ c0 hT
 generalize cs.toArray=pc at*
 generalize ds.toArray=qc at*
 clear h h' bZ c0 hT
 obtain⟨cy,c3,d6,cq⟩:=Gc H
 obtain⟨du,dv,bX,dr,b1,z,dt,⟨cT,ce,bS,bT,cS⟩,cv,⟨dg,d9,da,db,dc,de,df⟩,⟨dh,di,dj⟩,dk,dl,dm,dn,dp,dq⟩:=H
 have cV:=b1.out.b2.cell
 have cY:=b1.out.b3.cell
 have d7:=Ah b1.out.b2 cv.out
 have cz:(kq != 1)=false:=by rw [z.out.2.2.2.2.2.2,ba.out]; rfl
 have cA:(kq==1)=true:=by rw [z.out.2.2.2.2.2.2,ba.out]; rfl
 have dw:(kq==2)=false:=by rw [z.out.2.2.2.2.2.2,ba.out]; rfl
 go_enter Tryz.func48,Tryz.ntmps48
 go_wp2_with fail
 refine Calls.ret (cy _ b1) ?_; rintro v w3 ⟨rfl,bG⟩; rw [bH.out]; have bk:=hide (b1.out.at bG); have cW:=bk.out.b2.cell; have cZ:=bk.out.b3.cell; have bm:=hide (bX.out.trans (bG.mono bX.out.size)); clear bG; go_wp2_with fail
 by_cases cr:(0:Int)<(ng:Int)
 case pos=>
  refine Calls.ret (Cm q.name _ (by omega)) ?_; rintro v w4 ⟨rfl,aG⟩; rw [bq.out]; have aF:=hide (bk.out.at aG); have cj:=aF.out.b2.cell; have cn:=aF.out.b3.cell; have ay:=hide (bm.out.trans (aG.mono bm.out.size)); clear aG; go_wp2_with fail
  go_ret
  exact⟨congrArg (Value.int .i64) (Kv bH.out bq.out ba.out (by have:=z.out.2.2.2.2.2.1; omega)).symm,ay.out⟩
 have hV:=hide (HZ bH.out bq.out ba.out (by have:=z.out.2.2.2.2.2.1; omega))
 refine Calls.ret (Cm q.name _ (by omega)) ?_; rintro v w4 ⟨rfl,aG⟩; rw [bq.out]; have aF:=hide (bk.out.at aG); have cj:=aF.out.b2.cell; have cn:=aF.out.b3.cell; have ay:=hide (bm.out.trans (aG.mono bm.out.size)); clear aG; go_wp2_with fail
 clear cr cz cA
 obtain⟨e6,bp⟩:∃e,Hid (setE q.start (ns:Int)=e):=⟨_,rfl⟩
 by_cases aQ:e6=0
 case neg=>
  have Q6:(e6 != 0)=true:=by simp [aQ]
  have H6:=hide aQ
  clear aQ
  refine Calls.ret (c3 _ ay.out) ?_; rintro v w5 ⟨rfl,aH⟩; rw [bp.out]; have aR:=hide (aF.out.at aH); have ck:=aR.out.b2.cell; have co:=aR.out.b3.cell; have bn:=hide (ay.out.trans (aH.mono ay.out.size)); clear aH; go_wp2_with fail
  go_ret
  exact⟨congrArg (Value.int .i64) (hV.out.trans (by rw [←z.out.1,bp.out]; exact BF H6.out)).symm,bn.out⟩
 have Q6:(e6 != 0)=false:=by simp [aQ]
 have H6:=hide aQ
 clear aQ
 have hR:=hide (show propE nameOK p q=orE (Ad (!CF p q) 5) (DL p q) from hV.out.trans (by rw [←z.out.1,bp.out,H6.out]; rfl))
 refine Calls.ret (c3 _ ay.out) ?_; rintro v w5 ⟨rfl,aH⟩; rw [bp.out]; have aR:=hide (aF.out.at aH); have ck:=aR.out.b2.cell; have co:=aR.out.b3.cell; have bn:=hide (ay.out.trans (aH.mono ay.out.size)); clear aH; go_wp2_with fail
 clear Q6
 go_loopw [8] (fun I wr=>∃(k:Nat),I=.int .i64 (k:Int)∧k≤nt∧Hid (Below w5.heap.size w5 wr)∧Hid ((q.start.take k).all (fun x=>decide (x∈p.initial))=true)) (fun I _=>nt - (intOf I).toNat)
 case atStart=>exact⟨0,rfl,Nat.zero_le _,Below.refl _ _,by show _=_; simp⟩
 case round=>
  obtain⟨k,rfl,hk,bo,hE⟩:=hrel
  have bl:=hide (aR.out.at bo.out)
  have cX:=bl.out.b2.cell
  have d5:=bl.out.b3.cell
  have ad:=hide (bn.out.trans (bo.out.mono bn.out.size))
  by_cases d8:k<nt
  ·obtain⟨b,dy,x,hA,cU,hx,aL⟩:=(ce.out.keep (w':=wr) (B':=w.heap.size) (fun _ U=>ad.out.cell U) (Nat.le_refl _)).at (k:=k) (by have:=z.out.2.2.1; omega)
   have d0:=aL 0 (by omega)
   simp only [Nat.add_zero,Nat.mul_one,Ai] at d0
   have c4:=hide hx
   have cg:=hide (bo.out.trans ((Ap wr).mono bo.out.size))
   have bY:=hide (ad.out.trans ((Ap wr).mono ad.out.size))
   subst hA
   clear aL hx
   have aL:=hide (cq _ x bY.out)
   cases hv:decide (x∈p.initial)
   ·have bf:=hide (show CF p q=false from by
     unfold CF
     rw [List.all_eq_false]
     exact⟨x,List.mem_of_getElem? c4.out,by rw [hv]; decide⟩)
    rw [hv] at aL
    clear hv
    go_wp2_with fail
    refine Reg.cP [0,1,0,4,0,28,60,127,255] ?_
    go_wp2_with (go_at_call 93; refine aL.out.mono ?_; rintro r w' ⟨rfl,rfl⟩)
    go_ret
    exact⟨congrArg (Value.int .i64) (hR.out.trans (by rw [bf.out]; rfl)).symm,bY.out⟩
   ·have cw:=hide (Cq (p:=fun x=>decide (x∈p.initial)) c4.out hE.out hv)
    rw [hv] at aL
    clear hv
    go_wp2_with fail
    refine Reg.cP [0,1,0,4,0,28,60,127,255] ?_
    go_wp2_with (go_at_call 93; refine aL.out.mono ?_; rintro r w' ⟨rfl,rfl⟩)
    exact⟨⟨k+1,by go_num,by omega,cg.out,cw.out⟩,by simp [intOf]; omega⟩
  ·have cf:=hide (show CF p q=true from by
    have y:=z.out.2.2.1
    have h2:=hE.out
    rwa [List.take_of_length_le (by omega)] at h2)
   have bD:=hide (show propE nameOK p q=DL p q from by rw [hR.out,cf.out]; rfl)
   clear hE
   by_cases ax:nb=0
   ·have Q1:((nb:Int)==0)=true:=by simp [ax]
    by_cases aS:C=0
    ·have Q2:((C:Int)==0)=true:=by simp [aS]
     have HH:=hide (show nb=0∧C=0 from⟨ax,aS⟩)
     clear ax aS
     go_wp2_with fail
     go_ret
     exact⟨congrArg (Value.int .i64) (bD.out.trans (by unfold DL; rw [Bv q.bad,Bv q.adj,←z.out.2.2.2.1,←z.out.2.2.2.2.1,decide_eq_true HH.out.1,decide_eq_true HH.out.2]; rfl)).symm,ad.out⟩
    ·have Q2:((C:Int)==0)=false:=by simp [aS]
     have HH:=hide (show nb=0∧C≠0 from⟨ax,aS⟩)
     clear ax aS
     have aZ:=hide (show propE nameOK p q=orE (Ad (decide (3<q.bad.length)) 4) (orE (Aj (AV (ns:Int)) q.bad) (BA p.topo (ns:Int) q.adj)) from bD.out.trans (by
      unfold DL
      rw [Bv q.bad,Bv q.adj,←z.out.2.2.2.1,←z.out.2.2.2.2.1,←z.out.1]
      rw [decide_eq_true HH.out.1,decide_eq_false HH.out.2]
      rfl))
     by_cases bz:(3:Int)<(nb:Int)
     case pos=>
      go_wp2_with fail
      go_ret
      exact⟨congrArg (Value.int .i64) (aZ.out.trans (by rw [decide_eq_true (show 3<q.bad.length by have:=z.out.2.2.2.1; omega)]; rfl)).symm,ad.out⟩
     have b0:=hide (show propE nameOK p q=orE (Aj (AV (ns:Int)) q.bad) (BA p.topo (ns:Int) q.adj) from aZ.out.trans (by rw [decide_eq_false (show ¬3<q.bad.length by have:=z.out.2.2.2.1; omega)]; rfl))
     go_wp2_with fail
     obtain⟨aw,bL⟩:∃x,x=wr:=⟨_,rfl⟩
     subst bL
     have M:=ad
     clear bz
     go_loopw [10] (fun I wr=>∃(k:Nat),I=.int .i64 (k:Int)∧k≤nb∧Hid (Below aw.heap.size aw wr)∧Hid (Aj (AV (ns:Int)) (q.bad.take k)=0)) (fun I _=>nb - (intOf I).toNat)
     case atStart=>exact⟨0,rfl,Nat.zero_le _,Below.refl _ _,by show _=_; rfl⟩
     case round=>
      obtain⟨J,rfl,ct,O,ap⟩:=hrel
      have ah:=hide (bl.out.at O.out)
      have cm:=ah.out.b2.cell
      have cp:=ah.out.b3.cell
      have E:=hide (ad.out.trans (O.out.mono ad.out.size))
      by_cases cu:J<nb
      ·obtain⟨b2,a3,c,c9,bA,ch,b7,cx,aK,bE⟩:=(bS.out.keep (w':=aw) (B':=w.heap.size) (R':=Db aw w.heap.size) (fun _ U=>M.out.cell U) (fun _ _ h=>h.keep (fun _ U=>M.out.cell U) (Nat.le_refl _)) (Nat.le_refl _)).at (i:=J) (by have:=z.out.2.2.2.1; omega)
       obtain⟨C1,g1,rfl,aE⟩:=bE
       have a6:=aK 0 _ rfl
       have an:=aK 1 _ rfl
       simp only [Nat.add_zero] at a6
       have b8:=hide b7
       obtain⟨nc,av⟩:∃n,n=c.states.length:=⟨_,rfl⟩
       have be:=hide av
       rw [←av] at a6
       have cb:=(O.out.cell (p:=⟨b2,a3+J*2,none⟩) (by show b2<_; have:=M.out.size; omega)).trans a6
       have cc:=(O.out.cell (p:=⟨b2,a3+J*2+1,none⟩) (by show b2<_; have:=M.out.size; omega)).trans an
       have bK:=aE.1
       rw [←av] at bK
       have bF:=hide (aE.keep (w':=w) (B':=w.heap.size) (fun _ U=>(M.out.cell U).symm) (Nat.le_refl _))
       have aN:∀wx,Below w.heap.size w wx→Calls Tryz.prog 97 #[.slice C1 nc g1,.int .i64 (ns:Int)] wx (Ret fun r w'=>r=.int .i64 (setE c.states (ns:Int))∧Below wx.heap.size wx w'):=fun wx hx=>by
        rw [be.out]
        exact B0 (by omega) (bF.out.keep (fun _ U=>hx.cell U) hx.size)
       subst bA
       clear aK b7 aE av
       have aO:=hide (show AV (ns:Int) c≠0→propE nameOK p q=AV (ns:Int) c from fun a8=>by
        rw [b0.out,Ct (AV (ns:Int)) b8.out ap.out a8,BF a8])
       go_wp2_with fail
       obtain⟨ec,aj⟩:∃e,Hid (setE c.states (ns:Int)=e):=⟨_,rfl⟩
       by_cases Z:ec=0
       case neg=>
        have Qc:(ec != 0)=true:=by simp [Z]
        have W:=hide (show propE nameOK p q=ec from by
         have y:AV (ns:Int) c=ec:=by unfold AV; rw [aj.out,BF Z]
         exact(aO.out (by rw [y]; exact Z)).trans y)
        clear Z
        refine Calls.ret (aN _ E.out) ?_; rintro v w8 ⟨rfl,G⟩; rw [aj.out]; have a2:=hide (ah.out.at G); have b5:=a2.out.b2.cell; have b6:=a2.out.b3.cell; have ai:=hide (E.out.trans (G.mono E.out.size)); have V:=hide (O.out.trans (G.mono O.out.size)); have aX:=(V.out.cell (p:=⟨b2,a3+J*2,none⟩) (by show b2<_; have:=M.out.size; omega)).trans a6; have aY:=(V.out.cell (p:=⟨b2,a3+J*2+1,none⟩) (by show b2<_; have:=M.out.size; omega)).trans an; clear G; go_wp2_with fail
        go_ret
        exact⟨congrArg (Value.int .i64) W.out.symm,ai.out⟩
       have Qc:(ec != 0)=false:=by simp [Z]
       have aJ:=hide (show AV (ns:Int) c=Ad (decide (nc=0)||!inC c.least 1 3) 1 from by
        unfold AV
        rw [aj.out,Z,AY,Bv,←be.out]
        rfl)
       have c6:=hide Z
       clear Z
       by_cases a5:nc=0
       case pos=>
        have Qn:((nc:Int)==0)=true:=by simp [a5]
        have W:=hide (show propE nameOK p q=1 from by
         have y:AV (ns:Int) c=1:=by rw [aJ.out,decide_eq_true a5]; rfl
         exact(aO.out (by rw [y]; decide)).trans y)
        have Hn:=hide a5
        clear a5
        refine Calls.ret (aN _ E.out) ?_; rintro v w8 ⟨rfl,G⟩; rw [aj.out]; have a2:=hide (ah.out.at G); have b5:=a2.out.b2.cell; have b6:=a2.out.b3.cell; have ai:=hide (E.out.trans (G.mono E.out.size)); have V:=hide (O.out.trans (G.mono O.out.size)); have aX:=(V.out.cell (p:=⟨b2,a3+J*2,none⟩) (by show b2<_; have:=M.out.size; omega)).trans a6; have aY:=(V.out.cell (p:=⟨b2,a3+J*2+1,none⟩) (by show b2<_; have:=M.out.size; omega)).trans an; clear G; go_wp2_with fail
        go_ret
        exact⟨congrArg (Value.int .i64) W.out.symm,ai.out⟩
       have Qn:((nc:Int)==0)=false:=by simp [a5]
       have Hn:=hide a5
       clear a5
       refine Calls.ret (aN _ E.out) ?_; rintro v w8 ⟨rfl,G⟩; rw [aj.out]; have a2:=hide (ah.out.at G); have b5:=a2.out.b2.cell; have b6:=a2.out.b3.cell; have ai:=hide (E.out.trans (G.mono E.out.size)); have V:=hide (O.out.trans (G.mono O.out.size)); have aX:=(V.out.cell (p:=⟨b2,a3+J*2,none⟩) (by show b2<_; have:=M.out.size; omega)).trans a6; have aY:=(V.out.cell (p:=⟨b2,a3+J*2+1,none⟩) (by show b2<_; have:=M.out.size; omega)).trans an; clear G; go_wp2_with fail
       cases au:inC c.least 1 3
       ·have ae:=hide au
        clear au
        have W:=hide (show propE nameOK p q=1 from by
         have y:AV (ns:Int) c=1:=by rw [aJ.out,decide_eq_false Hn.out,ae.out]; rfl
         exact(aO.out (by rw [y]; decide)).trans y)
        refine(within2_any _ _ _ _).mono ?_; rintro e w' ⟨rfl,rfl⟩; rw [ae.out]; go_wp2_with fail
        go_ret
        exact⟨congrArg (Value.int .i64) W.out.symm,ai.out⟩
       ·have ae:=hide au
        clear au
        have aM:=hide (show Aj (AV (ns:Int)) (q.bad.take (J+1))=0 from by
         rw [CD (AV (ns:Int)) b8.out ap.out,aJ.out,decide_eq_false Hn.out,ae.out]
         rfl)
        refine(within2_any _ _ _ _).mono ?_; rintro e w' ⟨rfl,rfl⟩; rw [ae.out]; go_wp2_with fail
        exact⟨⟨J+1,by go_num,by omega,V.out,aM.out⟩,by simp [intOf]; omega⟩
      ·have hA:=hide (show propE nameOK p q=BA p.topo (ns:Int) q.adj from b0.out.trans (by
        have y:=ap.out
        rw [List.take_of_length_le (by have:=z.out.2.2.2.1; omega)] at y
        rw [y,AY]))
       clear ap
       obtain⟨aP,bM⟩:∃x,x=wr:=⟨_,rfl⟩
       subst bM
       by_cases aq:C=0
       case pos=>
        have G1:¬(0:Int)<(C:Int):=by omega
        have G2:((C:Int) != 0)=false:=by simp [aq]
        have hB:=hide (show propE nameOK p q=Aj (fun x=>Ad (!inE x (ns:Int)) 5) q.adj from hA.out.trans (by
         have y:q.adj=[]:=List.length_eq_zero_iff.1 (by have:=z.out.2.2.2.2.1; omega)
         rw [y]
         rfl))
        have bt:=hide aq
        clear aq
        go_wp2_with fail
        clear G1 G2
        go_loopw [12] (fun I wr=>∃(k:Nat),I=.int .i64 (k:Int)∧k≤C∧aP=wr∧Hid (Aj (fun x=>Ad (!inE x (ns:Int)) 5) (q.adj.take k)=0)) (fun I _=>C - (intOf I).toNat)
        case atStart=>exact⟨0,rfl,Nat.zero_le _,(by first | rfl | trivial),by show _=_; rfl⟩
        case round=>
         obtain⟨k4,rfl,bI,rfl,a4⟩:=hrel
         by_cases bJ:k4<C
         ·exfalso
          have:=bt.out
          omega
         ·have W:=hide (show propE nameOK p q=0 from hB.out.trans (by
           have y:=a4.out
           rwa [List.take_of_length_le (by have:=z.out.2.2.2.2.1; omega)] at y))
          clear a4
          go_wp2_with fail
          go_ret
          exact⟨congrArg (Value.int .i64) W.out.symm,E.out⟩
       have G1:(0:Int)<(C:Int):=by omega
       have a8:=hide (show q.adj.isEmpty=false from by rw [Bv]; exact decide_eq_false (by have:=z.out.2.2.2.2.1; omega))
       by_cases a9:p.topo=1
       case pos=>
        have G3:(p.topo==1)=true:=by simp [a9]
        have am:=hide a9
        clear a9
        go_wp2_with fail
        go_ret
        exact⟨congrArg (Value.int .i64) (hA.out.trans (by unfold BA; rw [a8.out,decide_eq_true am.out]; rfl)).symm,E.out⟩
       have G3:(p.topo==1)=false:=by simp [a9]
       have am:=hide a9
       clear a9
       have G2:((C:Int) != 0)=true:=by simp [aq]
       have bb:q.adj.length=C:=z.out.2.2.2.2.1.symm
       have bd:=hide bb
       clear bb
       by_cases a7:C=2
       case neg=>
        have G4:((C:Int) != 2)=true:=by
         have:((C:Int)==2)=false:=by
          simp
          omega
         simp [bne,this]
        have aW:=hide a7
        clear a7
        go_wp2_with fail
        go_ret
        exact⟨congrArg (Value.int .i64) (hA.out.trans (by unfold BA; rw [a8.out,decide_eq_false am.out,bd.out,decide_eq_false aW.out]; rfl)).symm,E.out⟩
       have G4:((C:Int) != 2)=false:=by simp [a7]
       have hB:=hide (show propE nameOK p q=Aj (fun x=>Ad (!inE x (ns:Int)) 5) q.adj from hA.out.trans (by unfold BA; rw [a8.out,decide_eq_false am.out,bd.out,decide_eq_true a7]; rfl))
       have aW:=hide a7
       clear a7
       go_wp2_with fail
       clear G1 G2 G3 G4
       go_loopw [12] (fun I wr=>∃(k:Nat),I=.int .i64 (k:Int)∧k≤C∧aP=wr∧Hid (Aj (fun x=>Ad (!inE x (ns:Int)) 5) (q.adj.take k)=0)) (fun I _=>C - (intOf I).toNat)
       case atStart=>exact⟨0,rfl,Nat.zero_le _,(by first | rfl | trivial),by show _=_; rfl⟩
       case round=>
        obtain⟨k4,rfl,bI,rfl,a4⟩:=hrel
        by_cases bJ:k4<C
        ·obtain⟨b4,cD,x,bB,ci,bg,b9⟩:=(bT.out.keep (w':=aP) (B':=w.heap.size) (fun _ U=>E.out.cell U) (Nat.le_refl _)).at (k:=k4) (by have:=z.out.2.2.2.2.1; omega)
         have d4:=b9 0 (by omega)
         simp only [Nat.add_zero,Nat.mul_one,Ai] at d4
         have bh:=hide bg
         subst bB
         clear b9 bg
         go_wp2_with fail
         cases ar:inC x 0 ((ns:Int) - 1)
         ·have Fin:=hide ar
          clear ar
          have bf:=hide (show Aj (fun x=>Ad (!inE x (ns:Int)) 5) q.adj=5 from by
           have y:Ad (!inE x (ns:Int)) 5=5:=by rw [C5,Fin.out]; rfl
           rw [Ct (fun x=>Ad (!inE x (ns:Int)) 5) bh.out a4.out (by rw [y]; decide),y])
          refine(within2_any _ _ _ _).mono ?_; rintro e w' ⟨rfl,rfl⟩; rw [Fin.out]; go_wp2_with fail
          go_ret
          exact⟨congrArg (Value.int .i64) (hB.out.trans bf.out).symm,E.out⟩
         ·have Fin:=hide ar
          clear ar
          have aM:=hide (show Aj (fun x=>Ad (!inE x (ns:Int)) 5) (q.adj.take (k4+1))=0 from by
           rw [CD (fun x=>Ad (!inE x (ns:Int)) 5) bh.out a4.out,C5,Fin.out]
           rfl)
          refine(within2_any _ _ _ _).mono ?_; rintro e w' ⟨rfl,rfl⟩; rw [Fin.out]; go_wp2_with fail
          exact⟨⟨k4+1,by go_num,by omega,(by first | rfl | trivial),aM.out⟩,by simp [intOf]; omega⟩
        ·have W:=hide (show propE nameOK p q=0 from hB.out.trans (by
          have y:=a4.out
          rwa [List.take_of_length_le (by have:=z.out.2.2.2.2.1; omega)] at y))
         clear a4
         go_wp2_with fail
         go_ret
         exact⟨congrArg (Value.int .i64) W.out.symm,E.out⟩
   ·have Q1:((nb:Int)==0)=false:=by simp [ax]
    have HH:=hide ax
    clear ax
    have aZ:=hide (show propE nameOK p q=orE (Ad (decide (3<q.bad.length)) 4) (orE (Aj (AV (ns:Int)) q.bad) (BA p.topo (ns:Int) q.adj)) from bD.out.trans (by
     unfold DL
     rw [Bv q.bad,Bv q.adj,←z.out.2.2.2.1,←z.out.2.2.2.2.1,←z.out.1]
     rw [decide_eq_false HH.out]
     rfl))
    by_cases bz:(3:Int)<(nb:Int)
    case pos=>
     go_wp2_with fail
     go_ret
     exact⟨congrArg (Value.int .i64) (aZ.out.trans (by rw [decide_eq_true (show 3<q.bad.length by have:=z.out.2.2.2.1; omega)]; rfl)).symm,ad.out⟩
    have b0:=hide (show propE nameOK p q=orE (Aj (AV (ns:Int)) q.bad) (BA p.topo (ns:Int) q.adj) from aZ.out.trans (by rw [decide_eq_false (show ¬3<q.bad.length by have:=z.out.2.2.2.1; omega)]; rfl))
    go_wp2_with fail
    obtain⟨aw,bL⟩:∃x,x=wr:=⟨_,rfl⟩
    subst bL
    have M:=ad
    clear bz
    go_loopw [10] (fun I wr=>∃(k:Nat),I=.int .i64 (k:Int)∧k≤nb∧Hid (Below aw.heap.size aw wr)∧Hid (Aj (AV (ns:Int)) (q.bad.take k)=0)) (fun I _=>nb - (intOf I).toNat)
    case atStart=>exact⟨0,rfl,Nat.zero_le _,Below.refl _ _,by show _=_; rfl⟩
    case round=>
     obtain⟨J,rfl,ct,O,ap⟩:=hrel
     have ah:=hide (bl.out.at O.out)
     have cm:=ah.out.b2.cell
     have cp:=ah.out.b3.cell
     have E:=hide (ad.out.trans (O.out.mono ad.out.size))
     by_cases cu:J<nb
     ·obtain⟨b2,a3,c,c9,bA,ch,b7,cx,aK,bE⟩:=(bS.out.keep (w':=aw) (B':=w.heap.size) (R':=Db aw w.heap.size) (fun _ U=>M.out.cell U) (fun _ _ h=>h.keep (fun _ U=>M.out.cell U) (Nat.le_refl _)) (Nat.le_refl _)).at (i:=J) (by have:=z.out.2.2.2.1; omega)
      obtain⟨C1,g1,rfl,aE⟩:=bE
      have a6:=aK 0 _ rfl
      have an:=aK 1 _ rfl
      simp only [Nat.add_zero] at a6
      have b8:=hide b7
      obtain⟨nc,av⟩:∃n,n=c.states.length:=⟨_,rfl⟩
      have be:=hide av
      rw [←av] at a6
      have cb:=(O.out.cell (p:=⟨b2,a3+J*2,none⟩) (by show b2<_; have:=M.out.size; omega)).trans a6
      have cc:=(O.out.cell (p:=⟨b2,a3+J*2+1,none⟩) (by show b2<_; have:=M.out.size; omega)).trans an
      have bK:=aE.1
      rw [←av] at bK
      have bF:=hide (aE.keep (w':=w) (B':=w.heap.size) (fun _ U=>(M.out.cell U).symm) (Nat.le_refl _))
      have aN:∀wx,Below w.heap.size w wx→Calls Tryz.prog 97 #[.slice C1 nc g1,.int .i64 (ns:Int)] wx (Ret fun r w'=>r=.int .i64 (setE c.states (ns:Int))∧Below wx.heap.size wx w'):=fun wx hx=>by
       rw [be.out]
       exact B0 (by omega) (bF.out.keep (fun _ U=>hx.cell U) hx.size)
      subst bA
      clear aK b7 aE av
      have aO:=hide (show AV (ns:Int) c≠0→propE nameOK p q=AV (ns:Int) c from fun a8=>by
       rw [b0.out,Ct (AV (ns:Int)) b8.out ap.out a8,BF a8])
      go_wp2_with fail
      obtain⟨ec,aj⟩:∃e,Hid (setE c.states (ns:Int)=e):=⟨_,rfl⟩
      by_cases Z:ec=0
      case neg=>
       have Qc:(ec != 0)=true:=by simp [Z]
       have W:=hide (show propE nameOK p q=ec from by
        have y:AV (ns:Int) c=ec:=by unfold AV; rw [aj.out,BF Z]
        exact(aO.out (by rw [y]; exact Z)).trans y)
       clear Z
       refine Calls.ret (aN _ E.out) ?_; rintro v w8 ⟨rfl,G⟩; rw [aj.out]; have a2:=hide (ah.out.at G); have b5:=a2.out.b2.cell; have b6:=a2.out.b3.cell; have ai:=hide (E.out.trans (G.mono E.out.size)); have V:=hide (O.out.trans (G.mono O.out.size)); have aX:=(V.out.cell (p:=⟨b2,a3+J*2,none⟩) (by show b2<_; have:=M.out.size; omega)).trans a6; have aY:=(V.out.cell (p:=⟨b2,a3+J*2+1,none⟩) (by show b2<_; have:=M.out.size; omega)).trans an; clear G; go_wp2_with fail
       go_ret
       exact⟨congrArg (Value.int .i64) W.out.symm,ai.out⟩
      have Qc:(ec != 0)=false:=by simp [Z]
      have aJ:=hide (show AV (ns:Int) c=Ad (decide (nc=0)||!inC c.least 1 3) 1 from by
       unfold AV
       rw [aj.out,Z,AY,Bv,←be.out]
       rfl)
      have c6:=hide Z
      clear Z
      by_cases a5:nc=0
      case pos=>
       have Qn:((nc:Int)==0)=true:=by simp [a5]
       have W:=hide (show propE nameOK p q=1 from by
        have y:AV (ns:Int) c=1:=by rw [aJ.out,decide_eq_true a5]; rfl
        exact(aO.out (by rw [y]; decide)).trans y)
       have Hn:=hide a5
       clear a5
       refine Calls.ret (aN _ E.out) ?_; rintro v w8 ⟨rfl,G⟩; rw [aj.out]; have a2:=hide (ah.out.at G); have b5:=a2.out.b2.cell; have b6:=a2.out.b3.cell; have ai:=hide (E.out.trans (G.mono E.out.size)); have V:=hide (O.out.trans (G.mono O.out.size)); have aX:=(V.out.cell (p:=⟨b2,a3+J*2,none⟩) (by show b2<_; have:=M.out.size; omega)).trans a6; have aY:=(V.out.cell (p:=⟨b2,a3+J*2+1,none⟩) (by show b2<_; have:=M.out.size; omega)).trans an; clear G; go_wp2_with fail
       go_ret
       exact⟨congrArg (Value.int .i64) W.out.symm,ai.out⟩
      have Qn:((nc:Int)==0)=false:=by simp [a5]
      have Hn:=hide a5
      clear a5
      refine Calls.ret (aN _ E.out) ?_; rintro v w8 ⟨rfl,G⟩; rw [aj.out]; have a2:=hide (ah.out.at G); have b5:=a2.out.b2.cell; have b6:=a2.out.b3.cell; have ai:=hide (E.out.trans (G.mono E.out.size)); have V:=hide (O.out.trans (G.mono O.out.size)); have aX:=(V.out.cell (p:=⟨b2,a3+J*2,none⟩) (by show b2<_; have:=M.out.size; omega)).trans a6; have aY:=(V.out.cell (p:=⟨b2,a3+J*2+1,none⟩) (by show b2<_; have:=M.out.size; omega)).trans an; clear G; go_wp2_with fail
      cases au:inC c.least 1 3
      ·have ae:=hide au
       clear au
       have W:=hide (show propE nameOK p q=1 from by
        have y:AV (ns:Int) c=1:=by rw [aJ.out,decide_eq_false Hn.out,ae.out]; rfl
        exact(aO.out (by rw [y]; decide)).trans y)
       refine(within2_any _ _ _ _).mono ?_; rintro e w' ⟨rfl,rfl⟩; rw [ae.out]; go_wp2_with fail
       go_ret
       exact⟨congrArg (Value.int .i64) W.out.symm,ai.out⟩
      ·have ae:=hide au
       clear au
       have aM:=hide (show Aj (AV (ns:Int)) (q.bad.take (J+1))=0 from by
        rw [CD (AV (ns:Int)) b8.out ap.out,aJ.out,decide_eq_false Hn.out,ae.out]
        rfl)
       refine(within2_any _ _ _ _).mono ?_; rintro e w' ⟨rfl,rfl⟩; rw [ae.out]; go_wp2_with fail
       exact⟨⟨J+1,by go_num,by omega,V.out,aM.out⟩,by simp [intOf]; omega⟩
     ·have hA:=hide (show propE nameOK p q=BA p.topo (ns:Int) q.adj from b0.out.trans (by
       have y:=ap.out
       rw [List.take_of_length_le (by have:=z.out.2.2.2.1; omega)] at y
       rw [y,AY]))
      clear ap
      obtain⟨aP,bM⟩:∃x,x=wr:=⟨_,rfl⟩
      subst bM
      by_cases aq:C=0
      case pos=>
       have G1:¬(0:Int)<(C:Int):=by omega
       have G2:((C:Int) != 0)=false:=by simp [aq]
       have hB:=hide (show propE nameOK p q=Aj (fun x=>Ad (!inE x (ns:Int)) 5) q.adj from hA.out.trans (by
        have y:q.adj=[]:=List.length_eq_zero_iff.1 (by have:=z.out.2.2.2.2.1; omega)
        rw [y]
        rfl))
       have bt:=hide aq
       clear aq
       go_wp2_with fail
       clear G1 G2
       go_loopw [12] (fun I wr=>∃(k:Nat),I=.int .i64 (k:Int)∧k≤C∧aP=wr∧Hid (Aj (fun x=>Ad (!inE x (ns:Int)) 5) (q.adj.take k)=0)) (fun I _=>C - (intOf I).toNat)
       case atStart=>exact⟨0,rfl,Nat.zero_le _,(by first | rfl | trivial),by show _=_; rfl⟩
       case round=>
        obtain⟨k4,rfl,bI,rfl,a4⟩:=hrel
        by_cases bJ:k4<C
        ·exfalso
         have:=bt.out
         omega
        ·have W:=hide (show propE nameOK p q=0 from hB.out.trans (by
          have y:=a4.out
          rwa [List.take_of_length_le (by have:=z.out.2.2.2.2.1; omega)] at y))
         clear a4
         go_wp2_with fail
         go_ret
         exact⟨congrArg (Value.int .i64) W.out.symm,E.out⟩
      have G1:(0:Int)<(C:Int):=by omega
      have a8:=hide (show q.adj.isEmpty=false from by rw [Bv]; exact decide_eq_false (by have:=z.out.2.2.2.2.1; omega))
      by_cases a9:p.topo=1
      case pos=>
       have G3:(p.topo==1)=true:=by simp [a9]
       have am:=hide a9
       clear a9
       go_wp2_with fail
       go_ret
       exact⟨congrArg (Value.int .i64) (hA.out.trans (by unfold BA; rw [a8.out,decide_eq_true am.out]; rfl)).symm,E.out⟩
      have G3:(p.topo==1)=false:=by simp [a9]
      have am:=hide a9
      clear a9
      have G2:((C:Int) != 0)=true:=by simp [aq]
      have bb:q.adj.length=C:=z.out.2.2.2.2.1.symm
      have bd:=hide bb
      clear bb
      by_cases a7:C=2
      case neg=>
       have G4:((C:Int) != 2)=true:=by
        have:((C:Int)==2)=false:=by
         simp
         omega
        simp [bne,this]
       have aW:=hide a7
       clear a7
       go_wp2_with fail
       go_ret
       exact⟨congrArg (Value.int .i64) (hA.out.trans (by unfold BA; rw [a8.out,decide_eq_false am.out,bd.out,decide_eq_false aW.out]; rfl)).symm,E.out⟩
      have G4:((C:Int) != 2)=false:=by simp [a7]
      have hB:=hide (show propE nameOK p q=Aj (fun x=>Ad (!inE x (ns:Int)) 5) q.adj from hA.out.trans (by unfold BA; rw [a8.out,decide_eq_false am.out,bd.out,decide_eq_true a7]; rfl))
      have aW:=hide a7
      clear a7
      go_wp2_with fail
      clear G1 G2 G3 G4
      go_loopw [12] (fun I wr=>∃(k:Nat),I=.int .i64 (k:Int)∧k≤C∧aP=wr∧Hid (Aj (fun x=>Ad (!inE x (ns:Int)) 5) (q.adj.take k)=0)) (fun I _=>C - (intOf I).toNat)
      case atStart=>exact⟨0,rfl,Nat.zero_le _,(by first | rfl | trivial),by show _=_; rfl⟩
      case round=>
       obtain⟨k4,rfl,bI,rfl,a4⟩:=hrel
       by_cases bJ:k4<C
       ·obtain⟨b4,cD,x,bB,ci,bg,b9⟩:=(bT.out.keep (w':=aP) (B':=w.heap.size) (fun _ U=>E.out.cell U) (Nat.le_refl _)).at (k:=k4) (by have:=z.out.2.2.2.2.1; omega)
        have d4:=b9 0 (by omega)
        simp only [Nat.add_zero,Nat.mul_one,Ai] at d4
        have bh:=hide bg
        subst bB
        clear b9 bg
        go_wp2_with fail
        cases ar:inC x 0 ((ns:Int) - 1)
        ·have Fin:=hide ar
         clear ar
         have bf:=hide (show Aj (fun x=>Ad (!inE x (ns:Int)) 5) q.adj=5 from by
          have y:Ad (!inE x (ns:Int)) 5=5:=by rw [C5,Fin.out]; rfl
          rw [Ct (fun x=>Ad (!inE x (ns:Int)) 5) bh.out a4.out (by rw [y]; decide),y])
         refine(within2_any _ _ _ _).mono ?_; rintro e w' ⟨rfl,rfl⟩; rw [Fin.out]; go_wp2_with fail
         go_ret
         exact⟨congrArg (Value.int .i64) (hB.out.trans bf.out).symm,E.out⟩
        ·have Fin:=hide ar
         clear ar
         have aM:=hide (show Aj (fun x=>Ad (!inE x (ns:Int)) 5) (q.adj.take (k4+1))=0 from by
          rw [CD (fun x=>Ad (!inE x (ns:Int)) 5) bh.out a4.out,C5,Fin.out]
          rfl)
         refine(within2_any _ _ _ _).mono ?_; rintro e w' ⟨rfl,rfl⟩; rw [Fin.out]; go_wp2_with fail
         exact⟨⟨k4+1,by go_num,by omega,(by first | rfl | trivial),aM.out⟩,by simp [intOf]; omega⟩
       ·have W:=hide (show propE nameOK p q=0 from hB.out.trans (by
         have y:=a4.out
         rwa [List.take_of_length_le (by have:=z.out.2.2.2.2.1; omega)] at y))
        clear a4
        go_wp2_with fail
        go_ret
        exact⟨congrArg (Value.int .i64) W.out.symm,E.out⟩
end Go.Proofs.YtfcfpoemojjglaaGreatDoor.K
