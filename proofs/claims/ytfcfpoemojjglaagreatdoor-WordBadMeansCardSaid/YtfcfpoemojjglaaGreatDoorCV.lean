/-
  Part CV of a proof.
-/
import Derived.Test.YtfcfpoemojjglaaGreatDoorPA
import Derived.Test.YtfcfpoemojjglaaGreatDoorCU
set_option maxHeartbeats 16000000
set_option maxRecDepth 100000
set_option linter.unusedVariables false
set_option linter.unusedSimpArgs false
namespace Go.Proofs.YtfcfpoemojjglaaGreatDoor.K
open Go.RowKit
attribute [-go_sem] loadCellsFrom storeCells
theorem Ua {w:World} {cs ds:List Value} {p:Am} {q:AB} (h:At w w.heap.size cs p) (W:Ba w w.heap.size ds q) (a6:p.Small) (a7:q.Small) (Z:SpOK w) (a9:Hid (protE nameOK p=0)) (ab:Hid (nameOK q.name=true)) (aa:Hid (q.kind=1)) (hg:q.goal.length=0) {G:Int} (a4:Hid (setE q.start (p.states.length:Int)=G)) (aX:(G != 0)=true):
  Calls Tryz.prog 71 #[.agg cs.toArray,.agg ds.toArray] w (Ret fun v w'=>v=.int .i64 (G)∧Below w.heap.size w w'):=by
 obtain⟨w1,w2,A1,c1,A5,c5,B1,d1,B2,d2,B3,d3,B4,d4,ns,ni,nt,nb,na,ng,kq,H⟩:=Dj h W a6 a7 Z
 generalize cs.toArray=pc at*
 generalize ds.toArray=qc at*
 clear h W a6 a7 Z
 obtain⟨ae,ad,aM,aJ,aK,az⟩:=D7 H
 obtain⟨bd,be,a2,ba,y,I,bb,⟨ay,au,av,aw,ax⟩,E,⟨aY,aR,aS,aT,aU,aV,aW⟩,⟨aZ,b0,b1⟩,b4,b5,b6,b7,b8,b9⟩:=H
 have aA:=y.out.b2.cell
 have aE:=y.out.b3.cell
 have aN:=Ah y.out.b2 E.out
 rw [←I.out.1] at a4
 rw [←I.out.2.2.2.2.2.1] at hg
 have aL:¬(0:Int)<(ng:Int):=by omega
 clear hg
 have bf:(kq==1)=true:=by rw [I.out.2.2.2.2.2.2,aa.out]; rfl
 go_enter Tryz.func71,Tryz.ntmps71
 go_wp2_with (first
  | (go_at_call 117; refine Calls.ret (ae _ y) ?_; rintro v w3 ⟨rfl,O⟩; rw [a9.out]; have z:=hide (y.out.at O); have aB:=z.out.b2.cell; have aF:=z.out.b3.cell; have aO:=Ah z.out.b2 E.out; have a3:=hide (a2.out.trans (O.mono a2.out.size)); clear O)
  | (go_at_call 118; refine Calls.ret (Da q.name _ (by omega) z.out.tab) ?_; rintro v w4 ⟨rfl,U⟩; rw [ab.out]; have C:=hide (z.out.at U); have aC:=C.out.b2.cell; have aG:=C.out.b3.cell; have aP:=Ah C.out.b2 E.out; have M:=hide (a3.out.trans (U.mono a3.out.size)); clear U)
  | (go_at_call 119; refine Calls.ret (ad _ M.out) ?_; rintro v w5 ⟨rfl,V⟩; rw [a4.out]; have J:=hide (C.out.at V); have aD:=J.out.b2.cell; have aH:=J.out.b3.cell; have aQ:=Ah J.out.b2 E.out; have a8:=hide (M.out.trans (V.mono M.out.size)); clear V))
 go_ret
 exact⟨rfl,a8.out⟩
theorem Ub {w:World} {cs ds:List Value} {p:Am} {q:AB} (h:At w w.heap.size cs p) (h':Ba w w.heap.size ds q) (aM:p.Small) (aN:q.Small) (hT:SpOK w) (aH:Hid (protE nameOK p=0)) (aL:Hid (nameOK q.name=true)) (aJ:Hid (q.kind=1)) (hg:q.goal.length=0) (an:Hid (setE q.start (p.states.length:Int)=0)):
  Calls Tryz.prog 71 #[.agg cs.toArray,.agg ds.toArray] w (Ret fun v w'=>v=.int .i64 (propE nameOK p q)∧Below w.heap.size w w'):=by
 obtain⟨w1,w2,A1,c1,A5,c5,B1,d1,B2,d2,B3,d3,B4,d4,ns,ni,nt,nb,na,ng,kq,H⟩:=Dj h h' aM aN hT
 generalize cs.toArray=pc at*
 generalize ds.toArray=qc at*
 clear h h' aM aN hT
 obtain⟨bd,bb,bN,b4,aG,aC⟩:=D7 H
 obtain⟨cf,cg,aD,cd,a5,z,ce,⟨bA,aU,bw,bx,bz⟩,G,⟨c0,bU,bV,bW,bX,bY,bZ⟩,⟨c3,c4,c6⟩,c7,c8,c9,ca,cb,cc⟩:=H
 have bC:=a5.out.b2.cell
 have bH:=a5.out.b3.cell
 have bO:=Ah a5.out.b2 G.out
 have hR:=hide (show propE nameOK p q=orE (Ad (!CF p q) 5) (DL p q) from by
  rw [HZ aH.out aL.out aJ.out hg,an.out]
  rfl)
 rw [←z.out.1] at an
 rw [←z.out.2.2.2.2.2.1] at hg
 have bM:¬(0:Int)<(ng:Int):=by omega
 clear hg
 have ch:(kq==1)=true:=by rw [z.out.2.2.2.2.2.2,aJ.out]; rfl
 go_enter Tryz.func71,Tryz.ntmps71
 go_wp2_with (first
  | (go_at_call 117; refine Calls.ret (bd _ a5) ?_; rintro v w3 ⟨rfl,aj⟩; rw [aH.out]; have a6:=hide (a5.out.at aj); have bD:=a6.out.b2.cell; have bI:=a6.out.b3.cell; have bP:=Ah a6.out.b2 G.out; have aE:=hide (aD.out.trans (aj.mono aD.out.size)); clear aj)
  | (go_at_call 118; refine Calls.ret (Da q.name _ (by omega) a6.out.tab) ?_; rintro v w4 ⟨rfl,ak⟩; rw [aL.out]; have aa:=hide (a6.out.at ak); have bE:=aa.out.b2.cell; have bJ:=aa.out.b3.cell; have bQ:=Ah aa.out.b2 G.out; have ah:=hide (aE.out.trans (ak.mono aE.out.size)); clear ak)
  | (go_at_call 119; refine Calls.ret (bb _ ah.out) ?_; rintro v w5 ⟨rfl,al⟩; rw [an.out]; have ab:=hide (aa.out.at al); have bF:=ab.out.b2.cell; have bK:=ab.out.b3.cell; have bR:=Ah ab.out.b2 G.out; have aF:=hide (ah.out.trans (al.mono ah.out.size)); clear al))
 go_loopw [67] (fun ii wr=>∃(k:Nat),ii=.int .i64 (k:Int)∧k≤nt∧Hid (Below w5.heap.size w5 wr)∧Hid ((q.start.take k).all (fun x=>decide (x∈p.initial))=true)) (fun ii _=>nt - (intOf ii).toNat)
 case atStart=>exact⟨0,rfl,Nat.zero_le _,Below.refl _ _,by show _=_; simp⟩
 case round=>
  obtain⟨k,rfl,hk,am,hE⟩:=hrel
  have a7:=hide (ab.out.at am.out)
  have bG:=a7.out.b2.cell
  have bL:=a7.out.b3.cell
  have bS:=Ah a7.out.b2 G.out
  have U:=hide (aF.out.trans (am.out.mono aF.out.size))
  by_cases bT:k<nt
  ·obtain⟨b,ck,x,hA,bB,hx,a2⟩:=(aU.out.keep (w':=wr) (B':=w.heap.size) (fun _ hp=>U.out.cell hp) (Nat.le_refl _)).at (k:=k) (by have:=z.out.2.2.1; omega)
   have d0:=a2 0 (by omega)
   simp only [Nat.add_zero,Nat.mul_one,Ai] at d0
   have aP:=hide hx
   subst hA
   clear a2 hx
   have a2:=hide (b4 _ x U.out)
   cases hv:decide (x∈p.initial)
   ·have ba:=hide (show CF p q=false from by
     unfold CF
     rw [List.all_eq_false]
     exact⟨x,List.mem_of_getElem? aP.out,by rw [hv]; decide⟩)
    rw [hv] at a2
    clear hv
    go_wp2_with (go_at_call 74; refine a2.out.mono ?_; rintro r w' ⟨rfl,rfl⟩)
    go_ret
    exact⟨congrArg (Value.int .i64) (hR.out.trans (by rw [ba.out]; rfl)).symm,U.out⟩
   ·have b9:=hide (Cq (p:=fun x=>decide (x∈p.initial)) aP.out hE.out hv)
    rw [hv] at a2
    clear hv
    go_wp2_with (go_at_call 74; refine a2.out.mono ?_; rintro r w' ⟨rfl,rfl⟩)
    exact⟨⟨k+1,by go_num,by omega,am.out,b9.out⟩,by simp [intOf]; omega⟩
  ·have aV:=hide (show CF p q=true from by
    have h1:=z.out.2.2.1
    have h2:=hE.out
    rwa [List.take_of_length_le (by omega)] at h2)
   have aA:=hide (show propE nameOK p q=DL p q from by rw [hR.out,aV.out]; rfl)
   clear hE
   cases aK:((nb:Int)==0)
   case true=>
    go_wp2_with fail
    have M:=hide (a7.out.at (Ap wr))
    have aW:=M.out.b2.cell
    have aZ:=M.out.b3.cell
    have b5:=Ah M.out.b2 G.out
    have V:=hide (U.out.trans ((Ap wr).mono U.out.size))
    refine Reg.cI [0,1,3,7,15,31,63,127,255,511,1023,0,2048,6144,14336,32767,0,65536,0,524287,0,0,2097152,8388607,16777215,33554431,67108863] [0,1,2,3,4,5,6,7,8,9,11,12,13,14,16,17,18,20,21,22,10,15,19,23,24,25,26] ?_
    refine Reg.wI [0,1,2,3,4,5,6,7,8,9,11,12,13,14,16,17,18,20,21,22] [10,15,19,23,24,25,26] rfl fun Qf y=>?_
    go_wp2_with fail
    first | refine y _ _ ⟨rfl,?_⟩ | refine⟨rfl,?_⟩ | refine y _ _ ⟨by simp [Reg.fineT,Reg.intOp,Region.wanted,yielded,Reg.intFine,Reg.isInt,Act.eval],?_⟩
    try clear y
    refine Reg.aI 10 [15,19,23,24,25,26] [12,17,20,22] rfl fun Qf y=>?_
    simp only [gT,gS,gZ]
    go_wp2_with (go_at_call 121; refine Calls.ret (DX _ _ _) ?_; rintro r w' ⟨⟨I,rfl,ar⟩,rfl⟩)
    first | refine y _ _ ⟨Reg.same_below (Below.refl _ _) [12,17,20,22] rfl,?_⟩ | refine⟨Reg.same_below (Below.refl _ _) [12,17,20,22] rfl,?_⟩
    try clear y
    refine Reg.aI 15 [19,23,24,25,26] [17,20,22] rfl fun Qf y=>?_
    simp only [gT,gS,gZ]
    go_wp2_with (go_at_call 121; refine Calls.ret (DX _ _ _) ?_; rintro r w' ⟨⟨J,rfl,au⟩,rfl⟩)
    first | refine y _ _ ⟨Reg.same_below (Below.refl _ _) [17,20,22] rfl,?_⟩ | refine⟨Reg.same_below (Below.refl _ _) [17,20,22] rfl,?_⟩
    try clear y
    refine Reg.aI 19 [23,24,25,26] [20,22] rfl fun Qf y=>?_
    simp only [gT,gS,gZ]
    go_wp2_with (go_at_call 122; refine Calls.ret (aG _ V.out) ?_; rintro v w7 ⟨rfl,E⟩)
    first | refine y _ _ ⟨Reg.same_below (E) [20,22] rfl,?_⟩ | refine⟨Reg.same_below (E) [20,22] rfl,?_⟩
    try clear y
    have C:=hide (M.out.at E)
    have aX:=C.out.b2.cell
    have b0:=C.out.b3.cell
    have b6:=Ah C.out.b2 G.out
    have W:=hide (V.out.trans (E.mono V.out.size))
    clear E
    refine Reg.aI 23 [24,25,26] [] rfl fun Qf y=>?_
    simp only [gT,gS,gZ]
    go_wp2_with (go_at_call 123; refine Calls.ret (aC _ C W.out) ?_; rintro v w8 ⟨rfl,Z⟩)
    first | refine y _ _ ⟨Reg.nm,?_⟩ | refine⟨Reg.nm,?_⟩
    try clear y
    have O:=hide (C.out.at Z)
    have aY:=O.out.b2.cell
    have b1:=O.out.b3.cell
    have b7:=Ah O.out.b2 G.out
    have a8:=hide (W.out.trans (Z.mono W.out.size))
    clear Z
    have ap:=hide (show DL p q=Aj id [I,J,Aj (AV (ns:Int)) q.bad,BA p.topo (ns:Int) q.adj] from by
     unfold DL
     simp only [Aj,id_eq,Bk]
     have e1:I=Ad (q.bad.isEmpty&&q.adj.isEmpty) 1:=by
      rw [ar.out]
      congr 1
      rw [Bv q.bad,Bv q.adj,←z.out.2.2.2.1,←z.out.2.2.2.2.1,←EF]
      rw [aK]
      simp only [EF,Bool.true_and]
     have e2:J=Ad (decide (3<q.bad.length)) 4:=by
      rw [au.out]
      congr 1
      rw [←z.out.2.2.2.1]
      first
       | rfl
       | (rw [decide_eq_decide]; omega)
     rw [e1,e2,←z.out.1]
    )
    obtain⟨wz,be,a9,a4,aq⟩:=Ae w8 #[.int .i64 (I),.int .i64 (J),.int .i64 (Aj (AV (ns:Int)) q.bad),.int .i64 (BA p.topo (ns:Int) q.adj)] 36
    have ag:=hide (Ch (l:=[I,J,Aj (AV (ns:Int)) q.bad,BA p.topo (ns:Int) q.adj]) a4 (by simp))
    have ai:=hide (a8.out.trans (a9.mono a8.out.size))
    clear a4 aq a9
    refine Reg.wI [24] [25,26] rfl fun Qf y=>?_
    go_wp2_with fail
    first | refine y _ _ ⟨rfl,?_⟩ | refine⟨rfl,?_⟩ | refine y _ _ ⟨by simp [Reg.fineT,Reg.intOp,Region.wanted,yielded,Reg.intFine,Reg.isInt,Act.eval],?_⟩
    try clear y
    refine Reg.aI 25 [26] [] rfl fun Qf y=>?_
    simp only [gT,gS,gZ]
    go_wp2_with (go_at_call 120; refine(Ci (l:=[I,J,Aj (AV (ns:Int)) q.bad,BA p.topo (ns:Int) q.adj]) ag.out).mono ?_; rintro e w' ⟨rfl,rfl⟩)
    first | refine y _ _ ⟨Reg.nm,?_⟩ | refine⟨Reg.nm,?_⟩
    try clear y
    refine Reg.wI [26] [] rfl fun Qf y=>?_
    go_wp2_with fail
    first | refine y _ _ ⟨rfl,?_⟩ | refine⟨rfl,?_⟩ | refine y _ _ ⟨by simp [Reg.fineT,Reg.intOp,Region.wanted,yielded,Reg.intFine,Reg.isInt,Act.eval],?_⟩
    try clear y
    first | refine Reg.restI_end ?_ | skip
    go_wp2_with fail
    go_ret
    exact⟨congrArg (Value.int .i64) (aA.out.trans ap.out).symm,ai.out⟩
   case false=>
    go_wp2_with fail
    have M:=hide (a7.out.at (Ap wr))
    have aW:=M.out.b2.cell
    have aZ:=M.out.b3.cell
    have b5:=Ah M.out.b2 G.out
    have V:=hide (U.out.trans ((Ap wr).mono U.out.size))
    refine Reg.cI [0,1,3,7,15,31,63,127,255,511,1023,0,2048,6144,14336,32767,0,65536,0,524287,0,0,2097152,8388607,16777215,33554431,67108863] [0,1,2,3,4,5,6,7,8,9,11,12,13,14,16,17,18,20,21,22,10,15,19,23,24,25,26] ?_
    refine Reg.wI [0,1,2,3,4,5,6,7,8,9,11,12,13,14,16,17,18,20,21,22] [10,15,19,23,24,25,26] rfl fun Qf y=>?_
    go_wp2_with fail
    first | refine y _ _ ⟨rfl,?_⟩ | refine⟨rfl,?_⟩ | refine y _ _ ⟨by simp [Reg.fineT,Reg.intOp,Region.wanted,yielded,Reg.intFine,Reg.isInt,Act.eval],?_⟩
    try clear y
    refine Reg.aI 10 [15,19,23,24,25,26] [12,17,20,22] rfl fun Qf y=>?_
    simp only [gT,gS,gZ]
    go_wp2_with (go_at_call 121; refine Calls.ret (DX _ _ _) ?_; rintro r w' ⟨⟨I,rfl,ar⟩,rfl⟩)
    first | refine y _ _ ⟨Reg.same_below (Below.refl _ _) [12,17,20,22] rfl,?_⟩ | refine⟨Reg.same_below (Below.refl _ _) [12,17,20,22] rfl,?_⟩
    try clear y
    refine Reg.aI 15 [19,23,24,25,26] [17,20,22] rfl fun Qf y=>?_
    simp only [gT,gS,gZ]
    go_wp2_with (go_at_call 121; refine Calls.ret (DX _ _ _) ?_; rintro r w' ⟨⟨J,rfl,au⟩,rfl⟩)
    first | refine y _ _ ⟨Reg.same_below (Below.refl _ _) [17,20,22] rfl,?_⟩ | refine⟨Reg.same_below (Below.refl _ _) [17,20,22] rfl,?_⟩
    try clear y
    refine Reg.aI 19 [23,24,25,26] [20,22] rfl fun Qf y=>?_
    simp only [gT,gS,gZ]
    go_wp2_with (go_at_call 122; refine Calls.ret (aG _ V.out) ?_; rintro v w7 ⟨rfl,E⟩)
    first | refine y _ _ ⟨Reg.same_below (E) [20,22] rfl,?_⟩ | refine⟨Reg.same_below (E) [20,22] rfl,?_⟩
    try clear y
    have C:=hide (M.out.at E)
    have aX:=C.out.b2.cell
    have b0:=C.out.b3.cell
    have b6:=Ah C.out.b2 G.out
    have W:=hide (V.out.trans (E.mono V.out.size))
    clear E
    refine Reg.aI 23 [24,25,26] [] rfl fun Qf y=>?_
    simp only [gT,gS,gZ]
    go_wp2_with (go_at_call 123; refine Calls.ret (aC _ C W.out) ?_; rintro v w8 ⟨rfl,Z⟩)
    first | refine y _ _ ⟨Reg.nm,?_⟩ | refine⟨Reg.nm,?_⟩
    try clear y
    have O:=hide (C.out.at Z)
    have aY:=O.out.b2.cell
    have b1:=O.out.b3.cell
    have b7:=Ah O.out.b2 G.out
    have a8:=hide (W.out.trans (Z.mono W.out.size))
    clear Z
    have ap:=hide (show DL p q=Aj id [I,J,Aj (AV (ns:Int)) q.bad,BA p.topo (ns:Int) q.adj] from by
     unfold DL
     simp only [Aj,id_eq,Bk]
     have e1:I=Ad (q.bad.isEmpty&&q.adj.isEmpty) 1:=by
      rw [ar.out]
      congr 1
      rw [Bv q.bad,Bv q.adj,←z.out.2.2.2.1,←z.out.2.2.2.2.1,←EF]
      rw [aK]
      rfl
     have e2:J=Ad (decide (3<q.bad.length)) 4:=by
      rw [au.out]
      congr 1
      rw [←z.out.2.2.2.1]
      first
       | rfl
       | (rw [decide_eq_decide]; omega)
     rw [e1,e2,←z.out.1]
    )
    obtain⟨wz,be,a9,a4,aq⟩:=Ae w8 #[.int .i64 (I),.int .i64 (J),.int .i64 (Aj (AV (ns:Int)) q.bad),.int .i64 (BA p.topo (ns:Int) q.adj)] 36
    have ag:=hide (Ch (l:=[I,J,Aj (AV (ns:Int)) q.bad,BA p.topo (ns:Int) q.adj]) a4 (by simp))
    have ai:=hide (a8.out.trans (a9.mono a8.out.size))
    clear a4 aq a9
    refine Reg.wI [24] [25,26] rfl fun Qf y=>?_
    go_wp2_with fail
    first | refine y _ _ ⟨rfl,?_⟩ | refine⟨rfl,?_⟩ | refine y _ _ ⟨by simp [Reg.fineT,Reg.intOp,Region.wanted,yielded,Reg.intFine,Reg.isInt,Act.eval],?_⟩
    try clear y
    refine Reg.aI 25 [26] [] rfl fun Qf y=>?_
    simp only [gT,gS,gZ]
    go_wp2_with (go_at_call 120; refine(Ci (l:=[I,J,Aj (AV (ns:Int)) q.bad,BA p.topo (ns:Int) q.adj]) ag.out).mono ?_; rintro e w' ⟨rfl,rfl⟩)
    first | refine y _ _ ⟨Reg.nm,?_⟩ | refine⟨Reg.nm,?_⟩
    try clear y
    refine Reg.wI [26] [] rfl fun Qf y=>?_
    go_wp2_with fail
    first | refine y _ _ ⟨rfl,?_⟩ | refine⟨rfl,?_⟩ | refine y _ _ ⟨by simp [Reg.fineT,Reg.intOp,Region.wanted,yielded,Reg.intFine,Reg.isInt,Act.eval],?_⟩
    try clear y
    first | refine Reg.restI_end ?_ | skip
    go_wp2_with fail
    go_ret
    exact⟨congrArg (Value.int .i64) (aA.out.trans ap.out).symm,ai.out⟩
end Go.Proofs.YtfcfpoemojjglaaGreatDoor.K
namespace Go.Proofs.YtfcfpoemojjglaaGreatDoor.K
open Go.RowKit
attribute [-go_sem] loadCellsFrom storeCells
theorem Uc {w:World} {cs ds:List Value} {p:Am} {q:AB} (h:At w w.heap.size cs p) (W:Ba w w.heap.size ds q) (a8:p.Small) (a9:q.Small) (Z:SpOK w) (ad:Hid (protE nameOK p=0)) (ae:Hid (nameOK q.name=true)) (a7:Hid (q.kind=2)) (hg:q.bad.length=0) (a6:q.adj.length=0) {I:Int} (a4:Hid (setE q.start (p.states.length:Int)=I)) (b0:(I != 0)=true):
  Calls Tryz.prog 71 #[.agg cs.toArray,.agg ds.toArray] w (Ret fun v w'=>v=.int .i64 (I)∧Below w.heap.size w w'):=by
 obtain⟨w1,w2,A1,c1,A5,c5,B1,d1,B2,d2,B3,d3,B4,d4,ns,ni,nt,nb,na,ng,kq,H⟩:=Dj h W a8 a9 Z
 generalize cs.toArray=pc at*
 generalize ds.toArray=qc at*
 clear h W a8 a9 Z
 obtain⟨ag,af,aP,aL,aM,aB⟩:=D7 H
 obtain⟨bg,bh,a2,be,z,y,bf,⟨aA,aw,ax,ay,az⟩,G,⟨b1,aU,aV,aW,aX,aY,aZ⟩,⟨b4,b5,b6⟩,b7,b8,b9,ba,bb,bd⟩:=H
 have aC:=z.out.b2.cell
 have aG:=z.out.b3.cell
 have aQ:=Ah z.out.b2 G.out
 rw [←y.out.1] at a4
 rw [←y.out.2.2.2.1] at hg
 rw [←y.out.2.2.2.2.1] at a6
 have aN:¬(0:Int)<(nb:Int):=by omega
 have aO:¬(0:Int)<(na:Int):=by omega
 clear hg a6
 have bi:(kq==1)=false:=by rw [y.out.2.2.2.2.2.2,a7.out]; rfl
 have bj:(kq != 2)=false:=by rw [y.out.2.2.2.2.2.2,a7.out]; rfl
 go_enter Tryz.func71,Tryz.ntmps71
 go_wp2_with (first
  | (go_at_call 117; refine Calls.ret (ag _ z) ?_; rintro v w3 ⟨rfl,O⟩; rw [ad.out]; have C:=hide (z.out.at O); have aD:=C.out.b2.cell; have aH:=C.out.b3.cell; have aR:=Ah C.out.b2 G.out; have a3:=hide (a2.out.trans (O.mono a2.out.size)); clear O)
  | (go_at_call 118; refine Calls.ret (Da q.name _ (by omega) C.out.tab) ?_; rintro v w4 ⟨rfl,U⟩; rw [ae.out]; have E:=hide (C.out.at U); have aE:=E.out.b2.cell; have aJ:=E.out.b3.cell; have aS:=Ah E.out.b2 G.out; have M:=hide (a3.out.trans (U.mono a3.out.size)); clear U)
  | (go_at_call 119; refine Calls.ret (af _ M.out) ?_; rintro v w5 ⟨rfl,V⟩; rw [a4.out]; have J:=hide (E.out.at V); have aF:=J.out.b2.cell; have aK:=J.out.b3.cell; have aT:=Ah J.out.b2 G.out; have ab:=hide (M.out.trans (V.mono M.out.size)); clear V))
 go_ret
 exact⟨rfl,ab.out⟩
theorem Ud {w:World} {cs ds:List Value} {p:Am} {q:AB} (h:At w w.heap.size cs p) (h':Ba w w.heap.size ds q) (av:p.Small) (aw:q.Small) (hT:SpOK w) (ar:Hid (protE nameOK p=0)) (au:Hid (nameOK q.name=true)) (af:Hid (q.kind=2)) (hg:q.bad.length=0) (ae:q.adj.length=0) (ab:Hid (setE q.start (p.states.length:Int)=0)):
  Calls Tryz.prog 71 #[.agg cs.toArray,.agg ds.toArray] w (Ret fun v w'=>v=.int .i64 (propE nameOK p q)∧Below w.heap.size w w'):=by
 obtain⟨w1,w2,A1,c1,A5,c5,B1,d1,B2,d2,B3,d3,B4,d4,ns,ni,nt,nb,na,ng,kq,H⟩:=Dj h h' av aw hT
 generalize cs.toArray=pc at*
 generalize ds.toArray=qc at*
 clear h h' av aw hT
 obtain⟨aS,aR,aM,aK,bw,bg⟩:=D7 H
 obtain⟨c0,c3,am,bY,I,z,bZ,⟨bf,aE,bb,bd,be⟩,E,⟨bO,bI,bJ,bK,bL,bM,bN⟩,⟨bP,bQ,bR⟩,bS,bT,bU,bV,bW,bX⟩:=H
 have bi:=I.out.b2.cell
 have bp:=I.out.b3.cell
 have bA:=Ah I.out.b2 E.out
 have hR:=hide (show propE nameOK p q=orE (Ad (!CF p q) 5) (Ez p q) from by
  rw [H7 ar.out au.out af.out hg ae,ab.out]
  rfl)
 rw [←z.out.1] at ab
 rw [←z.out.2.2.2.1] at hg
 rw [←z.out.2.2.2.2.1] at ae
 have bx:¬(0:Int)<(nb:Int):=by omega
 have bz:¬(0:Int)<(na:Int):=by omega
 clear hg ae
 have c6:(kq==1)=false:=by rw [z.out.2.2.2.2.2.2,af.out]; rfl
 have c7:(kq != 2)=false:=by rw [z.out.2.2.2.2.2.2,af.out]; rfl
 go_enter Tryz.func71,Tryz.ntmps71
 go_wp2_with (first
  | (go_at_call 117; refine Calls.ret (aS _ I) ?_; rintro v w3 ⟨rfl,a7⟩; rw [ar.out]; have J:=hide (I.out.at a7); have bj:=J.out.b2.cell; have bq:=J.out.b3.cell; have bB:=Ah J.out.b2 E.out; have an:=hide (am.out.trans (a7.mono am.out.size)); clear a7)
  | (go_at_call 118; refine Calls.ret (Da q.name _ (by omega) J.out.tab) ?_; rintro v w4 ⟨rfl,a8⟩; rw [au.out]; have U:=hide (J.out.at a8); have bk:=U.out.b2.cell; have br:=U.out.b3.cell; have bC:=Ah U.out.b2 E.out; have a5:=hide (an.out.trans (a8.mono an.out.size)); clear a8)
  | (go_at_call 119; refine Calls.ret (aR _ a5.out) ?_; rintro v w5 ⟨rfl,a9⟩; rw [ab.out]; have V:=hide (U.out.at a9); have bl:=V.out.b2.cell; have bs:=V.out.b3.cell; have bD:=Ah V.out.b2 E.out; have ao:=hide (a5.out.trans (a9.mono a5.out.size)); clear a9))
 go_loopw [67] (fun ii wr=>∃(k:Nat),ii=.int .i64 (k:Int)∧k≤nt∧Hid (Below w5.heap.size w5 wr)∧Hid ((q.start.take k).all (fun x=>decide (x∈p.initial))=true)) (fun ii _=>nt - (intOf ii).toNat)
 case atStart=>exact⟨0,rfl,Nat.zero_le _,Below.refl _ _,by show _=_; simp⟩
 case round=>
  obtain⟨k,rfl,hk,aa,hE⟩:=hrel
  have W:=hide (V.out.at aa.out)
  have bm:=W.out.b2.cell
  have bt:=W.out.b3.cell
  have bE:=Ah W.out.b2 E.out
  have M:=hide (ao.out.trans (aa.out.mono ao.out.size))
  by_cases bH:k<nt
  ·obtain⟨b,ca,x,hA,bh,hx,C⟩:=(aE.out.keep (w':=wr) (B':=w.heap.size) (fun _ hp=>M.out.cell hp) (Nat.le_refl _)).at (k:=k) (by have:=z.out.2.2.1; omega)
   have d0:=C 0 (by omega)
   simp only [Nat.add_zero,Nat.mul_one,Ai] at d0
   have ay:=hide hx
   subst hA
   clear C hx
   have C:=hide (aK _ x M.out)
   cases G:decide (x∈p.initial)
   ·have aQ:=hide (show CF p q=false from by
     unfold CF
     rw [List.all_eq_false]
     exact⟨x,List.mem_of_getElem? ay.out,by rw [G]; decide⟩)
    rw [G] at C
    clear G
    go_wp2_with (go_at_call 74; refine C.out.mono ?_; rintro r w' ⟨rfl,rfl⟩)
    go_ret
    exact⟨congrArg (Value.int .i64) (hR.out.trans (by rw [aQ.out]; rfl)).symm,M.out⟩
   ·have aP:=hide (Cq (p:=fun x=>decide (x∈p.initial)) ay.out hE.out G)
    rw [G] at C
    clear G
    go_wp2_with (go_at_call 74; refine C.out.mono ?_; rintro r w' ⟨rfl,rfl⟩)
    exact⟨⟨k+1,by go_num,by omega,aa.out,aP.out⟩,by simp [intOf]; omega⟩
  ·have aH:=hide (show CF p q=true from by
    have h1:=z.out.2.2.1
    have h2:=hE.out
    rwa [List.take_of_length_le (by omega)] at h2)
   have aF:=hide (show propE nameOK p q=Ez p q from by rw [hR.out,aH.out]; rfl)
   clear hE
   go_wp2_with fail
   have Z:=hide (W.out.at (Ap wr))
   have bn:=Z.out.b2.cell
   have bu:=Z.out.b3.cell
   have bF:=Ah Z.out.b2 E.out
   have a6:=hide (M.out.trans ((Ap wr).mono M.out.size))
   refine Reg.cI [0,1,0,7,0,16,48,112,255,511,1023,2047] [0,1,2,4,5,6,7,3,8,9,10,11] ?_
   refine Reg.wI [0,1,2,4,5,6,7] [3,8,9,10,11] rfl fun Qf y=>?_
   go_wp2_with fail
   first | refine y _ _ ⟨rfl,?_⟩ | refine⟨rfl,?_⟩ | refine y _ _ ⟨by simp [Reg.fineT,Reg.intOp,Region.wanted,yielded,Reg.intFine,Reg.isInt,Act.eval],?_⟩
   try clear y
   refine Reg.aI 3 [8,9,10,11] [5] rfl fun Qf y=>?_
   simp only [gT,gS,gZ]
   go_wp2_with (go_at_call 119; refine Calls.ret (aM _ a6.out) ?_; rintro v w7 ⟨rfl,O⟩)
   first | refine y _ _ ⟨Reg.same_below (O) [5] rfl,?_⟩ | refine⟨Reg.same_below (O) [5] rfl,?_⟩
   try clear y
   have a4:=hide (Z.out.at O)
   have bo:=a4.out.b2.cell
   have bv:=a4.out.b3.cell
   have bG:=Ah a4.out.b2 E.out
   have ap:=hide (a6.out.trans (O.mono a6.out.size))
   clear O
   refine Reg.aI 8 [9,10,11] [] rfl fun Qf y=>?_
   simp only [gT,gS,gZ]
   go_wp2_with (go_at_call 121; refine Calls.ret (DX _ _ _) ?_; rintro r w' ⟨⟨x1,rfl,aT⟩,rfl⟩)
   first | refine y _ _ ⟨Reg.nm,?_⟩ | refine⟨Reg.nm,?_⟩
   try clear y
   have aL:=hide (show Ez p q=Aj id [setE q.goal (ns:Int),x1] from by
    unfold Ez
    simp only [Aj,id_eq,Bk]
    rw [aT.out,Bv q.goal,←z.out.2.2.2.2.2.1,←z.out.1]
    simp only [EF]
   )
   obtain⟨wz,c4,aq,aj,aN⟩:=Ae w7 #[.int .i64 (setE q.goal (ns:Int)),.int .i64 (x1)] 36
   have aG:=hide (Ch (l:=[setE q.goal (ns:Int),x1]) aj (by simp))
   have aJ:=hide (ap.out.trans (aq.mono ap.out.size))
   clear aj aN aq
   refine Reg.wI [9] [10,11] rfl fun Qf y=>?_
   go_wp2_with fail
   first | refine y _ _ ⟨rfl,?_⟩ | refine⟨rfl,?_⟩ | refine y _ _ ⟨by simp [Reg.fineT,Reg.intOp,Region.wanted,yielded,Reg.intFine,Reg.isInt,Act.eval],?_⟩
   try clear y
   refine Reg.aI 10 [11] [] rfl fun Qf y=>?_
   simp only [gT,gS,gZ]
   go_wp2_with (go_at_call 120; refine(Ci (l:=[setE q.goal (ns:Int),x1]) aG.out).mono ?_; rintro e w' ⟨rfl,rfl⟩)
   first | refine y _ _ ⟨Reg.nm,?_⟩ | refine⟨Reg.nm,?_⟩
   try clear y
   refine Reg.wI [11] [] rfl fun Qf y=>?_
   go_wp2_with fail
   first | refine y _ _ ⟨rfl,?_⟩ | refine⟨rfl,?_⟩ | refine y _ _ ⟨by simp [Reg.fineT,Reg.intOp,Region.wanted,yielded,Reg.intFine,Reg.isInt,Act.eval],?_⟩
   try clear y
   first | refine Reg.restI_end ?_ | skip
   go_wp2_with fail
   go_ret
   exact⟨congrArg (Value.int .i64) (aF.out.trans aL.out).symm,aJ.out⟩
end Go.Proofs.YtfcfpoemojjglaaGreatDoor.K
