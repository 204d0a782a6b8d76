/-
  Part CT of a proof.
-/
import Derived.Test.YtlakpndhhelliaaGreatDoorPA
import Derived.Test.YtlakpndhhelliaaGreatDoorCS
import Derived.Test.YtlakpndhhelliaaGreatDoorCJ
set_option maxHeartbeats 16000000
set_option maxRecDepth 100000
set_option linter.unusedVariables false
set_option linter.unusedSimpArgs false
namespace Go.Proofs.YtlakpndhhelliaaGreatDoor.K
open Go.RowKit
attribute [-go_sem] loadCellsFrom storeCells
theorem Rj {w:World} {cs ds:List Value} {p:Ao} {q:Bd} (h:Ax w w.heap.size cs p) (h':BE w w.heap.size ds q) (bl:p.Small) (aR:q.Small) (hT:AL w) (bw:Hid (At Ab p=0)) (bm:Hid (Ab q.name=true)) (az:Hid (q.kind=1)):
  Calls Tryz.prog 14 #[.agg cs.toArray,.agg ds.toArray] w (Ret fun v w'=>v=.int .i64 (AJ Ab p q)∧Below w.heap.size w w'):=by
 obtain⟨A1,c1,A2,c2,A3,c3,A4,c4,A5,c5,A6,c6,A7,c7,bx,dM,dN,cx,dO,dP,dQ,dR,cy,dS,dT,f,h2,h3,h4,h5,h6,h7,ce⟩:=h.cells
 obtain⟨B1,d1,B2,d2,B3,d3,B4,d4,cH,dY,cJ,cK,cL,cM,cO,k1,I,k3,k4⟩:=h'.cells
 have dZ:=aR.name
 have cQ:=aR.start
 have cR:=aR.bad
 have cS:=aR.adj
 have cT:=aR.goal
 have cU:=bl.states
 have cV:=bl.initial
 have cW:=hide bl
 have cX:=hide h5
 have ch:=hide k1
 have ci:=hide I
 have cj:=hide k3
 have cY:=hide k4
 obtain⟨w1,e0,bn,ck,az⟩:=Ag w cs.toArray 27
 obtain⟨w2,e1,bA,cm,bB⟩:=Ag w1 ds.toArray 30
 have aA:=hide (bn.trans (bA.mono bn.size))
 have e2:=bn.size
 have aX:=hide (show PQX w2 w.heap.size w1.heap.size cs.toArray ds.toArray p q from⟨h.keep (fun _ E=>aA.out.cell E) aA.out.size,h'.keep (fun _ E=>aA.out.cell E) aA.out.size,ck.below bA,cm,hT.below aA.out⟩)
 generalize cZ:cs.toArray=pc at*
 generalize d5:ds.toArray=qc at*
 obtain⟨ns,bC⟩:∃n,n=p.states.length:=⟨_,rfl⟩
 obtain⟨ni,bD⟩:∃n,n=p.initial.length:=⟨_,rfl⟩
 obtain⟨nt,bE⟩:∃n,n=q.start.length:=⟨_,rfl⟩
 obtain⟨nb,bF⟩:∃n,n=q.bad.length:=⟨_,rfl⟩
 obtain⟨z,bG⟩:∃n,n=q.adj.length:=⟨_,rfl⟩
 obtain⟨ng,bI⟩:∃n,n=q.goal.length:=⟨_,rfl⟩
 obtain⟨kq,bJ⟩:∃n,n=q.kind:=⟨_,rfl⟩
 have y:=hide (show ns=p.states.length∧ni=p.initial.length∧nt=q.start.length∧nb=q.bad.length∧z=q.adj.length∧ng=q.goal.length∧kq=q.kind from⟨bC,bD,bE,bF,bG,bI,bJ⟩)
 rw [←bC] at cx cU
 rw [←bD] at cy cV
 rw [←bE] at cK cQ
 rw [←bF] at cL cR
 rw [←bG] at cM cS
 rw [←bI] at cO cT
 rw [←bJ] at cJ
 clear bC bD bE bF bG bI bJ
 have e3:=hide bx
 have d6:∀C,Hid (PQX C w.heap.size w1.heap.size pc qc p q)→Calls Tryz.prog 31 #[.agg pc] C (Ret fun v w'=>v=.int .i64 (At Ab p)∧Below C.heap.size C w'):=fun C U=>Fl U.out.pr cW.out U.out.tab
 have co:∀C,Below w.heap.size w C→Calls Tryz.prog 33 #[.slice B1 nt d1,.int .i64 (ns:Int)] C (Ret fun r w'=>r=.int .i64 (Aa q.start (ns:Int))∧Below C.heap.size C w'):=fun C U=>by
  rw [y.out.2.2.1]
  exact AU (by omega) (ch.out.keep (fun _ E=>U.cell E) U.size)
 have e4:∀C,Below w.heap.size w C→Calls Tryz.prog 33 #[.slice B4 ng d4,.int .i64 (ns:Int)] C (Ret fun r w'=>r=.int .i64 (Aa q.goal (ns:Int))∧Below C.heap.size C w'):=fun C U=>by
  rw [y.out.2.2.2.2.2.1]
  exact AU (by omega) (cY.out.keep (fun _ E=>U.cell E) U.size)
 have d7:∀C x,Below w.heap.size w C→Calls Tryz.prog 34 #[.slice A5 ni c5,.int .i64 x] C fun r w'=>r=.returned (.bool (decide (x∈p.initial)))∧C=w':=fun C x U=>by
  rw [y.out.2.1]
  exact Fu (cX.out.keep (fun _ E=>U.cell E) U.size)
 have e5:=aX.out.b2.cell
 have e7:=aX.out.b3.cell
 have e8:=Am aX.out.b2 bx
 have d8:=ce
 clear f h2 h3 h4 h5 h6 h7 k1 I k3 k4 h h' bl aR bn bA ck cm az bB cZ d5 hT bx cH ce d8
 have d9:(kq != 1)=false:=by rw [y.out.2.2.2.2.2.2,az.out]; rfl
 have da:(kq==1)=true:=by rw [y.out.2.2.2.2.2.2,az.out]; rfl
 have e9:(kq==2)=false:=by rw [y.out.2.2.2.2.2.2,az.out]; rfl
 go_enter Tryz.func14,Tryz.ntmps14
 go_wp2_with fail
 refine Calls.ret (d6 _ aX) ?_; rintro v w3 ⟨rfl,bK⟩; rw [bw.out]; have bp:=hide (aX.out.at bK); have eb:=bp.out.b2.cell; have ed:=bp.out.b3.cell; have bq:=hide (aA.out.trans (bK.mono aA.out.size)); clear bK; go_wp2_with fail
 by_cases db:(0:Int)<(ng:Int)
 case pos=>
  refine Calls.ret (BK q.name _ (by omega)) ?_; rintro v w4 ⟨rfl,aB⟩; rw [bm.out]; have aC:=hide (bp.out.at aB); have de:=aC.out.b2.cell; have df:=aC.out.b3.cell; have ax:=hide (bq.out.trans (aB.mono bq.out.size)); clear aB; go_wp2_with fail
  go_ret
  exact⟨congrArg (Value.int .i64) (Jx bw.out bm.out az.out (by have:=y.out.2.2.2.2.2.1; omega)).symm,ax.out⟩
 have hV:=hide (G5 bw.out bm.out az.out (by have:=y.out.2.2.2.2.2.1; omega))
 refine Calls.ret (BK q.name _ (by omega)) ?_; rintro v w4 ⟨rfl,aB⟩; rw [bm.out]; have aC:=hide (bp.out.at aB); have de:=aC.out.b2.cell; have df:=aC.out.b3.cell; have ax:=hide (bq.out.trans (aB.mono bq.out.size)); clear aB; go_wp2_with fail
 clear db d9 da
 obtain⟨e6,br⟩:∃e,Hid (Aa q.start (ns:Int)=e):=⟨_,rfl⟩
 by_cases aS:e6=0
 case neg=>
  have Q6:(e6 != 0)=true:=by simp [aS]
  have H6:=hide aS
  clear aS
  refine Calls.ret (co _ ax.out) ?_; rintro v w5 ⟨rfl,aD⟩; rw [br.out]; have aT:=hide (aC.out.at aD); have dg:=aT.out.b2.cell; have dh:=aT.out.b3.cell; have bs:=hide (ax.out.trans (aD.mono ax.out.size)); clear aD; go_wp2_with fail
  go_ret
  exact⟨congrArg (Value.int .i64) (hV.out.trans (by rw [←y.out.1,br.out]; exact Bz H6.out)).symm,bs.out⟩
 have Q6:(e6 != 0)=false:=by simp [aS]
 have H6:=hide aS
 clear aS
 have hR:=hide (show AJ Ab p q=orE (Ac (!Cn p q) 5) (De p q) from hV.out.trans (by rw [←y.out.1,br.out,H6.out]; rfl))
 refine Calls.ret (co _ ax.out) ?_; rintro v w5 ⟨rfl,aD⟩; rw [br.out]; have aT:=hide (aC.out.at aD); have dg:=aT.out.b2.cell; have dh:=aT.out.b3.cell; have bs:=hide (ax.out.trans (aD.mono ax.out.size)); clear aD; go_wp2_with fail
 clear Q6
 go_loopw [8] (fun J wr=>∃(k:Nat),J=.int .i64 (k:Int)∧k≤nt∧Hid (Below w5.heap.size w5 wr)∧Hid ((q.start.take k).all (fun x=>decide (x∈p.initial))=true)) (fun J _=>nt - (intOf J).toNat)
 case atStart=>exact⟨0,rfl,Nat.zero_le _,Below.refl _ _,by show _=_; simp⟩
 case round=>
  obtain⟨k,rfl,hk,bt,hE⟩:=hrel
  have bu:=hide (aT.out.at bt.out)
  have ee:=bu.out.b2.cell
  have ef:=bu.out.b3.cell
  have ad:=hide (bs.out.trans (bt.out.mono bs.out.size))
  by_cases eg:k<nt
  ·obtain⟨b,eh,x,hA,ei,U,aE⟩:=(ch.out.keep (w':=wr) (B':=w.heap.size) (fun _ E=>ad.out.cell E) (Nat.le_refl _)).at (k:=k) (by have:=y.out.2.2.1; omega)
   have d0:=aE 0 (by omega)
   simp only [Nat.add_zero,Nat.mul_one,Ai] at d0
   have ct:=hide U
   have dj:=hide (bt.out.trans ((Ap wr).mono bt.out.size))
   have cu:=hide (ad.out.trans ((Ap wr).mono ad.out.size))
   subst hA
   clear aE U
   have aE:=hide (d7 _ x cu.out)
   cases hv:decide (x∈p.initial)
   ·have aZ:=hide (show Cn p q=false from by
     unfold Cn
     rw [List.all_eq_false]
     exact⟨x,List.mem_of_getElem? ct.out,by rw [hv]; decide⟩)
    rw [hv] at aE
    clear hv
    go_wp2_with fail
    refine Reg.cP [0,1,0,4,0,28,60,127,255] ?_
    go_wp2_with (go_at_call 34; refine aE.out.mono ?_; rintro r w' ⟨rfl,rfl⟩)
    go_ret
    exact⟨congrArg (Value.int .i64) (hR.out.trans (by rw [aZ.out]; rfl)).symm,cu.out⟩
   ·have dk:=hide (BP (p:=fun x=>decide (x∈p.initial)) ct.out hE.out hv)
    rw [hv] at aE
    clear hv
    go_wp2_with fail
    refine Reg.cP [0,1,0,4,0,28,60,127,255] ?_
    go_wp2_with (go_at_call 34; refine aE.out.mono ?_; rintro r w' ⟨rfl,rfl⟩)
    exact⟨⟨k+1,by go_num,by omega,dj.out,dk.out⟩,by simp [intOf]; omega⟩
  ·have dl:=hide (show Cn p q=true from by
    have f:=y.out.2.2.1
    have h2:=hE.out
    rwa [List.take_of_length_le (by omega)] at h2)
   have bP:=hide (show AJ Ab p q=De p q from by rw [hR.out,dl.out]; rfl)
   clear hE
   by_cases ay:nb=0
   ·have Q1:((nb:Int)==0)=true:=by simp [ay]
    by_cases aV:z=0
    ·have Q2:((z:Int)==0)=true:=by simp [aV]
     have HH:=hide (show nb=0∧z=0 from⟨ay,aV⟩)
     clear ay aV
     go_wp2_with fail
     go_ret
     exact⟨congrArg (Value.int .i64) (bP.out.trans (by unfold De; rw [Bn q.bad,Bn q.adj,←y.out.2.2.2.1,←y.out.2.2.2.2.1,decide_eq_true HH.out.1,decide_eq_true HH.out.2]; rfl)).symm,ad.out⟩
    ·have Q2:((z:Int)==0)=false:=by simp [aV]
     have HH:=hide (show nb=0∧z≠0 from⟨ay,aV⟩)
     clear ay aV
     have b0:=hide (show AJ Ab p q=orE (Ac (decide (3<q.bad.length)) 4) (orE (Ah (Az (ns:Int)) q.bad) (Bb p.topo (ns:Int) q.adj)) from bP.out.trans (by
      unfold De
      rw [Bn q.bad,Bn q.adj,←y.out.2.2.2.1,←y.out.2.2.2.2.1,←y.out.1]
      rw [decide_eq_true HH.out.1,decide_eq_false HH.out.2]
      rfl))
     by_cases bQ:(3:Int)<(nb:Int)
     case pos=>
      go_wp2_with fail
      go_ret
      exact⟨congrArg (Value.int .i64) (b0.out.trans (by rw [decide_eq_true (show 3<q.bad.length by have:=y.out.2.2.2.1; omega)]; rfl)).symm,ad.out⟩
     have b1:=hide (show AJ Ab p q=orE (Ah (Az (ns:Int)) q.bad) (Bb p.topo (ns:Int) q.adj) from b0.out.trans (by rw [decide_eq_false (show ¬3<q.bad.length by have:=y.out.2.2.2.1; omega)]; rfl))
     go_wp2_with fail
     obtain⟨am,bR⟩:∃x,x=wr:=⟨_,rfl⟩
     subst bR
     have M:=ad
     clear bQ
     go_loopw [10] (fun J wr=>∃(k:Nat),J=.int .i64 (k:Int)∧k≤nb∧Hid (Below am.heap.size am wr)∧Hid (Ah (Az (ns:Int)) (q.bad.take k)=0)) (fun J _=>nb - (intOf J).toNat)
     case atStart=>exact⟨0,rfl,Nat.zero_le _,Below.refl _ _,by show _=_; rfl⟩
     case round=>
      obtain⟨I,rfl,bB,O,an⟩:=hrel
      have af:=hide (bu.out.at O.out)
      have dp:=af.out.b2.cell
      have dq:=af.out.b3.cell
      have F:=hide (ad.out.trans (O.out.mono ad.out.size))
      by_cases dr:I<nb
      ·obtain⟨b2,Z,c,dt,bS,du,b5,dv,aG,bT⟩:=(ci.out.keep (w':=am) (B':=w.heap.size) (R':=CY am w.heap.size) (fun _ E=>M.out.cell E) (fun _ _ h=>h.keep (fun _ E=>M.out.cell E) (Nat.le_refl _)) (Nat.le_refl _)).at (i:=I) (by have:=y.out.2.2.2.1; omega)
       obtain⟨C1,g1,rfl,aH⟩:=bT
       have a8:=aG 0 _ rfl
       have ao:=aG 1 _ rfl
       simp only [Nat.add_zero] at a8
       have b6:=hide b5
       obtain⟨nc,ap⟩:∃n,n=c.states.length:=⟨_,rfl⟩
       have b7:=hide ap
       rw [←ap] at a8
       have dw:=(O.out.cell (p:=⟨b2,Z+I*2,none⟩) (by show b2<_; have:=M.out.size; omega)).trans a8
       have dx:=(O.out.cell (p:=⟨b2,Z+I*2+1,none⟩) (by show b2<_; have:=M.out.size; omega)).trans ao
       have bW:=aH.1
       rw [←ap] at bW
       have bX:=hide (aH.keep (w':=w) (B':=w.heap.size) (fun _ E=>(M.out.cell E).symm) (Nat.le_refl _))
       have aJ:∀C,Below w.heap.size w C→Calls Tryz.prog 33 #[.slice C1 nc g1,.int .i64 (ns:Int)] C (Ret fun r w'=>r=.int .i64 (Aa c.states (ns:Int))∧Below C.heap.size C w'):=fun C U=>by
        rw [b7.out]
        exact AU (by omega) (bX.out.keep (fun _ E=>U.cell E) U.size)
       subst bS
       clear aG b5 aH ap
       have aK:=hide (show Az (ns:Int) c≠0→AJ Ab p q=Az (ns:Int) c from fun a9=>by
        rw [b1.out,Cd (Az (ns:Int)) b6.out an.out a9,Bz a9])
       go_wp2_with fail
       obtain⟨ec,ai⟩:∃e,Hid (Aa c.states (ns:Int)=e):=⟨_,rfl⟩
       by_cases a2:ec=0
       case neg=>
        have Qc:(ec != 0)=true:=by simp [a2]
        have V:=hide (show AJ Ab p q=ec from by
         have f:Az (ns:Int) c=ec:=by unfold Az; rw [ai.out,Bz a2]
         exact(aK.out (by rw [f]; exact a2)).trans f)
        clear a2
        refine Calls.ret (aJ _ F.out) ?_; rintro v w8 ⟨rfl,G⟩; rw [ai.out]; have a3:=hide (af.out.at G); have b9:=a3.out.b2.cell; have ba:=a3.out.b3.cell; have aj:=hide (F.out.trans (G.mono F.out.size)); have W:=hide (O.out.trans (G.mono O.out.size)); have bb:=(W.out.cell (p:=⟨b2,Z+I*2,none⟩) (by show b2<_; have:=M.out.size; omega)).trans a8; have bc:=(W.out.cell (p:=⟨b2,Z+I*2+1,none⟩) (by show b2<_; have:=M.out.size; omega)).trans ao; clear G; go_wp2_with fail
        go_ret
        exact⟨congrArg (Value.int .i64) V.out.symm,aj.out⟩
       have Qc:(ec != 0)=false:=by simp [a2]
       have aL:=hide (show Az (ns:Int) c=Ac (decide (nc=0)||!inC c.least 1 3) 1 from by
        unfold Az
        rw [ai.out,a2,BI,Bn,←b7.out]
        rfl)
       have dy:=hide a2
       clear a2
       by_cases a5:nc=0
       case pos=>
        have Qn:((nc:Int)==0)=true:=by simp [a5]
        have V:=hide (show AJ Ab p q=1 from by
         have f:Az (ns:Int) c=1:=by rw [aL.out,decide_eq_true a5]; rfl
         exact(aK.out (by rw [f]; decide)).trans f)
        have Hn:=hide a5
        clear a5
        refine Calls.ret (aJ _ F.out) ?_; rintro v w8 ⟨rfl,G⟩; rw [ai.out]; have a3:=hide (af.out.at G); have b9:=a3.out.b2.cell; have ba:=a3.out.b3.cell; have aj:=hide (F.out.trans (G.mono F.out.size)); have W:=hide (O.out.trans (G.mono O.out.size)); have bb:=(W.out.cell (p:=⟨b2,Z+I*2,none⟩) (by show b2<_; have:=M.out.size; omega)).trans a8; have bc:=(W.out.cell (p:=⟨b2,Z+I*2+1,none⟩) (by show b2<_; have:=M.out.size; omega)).trans ao; clear G; go_wp2_with fail
        go_ret
        exact⟨congrArg (Value.int .i64) V.out.symm,aj.out⟩
       have Qn:((nc:Int)==0)=false:=by simp [a5]
       have Hn:=hide a5
       clear a5
       refine Calls.ret (aJ _ F.out) ?_; rintro v w8 ⟨rfl,G⟩; rw [ai.out]; have a3:=hide (af.out.at G); have b9:=a3.out.b2.cell; have ba:=a3.out.b3.cell; have aj:=hide (F.out.trans (G.mono F.out.size)); have W:=hide (O.out.trans (G.mono O.out.size)); have bb:=(W.out.cell (p:=⟨b2,Z+I*2,none⟩) (by show b2<_; have:=M.out.size; omega)).trans a8; have bc:=(W.out.cell (p:=⟨b2,Z+I*2+1,none⟩) (by show b2<_; have:=M.out.size; omega)).trans ao; clear G; go_wp2_with fail
       cases aq:inC c.least 1 3
       ·have ak:=hide aq
        clear aq
        have V:=hide (show AJ Ab p q=1 from by
         have f:Az (ns:Int) c=1:=by rw [aL.out,decide_eq_false Hn.out,ak.out]; rfl
         exact(aK.out (by rw [f]; decide)).trans f)
        refine(Al _ _ _ _).mono ?_; rintro e w' ⟨rfl,rfl⟩; rw [ak.out]; go_wp2_with fail
        go_ret
        exact⟨congrArg (Value.int .i64) V.out.symm,aj.out⟩
       ·have ak:=hide aq
        clear aq
        have aN:=hide (show Ah (Az (ns:Int)) (q.bad.take (I+1))=0 from by
         rw [Cq (Az (ns:Int)) b6.out an.out,aL.out,decide_eq_false Hn.out,ak.out]
         rfl)
        refine(Al _ _ _ _).mono ?_; rintro e w' ⟨rfl,rfl⟩; rw [ak.out]; go_wp2_with fail
        exact⟨⟨I+1,by go_num,by omega,W.out,aN.out⟩,by simp [intOf]; omega⟩
      ·have hA:=hide (show AJ Ab p q=Bb p.topo (ns:Int) q.adj from b1.out.trans (by
        have f:=an.out
        rw [List.take_of_length_le (by have:=y.out.2.2.2.1; omega)] at f
        rw [f,BI]))
       clear an
       obtain⟨aO,c0⟩:∃x,x=wr:=⟨_,rfl⟩
       subst c0
       by_cases ar:z=0
       case pos=>
        have G1:¬(0:Int)<(z:Int):=by omega
        have G2:((z:Int) != 0)=false:=by simp [ar]
        have hB:=hide (show AJ Ab p q=Ah (fun x=>Ac (!inE x (ns:Int)) 5) q.adj from hA.out.trans (by
         have f:q.adj=[]:=List.length_eq_zero_iff.1 (by have:=y.out.2.2.2.2.1; omega)
         rw [f]
         rfl))
        have c8:=hide ar
        clear ar
        go_wp2_with fail
        clear G1 G2
        go_loopw [12] (fun J wr=>∃(k:Nat),J=.int .i64 (k:Int)∧k≤z∧aO=wr∧Hid (Ah (fun x=>Ac (!inE x (ns:Int)) 5) (q.adj.take k)=0)) (fun J _=>z - (intOf J).toNat)
        case atStart=>exact⟨0,rfl,Nat.zero_le _,(by first | rfl | trivial),by show _=_; rfl⟩
        case round=>
         obtain⟨k4,rfl,c9,rfl,a6⟩:=hrel
         by_cases ca:k4<z
         ·exfalso
          have:=c8.out
          omega
         ·have V:=hide (show AJ Ab p q=0 from hB.out.trans (by
           have f:=a6.out
           rwa [List.take_of_length_le (by have:=y.out.2.2.2.2.1; omega)] at f))
          clear a6
          go_wp2_with fail
          go_ret
          exact⟨congrArg (Value.int .i64) V.out.symm,F.out⟩
       have G1:(0:Int)<(z:Int):=by omega
       have a9:=hide (show q.adj.isEmpty=false from by rw [Bn]; exact decide_eq_false (by have:=y.out.2.2.2.2.1; omega))
       by_cases aa:p.topo=1
       case pos=>
        have G3:(p.topo==1)=true:=by simp [aa]
        have av:=hide aa
        clear aa
        go_wp2_with fail
        go_ret
        exact⟨congrArg (Value.int .i64) (hA.out.trans (by unfold Bb; rw [a9.out,decide_eq_true av.out]; rfl)).symm,F.out⟩
       have G3:(p.topo==1)=false:=by simp [aa]
       have av:=hide aa
       clear aa
       have G2:((z:Int) != 0)=true:=by simp [ar]
       have be:q.adj.length=z:=y.out.2.2.2.2.1.symm
       have bf:=hide be
       clear be
       by_cases ab:z=2
       case neg=>
        have G4:((z:Int) != 2)=true:=by
         have:((z:Int)==2)=false:=by
          simp
          omega
         simp [bne,this]
        have bh:=hide ab
        clear ab
        go_wp2_with fail
        go_ret
        exact⟨congrArg (Value.int .i64) (hA.out.trans (by unfold Bb; rw [a9.out,decide_eq_false av.out,bf.out,decide_eq_false bh.out]; rfl)).symm,F.out⟩
       have G4:((z:Int) != 2)=false:=by simp [ab]
       have hB:=hide (show AJ Ab p q=Ah (fun x=>Ac (!inE x (ns:Int)) 5) q.adj from hA.out.trans (by unfold Bb; rw [a9.out,decide_eq_false av.out,bf.out,decide_eq_true ab]; rfl))
       have bh:=hide ab
       clear ab
       go_wp2_with fail
       clear G1 G2 G3 G4
       go_loopw [12] (fun J wr=>∃(k:Nat),J=.int .i64 (k:Int)∧k≤z∧aO=wr∧Hid (Ah (fun x=>Ac (!inE x (ns:Int)) 5) (q.adj.take k)=0)) (fun J _=>z - (intOf J).toNat)
       case atStart=>exact⟨0,rfl,Nat.zero_le _,(by first | rfl | trivial),by show _=_; rfl⟩
       case round=>
        obtain⟨k4,rfl,c9,rfl,a6⟩:=hrel
        by_cases ca:k4<z
        ·obtain⟨b4,dz,x,cb,dA,bi,bj⟩:=(cj.out.keep (w':=aO) (B':=w.heap.size) (fun _ E=>F.out.cell E) (Nat.le_refl _)).at (k:=k4) (by have:=y.out.2.2.2.2.1; omega)
         have d4:=bj 0 (by omega)
         simp only [Nat.add_zero,Nat.mul_one,Ai] at d4
         have bk:=hide bi
         subst cb
         clear bj bi
         go_wp2_with fail
         cases aw:inC x 0 ((ns:Int) - 1)
         ·have al:=hide aw
          clear aw
          have aZ:=hide (show Ah (fun x=>Ac (!inE x (ns:Int)) 5) q.adj=5 from by
           have f:Ac (!inE x (ns:Int)) 5=5:=by rw [CJ,al.out]; rfl
           rw [Cd (fun x=>Ac (!inE x (ns:Int)) 5) bk.out a6.out (by rw [f]; decide),f])
          refine(Al _ _ _ _).mono ?_; rintro e w' ⟨rfl,rfl⟩; rw [al.out]; go_wp2_with fail
          go_ret
          exact⟨congrArg (Value.int .i64) (hB.out.trans aZ.out).symm,F.out⟩
         ·have al:=hide aw
          clear aw
          have aN:=hide (show Ah (fun x=>Ac (!inE x (ns:Int)) 5) (q.adj.take (k4+1))=0 from by
           rw [Cq (fun x=>Ac (!inE x (ns:Int)) 5) bk.out a6.out,CJ,al.out]
           rfl)
          refine(Al _ _ _ _).mono ?_; rintro e w' ⟨rfl,rfl⟩; rw [al.out]; go_wp2_with fail
          exact⟨⟨k4+1,by go_num,by omega,(by first | rfl | trivial),aN.out⟩,by simp [intOf]; omega⟩
        ·have V:=hide (show AJ Ab p q=0 from hB.out.trans (by
          have f:=a6.out
          rwa [List.take_of_length_le (by have:=y.out.2.2.2.2.1; omega)] at f))
         clear a6
         go_wp2_with fail
         go_ret
         exact⟨congrArg (Value.int .i64) V.out.symm,F.out⟩
   ·have Q1:((nb:Int)==0)=false:=by simp [ay]
    have HH:=hide ay
    clear ay
    have b0:=hide (show AJ Ab p q=orE (Ac (decide (3<q.bad.length)) 4) (orE (Ah (Az (ns:Int)) q.bad) (Bb p.topo (ns:Int) q.adj)) from bP.out.trans (by
     unfold De
     rw [Bn q.bad,Bn q.adj,←y.out.2.2.2.1,←y.out.2.2.2.2.1,←y.out.1]
     rw [decide_eq_false HH.out]
     rfl))
    by_cases bQ:(3:Int)<(nb:Int)
    case pos=>
     go_wp2_with fail
     go_ret
     exact⟨congrArg (Value.int .i64) (b0.out.trans (by rw [decide_eq_true (show 3<q.bad.length by have:=y.out.2.2.2.1; omega)]; rfl)).symm,ad.out⟩
    have b1:=hide (show AJ Ab p q=orE (Ah (Az (ns:Int)) q.bad) (Bb p.topo (ns:Int) q.adj) from b0.out.trans (by rw [decide_eq_false (show ¬3<q.bad.length by have:=y.out.2.2.2.1; omega)]; rfl))
    go_wp2_with fail
    obtain⟨am,bR⟩:∃x,x=wr:=⟨_,rfl⟩
    subst bR
    have M:=ad
    clear bQ
    go_loopw [10] (fun J wr=>∃(k:Nat),J=.int .i64 (k:Int)∧k≤nb∧Hid (Below am.heap.size am wr)∧Hid (Ah (Az (ns:Int)) (q.bad.take k)=0)) (fun J _=>nb - (intOf J).toNat)
    case atStart=>exact⟨0,rfl,Nat.zero_le _,Below.refl _ _,by show _=_; rfl⟩
    case round=>
     obtain⟨I,rfl,bB,O,an⟩:=hrel
     have af:=hide (bu.out.at O.out)
     have dp:=af.out.b2.cell
     have dq:=af.out.b3.cell
     have F:=hide (ad.out.trans (O.out.mono ad.out.size))
     by_cases dr:I<nb
     ·obtain⟨b2,Z,c,dt,bS,du,b5,dv,aG,bT⟩:=(ci.out.keep (w':=am) (B':=w.heap.size) (R':=CY am w.heap.size) (fun _ E=>M.out.cell E) (fun _ _ h=>h.keep (fun _ E=>M.out.cell E) (Nat.le_refl _)) (Nat.le_refl _)).at (i:=I) (by have:=y.out.2.2.2.1; omega)
      obtain⟨C1,g1,rfl,aH⟩:=bT
      have a8:=aG 0 _ rfl
      have ao:=aG 1 _ rfl
      simp only [Nat.add_zero] at a8
      have b6:=hide b5
      obtain⟨nc,ap⟩:∃n,n=c.states.length:=⟨_,rfl⟩
      have b7:=hide ap
      rw [←ap] at a8
      have dw:=(O.out.cell (p:=⟨b2,Z+I*2,none⟩) (by show b2<_; have:=M.out.size; omega)).trans a8
      have dx:=(O.out.cell (p:=⟨b2,Z+I*2+1,none⟩) (by show b2<_; have:=M.out.size; omega)).trans ao
      have bW:=aH.1
      rw [←ap] at bW
      have bX:=hide (aH.keep (w':=w) (B':=w.heap.size) (fun _ E=>(M.out.cell E).symm) (Nat.le_refl _))
      have aJ:∀C,Below w.heap.size w C→Calls Tryz.prog 33 #[.slice C1 nc g1,.int .i64 (ns:Int)] C (Ret fun r w'=>r=.int .i64 (Aa c.states (ns:Int))∧Below C.heap.size C w'):=fun C U=>by
       rw [b7.out]
       exact AU (by omega) (bX.out.keep (fun _ E=>U.cell E) U.size)
      subst bS
      clear aG b5 aH ap
      have aK:=hide (show Az (ns:Int) c≠0→AJ Ab p q=Az (ns:Int) c from fun a9=>by
       rw [b1.out,Cd (Az (ns:Int)) b6.out an.out a9,Bz a9])
      go_wp2_with fail
      obtain⟨ec,ai⟩:∃e,Hid (Aa c.states (ns:Int)=e):=⟨_,rfl⟩
      by_cases a2:ec=0
      case neg=>
       have Qc:(ec != 0)=true:=by simp [a2]
       have V:=hide (show AJ Ab p q=ec from by
        have f:Az (ns:Int) c=ec:=by unfold Az; rw [ai.out,Bz a2]
        exact(aK.out (by rw [f]; exact a2)).trans f)
       clear a2
       refine Calls.ret (aJ _ F.out) ?_; rintro v w8 ⟨rfl,G⟩; rw [ai.out]; have a3:=hide (af.out.at G); have b9:=a3.out.b2.cell; have ba:=a3.out.b3.cell; have aj:=hide (F.out.trans (G.mono F.out.size)); have W:=hide (O.out.trans (G.mono O.out.size)); have bb:=(W.out.cell (p:=⟨b2,Z+I*2,none⟩) (by show b2<_; have:=M.out.size; omega)).trans a8; have bc:=(W.out.cell (p:=⟨b2,Z+I*2+1,none⟩) (by show b2<_; have:=M.out.size; omega)).trans ao; clear G; go_wp2_with fail
       go_ret
       exact⟨congrArg (Value.int .i64) V.out.symm,aj.out⟩
      have Qc:(ec != 0)=false:=by simp [a2]
      have aL:=hide (show Az (ns:Int) c=Ac (decide (nc=0)||!inC c.least 1 3) 1 from by
       unfold Az
       rw [ai.out,a2,BI,Bn,←b7.out]
       rfl)
      have dy:=hide a2
      clear a2
      by_cases a5:nc=0
      case pos=>
       have Qn:((nc:Int)==0)=true:=by simp [a5]
       have V:=hide (show AJ Ab p q=1 from by
        have f:Az (ns:Int) c=1:=by rw [aL.out,decide_eq_true a5]; rfl
        exact(aK.out (by rw [f]; decide)).trans f)
       have Hn:=hide a5
       clear a5
       refine Calls.ret (aJ _ F.out) ?_; rintro v w8 ⟨rfl,G⟩; rw [ai.out]; have a3:=hide (af.out.at G); have b9:=a3.out.b2.cell; have ba:=a3.out.b3.cell; have aj:=hide (F.out.trans (G.mono F.out.size)); have W:=hide (O.out.trans (G.mono O.out.size)); have bb:=(W.out.cell (p:=⟨b2,Z+I*2,none⟩) (by show b2<_; have:=M.out.size; omega)).trans a8; have bc:=(W.out.cell (p:=⟨b2,Z+I*2+1,none⟩) (by show b2<_; have:=M.out.size; omega)).trans ao; clear G; go_wp2_with fail
       go_ret
       exact⟨congrArg (Value.int .i64) V.out.symm,aj.out⟩
      have Qn:((nc:Int)==0)=false:=by simp [a5]
      have Hn:=hide a5
      clear a5
      refine Calls.ret (aJ _ F.out) ?_; rintro v w8 ⟨rfl,G⟩; rw [ai.out]; have a3:=hide (af.out.at G); have b9:=a3.out.b2.cell; have ba:=a3.out.b3.cell; have aj:=hide (F.out.trans (G.mono F.out.size)); have W:=hide (O.out.trans (G.mono O.out.size)); have bb:=(W.out.cell (p:=⟨b2,Z+I*2,none⟩) (by show b2<_; have:=M.out.size; omega)).trans a8; have bc:=(W.out.cell (p:=⟨b2,Z+I*2+1,none⟩) (by show b2<_; have:=M.out.size; omega)).trans ao; clear G; go_wp2_with fail
      cases aq:inC c.least 1 3
      ·have ak:=hide aq
       clear aq
       have V:=hide (show AJ Ab p q=1 from by
        have f:Az (ns:Int) c=1:=by rw [aL.out,decide_eq_false Hn.out,ak.out]; rfl
        exact(aK.out (by rw [f]; decide)).trans f)
       refine(Al _ _ _ _).mono ?_; rintro e w' ⟨rfl,rfl⟩; rw [ak.out]; go_wp2_with fail
       go_ret
       exact⟨congrArg (Value.int .i64) V.out.symm,aj.out⟩
      ·have ak:=hide aq
       clear aq
       have aN:=hide (show Ah (Az (ns:Int)) (q.bad.take (I+1))=0 from by
        rw [Cq (Az (ns:Int)) b6.out an.out,aL.out,decide_eq_false Hn.out,ak.out]
        rfl)
       refine(Al _ _ _ _).mono ?_; rintro e w' ⟨rfl,rfl⟩; rw [ak.out]; go_wp2_with fail
       exact⟨⟨I+1,by go_num,by omega,W.out,aN.out⟩,by simp [intOf]; omega⟩
     ·have hA:=hide (show AJ Ab p q=Bb p.topo (ns:Int) q.adj from b1.out.trans (by
       have f:=an.out
       rw [List.take_of_length_le (by have:=y.out.2.2.2.1; omega)] at f
       rw [f,BI]))
      clear an
      obtain⟨aO,c0⟩:∃x,x=wr:=⟨_,rfl⟩
      subst c0
      by_cases ar:z=0
      case pos=>
       have G1:¬(0:Int)<(z:Int):=by omega
       have G2:((z:Int) != 0)=false:=by simp [ar]
       have hB:=hide (show AJ Ab p q=Ah (fun x=>Ac (!inE x (ns:Int)) 5) q.adj from hA.out.trans (by
        have f:q.adj=[]:=List.length_eq_zero_iff.1 (by have:=y.out.2.2.2.2.1; omega)
        rw [f]
        rfl))
       have c8:=hide ar
       clear ar
       go_wp2_with fail
       clear G1 G2
       go_loopw [12] (fun J wr=>∃(k:Nat),J=.int .i64 (k:Int)∧k≤z∧aO=wr∧Hid (Ah (fun x=>Ac (!inE x (ns:Int)) 5) (q.adj.take k)=0)) (fun J _=>z - (intOf J).toNat)
       case atStart=>exact⟨0,rfl,Nat.zero_le _,(by first | rfl | trivial),by show _=_; rfl⟩
       case round=>
        obtain⟨k4,rfl,c9,rfl,a6⟩:=hrel
        by_cases ca:k4<z
        ·exfalso
         have:=c8.out
         omega
        ·have V:=hide (show AJ Ab p q=0 from hB.out.trans (by
          have f:=a6.out
          rwa [List.take_of_length_le (by have:=y.out.2.2.2.2.1; omega)] at f))
         clear a6
         go_wp2_with fail
         go_ret
         exact⟨congrArg (Value.int .i64) V.out.symm,F.out⟩
      have G1:(0:Int)<(z:Int):=by omega
      have a9:=hide (show q.adj.isEmpty=false from by rw [Bn]; exact decide_eq_false (by have:=y.out.2.2.2.2.1; omega))
      by_cases aa:p.topo=1
      case pos=>
       have G3:(p.topo==1)=true:=by simp [aa]
       have av:=hide aa
       clear aa
       go_wp2_with fail
       go_ret
       exact⟨congrArg (Value.int .i64) (hA.out.trans (by unfold Bb; rw [a9.out,decide_eq_true av.out]; rfl)).symm,F.out⟩
      have G3:(p.topo==1)=false:=by simp [aa]
      have av:=hide aa
      clear aa
      have G2:((z:Int) != 0)=true:=by simp [ar]
      have be:q.adj.length=z:=y.out.2.2.2.2.1.symm
      have bf:=hide be
      clear be
      by_cases ab:z=2
      case neg=>
       have G4:((z:Int) != 2)=true:=by
        have:((z:Int)==2)=false:=by
         simp
         omega
        simp [bne,this]
       have bh:=hide ab
       clear ab
       go_wp2_with fail
       go_ret
       exact⟨congrArg (Value.int .i64) (hA.out.trans (by unfold Bb; rw [a9.out,decide_eq_false av.out,bf.out,decide_eq_false bh.out]; rfl)).symm,F.out⟩
      have G4:((z:Int) != 2)=false:=by simp [ab]
      have hB:=hide (show AJ Ab p q=Ah (fun x=>Ac (!inE x (ns:Int)) 5) q.adj from hA.out.trans (by unfold Bb; rw [a9.out,decide_eq_false av.out,bf.out,decide_eq_true ab]; rfl))
      have bh:=hide ab
      clear ab
      go_wp2_with fail
      clear G1 G2 G3 G4
      go_loopw [12] (fun J wr=>∃(k:Nat),J=.int .i64 (k:Int)∧k≤z∧aO=wr∧Hid (Ah (fun x=>Ac (!inE x (ns:Int)) 5) (q.adj.take k)=0)) (fun J _=>z - (intOf J).toNat)
      case atStart=>exact⟨0,rfl,Nat.zero_le _,(by first | rfl | trivial),by show _=_; rfl⟩
      case round=>
       obtain⟨k4,rfl,c9,rfl,a6⟩:=hrel
       by_cases ca:k4<z
       ·obtain⟨b4,dz,x,cb,dA,bi,bj⟩:=(cj.out.keep (w':=aO) (B':=w.heap.size) (fun _ E=>F.out.cell E) (Nat.le_refl _)).at (k:=k4) (by have:=y.out.2.2.2.2.1; omega)
        have d4:=bj 0 (by omega)
        simp only [Nat.add_zero,Nat.mul_one,Ai] at d4
        have bk:=hide bi
        subst cb
        clear bj bi
        go_wp2_with fail
        cases aw:inC x 0 ((ns:Int) - 1)
        ·have al:=hide aw
         clear aw
         have aZ:=hide (show Ah (fun x=>Ac (!inE x (ns:Int)) 5) q.adj=5 from by
          have f:Ac (!inE x (ns:Int)) 5=5:=by rw [CJ,al.out]; rfl
          rw [Cd (fun x=>Ac (!inE x (ns:Int)) 5) bk.out a6.out (by rw [f]; decide),f])
         refine(Al _ _ _ _).mono ?_; rintro e w' ⟨rfl,rfl⟩; rw [al.out]; go_wp2_with fail
         go_ret
         exact⟨congrArg (Value.int .i64) (hB.out.trans aZ.out).symm,F.out⟩
        ·have al:=hide aw
         clear aw
         have aN:=hide (show Ah (fun x=>Ac (!inE x (ns:Int)) 5) (q.adj.take (k4+1))=0 from by
          rw [Cq (fun x=>Ac (!inE x (ns:Int)) 5) bk.out a6.out,CJ,al.out]
          rfl)
         refine(Al _ _ _ _).mono ?_; rintro e w' ⟨rfl,rfl⟩; rw [al.out]; go_wp2_with fail
         exact⟨⟨k4+1,by go_num,by omega,(by first | rfl | trivial),aN.out⟩,by simp [intOf]; omega⟩
       ·have V:=hide (show AJ Ab p q=0 from hB.out.trans (by
         have f:=a6.out
         rwa [List.take_of_length_le (by have:=y.out.2.2.2.2.1; omega)] at f))
        clear a6
        go_wp2_with fail
        go_ret
        exact⟨congrArg (Value.int .i64) V.out.symm,F.out⟩
end Go.Proofs.YtlakpndhhelliaaGreatDoor.K
