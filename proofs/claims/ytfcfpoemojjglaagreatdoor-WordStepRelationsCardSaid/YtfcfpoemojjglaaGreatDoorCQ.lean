/-
  Part CQ of a proof.
-/
import Derived.Test.YtfcfpoemojjglaaGreatDoorPA
import Derived.Test.YtfcfpoemojjglaaGreatDoorCN
import Derived.Test.YtfcfpoemojjglaaGreatDoorCJ
import Derived.Test.YtfcfpoemojjglaaGreatDoorCI
set_option maxHeartbeats 16000000
set_option maxRecDepth 100000
set_option linter.unusedVariables false
set_option linter.unusedSimpArgs false
namespace Go.Proofs.YtfcfpoemojjglaaGreatDoor.K
open Go.RowKit
attribute [-go_sem] loadCellsFrom storeCells
theorem RT {w:World} {cs:List Value} {p:Am} (h:At w w.heap.size cs p) (a5:p.Small) (hT:A0 w) (bq:p.topo=1):
  Calls Tryz.prog 95 #[.agg cs.toArray] w (Ret fun v w'=>v=.int .i64 (AC Ab p)∧Below w.heap.size w w'):=by
 obtain⟨A1,c1,A2,c2,A3,c3,A4,c4,A5,c5,A6,c6,A7,c7,cB,eJ,dG,dH,bI,aH,dI,dJ,dK,dL,dM,h1,h2,h3,h4,h5,h6,h7,dt⟩:=h.cells
 have dy:=a5.states
 have dz:=a5.messages
 have dA:=a5.values
 have dB:=a5.res
 have dC:=a5.initial
 have dD:=a5.leader
 have dE:=a5.rules
 have eH:=a5.name
 have F:=hide a5
 have de:=hide h1
 have df:=hide h2
 have dg:=hide h3
 have ek:=hide h7
 have dh:=hide h4
 have di:=hide h5
 have dj:=hide h6
 obtain⟨w1,eN,aB,aS,du⟩:=Ae w cs.toArray 27
 have cg:=hide (show C0 w1 w.heap.size cs.toArray p from⟨h.keep (fun _ J=>aB.cell J) aB.size,aS,hT.below aB⟩)
 have dp:=hide aB
 generalize dN:cs.toArray=pc at*
 clear h1 h2 h3 h4 h5 h6 h7 h a5 aB aS du dN hT
 obtain⟨nr,bA⟩:∃n,n=p.res.length:=⟨_,rfl⟩
 obtain⟨nm,bz⟩:∃n,n=p.messages.length:=⟨_,rfl⟩
 obtain⟨nv,bE⟩:∃n,n=p.values.length:=⟨_,rfl⟩
 obtain⟨nl,bx⟩:∃n,n=p.leader.length:=⟨_,rfl⟩
 obtain⟨ni,bw⟩:∃n,n=p.initial.length:=⟨_,rfl⟩
 obtain⟨ns,bB⟩:∃n,n=p.states.length:=⟨_,rfl⟩
 obtain⟨nu,bD⟩:∃n,n=p.rules.length:=⟨_,rfl⟩
 have M:=hide (show nr=p.res.length∧nm=p.messages.length∧nv=p.values.length∧nl=p.leader.length∧ni=p.initial.length∧ns=p.states.length∧nu=p.rules.length from⟨bA,bz,bE,bx,bw,bB,bD⟩)
 simp only [←bA,←bz,←bE,←bx,←bw,←bB,←bD] at dH bI aH dJ dK dL dM dy dz dA dB dC dD dE dt
 clear bA bz bE bx bw bB bD
 obtain⟨kt,bt⟩:∃n,n=p.topo:=⟨_,rfl⟩
 obtain⟨kf,bs⟩:∃n,n=p.fault:=⟨_,rfl⟩
 have c0:=hide (show kt=p.topo∧kf=p.fault from⟨bt,bs⟩)
 simp only [←bt,←bs] at dG dI
 clear bt bs
 have ar:=hide cB
 clear cB
 have en:=cg.out.b.cell
 have aV:Hid (kt=1):=by rw [←c0.out.1] at bq; exact bq
 have eK:(kt==1)=true:=by simp [aV.out]
 have eL:(kt != 1)=false:=by simp [aV.out]
 clear bq
 have aX:=dp
 obtain⟨e0,b1⟩:∃e,Hid (CU Ab (Bd p)=e):=⟨_,rfl⟩
 cases b7:Ab p.name
 case false=>
  have V:=hide b7
  clear b7
  go_enter Tryz.func95,Tryz.ntmps95
  go_wp2_with fail
  refine Calls.ret (Cm p.name _ (by omega)) ?_; rintro v w2 ⟨rfl,am⟩; rw [V.out]; have E:=hide (aX.out.trans (am.mono aX.out.size)); clear am; go_wp2_with fail
  go_ret
  exact⟨by unfold AC; rw [V.out]; rfl,E.out⟩
 have V:=hide b7
 clear b7
 have O:=hide (show AC Ab p=CH kt kf ns nm nv nr nu nl e0 (DJ p) from by
  obtain⟨e1,e2,e3,e4,e5,e6,e7⟩:=M.out
  obtain⟨f1,f2⟩:=c0.out
  rw [e1,e2,e3,e4,e6,e7,f1,f2,←b1.out]
  exact GI p V.out)
 have br:∀G,Below w.heap.size w G→Calls Tryz.prog 97 #[.slice A5 ni c5,.int .i64 (ns:Int)] G (Ret fun r w'=>r=.int .i64 (Aa p.initial (ns:Int))∧Below G.heap.size G w'):=fun G hx=>by
  rw [M.out.2.2.2.2.1]
  exact B0 (by omega) (di.out.keep (fun _ J=>hx.cell J) hx.size)
 have cy:∀G,Below w.heap.size w G→Calls Tryz.prog 97 #[.slice A6 nl c6,.int .i64 (ns:Int)] G (Ret fun r w'=>r=.int .i64 (Aa p.leader (ns:Int))∧Below G.heap.size G w'):=fun G hx=>by
  rw [M.out.2.2.2.1]
  exact B0 (by omega) (dj.out.keep (fun _ J=>hx.cell J) hx.size)
 go_enter Tryz.func95,Tryz.ntmps95
 go_wp2_with fail
 refine Calls.ret (Cm p.name _ (by omega)) ?_; rintro v w2 ⟨rfl,am⟩; rw [V.out]; have ai:=hide (cg.out.at am); have eo:=ai.out.b.cell; have eA:=Ah ai.out.b ar.out; have E:=hide (aX.out.trans (am.mono aX.out.size)); clear am; go_wp2_with fail
 cases b9:inC kt 1 4
 case false=>
  have av:=hide b9
  clear b9
  refine(Ao _ _ _ _).mono ?_; rintro e w' ⟨rfl,rfl⟩; rw [av.out]; go_wp2_with fail
  go_ret
  exact⟨congrArg (Value.int .i64) (O.out.trans (pv2 (by have h1:=av.out; simp [inC] at h1; omega))).symm,E.out⟩
 have av:=hide b9
 clear b9
 refine(Ao _ _ _ _).mono ?_; rintro e w' ⟨rfl,rfl⟩; rw [av.out]; go_wp2_with fail
 cases b5:inC kf 0 3
 case false=>
  have W:=hide b5
  clear b5
  refine(Ao _ _ _ _).mono ?_; rintro e w' ⟨rfl,rfl⟩; rw [W.out]; go_wp2_with fail
  go_ret
  exact⟨congrArg (Value.int .i64) (O.out.trans (pv2 (by have h1:=W.out; simp [inC] at h1; omega))).symm,E.out⟩
 have W:=hide b5
 clear b5
 have H2:=hide (show 1≤kt∧kt≤4∧0≤kf∧kf≤3 from by
  have h1:=av.out
  have h2:=W.out
  simp [inC] at h1 h2
  omega)
 cases a9:((ns:Int)==0)
 case true=>
  refine(Ao _ _ _ _).mono ?_; rintro e w' ⟨rfl,rfl⟩; rw [W.out]; go_wp2_with fail
  go_ret
  exact⟨congrArg (Value.int .i64) (O.out.trans (pv3 H2.out a9)).symm,E.out⟩
 by_cases d7:6<(ns:Int)
 case pos=>
  refine(Ao _ _ _ _).mono ?_; rintro e w' ⟨rfl,rfl⟩; rw [W.out]; go_wp2_with fail
  go_ret
  exact⟨congrArg (Value.int .i64) (O.out.trans (pv4 H2.out a9 (by omega))).symm,E.out⟩
 by_cases aS:3<(nm:Int)
 case pos=>
  refine(Ao _ _ _ _).mono ?_; rintro e w' ⟨rfl,rfl⟩; rw [W.out]; go_wp2_with fail
  go_ret
  exact⟨congrArg (Value.int .i64) (O.out.trans (pv4 H2.out a9 (by omega))).symm,E.out⟩
 by_cases d9:3<(nv:Int)
 case pos=>
  refine(Ao _ _ _ _).mono ?_; rintro e w' ⟨rfl,rfl⟩; rw [W.out]; go_wp2_with fail
  go_ret
  exact⟨congrArg (Value.int .i64) (O.out.trans (pv4 H2.out a9 (by omega))).symm,E.out⟩
 by_cases aT:4<(nr:Int)
 case pos=>
  refine(Ao _ _ _ _).mono ?_; rintro e w' ⟨rfl,rfl⟩; rw [W.out]; go_wp2_with fail
  go_ret
  exact⟨congrArg (Value.int .i64) (O.out.trans (pv4 H2.out a9 (by omega))).symm,E.out⟩
 by_cases da:8<(nu:Int)
 case pos=>
  refine(Ao _ _ _ _).mono ?_; rintro e w' ⟨rfl,rfl⟩; rw [W.out]; go_wp2_with fail
  go_ret
  exact⟨congrArg (Value.int .i64) (O.out.trans (pv4 H2.out a9 (by omega))).symm,E.out⟩
 refine(Ao _ _ _ _).mono ?_; rintro e w' ⟨rfl,rfl⟩; rw [W.out]; go_wp2_with fail
 have H3:=hide a9
 have H4:=hide (show(ns:Int)≤6∧(nm:Int)≤3∧(nv:Int)≤3∧(nr:Int)≤4∧(nu:Int)≤8 from by omega)
 clear a9 d7 aS d9 aT da
 rename_i z1 zK za
 clear z1
 obtain⟨w3,eO,bn,aT,dv⟩:=Ae w2 #[] 9
 have aC:=hide (show Below w2.heap.size w2 w3.drew from bn.trans ((Ap w3).mono bn.size))
 have bh:=hide (show World.ownsRow w3.drew w2.heap.size 9 1 (.slice (some ⟨w2.heap.size,0,none⟩) 0 0) 0 [] from⟨by simp,.inr ⟨w2.heap.size,0,#[],rfl,Nat.le_refl _,aT,Nat.le_refl _,by unfold maxLen; omega,by simp,by simp⟩⟩)
 have bk:=hide (ai.out.at aC.out)
 have ep:=bk.out.b.cell
 have dk:=hide (E.out.trans (aC.out.mono E.out.size))
 clear bn aT dv
 refine Reg.cI [0,0,2,7,0,16,63,0,128,511,1023] [1,2,4,5,7,8,0,3,6,9,10] ?_
 refine Reg.wI [1,2,4,5,7,8,0] [3,6,9,10] rfl fun Qf y=>?_
 go_wp2_with fail
 first | refine y _ _ ⟨rfl,?_⟩ | refine⟨rfl,?_⟩ | refine y _ _ ⟨by simp [Reg.fineT,Reg.intOp,Region.wanted,yielded,Reg.intFine,Reg.isInt,Act.eval],?_⟩
 try clear y
 refine Reg.aI 3 [6,9,10] [5,8] rfl fun Qf y=>?_
 simp only [gT,gS,gZ]
 go_wp2_with (at_builtin; refine Ei (w:=w3.drew) EW rfl _ _ rfl w2.heap.size _ _ _ rfl bh.out (l:=p.states) (de.out.keep (w':=w3.drew) (B':=w.heap.size) (fun _ J=>dk.out.cell J) (Nat.le_refl _)) (by rw [←M.out.2.2.2.2.2.1]; rfl) (fun d=>rfl) (by have:=F.out.states; have:=F.out.messages; have:=F.out.values; omega) aC.out.size ?_; intro v4 w4 bG cr)
 have aD:=hide (aC.out.trans (cr.below aC.out.size fun b' ck e=>by have:=(bh.out.lt b' e).1; omega))
 have bi:=hide bG
 have aW:=hide (ai.out.at aD.out)
 have eq:=aW.out.b.cell
 have dl:=hide (E.out.trans (aD.out.mono E.out.size))
 obtain⟨e8,eg,dR⟩:=AH bG
 subst dR
 clear cr bG
 first | refine y _ _ ⟨?_,?_⟩ | refine⟨?_,?_⟩
 ·exact⟨Reg.same_load1 rfl rfl ((bk.out.b.cell 3).trans bI) ((aW.out.b.cell 3).trans bI) Tryz.underlying22 rfl,Reg.same_load1 rfl rfl ((bk.out.b.cell 4).trans aH) ((aW.out.b.cell 4).trans aH) Tryz.underlying22 rfl⟩
 try clear y
 refine Reg.aI 6 [9,10] [8] rfl fun Qf y=>?_
 simp only [gT,gS,gZ]
 go_wp2_with (at_builtin; refine Ei (w:=w4) EW rfl _ _ rfl w2.heap.size _ _ _ rfl bi.out (l:=p.messages) (df.out.keep (w':=w4) (B':=w.heap.size) (fun _ J=>dl.out.cell J) (Nat.le_refl _)) (by rw [←M.out.2.1]; rfl) (fun d=>rfl) (by have:=F.out.states; have:=F.out.messages; have:=F.out.values; omega) aD.out.size ?_; intro v5 w5 bH ct)
 have aE:=hide (aD.out.trans (ct.below aD.out.size fun b' ck e=>by have:=(bi.out.lt b' e).1; omega))
 have bj:=hide bH
 have ch:=hide (ai.out.at aE.out)
 have er:=ch.out.b.cell
 have dm:=hide (E.out.trans (aE.out.mono E.out.size))
 obtain⟨ea,eh,dS⟩:=AH bH
 subst dS
 clear ct bH
 first | refine y _ _ ⟨?_,?_⟩ | refine⟨?_,?_⟩
 ·exact Reg.same_load1 rfl rfl ((aW.out.b.cell 4).trans aH) ((ch.out.b.cell 4).trans aH) Tryz.underlying22 rfl
 try clear y
 refine Reg.aI 9 [10] [] rfl fun Qf y=>?_
 simp only [gT,gS,gZ]
 go_wp2_with (at_builtin; refine Ei (w:=w5) EW rfl _ _ rfl w2.heap.size _ _ _ rfl bj.out (l:=p.values) (dg.out.keep (w':=w5) (B':=w.heap.size) (fun _ J=>dm.out.cell J) (Nat.le_refl _)) (by rw [←M.out.2.2.1]; rfl) (fun d=>rfl) (by have:=F.out.states; have:=F.out.messages; have:=F.out.values; omega) aE.out.size ?_; intro v6 w6 aq cu)
 have cm:=hide (aE.out.trans (cu.below aE.out.size fun b' ck e=>by have:=(bj.out.lt b' e).1; omega))
 have dc:=hide aq
 have ci:=hide (ai.out.at cm.out)
 have et:=ci.out.b.cell
 have ak:=hide (E.out.trans (cm.out.mono E.out.size))
 obtain⟨eb,bQ,dT⟩:=AH aq
 subst dT
 clear cu
 first | refine y _ _ ⟨Reg.nm,?_⟩ | skip
 try clear y
 refine Reg.wI [10] [] rfl fun Qf y=>?_
 go_wp2_with fail
 first | refine y _ _ ⟨rfl,?_⟩ | refine⟨rfl,?_⟩ | refine y _ _ ⟨by simp [Reg.fineT,Reg.intOp,Region.wanted,yielded,Reg.intFine,Reg.isInt,Act.eval],?_⟩
 try clear y
 first | refine Reg.restI_end ?_ | skip
 have cA:0+p.states.length+p.messages.length+p.values.length=(Bd p).length:=by simp only [Bd,List.length_append]; omega
 have cG:[]++p.states.map (BE · 0)++p.messages.map (BE · 0)++p.values.map (BE · 0)=DV (Bd p):=by simp [DV,Bd]
 rw [cA,cG] at aq
 rw [show p.states.length+p.messages.length+p.values.length=(Bd p).length by simp only [Bd,List.length_append]]
 have eE:(Bd p).length≤180:=by
  have:=F.out.states
  have:=F.out.messages
  have:=F.out.values
  omega
 have ce:=hide (HS aq (by omega)).2
 have ex:=HP aq
 have dF:=hide F.out.names
 have cz:=hide (show CU Ab (Bd p)=Aj (nmE (Bd p)) (List.range (Bd p).length) from rfl)
 rw [b1.out] at cz
 have bZ:=hide (show CU Ab (Bd p)=e0 from b1.out)
 clear aq cA cG bh bi bj dc b1
 generalize Bd p=L at*
 go_wp2_with fail
 go_loopw [4] (fun Z wr=>∃(k:Nat),Z=.int .i64 (k:Int)∧k≤L.length∧Hid (Aj (nmE L) (List.range k)=0)∧Hid (Below w6.heap.size w6 wr)) (fun Z _=>L.length - (intOf Z).toNat)
 case atStart=>exact⟨0,rfl,Nat.zero_le _,by show _=_; rfl,Below.refl _ _⟩
 case round=>
  obtain⟨k,rfl,hk,hE,a7⟩:=hrel
  by_cases b6:k<L.length
  ·obtain⟨b,aM,s,hA,aZ,bJ,hc⟩:=ce.out.at b6
   have d0:=hc 0 (by omega)
   simp only [Nat.add_zero,Nat.mul_one,BE] at d0
   have d1:=(a7.out.cell (p:=⟨b,aM+k,none⟩) aZ).trans d0
   have eM:=dF.out s (List.mem_of_getElem? bJ)
   have bK:=hide bJ
   subst hA
   clear hc bJ
   cases b8:Ab s with
   | false=>
    have V:=hide b8
    clear b8
    have aJ:=hide (show e0=2 from bZ.out.symm.trans (Fl b6 hE.out bK.out (.inl V.out)))
    go_wp2_with fail
    refine Reg.cI [0,0,3,7,15,31,63,127,127,511,127,127,3199,7295,16383,32767] [0,1,2,3,4,5,6,7,8,10,11,12,13,9,14,15] ?_
    refine Reg.wI [0,1,2,3] [4,5,6,7,8,10,11,12,13,9,14,15] rfl fun Qf y=>?_
    go_wp2_with fail
    first | refine y _ _ ⟨rfl,?_⟩ | refine⟨rfl,?_⟩ | refine y _ _ ⟨by simp [Reg.fineT,Reg.intOp,Region.wanted,yielded,Reg.intFine,Reg.isInt,Act.eval],?_⟩
    try clear y
    refine Reg.aI 4 [5,6,7,8,10,11,12,13,9,14,15] [] rfl fun Qf y=>?_
    simp only [gT,gS,gZ]
    go_wp2_with (go_at_call 96; refine Calls.ret (Cm s _ (by omega)) ?_; rintro v w8 ⟨rfl,a8⟩; rw [V.out]; have a4:=hide (a7.out.trans (((Ap wr).trans a8).mono a7.out.size)); have d8:=(a4.out.cell (p:=⟨b,aM+k,none⟩) aZ).trans d0)
    first | refine y _ _ ⟨Reg.nm,?_⟩ | refine⟨Reg.nm,?_⟩
    try clear y
    clear a8
    refine Reg.wI [5,6,7,8,10,11,12,13] [9,14,15] rfl fun Qf y=>?_
    go_wp2_with fail
    first | refine y _ _ ⟨rfl,?_⟩ | refine⟨rfl,?_⟩ | refine y _ _ ⟨by simp [Reg.fineT,Reg.intOp,Region.wanted,yielded,Reg.intFine,Reg.isInt,Act.eval],?_⟩
    try clear y
    refine Reg.aI 9 [14,15] [13] rfl fun Qf y=>?_
    simp only [gT,gS,gZ]
    go_wp2_with fail
    first | refine y _ _ ⟨Reg.same_below (Below.refl _ _) [13] rfl,?_⟩ | refine⟨Reg.same_below (Below.refl _ _) [13] rfl,?_⟩
    try clear y
    refine Reg.aI 14 [15] [] rfl fun Qf y=>?_
    simp only [gT,gS,gZ]
    go_wp2_with fail
    first | refine y _ _ ⟨Reg.nm,?_⟩ | refine⟨Reg.nm,?_⟩
    try clear y
    refine Reg.wI [15] [] rfl fun Qf y=>?_
    go_wp2_with fail
    first | refine y _ _ ⟨rfl,?_⟩ | refine⟨rfl,?_⟩ | refine y _ _ ⟨by simp [Reg.fineT,Reg.intOp,Region.wanted,yielded,Reg.intFine,Reg.isInt,Act.eval],?_⟩
    try clear y
    first | refine Reg.restI_end ?_ | skip
    go_wp2_with fail
    go_ret
    exact⟨congrArg (Value.int .i64) (O.out.trans (by rw [aJ.out]; exact pv5 H2.out H3.out H4.out rfl)).symm,ak.out.trans (a4.out.mono ak.out.size)⟩
   | true=>
    have V:=hide b8
    clear b8
    have cD:(L.take k).length=k:=by rw [List.length_take]; omega
    have dQ:=hide cD
    clear cD
    have co:Hid (∀G,Hid (Below w6.heap.size w6 G)→Hid (Calls Tryz.prog 136 #[.slice (some ⟨b,aM,none⟩) k bQ,.string s] G fun r w'=>r=.returned (.bool (decide (s∈L.take k)))∧G=w')):=hide (fun G hx=>by
     have h1:=(ce.out.keep (w':=G) (B':=w6.heap.size) (fun _ J=>hx.out.cell J) (Nat.le_refl _)).takeS k
     have h2:=Ht (c:=bQ) (x:=s) h1
     rw [dQ.out] at h2
     exact h2)
    by_cases hm:s∈L.take k
    ·have bv:=hide hm
     have bu:=hide (show decide (s∈L.take k)=true from decide_eq_true hm)
     clear hm
     have aJ:=hide (show e0=2 from bZ.out.symm.trans (Fl b6 hE.out bK.out (.inr bv.out)))
     go_wp2_with fail
     refine Reg.cI [0,0,3,7,15,31,63,127,127,511,127,127,3199,7295,16383,32767] [0,1,2,3,4,5,6,7,8,10,11,12,13,9,14,15] ?_
     refine Reg.wI [0,1,2,3] [4,5,6,7,8,10,11,12,13,9,14,15] rfl fun Qf y=>?_
     go_wp2_with fail
     first | refine y _ _ ⟨rfl,?_⟩ | refine⟨rfl,?_⟩ | refine y _ _ ⟨by simp [Reg.fineT,Reg.intOp,Region.wanted,yielded,Reg.intFine,Reg.isInt,Act.eval],?_⟩
     try clear y
     refine Reg.aI 4 [5,6,7,8,10,11,12,13,9,14,15] [] rfl fun Qf y=>?_
     simp only [gT,gS,gZ]
     go_wp2_with (go_at_call 96; refine Calls.ret (Cm s _ (by omega)) ?_; rintro v w8 ⟨rfl,a8⟩; rw [V.out]; have a4:=hide (a7.out.trans (((Ap wr).trans a8).mono a7.out.size)); have d8:=(a4.out.cell (p:=⟨b,aM+k,none⟩) aZ).trans d0)
     first | refine y _ _ ⟨Reg.nm,?_⟩ | refine⟨Reg.nm,?_⟩
     try clear y
     clear a8
     refine Reg.wI [5,6,7,8,10,11,12,13] [9,14,15] rfl fun Qf y=>?_
     go_wp2_with fail
     first | refine y _ _ ⟨rfl,?_⟩ | refine⟨rfl,?_⟩ | refine y _ _ ⟨by simp [Reg.fineT,Reg.intOp,Region.wanted,yielded,Reg.intFine,Reg.isInt,Act.eval],?_⟩
     try clear y
     refine Reg.aI 9 [14,15] [13] rfl fun Qf y=>?_
     simp only [gT,gS,gZ]
     go_wp2_with fail
     first | refine y _ _ ⟨Reg.same_below (Below.refl _ _) [13] rfl,?_⟩ | refine⟨Reg.same_below (Below.refl _ _) [13] rfl,?_⟩
     try clear y
     refine Reg.aI 14 [15] [] rfl fun Qf y=>?_
     simp only [gT,gS,gZ]
     go_wp2_with (go_at_call 136; refine(co.out _ a4).out.mono ?_; rintro r w' ⟨rfl,rfl⟩; rw [bu.out])
     first | refine y _ _ ⟨Reg.nm,?_⟩ | refine⟨Reg.nm,?_⟩
     try clear y
     refine Reg.wI [15] [] rfl fun Qf y=>?_
     go_wp2_with fail
     first | refine y _ _ ⟨rfl,?_⟩ | refine⟨rfl,?_⟩ | refine y _ _ ⟨by simp [Reg.fineT,Reg.intOp,Region.wanted,yielded,Reg.intFine,Reg.isInt,Act.eval],?_⟩
     try clear y
     first | refine Reg.restI_end ?_ | skip
     go_wp2_with fail
     go_ret
     exact⟨congrArg (Value.int .i64) (O.out.trans (by rw [aJ.out]; exact pv5 H2.out H3.out H4.out rfl)).symm,ak.out.trans (a4.out.mono ak.out.size)⟩
    ·have bv:=hide hm
     have bu:=hide (show decide (s∈L.take k)=false from decide_eq_false hm)
     clear hm
     have bF:=hide (HN b6 hE.out bK.out V.out bv.out)
     go_wp2_with fail
     refine Reg.cI [0,0,3,7,15,31,63,127,127,511,127,127,3199,7295,16383,32767] [0,1,2,3,4,5,6,7,8,10,11,12,13,9,14,15] ?_
     refine Reg.wI [0,1,2,3] [4,5,6,7,8,10,11,12,13,9,14,15] rfl fun Qf y=>?_
     go_wp2_with fail
     first | refine y _ _ ⟨rfl,?_⟩ | refine⟨rfl,?_⟩ | refine y _ _ ⟨by simp [Reg.fineT,Reg.intOp,Region.wanted,yielded,Reg.intFine,Reg.isInt,Act.eval],?_⟩
     try clear y
     refine Reg.aI 4 [5,6,7,8,10,11,12,13,9,14,15] [] rfl fun Qf y=>?_
     simp only [gT,gS,gZ]
     go_wp2_with (go_at_call 96; refine Calls.ret (Cm s _ (by omega)) ?_; rintro v w8 ⟨rfl,a8⟩; rw [V.out]; have a4:=hide (a7.out.trans (((Ap wr).trans a8).mono a7.out.size)); have d8:=(a4.out.cell (p:=⟨b,aM+k,none⟩) aZ).trans d0)
     first | refine y _ _ ⟨Reg.nm,?_⟩ | refine⟨Reg.nm,?_⟩
     try clear y
     clear a8
     refine Reg.wI [5,6,7,8,10,11,12,13] [9,14,15] rfl fun Qf y=>?_
     go_wp2_with fail
     first | refine y _ _ ⟨rfl,?_⟩ | refine⟨rfl,?_⟩ | refine y _ _ ⟨by simp [Reg.fineT,Reg.intOp,Region.wanted,yielded,Reg.intFine,Reg.isInt,Act.eval],?_⟩
     try clear y
     refine Reg.aI 9 [14,15] [13] rfl fun Qf y=>?_
     simp only [gT,gS,gZ]
     go_wp2_with fail
     first | refine y _ _ ⟨Reg.same_below (Below.refl _ _) [13] rfl,?_⟩ | refine⟨Reg.same_below (Below.refl _ _) [13] rfl,?_⟩
     try clear y
     refine Reg.aI 14 [15] [] rfl fun Qf y=>?_
     simp only [gT,gS,gZ]
     go_wp2_with (go_at_call 136; refine(co.out _ a4).out.mono ?_; rintro r w' ⟨rfl,rfl⟩; rw [bu.out])
     first | refine y _ _ ⟨Reg.nm,?_⟩ | refine⟨Reg.nm,?_⟩
     try clear y
     refine Reg.wI [15] [] rfl fun Qf y=>?_
     go_wp2_with fail
     first | refine y _ _ ⟨rfl,?_⟩ | refine⟨rfl,?_⟩ | refine y _ _ ⟨by simp [Reg.fineT,Reg.intOp,Region.wanted,yielded,Reg.intFine,Reg.isInt,Act.eval],?_⟩
     try clear y
     first | refine Reg.restI_end ?_ | skip
     go_wp2_with fail
     exact⟨⟨k+1,by go_num,by omega,bF.out,a4.out⟩,by simp [intOf]; omega⟩
  ·have cH:=hide (show e0=0 from by
    have h1:=hE.out
    rw [show k=L.length by omega] at h1
    exact cz.out.trans h1)
   have cj:=hide (ci.out.at a7.out)
   have eu:=cj.out.b.cell
   have bm:=hide (ak.out.trans (a7.out.mono ak.out.size))
   clear hE
   obtain⟨cM,dU⟩:∃x,x=wr:=⟨_,rfl⟩
   subst dU
   by_cases db:(0:Int)<(nl:Int)
   case pos=>
    go_wp2_with fail
    go_ret
    exact⟨congrArg (Value.int .i64) (O.out.trans (pv6 H2.out H3.out H4.out (by rw [cH.out]; rfl) (by have:=aV.out; omega))).symm,bm.out⟩
   have hR:=hide (O.out.trans (pv7 H2.out H3.out H4.out (by rw [cH.out]; rfl) (by have:=aV.out; omega)))
   go_wp2_with fail
   clear db
   go_loopw [5] (fun Z wr=>∃(k:Nat),Z=.int .i64 (k:Int)∧k≤nr∧Hid (Below cM.heap.size cM wr)∧Hid ((p.res.take k).all Bg=true)) (fun Z _=>nr - (intOf Z).toNat)
   case atStart=>exact⟨0,rfl,Nat.zero_le _,Below.refl _ _,by show _=_; simp⟩
   case round=>
    obtain⟨k2,rfl,ey,b0,bg⟩:=hrel
    have bl:=hide (cj.out.at b0.out)
    have ev:=bl.out.b.cell
    have U:=hide (bm.out.trans (b0.out.mono bm.out.size))
    by_cases eF:k2<nr
    ·obtain⟨b2,cJ,l,d6,em,hl,cp⟩:=(dh.out.keep (w':=wr) (B':=w.heap.size) (fun _ J=>U.out.cell J) (Nat.le_refl _)).at (k:=k2) (by have:=M.out.1; omega)
     have eD:(loadCellsFrom ⟨b2,cJ+k2*4,none⟩ 0 4 #[]).run Tryz.prog wr=.ok #[.int .i64 l.c,.int .i64 l.n,.int .i64 l.t,.int .i64 l.f] wr:=by
      have:=run_loadCells_list (P:=Tryz.prog) wr ⟨b2,cJ+k2*4,none⟩ [.int .i64 l.c,.int .i64 l.n,.int .i64 l.t,.int .i64 l.f] (fun j v C=>by
       rw [Addr.add_mid]
       have hj:=AP C
       rw [cp j hj]
       match j,hj,C with
       | 0,_,C=>exact congrArg some (Option.some.inj C)
       | 1,_,C=>exact congrArg some (Option.some.inj C)
       | 2,_,C=>exact congrArg some (Option.some.inj C)
       | 3,_,C=>exact congrArg some (Option.some.inj C))
      simpa [loadCells] using this
     have cx:=hide hl
     subst d6
     clear cp hl
     go_wp2_with fail
     cases C:Bg l
     ·have au:=hide (show p.res.all Bg=false from by
       rw [List.all_eq_false]
       exact⟨l,List.mem_of_getElem? cx.out,by rw [C]; decide⟩)
      refine Calls.ret (Gv l _) ?_; rintro v w9 ⟨rfl,z⟩; rw [C]; have I:=hide (U.out.trans (z.mono U.out.size)); clear z; go_wp2_with fail
      go_ret
      refine⟨congrArg (Value.int .i64) (hR.out.trans ?_).symm,I.out⟩
      unfold DJ
      rw [au.out]
      rfl
     ·have au:=hide (Cq (p:=Bg) cx.out bg.out C)
      refine Calls.ret (Gv l _) ?_; rintro v w9 ⟨rfl,z⟩; rw [C]; have dn:=hide (b0.out.trans (z.mono b0.out.size)); clear z; go_wp2_with fail
      exact⟨⟨k2+1,by go_num,by omega,dn.out,au.out⟩,by simp [intOf]; omega⟩
    ·have au:=hide (show p.res.all Bg=true from by
      have h1:=M.out.1
      have h2:=bg.out
      rwa [List.take_of_length_le (by omega)] at h2)
     have c9:=hide (show AC Ab p=orE (Aa p.initial (ns:Int)) (orE (Ad (decide (ni=0)) 1) (orE (Aa p.leader (ns:Int)) (Cc p))) from by
      rw [hR.out]
      obtain⟨-,-,-,-,e5,e6,-⟩:=M.out
      unfold DJ Cc
      rw [au.out,Bv,e5,e6]
      rfl)
     clear au bg
     go_wp2_with fail
     obtain⟨ei,aF⟩:∃e,Hid (Aa p.initial (ns:Int)=e):=⟨_,rfl⟩
     by_cases ag:ei=0
     case neg=>
      have Qi:(ei != 0)=true:=by simp [ag]
      have Hi:=hide ag
      clear ag
      refine Calls.ret (br _ U.out) ?_; rintro v w9 ⟨rfl,z⟩; rw [aF.out]; have I:=hide (U.out.trans (z.mono U.out.size)); clear z; go_wp2_with fail
      go_ret
      exact⟨congrArg (Value.int .i64) (c9.out.trans (by rw [aF.out]; exact BF Hi.out)).symm,I.out⟩
     have Qi:(ei != 0)=false:=by simp [ag]
     have Hi:=hide ag
     clear ag
     have ca:=hide (show AC Ab p=orE (Ad (decide (ni=0)) 1) (orE (Aa p.leader (ns:Int)) (Cc p)) from c9.out.trans (by rw [aF.out,Hi.out]; rfl))
     by_cases ap:ni=0
     case pos=>
      have Qn:((ni:Int)==0)=true:=by simp [ap]
      have Hn:=hide ap
      clear ap
      refine Calls.ret (br _ U.out) ?_; rintro v w9 ⟨rfl,z⟩; rw [aF.out]; have ab:=hide (bl.out.at z); have dq:=ab.out.b.cell; have dw:=Ah ab.out.b ar.out; have I:=hide (U.out.trans (z.mono U.out.size)); clear z; go_wp2_with fail
      go_ret
      exact⟨congrArg (Value.int .i64) (ca.out.trans (by rw [decide_eq_true Hn.out]; rfl)).symm,I.out⟩
     have Qn:((ni:Int)==0)=false:=by simp [ap]
     have Hn:=hide ap
     clear ap
     have cb:=hide (show AC Ab p=orE (Aa p.leader (ns:Int)) (Cc p) from ca.out.trans (by rw [decide_eq_false Hn.out]; rfl))
     refine Calls.ret (br _ U.out) ?_; rintro v w9 ⟨rfl,z⟩; rw [aF.out]; have ab:=hide (bl.out.at z); have dq:=ab.out.b.cell; have dw:=Ah ab.out.b ar.out; have I:=hide (U.out.trans (z.mono U.out.size)); clear z; go_wp2_with fail
     obtain⟨el,b4⟩:∃e,Hid (Aa p.leader (ns:Int)=e):=⟨_,rfl⟩
     by_cases ah:el=0
     case neg=>
      have Ql:(el != 0)=true:=by simp [ah]
      have Hl:=hide ah
      clear ah
      refine Calls.ret (cy _ I.out) ?_; rintro v wa ⟨rfl,ad⟩; rw [b4.out]; have aj:=hide (ab.out.at ad); have dr:=aj.out.b.cell; have dx:=Ah aj.out.b ar.out; have al:=hide (I.out.trans (ad.mono I.out.size)); clear ad; go_wp2_with fail
      go_ret
      exact⟨congrArg (Value.int .i64) (cb.out.trans (by rw [b4.out]; exact BF Hl.out)).symm,al.out⟩
     have Ql:(el != 0)=false:=by simp [ah]
     have Hl:=hide ah
     clear ah
     have cc:=hide (show AC Ab p=Cc p from cb.out.trans (by rw [b4.out,Hl.out]; rfl))
     refine Calls.ret (cy _ I.out) ?_; rintro v wa ⟨rfl,ad⟩; rw [b4.out]; have aj:=hide (ab.out.at ad); have dr:=aj.out.b.cell; have dx:=Ah aj.out.b ar.out; have al:=hide (I.out.trans (ad.mono I.out.size)); clear ad; go_wp2_with fail
     clear Qi Qn Ql
     go_loopw [8] (fun Z wr=>∃(k:Nat),Z=.int .i64 (k:Int)∧k≤nu∧Hid (Below wa.heap.size wa wr)∧Hid (Aj (BB Ab p) (List.range k)=0)) (fun Z _=>nu - (intOf Z).toNat)
     case atStart=>exact⟨0,rfl,Nat.zero_le _,Below.refl _ _,by show _=_; rfl⟩
     case round=>
      obtain⟨k4,rfl,ez,an,aU⟩:=hrel
      have aA:=hide (aj.out.at an.out)
      have ew:=aA.out.b.cell
      have eB:=Ah aA.out.b ar.out
      have aY:=hide (al.out.trans (an.out.mono al.out.size))
      by_cases eG:k4<nu
      ·obtain⟨e9,b3⟩:∃e,Hid (BB Ab p k4=e):=⟨_,rfl⟩
       have bp:=hide (KF (cs:=pc.toList) (i:=k4) aA.out.pr (by have:=M.out.2.2.2.2.2.2; omega) F.out aA.out.tab)
       rw [b3.out] at bp
       have cF:=hide (show(List.range p.rules.length)[k4]?=some k4 from by rw [List.getElem?_range (by have:=M.out.2.2.2.2.2.2; omega)])
       have cE:=hide (show(List.range p.rules.length).take k4=List.range k4 from by rw [List.take_range,Nat.min_eq_left (by have:=M.out.2.2.2.2.2.2; omega)])
       go_wp2_with fail
       by_cases h0:e9=0
       ·have hq:(e9 != 0)=false:=by simp [h0]
        have bF:=hide (show Aj (BB Ab p) (List.range (k4+1))=0 from by
         have h1:=CD (BB Ab p) cF.out (by rw [cE.out]; exact aU.out)
         rw [List.take_range,Nat.min_eq_left (by have:=M.out.2.2.2.2.2.2; omega)] at h1
         rw [h1,b3.out,h0])
        clear h0
        refine Calls.ret bp.out ?_; rintro v w9 ⟨rfl,z⟩; have bo:=hide (an.out.trans (z.mono an.out.size)); clear z; go_wp2_with fail
        exact⟨⟨k4+1,by go_num,by omega,bo.out,bF.out⟩,by simp [intOf]; omega⟩
       ·have hq:(e9 != 0)=true:=by simp [h0]
        have aJ:=hide (show AC Ab p=e9 from by
         have h1:=Ct (BB Ab p) cF.out (by rw [cE.out]; exact aU.out) (by rw [b3.out]; exact h0)
         rw [cc.out]
         unfold Cc
         rw [h1,b3.out,BF h0])
        clear h0
        refine Calls.ret bp.out ?_; rintro v w9 ⟨rfl,z⟩; have bo:=hide (an.out.trans (z.mono an.out.size)); clear z; go_wp2_with fail
        go_ret
        exact⟨congrArg (Value.int .i64) aJ.out.symm,al.out.trans (bo.out.mono al.out.size)⟩
      ·obtain⟨nt,bC⟩:∃n,n=(BO p.rules).length:=⟨_,rfl⟩
       have cd:=hide (show AC Ab p=Ad (decide (3<nt)) 4 from by
        have h1:=aU.out
        rw [show k4=p.rules.length by have:=M.out.2.2.2.2.2.2; omega] at h1
        rw [cc.out,bC]
        unfold Cc
        rw [h1,AY])
       have bL:=hide (Jo (cs:=pc.toList) aA.out.pr F.out)
       rw [←bC] at bL
       have eI:nt≤1800:=by
        have h1:=FB p.rules (fun r hr=>(F.out.rule r hr).1.2.1)
        have h2:=F.out.rules
        omega
       clear bC aU
       go_wp2_with fail
       by_cases bU:3<nt
       ·have G3:(3:Int)<(nt:Int):=by omega
        refine Calls.ret bL.out ?_; rintro v w9 ⟨aG,z⟩; obtain⟨Av,cv,C⟩:=AH aG; subst C; have I:=hide (aY.out.trans (z.mono aY.out.size)); clear aG z; go_wp2_with fail
        go_ret
        exact⟨congrArg (Value.int .i64) (cd.out.trans (by rw [decide_eq_true bU]; rfl)).symm,I.out⟩
       ·have G3:¬(3:Int)<(nt:Int):=by omega
        refine Calls.ret bL.out ?_; rintro v w9 ⟨aG,z⟩; obtain⟨Av,cv,C⟩:=AH aG; subst C; have I:=hide (aY.out.trans (z.mono aY.out.size)); clear aG z; go_wp2_with fail
        go_ret
        exact⟨congrArg (Value.int .i64) (cd.out.trans (by rw [decide_eq_false bU]; rfl)).symm,I.out⟩
end Go.Proofs.YtfcfpoemojjglaaGreatDoor.K
