/-
  Part CQ of a proof.
-/
import Derived.Test.YtfcfpoemojjglaaGreatDoorPA
import Derived.Test.YtfcfpoemojjglaaGreatDoorCN
import Derived.Test.YtfcfpoemojjglaaGreatDoorCJ
import Derived.Test.YtfcfpoemojjglaaGreatDoorCI
set_option maxHeartbeats 16000000
set_option maxRecDepth 100000
set_option linter.unusedVariables false
set_option linter.unusedSimpArgs false
namespace Go.Proofs.YtfcfpoemojjglaaGreatDoor.K
open Go.RowKit
attribute [-go_sem] loadCellsFrom storeCells
theorem RT {w:World} {cs:List Value} {p:Am} (h:At w w.heap.size cs p) (a6:p.Small) (hT:SpOK w) (bq:p.topo=1):
  Calls Tryz.prog 95 #[.agg cs.toArray] w (Ret fun v w'=>v=.int .i64 (protE nameOK p)∧Below w.heap.size w w'):=by
 obtain⟨A1,c1,A2,c2,A3,c3,A4,c4,A5,c5,A6,c6,A7,c7,cz,ez,dD,dE,bI,aJ,dF,dG,dH,dI,dJ,h1,h2,h3,h4,h5,h6,h7,dp⟩:=h.cells
 have dv:=a6.states
 have dw:=a6.messages
 have dx:=a6.values
 have dy:=a6.res
 have dz:=a6.initial
 have dA:=a6.leader
 have dB:=a6.rules
 have ex:=a6.name
 have G:=hide a6
 have da:=hide h1
 have db:=hide h2
 have dc:=hide h3
 have ea:=hide h7
 have de:=hide h4
 have df:=hide h5
 have dg:=hide h6
 obtain⟨w1,eD,aC,aQ,dq⟩:=Ae w cs.toArray 27
 have cf:=hide (show C0 w1 w.heap.size cs.toArray p from⟨h.keep (fun _ M=>aC.cell M) aC.size,aQ,hT.below aC⟩)
 have dl:=hide aC
 generalize dK:cs.toArray=pc at*
 clear h1 h2 h3 h4 h5 h6 h7 h a6 aC aQ dq dK hT
 obtain⟨nr,bA⟩:∃n,n=p.res.length:=⟨_,rfl⟩
 obtain⟨nm,bz⟩:∃n,n=p.messages.length:=⟨_,rfl⟩
 obtain⟨nv,bE⟩:∃n,n=p.values.length:=⟨_,rfl⟩
 obtain⟨nl,bx⟩:∃n,n=p.leader.length:=⟨_,rfl⟩
 obtain⟨ni,bw⟩:∃n,n=p.initial.length:=⟨_,rfl⟩
 obtain⟨ns,bB⟩:∃n,n=p.states.length:=⟨_,rfl⟩
 obtain⟨nu,bD⟩:∃n,n=p.rules.length:=⟨_,rfl⟩
 have O:=hide (show nr=p.res.length∧nm=p.messages.length∧nv=p.values.length∧nl=p.leader.length∧ni=p.initial.length∧ns=p.states.length∧nu=p.rules.length from⟨bA,bz,bE,bx,bw,bB,bD⟩)
 simp only [←bA,←bz,←bE,←bx,←bw,←bB,←bD] at dE bI aJ dG dH dI dJ dv dw dx dy dz dA dB dp
 clear bA bz bE bx bw bB bD
 obtain⟨kt,bt⟩:∃n,n=p.topo:=⟨_,rfl⟩
 obtain⟨kf,bs⟩:∃n,n=p.fault:=⟨_,rfl⟩
 have bZ:=hide (show kt=p.topo∧kf=p.fault from⟨bt,bs⟩)
 simp only [←bt,←bs] at dD dF
 clear bt bs
 have au:=hide cz
 clear cz
 have ec:=cf.out.b.cell
 have aT:Hid (kt=1):=by rw [←bZ.out.1] at bq; exact bq
 have eA:(kt==1)=true:=by simp [aT.out]
 have eB:(kt != 1)=false:=by simp [aT.out]
 clear bq
 have aV:=dl
 obtain⟨e0,aZ⟩:∃e,Hid (CU nameOK (Bd p)=e):=⟨_,rfl⟩
 cases b7:nameOK p.name
 case false=>
  have W:=hide b7
  clear b7
  go_enter Tryz.func95,Tryz.ntmps95
  go_wp2_with fail
  refine Calls.ret (Cm p.name _ (by omega)) ?_; rintro v w2 ⟨rfl,an⟩; rw [W.out]; have F:=hide (aV.out.trans (an.mono aV.out.size)); clear an; go_wp2_with fail
  go_ret
  exact⟨by unfold protE; rw [W.out]; rfl,F.out⟩
 have W:=hide b7
 clear b7
 have U:=hide (show protE nameOK p=CH kt kf ns nm nv nr nu nl e0 (DJ p) from by
  obtain⟨e1,e2,e3,e4,e5,e6,e7⟩:=O.out
  obtain⟨f1,f2⟩:=bZ.out
  rw [e1,e2,e3,e4,e6,e7,f1,f2,←aZ.out]
  exact GI p W.out)
 have br:∀I,Below w.heap.size w I→Calls Tryz.prog 97 #[.slice A5 ni c5,.int .i64 (ns:Int)] I (Ret fun r w'=>r=.int .i64 (Aa p.initial (ns:Int))∧Below I.heap.size I w'):=fun I hx=>by
  rw [O.out.2.2.2.2.1]
  exact B0 (by omega) (df.out.keep (fun _ M=>hx.cell M) hx.size)
 have cw:∀I,Below w.heap.size w I→Calls Tryz.prog 97 #[.slice A6 nl c6,.int .i64 (ns:Int)] I (Ret fun r w'=>r=.int .i64 (Aa p.leader (ns:Int))∧Below I.heap.size I w'):=fun I hx=>by
  rw [O.out.2.2.2.1]
  exact B0 (by omega) (dg.out.keep (fun _ M=>hx.cell M) hx.size)
 go_enter Tryz.func95,Tryz.ntmps95
 go_wp2_with fail
 refine Calls.ret (Cm p.name _ (by omega)) ?_; rintro v w2 ⟨rfl,an⟩; rw [W.out]; have aj:=hide (cf.out.at an); have ed:=aj.out.b.cell; have eq:=Ah aj.out.b au.out; have F:=hide (aV.out.trans (an.mono aV.out.size)); clear an; go_wp2_with fail
 cases b9:inC kt 1 4
 case false=>
  have aw:=hide b9
  clear b9
  refine(within2_any _ _ _ _).mono ?_; rintro e w' ⟨rfl,rfl⟩; rw [aw.out]; go_wp2_with fail
  go_ret
  exact⟨congrArg (Value.int .i64) (U.out.trans (pv2 (by have h1:=aw.out; simp [inC] at h1; omega))).symm,F.out⟩
 have aw:=hide b9
 clear b9
 refine(within2_any _ _ _ _).mono ?_; rintro e w' ⟨rfl,rfl⟩; rw [aw.out]; go_wp2_with fail
 cases b5:inC kf 0 3
 case false=>
  have Z:=hide b5
  clear b5
  refine(within2_any _ _ _ _).mono ?_; rintro e w' ⟨rfl,rfl⟩; rw [Z.out]; go_wp2_with fail
  go_ret
  exact⟨congrArg (Value.int .i64) (U.out.trans (pv2 (by have h1:=Z.out; simp [inC] at h1; omega))).symm,F.out⟩
 have Z:=hide b5
 clear b5
 have H2:=hide (show 1≤kt∧kt≤4∧0≤kf∧kf≤3 from by
  have h1:=aw.out
  have h2:=Z.out
  simp [inC] at h1 h2
  omega)
 cases ab:((ns:Int)==0)
 case true=>
  refine(within2_any _ _ _ _).mono ?_; rintro e w' ⟨rfl,rfl⟩; rw [Z.out]; go_wp2_with fail
  go_ret
  exact⟨congrArg (Value.int .i64) (U.out.trans (pv3 H2.out ab)).symm,F.out⟩
 by_cases d4:6<(ns:Int)
 case pos=>
  refine(within2_any _ _ _ _).mono ?_; rintro e w' ⟨rfl,rfl⟩; rw [Z.out]; go_wp2_with fail
  go_ret
  exact⟨congrArg (Value.int .i64) (U.out.trans (pv4 H2.out ab (by omega))).symm,F.out⟩
 by_cases aQ:3<(nm:Int)
 case pos=>
  refine(within2_any _ _ _ _).mono ?_; rintro e w' ⟨rfl,rfl⟩; rw [Z.out]; go_wp2_with fail
  go_ret
  exact⟨congrArg (Value.int .i64) (U.out.trans (pv4 H2.out ab (by omega))).symm,F.out⟩
 by_cases d5:3<(nv:Int)
 case pos=>
  refine(within2_any _ _ _ _).mono ?_; rintro e w' ⟨rfl,rfl⟩; rw [Z.out]; go_wp2_with fail
  go_ret
  exact⟨congrArg (Value.int .i64) (U.out.trans (pv4 H2.out ab (by omega))).symm,F.out⟩
 by_cases aR:4<(nr:Int)
 case pos=>
  refine(within2_any _ _ _ _).mono ?_; rintro e w' ⟨rfl,rfl⟩; rw [Z.out]; go_wp2_with fail
  go_ret
  exact⟨congrArg (Value.int .i64) (U.out.trans (pv4 H2.out ab (by omega))).symm,F.out⟩
 by_cases d6:8<(nu:Int)
 case pos=>
  refine(within2_any _ _ _ _).mono ?_; rintro e w' ⟨rfl,rfl⟩; rw [Z.out]; go_wp2_with fail
  go_ret
  exact⟨congrArg (Value.int .i64) (U.out.trans (pv4 H2.out ab (by omega))).symm,F.out⟩
 refine(within2_any _ _ _ _).mono ?_; rintro e w' ⟨rfl,rfl⟩; rw [Z.out]; go_wp2_with fail
 have H3:=hide ab
 have H4:=hide (show(ns:Int)≤6∧(nm:Int)≤3∧(nv:Int)≤3∧(nr:Int)≤4∧(nu:Int)≤8 from by omega)
 clear ab d4 aQ d5 aR d6
 rename_i z1 zK za
 clear z1
 obtain⟨w3,eE,bn,aR,dr⟩:=Ae w2 #[] 9
 have aD:=hide (show Below w2.heap.size w2 w3.drew from bn.trans ((Ap w3).mono bn.size))
 have bh:=hide (show World.ownsRow w3.drew w2.heap.size 9 1 (.slice (some ⟨w2.heap.size,0,none⟩) 0 0) 0 [] from⟨by simp,.inr ⟨w2.heap.size,0,#[],rfl,Nat.le_refl _,aR,Nat.le_refl _,by unfold maxLen; omega,by simp,by simp⟩⟩)
 have bk:=hide (aj.out.at aD.out)
 have ee:=bk.out.b.cell
 have dh:=hide (F.out.trans (aD.out.mono F.out.size))
 clear bn aR dr
 refine Reg.cI [0,0,2,7,0,16,63,0,128,511,1023] [1,2,4,5,7,8,0,3,6,9,10] ?_
 refine Reg.wI [1,2,4,5,7,8,0] [3,6,9,10] rfl fun Qf y=>?_
 go_wp2_with fail
 first | refine y _ _ ⟨rfl,?_⟩ | refine⟨rfl,?_⟩ | refine y _ _ ⟨by simp [Reg.fineT,Reg.intOp,Region.wanted,yielded,Reg.intFine,Reg.isInt,Act.eval],?_⟩
 try clear y
 refine Reg.aI 3 [6,9,10] [5,8] rfl fun Qf y=>?_
 simp only [gT,gS,gZ]
 go_wp2_with (at_builtin; refine Ei (w:=w3.drew) EW rfl _ _ rfl w2.heap.size _ _ _ rfl bh.out (l:=p.states) (da.out.keep (w':=w3.drew) (B':=w.heap.size) (fun _ M=>dh.out.cell M) (Nat.le_refl _)) (by rw [←O.out.2.2.2.2.2.1]; rfl) (fun d=>rfl) (by have:=G.out.states; have:=G.out.messages; have:=G.out.values; omega) aD.out.size ?_; intro v4 w4 bG cp)
 have aE:=hide (aD.out.trans (cp.below aD.out.size fun b' cj e=>by have:=(bh.out.lt b' e).1; omega))
 have bi:=hide bG
 have aU:=hide (aj.out.at aE.out)
 have ef:=aU.out.b.cell
 have di:=hide (F.out.trans (aE.out.mono F.out.size))
 obtain⟨dU,dY,dO⟩:=AH bG
 subst dO
 clear cp bG
 first | refine y _ _ ⟨?_,?_⟩ | refine⟨?_,?_⟩
 ·exact⟨Reg.same_load1 rfl rfl ((bk.out.b.cell 3).trans bI) ((aU.out.b.cell 3).trans bI) Tryz.underlying22 rfl,Reg.same_load1 rfl rfl ((bk.out.b.cell 4).trans aJ) ((aU.out.b.cell 4).trans aJ) Tryz.underlying22 rfl⟩
 try clear y
 refine Reg.aI 6 [9,10] [8] rfl fun Qf y=>?_
 simp only [gT,gS,gZ]
 go_wp2_with (at_builtin; refine Ei (w:=w4) EW rfl _ _ rfl w2.heap.size _ _ _ rfl bi.out (l:=p.messages) (db.out.keep (w':=w4) (B':=w.heap.size) (fun _ M=>di.out.cell M) (Nat.le_refl _)) (by rw [←O.out.2.1]; rfl) (fun d=>rfl) (by have:=G.out.states; have:=G.out.messages; have:=G.out.values; omega) aE.out.size ?_; intro v5 w5 bH cq)
 have aF:=hide (aE.out.trans (cq.below aE.out.size fun b' cj e=>by have:=(bi.out.lt b' e).1; omega))
 have bj:=hide bH
 have cg:=hide (aj.out.at aF.out)
 have eg:=cg.out.b.cell
 have dj:=hide (F.out.trans (aF.out.mono F.out.size))
 obtain⟨dV,dZ,dP⟩:=AH bH
 subst dP
 clear cq bH
 first | refine y _ _ ⟨?_,?_⟩ | refine⟨?_,?_⟩
 ·exact Reg.same_load1 rfl rfl ((aU.out.b.cell 4).trans aJ) ((cg.out.b.cell 4).trans aJ) Tryz.underlying22 rfl
 try clear y
 refine Reg.aI 9 [10] [] rfl fun Qf y=>?_
 simp only [gT,gS,gZ]
 go_wp2_with (at_builtin; refine Ei (w:=w5) EW rfl _ _ rfl w2.heap.size _ _ _ rfl bj.out (l:=p.values) (dc.out.keep (w':=w5) (B':=w.heap.size) (fun _ M=>dj.out.cell M) (Nat.le_refl _)) (by rw [←O.out.2.2.1]; rfl) (fun d=>rfl) (by have:=G.out.states; have:=G.out.messages; have:=G.out.values; omega) aF.out.size ?_; intro v6 w6 ar cr)
 have ck:=hide (aF.out.trans (cr.below aF.out.size fun b' cj e=>by have:=(bj.out.lt b' e).1; omega))
 have d9:=hide ar
 have ch:=hide (aj.out.at ck.out)
 have eh:=ch.out.b.cell
 have al:=hide (F.out.trans (ck.out.mono F.out.size))
 obtain⟨dW,bQ,dQ⟩:=AH ar
 subst dQ
 clear cr
 first | refine y _ _ ⟨Reg.nm,?_⟩ | skip
 try clear y
 refine Reg.wI [10] [] rfl fun Qf y=>?_
 go_wp2_with fail
 first | refine y _ _ ⟨rfl,?_⟩ | refine⟨rfl,?_⟩ | refine y _ _ ⟨by simp [Reg.fineT,Reg.intOp,Region.wanted,yielded,Reg.intFine,Reg.isInt,Act.eval],?_⟩
 try clear y
 first | refine Reg.restI_end ?_ | skip
 have cy:0+p.states.length+p.messages.length+p.values.length=(Bd p).length:=by simp only [Bd,List.length_append]; omega
 have cE:[]++p.states.map (BE · 0)++p.messages.map (BE · 0)++p.values.map (BE · 0)=DV (Bd p):=by simp [DV,Bd]
 rw [cy,cE] at ar
 rw [show p.states.length+p.messages.length+p.values.length=(Bd p).length by simp only [Bd,List.length_append]]
 have eu:(Bd p).length≤180:=by
  have:=G.out.states
  have:=G.out.messages
  have:=G.out.values
  omega
 have cd:=hide (HS ar (by omega)).2
 have en:=HP ar
 have dC:=hide G.out.names
 have cx:=hide (show CU nameOK (Bd p)=Aj (nmE (Bd p)) (List.range (Bd p).length) from rfl)
 rw [aZ.out] at cx
 have bY:=hide (show CU nameOK (Bd p)=e0 from aZ.out)
 clear ar cy cE bh bi bj d9 aZ
 generalize Bd p=L at*
 go_wp2_with fail
 go_loopw [4] (fun ii wr=>∃(k:Nat),ii=.int .i64 (k:Int)∧k≤L.length∧Hid (Aj (nmE L) (List.range k)=0)∧Hid (Below w6.heap.size w6 wr)) (fun ii _=>L.length - (intOf ii).toNat)
 case atStart=>exact⟨0,rfl,Nat.zero_le _,by show _=_; rfl,Below.refl _ _⟩
 case round=>
  obtain⟨k,rfl,hk,hE,a9⟩:=hrel
  by_cases b6:k<L.length
  ·obtain⟨b,off,s,hA,aX,bJ,hc⟩:=cd.out.at b6
   have d0:=hc 0 (by omega)
   simp only [Nat.add_zero,Nat.mul_one,BE] at d0
   have d1:=(a9.out.cell (p:=⟨b,off+k,none⟩) aX).trans d0
   have eC:=dC.out s (List.mem_of_getElem? bJ)
   have bK:=hide bJ
   subst hA
   clear hc bJ
   cases b8:nameOK s with
   | false=>
    have W:=hide b8
    clear b8
    have aK:=hide (show e0=2 from bY.out.symm.trans (Fl b6 hE.out bK.out (.inl W.out)))
    go_wp2_with fail
    refine Reg.cI [0,0,3,7,15,31,63,127,127,511,127,127,3199,7295,16383,32767] [0,1,2,3,4,5,6,7,8,10,11,12,13,9,14,15] ?_
    refine Reg.wI [0,1,2,3] [4,5,6,7,8,10,11,12,13,9,14,15] rfl fun Qf y=>?_
    go_wp2_with fail
    first | refine y _ _ ⟨rfl,?_⟩ | refine⟨rfl,?_⟩ | refine y _ _ ⟨by simp [Reg.fineT,Reg.intOp,Region.wanted,yielded,Reg.intFine,Reg.isInt,Act.eval],?_⟩
    try clear y
    refine Reg.aI 4 [5,6,7,8,10,11,12,13,9,14,15] [] rfl fun Qf y=>?_
    simp only [gT,gS,gZ]
    go_wp2_with (go_at_call 96; refine Calls.ret (Cm s _ (by omega)) ?_; rintro v w8 ⟨rfl,aa⟩; rw [W.out]; have a5:=hide (a9.out.trans (((Ap wr).trans aa).mono a9.out.size)); have d8:=(a5.out.cell (p:=⟨b,off+k,none⟩) aX).trans d0)
    first | refine y _ _ ⟨Reg.nm,?_⟩ | refine⟨Reg.nm,?_⟩
    try clear y
    clear aa
    refine Reg.wI [5,6,7,8,10,11,12,13] [9,14,15] rfl fun Qf y=>?_
    go_wp2_with fail
    first | refine y _ _ ⟨rfl,?_⟩ | refine⟨rfl,?_⟩ | refine y _ _ ⟨by simp [Reg.fineT,Reg.intOp,Region.wanted,yielded,Reg.intFine,Reg.isInt,Act.eval],?_⟩
    try clear y
    refine Reg.aI 9 [14,15] [13] rfl fun Qf y=>?_
    simp only [gT,gS,gZ]
    go_wp2_with fail
    first | refine y _ _ ⟨Reg.same_below (Below.refl _ _) [13] rfl,?_⟩ | refine⟨Reg.same_below (Below.refl _ _) [13] rfl,?_⟩
    try clear y
    refine Reg.aI 14 [15] [] rfl fun Qf y=>?_
    simp only [gT,gS,gZ]
    go_wp2_with fail
    first | refine y _ _ ⟨Reg.nm,?_⟩ | refine⟨Reg.nm,?_⟩
    try clear y
    refine Reg.wI [15] [] rfl fun Qf y=>?_
    go_wp2_with fail
    first | refine y _ _ ⟨rfl,?_⟩ | refine⟨rfl,?_⟩ | refine y _ _ ⟨by simp [Reg.fineT,Reg.intOp,Region.wanted,yielded,Reg.intFine,Reg.isInt,Act.eval],?_⟩
    try clear y
    first | refine Reg.restI_end ?_ | skip
    go_wp2_with fail
    go_ret
    exact⟨congrArg (Value.int .i64) (U.out.trans (by rw [aK.out]; exact pv5 H2.out H3.out H4.out rfl)).symm,al.out.trans (a5.out.mono al.out.size)⟩
   | true=>
    have W:=hide b8
    clear b8
    have cA:(L.take k).length=k:=by rw [List.length_take]; omega
    have dN:=hide cA
    clear cA
    have cm:Hid (∀I,Hid (Below w6.heap.size w6 I)→Hid (Calls Tryz.prog 136 #[.slice (some ⟨b,off,none⟩) k bQ,.string s] I fun r w'=>r=.returned (.bool (decide (s∈L.take k)))∧I=w')):=hide (fun I hx=>by
     have h1:=(cd.out.keep (w':=I) (B':=w6.heap.size) (fun _ M=>hx.out.cell M) (Nat.le_refl _)).takeS k
     have h2:=Ht (c:=bQ) (x:=s) h1
     rw [dN.out] at h2
     exact h2)
    by_cases hm:s∈L.take k
    ·have bv:=hide hm
     have bu:=hide (show decide (s∈L.take k)=true from decide_eq_true hm)
     clear hm
     have aK:=hide (show e0=2 from bY.out.symm.trans (Fl b6 hE.out bK.out (.inr bv.out)))
     go_wp2_with fail
     refine Reg.cI [0,0,3,7,15,31,63,127,127,511,127,127,3199,7295,16383,32767] [0,1,2,3,4,5,6,7,8,10,11,12,13,9,14,15] ?_
     refine Reg.wI [0,1,2,3] [4,5,6,7,8,10,11,12,13,9,14,15] rfl fun Qf y=>?_
     go_wp2_with fail
     first | refine y _ _ ⟨rfl,?_⟩ | refine⟨rfl,?_⟩ | refine y _ _ ⟨by simp [Reg.fineT,Reg.intOp,Region.wanted,yielded,Reg.intFine,Reg.isInt,Act.eval],?_⟩
     try clear y
     refine Reg.aI 4 [5,6,7,8,10,11,12,13,9,14,15] [] rfl fun Qf y=>?_
     simp only [gT,gS,gZ]
     go_wp2_with (go_at_call 96; refine Calls.ret (Cm s _ (by omega)) ?_; rintro v w8 ⟨rfl,aa⟩; rw [W.out]; have a5:=hide (a9.out.trans (((Ap wr).trans aa).mono a9.out.size)); have d8:=(a5.out.cell (p:=⟨b,off+k,none⟩) aX).trans d0)
     first | refine y _ _ ⟨Reg.nm,?_⟩ | refine⟨Reg.nm,?_⟩
     try clear y
     clear aa
     refine Reg.wI [5,6,7,8,10,11,12,13] [9,14,15] rfl fun Qf y=>?_
     go_wp2_with fail
     first | refine y _ _ ⟨rfl,?_⟩ | refine⟨rfl,?_⟩ | refine y _ _ ⟨by simp [Reg.fineT,Reg.intOp,Region.wanted,yielded,Reg.intFine,Reg.isInt,Act.eval],?_⟩
     try clear y
     refine Reg.aI 9 [14,15] [13] rfl fun Qf y=>?_
     simp only [gT,gS,gZ]
     go_wp2_with fail
     first | refine y _ _ ⟨Reg.same_below (Below.refl _ _) [13] rfl,?_⟩ | refine⟨Reg.same_below (Below.refl _ _) [13] rfl,?_⟩
     try clear y
     refine Reg.aI 14 [15] [] rfl fun Qf y=>?_
     simp only [gT,gS,gZ]
     go_wp2_with (go_at_call 136; refine(cm.out _ a5).out.mono ?_; rintro r w' ⟨rfl,rfl⟩; rw [bu.out])
     first | refine y _ _ ⟨Reg.nm,?_⟩ | refine⟨Reg.nm,?_⟩
     try clear y
     refine Reg.wI [15] [] rfl fun Qf y=>?_
     go_wp2_with fail
     first | refine y _ _ ⟨rfl,?_⟩ | refine⟨rfl,?_⟩ | refine y _ _ ⟨by simp [Reg.fineT,Reg.intOp,Region.wanted,yielded,Reg.intFine,Reg.isInt,Act.eval],?_⟩
     try clear y
     first | refine Reg.restI_end ?_ | skip
     go_wp2_with fail
     go_ret
     exact⟨congrArg (Value.int .i64) (U.out.trans (by rw [aK.out]; exact pv5 H2.out H3.out H4.out rfl)).symm,al.out.trans (a5.out.mono al.out.size)⟩
    ·have bv:=hide hm
     have bu:=hide (show decide (s∈L.take k)=false from decide_eq_false hm)
     clear hm
     have bF:=hide (HN b6 hE.out bK.out W.out bv.out)
     go_wp2_with fail
     refine Reg.cI [0,0,3,7,15,31,63,127,127,511,127,127,3199,7295,16383,32767] [0,1,2,3,4,5,6,7,8,10,11,12,13,9,14,15] ?_
     refine Reg.wI [0,1,2,3] [4,5,6,7,8,10,11,12,13,9,14,15] rfl fun Qf y=>?_
     go_wp2_with fail
     first | refine y _ _ ⟨rfl,?_⟩ | refine⟨rfl,?_⟩ | refine y _ _ ⟨by simp [Reg.fineT,Reg.intOp,Region.wanted,yielded,Reg.intFine,Reg.isInt,Act.eval],?_⟩
     try clear y
     refine Reg.aI 4 [5,6,7,8,10,11,12,13,9,14,15] [] rfl fun Qf y=>?_
     simp only [gT,gS,gZ]
     go_wp2_with (go_at_call 96; refine Calls.ret (Cm s _ (by omega)) ?_; rintro v w8 ⟨rfl,aa⟩; rw [W.out]; have a5:=hide (a9.out.trans (((Ap wr).trans aa).mono a9.out.size)); have d8:=(a5.out.cell (p:=⟨b,off+k,none⟩) aX).trans d0)
     first | refine y _ _ ⟨Reg.nm,?_⟩ | refine⟨Reg.nm,?_⟩
     try clear y
     clear aa
     refine Reg.wI [5,6,7,8,10,11,12,13] [9,14,15] rfl fun Qf y=>?_
     go_wp2_with fail
     first | refine y _ _ ⟨rfl,?_⟩ | refine⟨rfl,?_⟩ | refine y _ _ ⟨by simp [Reg.fineT,Reg.intOp,Region.wanted,yielded,Reg.intFine,Reg.isInt,Act.eval],?_⟩
     try clear y
     refine Reg.aI 9 [14,15] [13] rfl fun Qf y=>?_
     simp only [gT,gS,gZ]
     go_wp2_with fail
     first | refine y _ _ ⟨Reg.same_below (Below.refl _ _) [13] rfl,?_⟩ | refine⟨Reg.same_below (Below.refl _ _) [13] rfl,?_⟩
     try clear y
     refine Reg.aI 14 [15] [] rfl fun Qf y=>?_
     simp only [gT,gS,gZ]
     go_wp2_with (go_at_call 136; refine(cm.out _ a5).out.mono ?_; rintro r w' ⟨rfl,rfl⟩; rw [bu.out])
     first | refine y _ _ ⟨Reg.nm,?_⟩ | refine⟨Reg.nm,?_⟩
     try clear y
     refine Reg.wI [15] [] rfl fun Qf y=>?_
     go_wp2_with fail
     first | refine y _ _ ⟨rfl,?_⟩ | refine⟨rfl,?_⟩ | refine y _ _ ⟨by simp [Reg.fineT,Reg.intOp,Region.wanted,yielded,Reg.intFine,Reg.isInt,Act.eval],?_⟩
     try clear y
     first | refine Reg.restI_end ?_ | skip
     go_wp2_with fail
     exact⟨⟨k+1,by go_num,by omega,bF.out,a5.out⟩,by simp [intOf]; omega⟩
  ·have cF:=hide (show e0=0 from by
    have h1:=hE.out
    rw [show k=L.length by omega] at h1
    exact cx.out.trans h1)
   have ci:=hide (ch.out.at a9.out)
   have ej:=ci.out.b.cell
   have bm:=hide (al.out.trans (a9.out.mono al.out.size))
   clear hE
   obtain⟨cK,dR⟩:∃x,x=wr:=⟨_,rfl⟩
   subst dR
   by_cases d7:(0:Int)<(nl:Int)
   case pos=>
    go_wp2_with fail
    go_ret
    exact⟨congrArg (Value.int .i64) (U.out.trans (pv6 H2.out H3.out H4.out (by rw [cF.out]; rfl) (by have:=aT.out; omega))).symm,bm.out⟩
   have hR:=hide (U.out.trans (pv7 H2.out H3.out H4.out (by rw [cF.out]; rfl) (by have:=aT.out; omega)))
   go_wp2_with fail
   clear d7
   go_loopw [5] (fun ii wr=>∃(k:Nat),ii=.int .i64 (k:Int)∧k≤nr∧Hid (Below cK.heap.size cK wr)∧Hid ((p.res.take k).all Bg=true)) (fun ii _=>nr - (intOf ii).toNat)
   case atStart=>exact⟨0,rfl,Nat.zero_le _,Below.refl _ _,by show _=_; simp⟩
   case round=>
    obtain⟨k2,rfl,eo,aY,bg⟩:=hrel
    have bl:=hide (ci.out.at aY.out)
    have ek:=bl.out.b.cell
    have V:=hide (bm.out.trans (aY.out.mono bm.out.size))
    by_cases ev:k2<nr
    ·obtain⟨b2,cG,l,d3,eb,hl,cn⟩:=(de.out.keep (w':=wr) (B':=w.heap.size) (fun _ M=>V.out.cell M) (Nat.le_refl _)).at (k:=k2) (by have:=O.out.1; omega)
     have et:(loadCellsFrom ⟨b2,cG+k2*4,none⟩ 0 4 #[]).run Tryz.prog wr=.ok #[.int .i64 l.c,.int .i64 l.n,.int .i64 l.t,.int .i64 l.f] wr:=by
      have:=run_loadCells_list (P:=Tryz.prog) wr ⟨b2,cG+k2*4,none⟩ [.int .i64 l.c,.int .i64 l.n,.int .i64 l.t,.int .i64 l.f] (fun j v E=>by
       rw [Addr.add_mid]
       have hj:=AP E
       rw [cn j hj]
       match j,hj,E with
       | 0,_,E=>exact congrArg some (Option.some.inj E)
       | 1,_,E=>exact congrArg some (Option.some.inj E)
       | 2,_,E=>exact congrArg some (Option.some.inj E)
       | 3,_,E=>exact congrArg some (Option.some.inj E))
      simpa [loadCells] using this
     have cu:=hide hl
     subst d3
     clear cn hl
     go_wp2_with fail
     cases E:Bg l
     ·have av:=hide (show p.res.all Bg=false from by
       rw [List.all_eq_false]
       exact⟨l,List.mem_of_getElem? cu.out,by rw [E]; decide⟩)
      refine Calls.ret (Gv l _) ?_; rintro v w9 ⟨rfl,C⟩; rw [E]; have J:=hide (V.out.trans (C.mono V.out.size)); clear C; go_wp2_with fail
      go_ret
      refine⟨congrArg (Value.int .i64) (hR.out.trans ?_).symm,J.out⟩
      unfold DJ
      rw [av.out]
      rfl
     ·have av:=hide (Cq (p:=Bg) cu.out bg.out E)
      refine Calls.ret (Gv l _) ?_; rintro v w9 ⟨rfl,C⟩; rw [E]; have dk:=hide (aY.out.trans (C.mono aY.out.size)); clear C; go_wp2_with fail
      exact⟨⟨k2+1,by go_num,by omega,dk.out,av.out⟩,by simp [intOf]; omega⟩
    ·have av:=hide (show p.res.all Bg=true from by
      have h1:=O.out.1
      have h2:=bg.out
      rwa [List.take_of_length_le (by omega)] at h2)
     have c8:=hide (show protE nameOK p=orE (Aa p.initial (ns:Int)) (orE (Ad (decide (ni=0)) 1) (orE (Aa p.leader (ns:Int)) (Cc p))) from by
      rw [hR.out]
      obtain⟨-,-,-,-,e5,e6,-⟩:=O.out
      unfold DJ Cc
      rw [av.out,Bv,e5,e6]
      rfl)
     clear av bg
     go_wp2_with fail
     obtain⟨ei,aG⟩:∃e,Hid (Aa p.initial (ns:Int)=e):=⟨_,rfl⟩
     by_cases ah:ei=0
     case neg=>
      have Qi:(ei != 0)=true:=by simp [ah]
      have Hi:=hide ah
      clear ah
      refine Calls.ret (br _ V.out) ?_; rintro v w9 ⟨rfl,C⟩; rw [aG.out]; have J:=hide (V.out.trans (C.mono V.out.size)); clear C; go_wp2_with fail
      go_ret
      exact⟨congrArg (Value.int .i64) (c8.out.trans (by rw [aG.out]; exact BF Hi.out)).symm,J.out⟩
     have Qi:(ei != 0)=false:=by simp [ah]
     have Hi:=hide ah
     clear ah
     have c9:=hide (show protE nameOK p=orE (Ad (decide (ni=0)) 1) (orE (Aa p.leader (ns:Int)) (Cc p)) from c8.out.trans (by rw [aG.out,Hi.out]; rfl))
     by_cases aq:ni=0
     case pos=>
      have Qn:((ni:Int)==0)=true:=by simp [aq]
      have Hn:=hide aq
      clear aq
      refine Calls.ret (br _ V.out) ?_; rintro v w9 ⟨rfl,C⟩; rw [aG.out]; have ad:=hide (bl.out.at C); have dm:=ad.out.b.cell; have dt:=Ah ad.out.b au.out; have J:=hide (V.out.trans (C.mono V.out.size)); clear C; go_wp2_with fail
      go_ret
      exact⟨congrArg (Value.int .i64) (c9.out.trans (by rw [decide_eq_true Hn.out]; rfl)).symm,J.out⟩
     have Qn:((ni:Int)==0)=false:=by simp [aq]
     have Hn:=hide aq
     clear aq
     have ca:=hide (show protE nameOK p=orE (Aa p.leader (ns:Int)) (Cc p) from c9.out.trans (by rw [decide_eq_false Hn.out]; rfl))
     refine Calls.ret (br _ V.out) ?_; rintro v w9 ⟨rfl,C⟩; rw [aG.out]; have ad:=hide (bl.out.at C); have dm:=ad.out.b.cell; have dt:=Ah ad.out.b au.out; have J:=hide (V.out.trans (C.mono V.out.size)); clear C; go_wp2_with fail
     obtain⟨el,b4⟩:∃e,Hid (Aa p.leader (ns:Int)=e):=⟨_,rfl⟩
     by_cases ai:el=0
     case neg=>
      have Ql:(el != 0)=true:=by simp [ai]
      have Hl:=hide ai
      clear ai
      refine Calls.ret (cw _ J.out) ?_; rintro v wa ⟨rfl,ae⟩; rw [b4.out]; have ak:=hide (ad.out.at ae); have dn:=ak.out.b.cell; have du:=Ah ak.out.b au.out; have am:=hide (J.out.trans (ae.mono J.out.size)); clear ae; go_wp2_with fail
      go_ret
      exact⟨congrArg (Value.int .i64) (ca.out.trans (by rw [b4.out]; exact BF Hl.out)).symm,am.out⟩
     have Ql:(el != 0)=false:=by simp [ai]
     have Hl:=hide ai
     clear ai
     have cb:=hide (show protE nameOK p=Cc p from ca.out.trans (by rw [b4.out,Hl.out]; rfl))
     refine Calls.ret (cw _ J.out) ?_; rintro v wa ⟨rfl,ae⟩; rw [b4.out]; have ak:=hide (ad.out.at ae); have dn:=ak.out.b.cell; have du:=Ah ak.out.b au.out; have am:=hide (J.out.trans (ae.mono J.out.size)); clear ae; go_wp2_with fail
     clear Qi Qn Ql
     go_loopw [8] (fun ii wr=>∃(k:Nat),ii=.int .i64 (k:Int)∧k≤nu∧Hid (Below wa.heap.size wa wr)∧Hid (Aj (BB nameOK p) (List.range k)=0)) (fun ii _=>nu - (intOf ii).toNat)
     case atStart=>exact⟨0,rfl,Nat.zero_le _,Below.refl _ _,by show _=_; rfl⟩
     case round=>
      obtain⟨k4,rfl,ep,ao,aS⟩:=hrel
      have aB:=hide (ak.out.at ao.out)
      have em:=aB.out.b.cell
      have er:=Ah aB.out.b au.out
      have aW:=hide (am.out.trans (ao.out.mono am.out.size))
      by_cases ew:k4<nu
      ·obtain⟨e9,b0⟩:∃e,Hid (BB nameOK p k4=e):=⟨_,rfl⟩
       have bp:=hide (KF (cs:=pc.toList) (i:=k4) aB.out.pr (by have:=O.out.2.2.2.2.2.2; omega) G.out aB.out.tab)
       rw [b0.out] at bp
       have cD:=hide (show(List.range p.rules.length)[k4]?=some k4 from by rw [List.getElem?_range (by have:=O.out.2.2.2.2.2.2; omega)])
       have cB:=hide (show(List.range p.rules.length).take k4=List.range k4 from by rw [List.take_range,Nat.min_eq_left (by have:=O.out.2.2.2.2.2.2; omega)])
       go_wp2_with fail
       by_cases h0:e9=0
       ·have hq:(e9 != 0)=false:=by simp [h0]
        have bF:=hide (show Aj (BB nameOK p) (List.range (k4+1))=0 from by
         have h1:=CD (BB nameOK p) cD.out (by rw [cB.out]; exact aS.out)
         rw [List.take_range,Nat.min_eq_left (by have:=O.out.2.2.2.2.2.2; omega)] at h1
         rw [h1,b0.out,h0])
        clear h0
        refine Calls.ret bp.out ?_; rintro v w9 ⟨rfl,C⟩; have bo:=hide (ao.out.trans (C.mono ao.out.size)); clear C; go_wp2_with fail
        exact⟨⟨k4+1,by go_num,by omega,bo.out,bF.out⟩,by simp [intOf]; omega⟩
       ·have hq:(e9 != 0)=true:=by simp [h0]
        have aK:=hide (show protE nameOK p=e9 from by
         have h1:=Ct (BB nameOK p) cD.out (by rw [cB.out]; exact aS.out) (by rw [b0.out]; exact h0)
         rw [cb.out]
         unfold Cc
         rw [h1,b0.out,BF h0])
        clear h0
        refine Calls.ret bp.out ?_; rintro v w9 ⟨rfl,C⟩; have bo:=hide (ao.out.trans (C.mono ao.out.size)); clear C; go_wp2_with fail
        go_ret
        exact⟨congrArg (Value.int .i64) aK.out.symm,am.out.trans (bo.out.mono am.out.size)⟩
      ·obtain⟨nt,bC⟩:∃n,n=(BO p.rules).length:=⟨_,rfl⟩
       have cc:=hide (show protE nameOK p=Ad (decide (3<nt)) 4 from by
        have h1:=aS.out
        rw [show k4=p.rules.length by have:=O.out.2.2.2.2.2.2; omega] at h1
        rw [cb.out,bC]
        unfold Cc
        rw [h1,AY])
       have bL:=hide (Jo (cs:=pc.toList) aB.out.pr G.out)
       rw [←bC] at bL
       have ey:nt≤1800:=by
        have h1:=FB p.rules (fun r hr=>(G.out.rule r hr).1.2.1)
        have h2:=G.out.rules
        omega
       clear bC aS
       go_wp2_with fail
       by_cases bT:3<nt
       ·have G3:(3:Int)<(nt:Int):=by omega
        refine Calls.ret bL.out ?_; rintro v w9 ⟨aH,C⟩; obtain⟨Av,cv,E⟩:=AH aH; subst E; have J:=hide (aW.out.trans (C.mono aW.out.size)); clear aH C; go_wp2_with fail
        go_ret
        exact⟨congrArg (Value.int .i64) (cc.out.trans (by rw [decide_eq_true bT]; rfl)).symm,J.out⟩
       ·have G3:¬(3:Int)<(nt:Int):=by omega
        refine Calls.ret bL.out ?_; rintro v w9 ⟨aH,C⟩; obtain⟨Av,cv,E⟩:=AH aH; subst E; have J:=hide (aW.out.trans (C.mono aW.out.size)); clear aH C; go_wp2_with fail
        go_ret
        exact⟨congrArg (Value.int .i64) (cc.out.trans (by rw [decide_eq_false bT]; rfl)).symm,J.out⟩
end Go.Proofs.YtfcfpoemojjglaaGreatDoor.K
