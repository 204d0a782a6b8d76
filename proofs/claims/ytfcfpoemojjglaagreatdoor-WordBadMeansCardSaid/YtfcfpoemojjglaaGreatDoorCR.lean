/-
  Part CR of a proof.
-/
import Derived.Test.YtfcfpoemojjglaaGreatDoorPA
import Derived.Test.YtfcfpoemojjglaaGreatDoorCN
import Derived.Test.YtfcfpoemojjglaaGreatDoorCJ
import Derived.Test.YtfcfpoemojjglaaGreatDoorCI
set_option maxHeartbeats 16000000
set_option maxRecDepth 100000
set_option linter.unusedVariables false
set_option linter.unusedSimpArgs false
namespace Go.Proofs.YtfcfpoemojjglaaGreatDoor.K
open Go.RowKit
attribute [-go_sem] loadCellsFrom storeCells
theorem RU {w:World} {cs:List Value} {p:Am} (h:At w w.heap.size cs p) (a5:p.Small) (hT:SpOK w) (bq:p.topo≠1):
  Calls Tryz.prog 95 #[.agg cs.toArray] w (Ret fun v w'=>v=.int .i64 (protE nameOK p)∧Below w.heap.size w w'):=by
 obtain⟨A1,c1,A2,c2,A3,c3,A4,c4,A5,c5,A6,c6,A7,c7,cz,eJ,dG,dH,bI,aN,dI,dJ,dK,dL,dM,z,h2,h3,h4,h5,h6,h7,dr⟩:=h.cells
 have dx:=a5.states
 have dy:=a5.messages
 have dz:=a5.values
 have dA:=a5.res
 have dB:=a5.initial
 have dC:=a5.leader
 have dD:=a5.rules
 have eH:=a5.name
 have G:=hide a5
 have df:=hide z
 have dg:=hide h2
 have dh:=hide h3
 have em:=hide h7
 have en:=hide h4
 have di:=hide h5
 have dj:=hide h6
 obtain⟨w1,eN,aG,aV,dt⟩:=Ae w cs.toArray 27
 have ch:=hide (show C0 w1 w.heap.size cs.toArray p from⟨h.keep (fun _ V=>aG.cell V) aG.size,aV,hT.below aG⟩)
 have dn:=hide aG
 generalize dN:cs.toArray=pc at*
 clear z h2 h3 h4 h5 h6 h7 h a5 aG aV dt dN hT
 obtain⟨nr,bA⟩:∃n,n=p.res.length:=⟨_,rfl⟩
 obtain⟨nm,bz⟩:∃n,n=p.messages.length:=⟨_,rfl⟩
 obtain⟨nv,bE⟩:∃n,n=p.values.length:=⟨_,rfl⟩
 obtain⟨nl,bx⟩:∃n,n=p.leader.length:=⟨_,rfl⟩
 obtain⟨ni,bw⟩:∃n,n=p.initial.length:=⟨_,rfl⟩
 obtain⟨ns,bB⟩:∃n,n=p.states.length:=⟨_,rfl⟩
 obtain⟨nu,bD⟩:∃n,n=p.rules.length:=⟨_,rfl⟩
 have U:=hide (show nr=p.res.length∧nm=p.messages.length∧nv=p.values.length∧nl=p.leader.length∧ni=p.initial.length∧ns=p.states.length∧nu=p.rules.length from⟨bA,bz,bE,bx,bw,bB,bD⟩)
 simp only [←bA,←bz,←bE,←bx,←bw,←bB,←bD] at dH bI aN dJ dK dL dM dx dy dz dA dB dC dD dr
 clear bA bz bE bx bw bB bD
 obtain⟨kt,bt⟩:∃n,n=p.topo:=⟨_,rfl⟩
 obtain⟨kf,bs⟩:∃n,n=p.fault:=⟨_,rfl⟩
 have c9:=hide (show kt=p.topo∧kf=p.fault from⟨bt,bs⟩)
 simp only [←bt,←bs] at dG dI
 clear bt bs
 have az:=hide cz
 clear cz
 have eo:=ch.out.b.cell
 have af:Hid (kt≠1):=by rw [←c9.out.1] at bq; exact bq
 have eK:(kt==1)=false:=by simp [af.out]
 have eL:(kt != 1)=true:=by simp [af.out]
 clear bq
 have aZ:=dn
 obtain⟨e0,b2⟩:∃e,Hid (CU nameOK (Bd p)=e):=⟨_,rfl⟩
 cases b7:nameOK p.name
 case false=>
  have W:=hide b7
  clear b7
  go_enter Tryz.func95,Tryz.ntmps95
  go_wp2_with fail
  refine Calls.ret (Cm p.name _ (by omega)) ?_; rintro v w2 ⟨rfl,au⟩; rw [W.out]; have E:=hide (aZ.out.trans (au.mono aZ.out.size)); clear au; go_wp2_with fail
  go_ret
  exact⟨by unfold protE; rw [W.out]; rfl,E.out⟩
 have W:=hide b7
 clear b7
 have J:=hide (show protE nameOK p=CH kt kf ns nm nv nr nu nl e0 (DJ p) from by
  obtain⟨e1,e2,e3,e4,e5,e6,e7⟩:=U.out
  obtain⟨f1,f2⟩:=c9.out
  rw [e1,e2,e3,e4,e6,e7,f1,f2,←b2.out]
  exact GI p W.out)
 have br:∀I,Below w.heap.size w I→Calls Tryz.prog 97 #[.slice A5 ni c5,.int .i64 (ns:Int)] I (Ret fun r w'=>r=.int .i64 (setE p.initial (ns:Int))∧Below I.heap.size I w'):=fun I hx=>by
  rw [U.out.2.2.2.2.1]
  exact B0 (by omega) (di.out.keep (fun _ V=>hx.cell V) hx.size)
 have cw:∀I,Below w.heap.size w I→Calls Tryz.prog 97 #[.slice A6 nl c6,.int .i64 (ns:Int)] I (Ret fun r w'=>r=.int .i64 (setE p.leader (ns:Int))∧Below I.heap.size I w'):=fun I hx=>by
  rw [U.out.2.2.2.1]
  exact B0 (by omega) (dj.out.keep (fun _ V=>hx.cell V) hx.size)
 go_enter Tryz.func95,Tryz.ntmps95
 go_wp2_with fail
 refine Calls.ret (Cm p.name _ (by omega)) ?_; rintro v w2 ⟨rfl,au⟩; rw [W.out]; have an:=hide (ch.out.at au); have ep:=an.out.b.cell; have eB:=Ah an.out.b az.out; have E:=hide (aZ.out.trans (au.mono aZ.out.size)); clear au; go_wp2_with fail
 cases b9:inC kt 1 4
 case false=>
  have aB:=hide b9
  clear b9
  refine(within2_any _ _ _ _).mono ?_; rintro e w' ⟨rfl,rfl⟩; rw [aB.out]; go_wp2_with fail
  go_ret
  exact⟨congrArg (Value.int .i64) (J.out.trans (pv2 (by have z:=aB.out; simp [inC] at z; omega))).symm,E.out⟩
 have aB:=hide b9
 clear b9
 refine(within2_any _ _ _ _).mono ?_; rintro e w' ⟨rfl,rfl⟩; rw [aB.out]; go_wp2_with fail
 cases b5:inC kf 0 3
 case false=>
  have Z:=hide b5
  clear b5
  refine(within2_any _ _ _ _).mono ?_; rintro e w' ⟨rfl,rfl⟩; rw [Z.out]; go_wp2_with fail
  go_ret
  exact⟨congrArg (Value.int .i64) (J.out.trans (pv2 (by have z:=Z.out; simp [inC] at z; omega))).symm,E.out⟩
 have Z:=hide b5
 clear b5
 have O:=hide (show 1≤kt∧kt≤4∧0≤kf∧kf≤3 from by
  have z:=aB.out
  have h2:=Z.out
  simp [inC] at z h2
  omega)
 cases aa:((ns:Int)==0)
 case true=>
  refine(within2_any _ _ _ _).mono ?_; rintro e w' ⟨rfl,rfl⟩; rw [Z.out]; go_wp2_with fail
  go_ret
  exact⟨congrArg (Value.int .i64) (J.out.trans (pv3 O.out aa)).symm,E.out⟩
 by_cases d5:6<(ns:Int)
 case pos=>
  refine(within2_any _ _ _ _).mono ?_; rintro e w' ⟨rfl,rfl⟩; rw [Z.out]; go_wp2_with fail
  go_ret
  exact⟨congrArg (Value.int .i64) (J.out.trans (pv4 O.out aa (by omega))).symm,E.out⟩
 by_cases aV:3<(nm:Int)
 case pos=>
  refine(within2_any _ _ _ _).mono ?_; rintro e w' ⟨rfl,rfl⟩; rw [Z.out]; go_wp2_with fail
  go_ret
  exact⟨congrArg (Value.int .i64) (J.out.trans (pv4 O.out aa (by omega))).symm,E.out⟩
 by_cases d6:3<(nv:Int)
 case pos=>
  refine(within2_any _ _ _ _).mono ?_; rintro e w' ⟨rfl,rfl⟩; rw [Z.out]; go_wp2_with fail
  go_ret
  exact⟨congrArg (Value.int .i64) (J.out.trans (pv4 O.out aa (by omega))).symm,E.out⟩
 by_cases aW:4<(nr:Int)
 case pos=>
  refine(within2_any _ _ _ _).mono ?_; rintro e w' ⟨rfl,rfl⟩; rw [Z.out]; go_wp2_with fail
  go_ret
  exact⟨congrArg (Value.int .i64) (J.out.trans (pv4 O.out aa (by omega))).symm,E.out⟩
 by_cases d7:8<(nu:Int)
 case pos=>
  refine(within2_any _ _ _ _).mono ?_; rintro e w' ⟨rfl,rfl⟩; rw [Z.out]; go_wp2_with fail
  go_ret
  exact⟨congrArg (Value.int .i64) (J.out.trans (pv4 O.out aa (by omega))).symm,E.out⟩
 refine(within2_any _ _ _ _).mono ?_; rintro e w' ⟨rfl,rfl⟩; rw [Z.out]; go_wp2_with fail
 have H3:=hide aa
 have H4:=hide (show(ns:Int)≤6∧(nm:Int)≤3∧(nv:Int)≤3∧(nr:Int)≤4∧(nu:Int)≤8 from by omega)
 clear aa d5 aV d6 aW d7
 rename_i z1 zK za
 clear z1
 obtain⟨w3,eO,bn,aW,du⟩:=Ae w2 #[] 9
 have aH:=hide (show Below w2.heap.size w2 w3.drew from bn.trans ((Ap w3).mono bn.size))
 have bi:=hide (show World.ownsRow w3.drew w2.heap.size 9 1 (.slice (some ⟨w2.heap.size,0,none⟩) 0 0) 0 [] from⟨by simp,.inr ⟨w2.heap.size,0,#[],rfl,Nat.le_refl _,aW,Nat.le_refl _,by unfold maxLen; omega,by simp,by simp⟩⟩)
 have bl:=hide (an.out.at aH.out)
 have eq:=bl.out.b.cell
 have dk:=hide (E.out.trans (aH.out.mono E.out.size))
 clear bn aW du
 refine Reg.cI [0,0,2,7,0,16,63,0,128,511,1023] [1,2,4,5,7,8,0,3,6,9,10] ?_
 refine Reg.wI [1,2,4,5,7,8,0] [3,6,9,10] rfl fun Qf y=>?_
 go_wp2_with fail
 first | refine y _ _ ⟨rfl,?_⟩ | refine⟨rfl,?_⟩ | refine y _ _ ⟨by simp [Reg.fineT,Reg.intOp,Region.wanted,yielded,Reg.intFine,Reg.isInt,Act.eval],?_⟩
 try clear y
 refine Reg.aI 3 [6,9,10] [5,8] rfl fun Qf y=>?_
 simp only [gT,gS,gZ]
 go_wp2_with (at_builtin; refine Ei (w:=w3.drew) EW rfl _ _ rfl w2.heap.size _ _ _ rfl bi.out (l:=p.states) (df.out.keep (w':=w3.drew) (B':=w.heap.size) (fun _ V=>dk.out.cell V) (Nat.le_refl _)) (by rw [←U.out.2.2.2.2.2.1]; rfl) (fun d=>rfl) (by have:=G.out.states; have:=G.out.messages; have:=G.out.values; omega) aH.out.size ?_; intro v4 w4 bG cr)
 have aJ:=hide (aH.out.trans (cr.below aH.out.size fun b' cm e=>by have:=(bi.out.lt b' e).1; omega))
 have bj:=hide bG
 have aY:=hide (an.out.at aJ.out)
 have er:=aY.out.b.cell
 have dl:=hide (E.out.trans (aJ.out.mono E.out.size))
 obtain⟨ea,eh,dR⟩:=AH bG
 subst dR
 clear cr bG
 first | refine y _ _ ⟨?_,?_⟩ | refine⟨?_,?_⟩
 ·exact⟨Reg.same_load1 rfl rfl ((bl.out.b.cell 3).trans bI) ((aY.out.b.cell 3).trans bI) Tryz.underlying22 rfl,Reg.same_load1 rfl rfl ((bl.out.b.cell 4).trans aN) ((aY.out.b.cell 4).trans aN) Tryz.underlying22 rfl⟩
 try clear y
 refine Reg.aI 6 [9,10] [8] rfl fun Qf y=>?_
 simp only [gT,gS,gZ]
 go_wp2_with (at_builtin; refine Ei (w:=w4) EW rfl _ _ rfl w2.heap.size _ _ _ rfl bj.out (l:=p.messages) (dg.out.keep (w':=w4) (B':=w.heap.size) (fun _ V=>dl.out.cell V) (Nat.le_refl _)) (by rw [←U.out.2.1]; rfl) (fun d=>rfl) (by have:=G.out.states; have:=G.out.messages; have:=G.out.values; omega) aJ.out.size ?_; intro v5 w5 bH ct)
 have aK:=hide (aJ.out.trans (ct.below aJ.out.size fun b' cm e=>by have:=(bj.out.lt b' e).1; omega))
 have bk:=hide bH
 have ci:=hide (an.out.at aK.out)
 have et:=ci.out.b.cell
 have dm:=hide (E.out.trans (aK.out.mono E.out.size))
 obtain⟨eb,ej,dS⟩:=AH bH
 subst dS
 clear ct bH
 first | refine y _ _ ⟨?_,?_⟩ | refine⟨?_,?_⟩
 ·exact Reg.same_load1 rfl rfl ((aY.out.b.cell 4).trans aN) ((ci.out.b.cell 4).trans aN) Tryz.underlying22 rfl
 try clear y
 refine Reg.aI 9 [10] [] rfl fun Qf y=>?_
 simp only [gT,gS,gZ]
 go_wp2_with (at_builtin; refine Ei (w:=w5) EW rfl _ _ rfl w2.heap.size _ _ _ rfl bk.out (l:=p.values) (dh.out.keep (w':=w5) (B':=w.heap.size) (fun _ V=>dm.out.cell V) (Nat.le_refl _)) (by rw [←U.out.2.2.1]; rfl) (fun d=>rfl) (by have:=G.out.states; have:=G.out.messages; have:=G.out.values; omega) aK.out.size ?_; intro v6 w6 ay cu)
 have cn:=hide (aK.out.trans (cu.below aK.out.size fun b' cm e=>by have:=(bk.out.lt b' e).1; omega))
 have dc:=hide ay
 have cj:=hide (an.out.at cn.out)
 have eu:=cj.out.b.cell
 have ap:=hide (E.out.trans (cn.out.mono E.out.size))
 obtain⟨ec,bS,dT⟩:=AH ay
 subst dT
 clear cu
 first | refine y _ _ ⟨Reg.nm,?_⟩ | skip
 try clear y
 refine Reg.wI [10] [] rfl fun Qf y=>?_
 go_wp2_with fail
 first | refine y _ _ ⟨rfl,?_⟩ | refine⟨rfl,?_⟩ | refine y _ _ ⟨by simp [Reg.fineT,Reg.intOp,Region.wanted,yielded,Reg.intFine,Reg.isInt,Act.eval],?_⟩
 try clear y
 first | refine Reg.restI_end ?_ | skip
 have cy:0+p.states.length+p.messages.length+p.values.length=(Bd p).length:=by simp only [Bd,List.length_append]; omega
 have cF:[]++p.states.map (BE · 0)++p.messages.map (BE · 0)++p.values.map (BE · 0)=DV (Bd p):=by simp [DV,Bd]
 rw [cy,cF] at ay
 rw [show p.states.length+p.messages.length+p.values.length=(Bd p).length by simp only [Bd,List.length_append]]
 have eE:(Bd p).length≤180:=by
  have:=G.out.states
  have:=G.out.messages
  have:=G.out.values
  omega
 have cf:=hide (HS ay (by omega)).2
 have ey:=HP ay
 have dE:=hide G.out.names
 have cx:=hide (show CU nameOK (Bd p)=Aj (nmE (Bd p)) (List.range (Bd p).length) from rfl)
 rw [b2.out] at cx
 have c0:=hide (show CU nameOK (Bd p)=e0 from b2.out)
 clear ay cy cF bi bj bk dc b2
 generalize Bd p=L at*
 go_wp2_with fail
 go_loopw [4] (fun ii wr=>∃(k:Nat),ii=.int .i64 (k:Int)∧k≤L.length∧Hid (Aj (nmE L) (List.range k)=0)∧Hid (Below w6.heap.size w6 wr)) (fun ii _=>L.length - (intOf ii).toNat)
 case atStart=>exact⟨0,rfl,Nat.zero_le _,by show _=_; rfl,Below.refl _ _⟩
 case round=>
  obtain⟨k,rfl,hk,hE,a8⟩:=hrel
  by_cases b6:k<L.length
  ·obtain⟨b,aR,s,hA,b1,bJ,hc⟩:=cf.out.at b6
   have d0:=hc 0 (by omega)
   simp only [Nat.add_zero,Nat.mul_one,BE] at d0
   have d1:=(a8.out.cell (p:=⟨b,aR+k,none⟩) b1).trans d0
   have eM:=dE.out s (List.mem_of_getElem? bJ)
   have bK:=hide bJ
   subst hA
   clear hc bJ
   cases b8:nameOK s with
   | false=>
    have W:=hide b8
    clear b8
    have aO:=hide (show e0=2 from c0.out.symm.trans (Fl b6 hE.out bK.out (.inl W.out)))
    go_wp2_with fail
    refine Reg.cI [0,0,3,7,15,31,63,127,127,511,127,127,3199,7295,16383,32767] [0,1,2,3,4,5,6,7,8,10,11,12,13,9,14,15] ?_
    refine Reg.wI [0,1,2,3] [4,5,6,7,8,10,11,12,13,9,14,15] rfl fun Qf y=>?_
    go_wp2_with fail
    first | refine y _ _ ⟨rfl,?_⟩ | refine⟨rfl,?_⟩ | refine y _ _ ⟨by simp [Reg.fineT,Reg.intOp,Region.wanted,yielded,Reg.intFine,Reg.isInt,Act.eval],?_⟩
    try clear y
    refine Reg.aI 4 [5,6,7,8,10,11,12,13,9,14,15] [] rfl fun Qf y=>?_
    simp only [gT,gS,gZ]
    go_wp2_with (go_at_call 96; refine Calls.ret (Cm s _ (by omega)) ?_; rintro v w8 ⟨rfl,a9⟩; rw [W.out]; have a4:=hide (a8.out.trans (((Ap wr).trans a9).mono a8.out.size)); have d8:=(a4.out.cell (p:=⟨b,aR+k,none⟩) b1).trans d0)
    first | refine y _ _ ⟨Reg.nm,?_⟩ | refine⟨Reg.nm,?_⟩
    try clear y
    clear a9
    refine Reg.wI [5,6,7,8,10,11,12,13] [9,14,15] rfl fun Qf y=>?_
    go_wp2_with fail
    first | refine y _ _ ⟨rfl,?_⟩ | refine⟨rfl,?_⟩ | refine y _ _ ⟨by simp [Reg.fineT,Reg.intOp,Region.wanted,yielded,Reg.intFine,Reg.isInt,Act.eval],?_⟩
    try clear y
    refine Reg.aI 9 [14,15] [13] rfl fun Qf y=>?_
    simp only [gT,gS,gZ]
    go_wp2_with fail
    first | refine y _ _ ⟨Reg.same_below (Below.refl _ _) [13] rfl,?_⟩ | refine⟨Reg.same_below (Below.refl _ _) [13] rfl,?_⟩
    try clear y
    refine Reg.aI 14 [15] [] rfl fun Qf y=>?_
    simp only [gT,gS,gZ]
    go_wp2_with fail
    first | refine y _ _ ⟨Reg.nm,?_⟩ | refine⟨Reg.nm,?_⟩
    try clear y
    refine Reg.wI [15] [] rfl fun Qf y=>?_
    go_wp2_with fail
    first | refine y _ _ ⟨rfl,?_⟩ | refine⟨rfl,?_⟩ | refine y _ _ ⟨by simp [Reg.fineT,Reg.intOp,Region.wanted,yielded,Reg.intFine,Reg.isInt,Act.eval],?_⟩
    try clear y
    first | refine Reg.restI_end ?_ | skip
    go_wp2_with fail
    go_ret
    exact⟨congrArg (Value.int .i64) (J.out.trans (by rw [aO.out]; exact pv5 O.out H3.out H4.out rfl)).symm,ap.out.trans (a4.out.mono ap.out.size)⟩
   | true=>
    have W:=hide b8
    clear b8
    have cB:(L.take k).length=k:=by rw [List.length_take]; omega
    have dQ:=hide cB
    clear cB
    have cq:Hid (∀I,Hid (Below w6.heap.size w6 I)→Hid (Calls Tryz.prog 136 #[.slice (some ⟨b,aR,none⟩) k bS,.string s] I fun r w'=>r=.returned (.bool (decide (s∈L.take k)))∧I=w')):=hide (fun I hx=>by
     have z:=(cf.out.keep (w':=I) (B':=w6.heap.size) (fun _ V=>hx.out.cell V) (Nat.le_refl _)).takeS k
     have h2:=Ht (c:=bS) (x:=s) z
     rw [dQ.out] at h2
     exact h2)
    by_cases hm:s∈L.take k
    ·have bv:=hide hm
     have bu:=hide (show decide (s∈L.take k)=true from decide_eq_true hm)
     clear hm
     have aO:=hide (show e0=2 from c0.out.symm.trans (Fl b6 hE.out bK.out (.inr bv.out)))
     go_wp2_with fail
     refine Reg.cI [0,0,3,7,15,31,63,127,127,511,127,127,3199,7295,16383,32767] [0,1,2,3,4,5,6,7,8,10,11,12,13,9,14,15] ?_
     refine Reg.wI [0,1,2,3] [4,5,6,7,8,10,11,12,13,9,14,15] rfl fun Qf y=>?_
     go_wp2_with fail
     first | refine y _ _ ⟨rfl,?_⟩ | refine⟨rfl,?_⟩ | refine y _ _ ⟨by simp [Reg.fineT,Reg.intOp,Region.wanted,yielded,Reg.intFine,Reg.isInt,Act.eval],?_⟩
     try clear y
     refine Reg.aI 4 [5,6,7,8,10,11,12,13,9,14,15] [] rfl fun Qf y=>?_
     simp only [gT,gS,gZ]
     go_wp2_with (go_at_call 96; refine Calls.ret (Cm s _ (by omega)) ?_; rintro v w8 ⟨rfl,a9⟩; rw [W.out]; have a4:=hide (a8.out.trans (((Ap wr).trans a9).mono a8.out.size)); have d8:=(a4.out.cell (p:=⟨b,aR+k,none⟩) b1).trans d0)
     first | refine y _ _ ⟨Reg.nm,?_⟩ | refine⟨Reg.nm,?_⟩
     try clear y
     clear a9
     refine Reg.wI [5,6,7,8,10,11,12,13] [9,14,15] rfl fun Qf y=>?_
     go_wp2_with fail
     first | refine y _ _ ⟨rfl,?_⟩ | refine⟨rfl,?_⟩ | refine y _ _ ⟨by simp [Reg.fineT,Reg.intOp,Region.wanted,yielded,Reg.intFine,Reg.isInt,Act.eval],?_⟩
     try clear y
     refine Reg.aI 9 [14,15] [13] rfl fun Qf y=>?_
     simp only [gT,gS,gZ]
     go_wp2_with fail
     first | refine y _ _ ⟨Reg.same_below (Below.refl _ _) [13] rfl,?_⟩ | refine⟨Reg.same_below (Below.refl _ _) [13] rfl,?_⟩
     try clear y
     refine Reg.aI 14 [15] [] rfl fun Qf y=>?_
     simp only [gT,gS,gZ]
     go_wp2_with (go_at_call 136; refine(cq.out _ a4).out.mono ?_; rintro r w' ⟨rfl,rfl⟩; rw [bu.out])
     first | refine y _ _ ⟨Reg.nm,?_⟩ | refine⟨Reg.nm,?_⟩
     try clear y
     refine Reg.wI [15] [] rfl fun Qf y=>?_
     go_wp2_with fail
     first | refine y _ _ ⟨rfl,?_⟩ | refine⟨rfl,?_⟩ | refine y _ _ ⟨by simp [Reg.fineT,Reg.intOp,Region.wanted,yielded,Reg.intFine,Reg.isInt,Act.eval],?_⟩
     try clear y
     first | refine Reg.restI_end ?_ | skip
     go_wp2_with fail
     go_ret
     exact⟨congrArg (Value.int .i64) (J.out.trans (by rw [aO.out]; exact pv5 O.out H3.out H4.out rfl)).symm,ap.out.trans (a4.out.mono ap.out.size)⟩
    ·have bv:=hide hm
     have bu:=hide (show decide (s∈L.take k)=false from decide_eq_false hm)
     clear hm
     have bF:=hide (HN b6 hE.out bK.out W.out bv.out)
     go_wp2_with fail
     refine Reg.cI [0,0,3,7,15,31,63,127,127,511,127,127,3199,7295,16383,32767] [0,1,2,3,4,5,6,7,8,10,11,12,13,9,14,15] ?_
     refine Reg.wI [0,1,2,3] [4,5,6,7,8,10,11,12,13,9,14,15] rfl fun Qf y=>?_
     go_wp2_with fail
     first | refine y _ _ ⟨rfl,?_⟩ | refine⟨rfl,?_⟩ | refine y _ _ ⟨by simp [Reg.fineT,Reg.intOp,Region.wanted,yielded,Reg.intFine,Reg.isInt,Act.eval],?_⟩
     try clear y
     refine Reg.aI 4 [5,6,7,8,10,11,12,13,9,14,15] [] rfl fun Qf y=>?_
     simp only [gT,gS,gZ]
     go_wp2_with (go_at_call 96; refine Calls.ret (Cm s _ (by omega)) ?_; rintro v w8 ⟨rfl,a9⟩; rw [W.out]; have a4:=hide (a8.out.trans (((Ap wr).trans a9).mono a8.out.size)); have d8:=(a4.out.cell (p:=⟨b,aR+k,none⟩) b1).trans d0)
     first | refine y _ _ ⟨Reg.nm,?_⟩ | refine⟨Reg.nm,?_⟩
     try clear y
     clear a9
     refine Reg.wI [5,6,7,8,10,11,12,13] [9,14,15] rfl fun Qf y=>?_
     go_wp2_with fail
     first | refine y _ _ ⟨rfl,?_⟩ | refine⟨rfl,?_⟩ | refine y _ _ ⟨by simp [Reg.fineT,Reg.intOp,Region.wanted,yielded,Reg.intFine,Reg.isInt,Act.eval],?_⟩
     try clear y
     refine Reg.aI 9 [14,15] [13] rfl fun Qf y=>?_
     simp only [gT,gS,gZ]
     go_wp2_with fail
     first | refine y _ _ ⟨Reg.same_below (Below.refl _ _) [13] rfl,?_⟩ | refine⟨Reg.same_below (Below.refl _ _) [13] rfl,?_⟩
     try clear y
     refine Reg.aI 14 [15] [] rfl fun Qf y=>?_
     simp only [gT,gS,gZ]
     go_wp2_with (go_at_call 136; refine(cq.out _ a4).out.mono ?_; rintro r w' ⟨rfl,rfl⟩; rw [bu.out])
     first | refine y _ _ ⟨Reg.nm,?_⟩ | refine⟨Reg.nm,?_⟩
     try clear y
     refine Reg.wI [15] [] rfl fun Qf y=>?_
     go_wp2_with fail
     first | refine y _ _ ⟨rfl,?_⟩ | refine⟨rfl,?_⟩ | refine y _ _ ⟨by simp [Reg.fineT,Reg.intOp,Region.wanted,yielded,Reg.intFine,Reg.isInt,Act.eval],?_⟩
     try clear y
     first | refine Reg.restI_end ?_ | skip
     go_wp2_with fail
     exact⟨⟨k+1,by go_num,by omega,bF.out,a4.out⟩,by simp [intOf]; omega⟩
  ·have aP:=hide (show e0=0 from by
    have z:=hE.out
    rw [show k=L.length by omega] at z
    exact cx.out.trans z)
   have ck:=hide (cj.out.at a8.out)
   have ev:=ck.out.b.cell
   have aq:=hide (ap.out.trans (a8.out.mono ap.out.size))
   clear hE
   obtain⟨cJ,dU⟩:∃x,x=wr:=⟨_,rfl⟩
   subst dU
   by_cases d9:(0:Int)<(nm:Int)
   case pos=>
    go_wp2_with fail
    go_ret
    exact⟨congrArg (Value.int .i64) (J.out.trans (pv6 O.out H3.out H4.out (by rw [aP.out]; rfl) (by have:=af.out; omega))).symm,aq.out⟩
   by_cases db:(0:Int)<(nv:Int)
   case pos=>
    go_wp2_with fail
    go_ret
    exact⟨congrArg (Value.int .i64) (J.out.trans (pv6 O.out H3.out H4.out (by rw [aP.out]; rfl) (by have:=af.out; omega))).symm,aq.out⟩
   by_cases da:(0:Int)<(nr:Int)
   case pos=>
    go_wp2_with fail
    go_ret
    exact⟨congrArg (Value.int .i64) (J.out.trans (pv6 O.out H3.out H4.out (by rw [aP.out]; rfl) (by have:=af.out; omega))).symm,aq.out⟩
   by_cases am:kf=0
   case neg=>
    have QC:(kf != 0)=true:=by simp [am]
    have HC:=hide am
    clear am
    go_wp2_with fail
    go_ret
    exact⟨congrArg (Value.int .i64) (J.out.trans (pv6 O.out H3.out H4.out (by rw [aP.out]; rfl) (by have:=af.out; have:=HC.out; omega))).symm,aq.out⟩
   have QC:(kf != 0)=false:=by simp [am]
   have hR:=hide (J.out.trans (pv7 O.out H3.out H4.out (by rw [aP.out]; rfl) (by have:=af.out; omega)))
   have dF:=hide (show nr=0 by omega)
   have ed:=hide am
   clear am
   go_wp2_with fail
   clear d9 db da QC
   go_loopw [5] (fun ii wr=>∃(k:Nat),ii=.int .i64 (k:Int)∧k≤0∧Hid (Below cJ.heap.size cJ wr)∧Hid ((p.res.take k).all Bg=true)) (fun ii _=>0 - (intOf ii).toNat)
   case atStart=>exact⟨0,rfl,Nat.zero_le _,Below.refl _ _,by show _=_; simp⟩
   case round=>
    obtain⟨k2,rfl,ez,co,c8⟩:=hrel
    have bm:=hide (ck.out.at co.out)
    have ew:=bm.out.b.cell
    have a7:=hide (aq.out.trans (co.out.mono aq.out.size))
    by_cases eF:k2<0
    ·exfalso
     omega
    ·have cA:=hide (show p.res.all Bg=true from by
      have z:=U.out.1
      have h2:=c8.out
      have h3:=dF.out
      rwa [List.take_of_length_le (by omega)] at h2)
     have ca:=hide (show protE nameOK p=orE (setE p.initial (ns:Int)) (orE (Ad (decide (ni=0)) 1) (orE (setE p.leader (ns:Int)) (Cc p))) from by
      rw [hR.out]
      obtain⟨-,-,-,-,e5,e6,-⟩:=U.out
      unfold DJ Cc
      rw [cA.out,Bv,e5,e6]
      rfl)
     clear cA c8
     go_wp2_with fail
     obtain⟨ei,aL⟩:∃e,Hid (setE p.initial (ns:Int)=e):=⟨_,rfl⟩
     by_cases ak:ei=0
     case neg=>
      have Qi:(ei != 0)=true:=by simp [ak]
      have Hi:=hide ak
      clear ak
      refine Calls.ret (br _ a7.out) ?_; rintro v w9 ⟨rfl,C⟩; rw [aL.out]; have M:=hide (a7.out.trans (C.mono a7.out.size)); clear C; go_wp2_with fail
      go_ret
      exact⟨congrArg (Value.int .i64) (ca.out.trans (by rw [aL.out]; exact BF Hi.out)).symm,M.out⟩
     have Qi:(ei != 0)=false:=by simp [ak]
     have Hi:=hide ak
     clear ak
     have cb:=hide (show protE nameOK p=orE (Ad (decide (ni=0)) 1) (orE (setE p.leader (ns:Int)) (Cc p)) from ca.out.trans (by rw [aL.out,Hi.out]; rfl))
     by_cases ax:ni=0
     case pos=>
      have Qn:((ni:Int)==0)=true:=by simp [ax]
      have Hn:=hide ax
      clear ax
      refine Calls.ret (br _ a7.out) ?_; rintro v w9 ⟨rfl,C⟩; rw [aL.out]; have ag:=hide (bm.out.at C); have dp:=ag.out.b.cell; have dv:=Ah ag.out.b az.out; have M:=hide (a7.out.trans (C.mono a7.out.size)); clear C; go_wp2_with fail
      go_ret
      exact⟨congrArg (Value.int .i64) (cb.out.trans (by rw [decide_eq_true Hn.out]; rfl)).symm,M.out⟩
     have Qn:((ni:Int)==0)=false:=by simp [ax]
     have Hn:=hide ax
     clear ax
     have cc:=hide (show protE nameOK p=orE (setE p.leader (ns:Int)) (Cc p) from cb.out.trans (by rw [decide_eq_false Hn.out]; rfl))
     refine Calls.ret (br _ a7.out) ?_; rintro v w9 ⟨rfl,C⟩; rw [aL.out]; have ag:=hide (bm.out.at C); have dp:=ag.out.b.cell; have dv:=Ah ag.out.b az.out; have M:=hide (a7.out.trans (C.mono a7.out.size)); clear C; go_wp2_with fail
     obtain⟨el,b4⟩:∃e,Hid (setE p.leader (ns:Int)=e):=⟨_,rfl⟩
     by_cases al:el=0
     case neg=>
      have Ql:(el != 0)=true:=by simp [al]
      have Hl:=hide al
      clear al
      refine Calls.ret (cw _ M.out) ?_; rintro v wa ⟨rfl,ah⟩; rw [b4.out]; have ao:=hide (ag.out.at ah); have dq:=ao.out.b.cell; have dw:=Ah ao.out.b az.out; have ar:=hide (M.out.trans (ah.mono M.out.size)); clear ah; go_wp2_with fail
      go_ret
      exact⟨congrArg (Value.int .i64) (cc.out.trans (by rw [b4.out]; exact BF Hl.out)).symm,ar.out⟩
     have Ql:(el != 0)=false:=by simp [al]
     have Hl:=hide al
     clear al
     have cd:=hide (show protE nameOK p=Cc p from cc.out.trans (by rw [b4.out,Hl.out]; rfl))
     refine Calls.ret (cw _ M.out) ?_; rintro v wa ⟨rfl,ah⟩; rw [b4.out]; have ao:=hide (ag.out.at ah); have dq:=ao.out.b.cell; have dw:=Ah ao.out.b az.out; have ar:=hide (M.out.trans (ah.mono M.out.size)); clear ah; go_wp2_with fail
     clear Qi Qn Ql
     go_loopw [8] (fun ii wr=>∃(k:Nat),ii=.int .i64 (k:Int)∧k≤nu∧Hid (Below wa.heap.size wa wr)∧Hid (Aj (BB nameOK p) (List.range k)=0)) (fun ii _=>nu - (intOf ii).toNat)
     case atStart=>exact⟨0,rfl,Nat.zero_le _,Below.refl _ _,by show _=_; rfl⟩
     case round=>
      obtain⟨k4,rfl,eA,av,aX⟩:=hrel
      have aF:=hide (ao.out.at av.out)
      have ex:=aF.out.b.cell
      have eD:=Ah aF.out.b az.out
      have b0:=hide (ar.out.trans (av.out.mono ar.out.size))
      by_cases eG:k4<nu
      ·obtain⟨e9,b3⟩:∃e,Hid (BB nameOK p k4=e):=⟨_,rfl⟩
       have bp:=hide (KF (cs:=pc.toList) (i:=k4) aF.out.pr (by have:=U.out.2.2.2.2.2.2; omega) G.out aF.out.tab)
       rw [b3.out] at bp
       have cE:=hide (show(List.range p.rules.length)[k4]?=some k4 from by rw [List.getElem?_range (by have:=U.out.2.2.2.2.2.2; omega)])
       have cD:=hide (show(List.range p.rules.length).take k4=List.range k4 from by rw [List.take_range,Nat.min_eq_left (by have:=U.out.2.2.2.2.2.2; omega)])
       go_wp2_with fail
       by_cases h0:e9=0
       ·have hq:(e9 != 0)=false:=by simp [h0]
        have bF:=hide (show Aj (BB nameOK p) (List.range (k4+1))=0 from by
         have z:=CD (BB nameOK p) cE.out (by rw [cD.out]; exact aX.out)
         rw [List.take_range,Nat.min_eq_left (by have:=U.out.2.2.2.2.2.2; omega)] at z
         rw [z,b3.out,h0])
        clear h0
        refine Calls.ret bp.out ?_; rintro v w9 ⟨rfl,C⟩; have bo:=hide (av.out.trans (C.mono av.out.size)); clear C; go_wp2_with fail
        exact⟨⟨k4+1,by go_num,by omega,bo.out,bF.out⟩,by simp [intOf]; omega⟩
       ·have hq:(e9 != 0)=true:=by simp [h0]
        have aO:=hide (show protE nameOK p=e9 from by
         have z:=Ct (BB nameOK p) cE.out (by rw [cD.out]; exact aX.out) (by rw [b3.out]; exact h0)
         rw [cd.out]
         unfold Cc
         rw [z,b3.out,BF h0])
        clear h0
        refine Calls.ret bp.out ?_; rintro v w9 ⟨rfl,C⟩; have bo:=hide (av.out.trans (C.mono av.out.size)); clear C; go_wp2_with fail
        go_ret
        exact⟨congrArg (Value.int .i64) aO.out.symm,ar.out.trans (bo.out.mono ar.out.size)⟩
      ·obtain⟨nt,bC⟩:∃n,n=(BO p.rules).length:=⟨_,rfl⟩
       have ce:=hide (show protE nameOK p=Ad (decide (3<nt)) 4 from by
        have z:=aX.out
        rw [show k4=p.rules.length by have:=U.out.2.2.2.2.2.2; omega] at z
        rw [cd.out,bC]
        unfold Cc
        rw [z,AY])
       have bL:=hide (Jo (cs:=pc.toList) aF.out.pr G.out)
       rw [←bC] at bL
       have eI:nt≤1800:=by
        have z:=FB p.rules (fun r hr=>(G.out.rule r hr).1.2.1)
        have h2:=G.out.rules
        omega
       clear bC aX
       go_wp2_with fail
       by_cases bV:3<nt
       ·have G3:(3:Int)<(nt:Int):=by omega
        refine Calls.ret bL.out ?_; rintro v w9 ⟨aM,C⟩; obtain⟨Av,cv,hv⟩:=AH aM; subst hv; have M:=hide (b0.out.trans (C.mono b0.out.size)); clear aM C; go_wp2_with fail
        go_ret
        exact⟨congrArg (Value.int .i64) (ce.out.trans (by rw [decide_eq_true bV]; rfl)).symm,M.out⟩
       ·have G3:¬(3:Int)<(nt:Int):=by omega
        refine Calls.ret bL.out ?_; rintro v w9 ⟨aM,C⟩; obtain⟨Av,cv,hv⟩:=AH aM; subst hv; have M:=hide (b0.out.trans (C.mono b0.out.size)); clear aM C; go_wp2_with fail
        go_ret
        exact⟨congrArg (Value.int .i64) (ce.out.trans (by rw [decide_eq_false bV]; rfl)).symm,M.out⟩
end Go.Proofs.YtfcfpoemojjglaaGreatDoor.K
