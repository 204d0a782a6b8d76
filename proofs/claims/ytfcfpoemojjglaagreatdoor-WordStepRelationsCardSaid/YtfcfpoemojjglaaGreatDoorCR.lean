/-
  Part CR of a proof.
-/
import Derived.Test.YtfcfpoemojjglaaGreatDoorPA
import Derived.Test.YtfcfpoemojjglaaGreatDoorCN
import Derived.Test.YtfcfpoemojjglaaGreatDoorCJ
import Derived.Test.YtfcfpoemojjglaaGreatDoorCI
set_option maxHeartbeats 16000000
set_option maxRecDepth 100000
set_option linter.unusedVariables false
set_option linter.unusedSimpArgs false
namespace Go.Proofs.YtfcfpoemojjglaaGreatDoor.K
open Go.RowKit
attribute [-go_sem] loadCellsFrom storeCells
theorem RU {w:World} {cs:List Value} {p:Am} (h:At w w.heap.size cs p) (a3:p.Small) (hT:A0 w) (bn:p.topo≠1):
  Calls Tryz.prog 95 #[.agg cs.toArray] w (Ret fun v w'=>v=.int .i64 (AC Ab p)∧Below w.heap.size w w'):=by
 obtain⟨A1,c1,A2,c2,A3,c3,A4,c4,A5,c5,A6,c6,A7,c7,cw,eG,dC,dD,bF,aL,dE,dF,dG,dH,dI,h1,Z,h3,h4,h5,h6,h7,dm⟩:=h.cells
 have dt:=a3.states
 have du:=a3.messages
 have dv:=a3.values
 have dw:=a3.res
 have dx:=a3.initial
 have dy:=a3.leader
 have dz:=a3.rules
 have eE:=a3.name
 have E:=hide a3
 have da:=hide h1
 have db:=hide Z
 have dc:=hide h3
 have eh:=hide h7
 have ej:=hide h4
 have de:=hide h5
 have df:=hide h6
 obtain⟨w1,eK,aE,aT,dn⟩:=Ae w cs.toArray 27
 have ce:=hide (show C0 w1 w.heap.size cs.toArray p from⟨h.keep (fun _ O=>aE.cell O) aE.size,aT,hT.below aE⟩)
 have dj:=hide aE
 generalize dJ:cs.toArray=pc at*
 clear h1 Z h3 h4 h5 h6 h7 h a3 aE aT dn dJ hT
 obtain⟨nr,bw⟩:∃n,n=p.res.length:=⟨_,rfl⟩
 obtain⟨nm,bv⟩:∃n,n=p.messages.length:=⟨_,rfl⟩
 obtain⟨nv,bB⟩:∃n,n=p.values.length:=⟨_,rfl⟩
 obtain⟨nl,bu⟩:∃n,n=p.leader.length:=⟨_,rfl⟩
 obtain⟨ni,bt⟩:∃n,n=p.initial.length:=⟨_,rfl⟩
 obtain⟨ns,bx⟩:∃n,n=p.states.length:=⟨_,rfl⟩
 obtain⟨nu,bA⟩:∃n,n=p.rules.length:=⟨_,rfl⟩
 have M:=hide (show nr=p.res.length∧nm=p.messages.length∧nv=p.values.length∧nl=p.leader.length∧ni=p.initial.length∧ns=p.states.length∧nu=p.rules.length from⟨bw,bv,bB,bu,bt,bx,bA⟩)
 simp only [←bw,←bv,←bB,←bu,←bt,←bx,←bA] at dD bF aL dF dG dH dI dt du dv dw dx dy dz dm
 clear bw bv bB bu bt bx bA
 obtain⟨kt,bq⟩:∃n,n=p.topo:=⟨_,rfl⟩
 obtain⟨kf,bp⟩:∃n,n=p.fault:=⟨_,rfl⟩
 have bZ:=hide (show kt=p.topo∧kf=p.fault from⟨bq,bp⟩)
 simp only [←bq,←bp] at dC dE
 clear bq bp
 have aw:=hide cw
 clear cw
 have ek:=ce.out.b.cell
 have ab:Hid (kt≠1):=by rw [←bZ.out.1] at bn; exact bn
 have eH:(kt==1)=false:=by simp [ab.out]
 have eI:(kt != 1)=true:=by simp [ab.out]
 clear bn
 have aX:=dj
 obtain⟨e0,b0⟩:∃e,Hid (CU Ab (Bd p)=e):=⟨_,rfl⟩
 cases b5:Ab p.name
 case false=>
  have U:=hide b5
  clear b5
  go_enter Tryz.func95,Tryz.ntmps95
  go_wp2_with fail
  refine Calls.ret (Cm p.name _ (by omega)) ?_; rintro v w2 ⟨rfl,ap⟩; rw [U.out]; have C:=hide (aX.out.trans (ap.mono aX.out.size)); clear ap; go_wp2_with fail
  go_ret
  exact⟨by unfold AC; rw [U.out]; rfl,C.out⟩
 have U:=hide b5
 clear b5
 have G:=hide (show AC Ab p=CH kt kf ns nm nv nr nu nl e0 (DJ p) from by
  obtain⟨e1,e2,e3,e4,e5,e6,e7⟩:=M.out
  obtain⟨f1,f2⟩:=bZ.out
  rw [e1,e2,e3,e4,e6,e7,f1,f2,←b0.out]
  exact GI p U.out)
 have bo:∀F,Below w.heap.size w F→Calls Tryz.prog 97 #[.slice A5 ni c5,.int .i64 (ns:Int)] F (Ret fun r w'=>r=.int .i64 (Aa p.initial (ns:Int))∧Below F.heap.size F w'):=fun F hx=>by
  rw [M.out.2.2.2.2.1]
  exact B0 (by omega) (de.out.keep (fun _ O=>hx.cell O) hx.size)
 have cr:∀F,Below w.heap.size w F→Calls Tryz.prog 97 #[.slice A6 nl c6,.int .i64 (ns:Int)] F (Ret fun r w'=>r=.int .i64 (Aa p.leader (ns:Int))∧Below F.heap.size F w'):=fun F hx=>by
  rw [M.out.2.2.2.1]
  exact B0 (by omega) (df.out.keep (fun _ O=>hx.cell O) hx.size)
 go_enter Tryz.func95,Tryz.ntmps95
 go_wp2_with fail
 refine Calls.ret (Cm p.name _ (by omega)) ?_; rintro v w2 ⟨rfl,ap⟩; rw [U.out]; have ak:=hide (ce.out.at ap); have em:=ak.out.b.cell; have ey:=Ah ak.out.b aw.out; have C:=hide (aX.out.trans (ap.mono aX.out.size)); clear ap; go_wp2_with fail
 cases b7:inC kt 1 4
 case false=>
  have ay:=hide b7
  clear b7
  refine(Ao _ _ _ _).mono ?_; rintro e w' ⟨rfl,rfl⟩; rw [ay.out]; go_wp2_with fail
  go_ret
  exact⟨congrArg (Value.int .i64) (G.out.trans (pv2 (by have h1:=ay.out; simp [inC] at h1; omega))).symm,C.out⟩
 have ay:=hide b7
 clear b7
 refine(Ao _ _ _ _).mono ?_; rintro e w' ⟨rfl,rfl⟩; rw [ay.out]; go_wp2_with fail
 cases b3:inC kf 0 3
 case false=>
  have V:=hide b3
  clear b3
  refine(Ao _ _ _ _).mono ?_; rintro e w' ⟨rfl,rfl⟩; rw [V.out]; go_wp2_with fail
  go_ret
  exact⟨congrArg (Value.int .i64) (G.out.trans (pv2 (by have h1:=V.out; simp [inC] at h1; omega))).symm,C.out⟩
 have V:=hide b3
 clear b3
 have J:=hide (show 1≤kt∧kt≤4∧0≤kf∧kf≤3 from by
  have h1:=ay.out
  have Z:=V.out
  simp [inC] at h1 Z
  omega)
 cases a8:((ns:Int)==0)
 case true=>
  refine(Ao _ _ _ _).mono ?_; rintro e w' ⟨rfl,rfl⟩; rw [V.out]; go_wp2_with fail
  go_ret
  exact⟨congrArg (Value.int .i64) (G.out.trans (pv3 J.out a8)).symm,C.out⟩
 by_cases cZ:6<(ns:Int)
 case pos=>
  refine(Ao _ _ _ _).mono ?_; rintro e w' ⟨rfl,rfl⟩; rw [V.out]; go_wp2_with fail
  go_ret
  exact⟨congrArg (Value.int .i64) (G.out.trans (pv4 J.out a8 (by omega))).symm,C.out⟩
 by_cases aT:3<(nm:Int)
 case pos=>
  refine(Ao _ _ _ _).mono ?_; rintro e w' ⟨rfl,rfl⟩; rw [V.out]; go_wp2_with fail
  go_ret
  exact⟨congrArg (Value.int .i64) (G.out.trans (pv4 J.out a8 (by omega))).symm,C.out⟩
 by_cases d2:3<(nv:Int)
 case pos=>
  refine(Ao _ _ _ _).mono ?_; rintro e w' ⟨rfl,rfl⟩; rw [V.out]; go_wp2_with fail
  go_ret
  exact⟨congrArg (Value.int .i64) (G.out.trans (pv4 J.out a8 (by omega))).symm,C.out⟩
 by_cases aU:4<(nr:Int)
 case pos=>
  refine(Ao _ _ _ _).mono ?_; rintro e w' ⟨rfl,rfl⟩; rw [V.out]; go_wp2_with fail
  go_ret
  exact⟨congrArg (Value.int .i64) (G.out.trans (pv4 J.out a8 (by omega))).symm,C.out⟩
 by_cases d3:8<(nu:Int)
 case pos=>
  refine(Ao _ _ _ _).mono ?_; rintro e w' ⟨rfl,rfl⟩; rw [V.out]; go_wp2_with fail
  go_ret
  exact⟨congrArg (Value.int .i64) (G.out.trans (pv4 J.out a8 (by omega))).symm,C.out⟩
 refine(Ao _ _ _ _).mono ?_; rintro e w' ⟨rfl,rfl⟩; rw [V.out]; go_wp2_with fail
 have H3:=hide a8
 have H4:=hide (show(ns:Int)≤6∧(nm:Int)≤3∧(nv:Int)≤3∧(nr:Int)≤4∧(nu:Int)≤8 from by omega)
 clear a8 cZ aT d2 aU d3
 rename_i z1 zK za
 clear z1
 obtain⟨w3,eL,bk,aU,dp⟩:=Ae w2 #[] 9
 have aF:=hide (show Below w2.heap.size w2 w3.drew from bk.trans ((Ap w3).mono bk.size))
 have bf:=hide (show World.ownsRow w3.drew w2.heap.size 9 1 (.slice (some ⟨w2.heap.size,0,none⟩) 0 0) 0 [] from⟨by simp,.inr ⟨w2.heap.size,0,#[],rfl,Nat.le_refl _,aU,Nat.le_refl _,by unfold maxLen; omega,by simp,by simp⟩⟩)
 have bi:=hide (ak.out.at aF.out)
 have en:=bi.out.b.cell
 have dg:=hide (C.out.trans (aF.out.mono C.out.size))
 clear bk aU dp
 refine Reg.cI [0,0,2,7,0,16,63,0,128,511,1023] [1,2,4,5,7,8,0,3,6,9,10] ?_
 refine Reg.wI [1,2,4,5,7,8,0] [3,6,9,10] rfl fun Qf y=>?_
 go_wp2_with fail
 first | refine y _ _ ⟨rfl,?_⟩ | refine⟨rfl,?_⟩ | refine y _ _ ⟨by simp [Reg.fineT,Reg.intOp,Region.wanted,yielded,Reg.intFine,Reg.isInt,Act.eval],?_⟩
 try clear y
 refine Reg.aI 3 [6,9,10] [5,8] rfl fun Qf y=>?_
 simp only [gT,gS,gZ]
 go_wp2_with (at_builtin; refine Ei (w:=w3.drew) EW rfl _ _ rfl w2.heap.size _ _ _ rfl bf.out (l:=p.states) (da.out.keep (w':=w3.drew) (B':=w.heap.size) (fun _ O=>dg.out.cell O) (Nat.le_refl _)) (by rw [←M.out.2.2.2.2.2.1]; rfl) (fun d=>rfl) (by have:=E.out.states; have:=E.out.messages; have:=E.out.values; omega) aF.out.size ?_; intro v4 w4 bD co)
 have aG:=hide (aF.out.trans (co.below aF.out.size fun b' ci e=>by have:=(bf.out.lt b' e).1; omega))
 have bg:=hide bD
 have aW:=hide (ak.out.at aG.out)
 have eo:=aW.out.b.cell
 have dh:=hide (C.out.trans (aG.out.mono C.out.size))
 obtain⟨dX,ee,dN⟩:=AH bD
 subst dN
 clear co bD
 first | refine y _ _ ⟨?_,?_⟩ | refine⟨?_,?_⟩
 ·exact⟨Reg.same_load1 rfl rfl ((bi.out.b.cell 3).trans bF) ((aW.out.b.cell 3).trans bF) Tryz.underlying22 rfl,Reg.same_load1 rfl rfl ((bi.out.b.cell 4).trans aL) ((aW.out.b.cell 4).trans aL) Tryz.underlying22 rfl⟩
 try clear y
 refine Reg.aI 6 [9,10] [8] rfl fun Qf y=>?_
 simp only [gT,gS,gZ]
 go_wp2_with (at_builtin; refine Ei (w:=w4) EW rfl _ _ rfl w2.heap.size _ _ _ rfl bg.out (l:=p.messages) (db.out.keep (w':=w4) (B':=w.heap.size) (fun _ O=>dh.out.cell O) (Nat.le_refl _)) (by rw [←M.out.2.1]; rfl) (fun d=>rfl) (by have:=E.out.states; have:=E.out.messages; have:=E.out.values; omega) aG.out.size ?_; intro v5 w5 bE cp)
 have aH:=hide (aG.out.trans (cp.below aG.out.size fun b' ci e=>by have:=(bg.out.lt b' e).1; omega))
 have bh:=hide bE
 have cf:=hide (ak.out.at aH.out)
 have ep:=cf.out.b.cell
 have di:=hide (C.out.trans (aH.out.mono C.out.size))
 obtain⟨dY,ef,dO⟩:=AH bE
 subst dO
 clear cp bE
 first | refine y _ _ ⟨?_,?_⟩ | refine⟨?_,?_⟩
 ·exact Reg.same_load1 rfl rfl ((aW.out.b.cell 4).trans aL) ((cf.out.b.cell 4).trans aL) Tryz.underlying22 rfl
 try clear y
 refine Reg.aI 9 [10] [] rfl fun Qf y=>?_
 simp only [gT,gS,gZ]
 go_wp2_with (at_builtin; refine Ei (w:=w5) EW rfl _ _ rfl w2.heap.size _ _ _ rfl bh.out (l:=p.values) (dc.out.keep (w':=w5) (B':=w.heap.size) (fun _ O=>di.out.cell O) (Nat.le_refl _)) (by rw [←M.out.2.2.1]; rfl) (fun d=>rfl) (by have:=E.out.states; have:=E.out.messages; have:=E.out.values; omega) aH.out.size ?_; intro v6 w6 av cq)
 have cj:=hide (aH.out.trans (cq.below aH.out.size fun b' ci e=>by have:=(bh.out.lt b' e).1; omega))
 have d7:=hide av
 have cg:=hide (ak.out.at cj.out)
 have eq:=cg.out.b.cell
 have am:=hide (C.out.trans (cj.out.mono C.out.size))
 obtain⟨dZ,bP,dP⟩:=AH av
 subst dP
 clear cq
 first | refine y _ _ ⟨Reg.nm,?_⟩ | skip
 try clear y
 refine Reg.wI [10] [] rfl fun Qf y=>?_
 go_wp2_with fail
 first | refine y _ _ ⟨rfl,?_⟩ | refine⟨rfl,?_⟩ | refine y _ _ ⟨by simp [Reg.fineT,Reg.intOp,Region.wanted,yielded,Reg.intFine,Reg.isInt,Act.eval],?_⟩
 try clear y
 first | refine Reg.restI_end ?_ | skip
 have cu:0+p.states.length+p.messages.length+p.values.length=(Bd p).length:=by simp only [Bd,List.length_append]; omega
 have cB:[]++p.states.map (BE · 0)++p.messages.map (BE · 0)++p.values.map (BE · 0)=DV (Bd p):=by simp [DV,Bd]
 rw [cu,cB] at av
 rw [show p.states.length+p.messages.length+p.values.length=(Bd p).length by simp only [Bd,List.length_append]]
 have eA:(Bd p).length≤180:=by
  have:=E.out.states
  have:=E.out.messages
  have:=E.out.values
  omega
 have cc:=hide (HS av (by omega)).2
 have ev:=HP av
 have dA:=hide E.out.names
 have ct:=hide (show CU Ab (Bd p)=Aj (nmE (Bd p)) (List.range (Bd p).length) from rfl)
 rw [b0.out] at ct
 have bX:=hide (show CU Ab (Bd p)=e0 from b0.out)
 clear av cu cB bf bg bh d7 b0
 generalize Bd p=L at*
 go_wp2_with fail
 go_loopw [4] (fun W wr=>∃(k:Nat),W=.int .i64 (k:Int)∧k≤L.length∧Hid (Aj (nmE L) (List.range k)=0)∧Hid (Below w6.heap.size w6 wr)) (fun W _=>L.length - (intOf W).toNat)
 case atStart=>exact⟨0,rfl,Nat.zero_le _,by show _=_; rfl,Below.refl _ _⟩
 case round=>
  obtain⟨k,rfl,hk,hE,a6⟩:=hrel
  by_cases b4:k<L.length
  ·obtain⟨b,aP,s,hA,aZ,bG,hc⟩:=cc.out.at b4
   have d0:=hc 0 (by omega)
   simp only [Nat.add_zero,Nat.mul_one,BE] at d0
   have d1:=(a6.out.cell (p:=⟨b,aP+k,none⟩) aZ).trans d0
   have eJ:=dA.out s (List.mem_of_getElem? bG)
   have bH:=hide bG
   subst hA
   clear hc bG
   cases b6:Ab s with
   | false=>
    have U:=hide b6
    clear b6
    have aM:=hide (show e0=2 from bX.out.symm.trans (Fl b4 hE.out bH.out (.inl U.out)))
    go_wp2_with fail
    refine Reg.cI [0,0,3,7,15,31,63,127,127,511,127,127,3199,7295,16383,32767] [0,1,2,3,4,5,6,7,8,10,11,12,13,9,14,15] ?_
    refine Reg.wI [0,1,2,3] [4,5,6,7,8,10,11,12,13,9,14,15] rfl fun Qf y=>?_
    go_wp2_with fail
    first | refine y _ _ ⟨rfl,?_⟩ | refine⟨rfl,?_⟩ | refine y _ _ ⟨by simp [Reg.fineT,Reg.intOp,Region.wanted,yielded,Reg.intFine,Reg.isInt,Act.eval],?_⟩
    try clear y
    refine Reg.aI 4 [5,6,7,8,10,11,12,13,9,14,15] [] rfl fun Qf y=>?_
    simp only [gT,gS,gZ]
    go_wp2_with (go_at_call 96; refine Calls.ret (Cm s _ (by omega)) ?_; rintro v w8 ⟨rfl,a7⟩; rw [U.out]; have a2:=hide (a6.out.trans (((Ap wr).trans a7).mono a6.out.size)); have d8:=(a2.out.cell (p:=⟨b,aP+k,none⟩) aZ).trans d0)
    first | refine y _ _ ⟨Reg.nm,?_⟩ | refine⟨Reg.nm,?_⟩
    try clear y
    clear a7
    refine Reg.wI [5,6,7,8,10,11,12,13] [9,14,15] rfl fun Qf y=>?_
    go_wp2_with fail
    first | refine y _ _ ⟨rfl,?_⟩ | refine⟨rfl,?_⟩ | refine y _ _ ⟨by simp [Reg.fineT,Reg.intOp,Region.wanted,yielded,Reg.intFine,Reg.isInt,Act.eval],?_⟩
    try clear y
    refine Reg.aI 9 [14,15] [13] rfl fun Qf y=>?_
    simp only [gT,gS,gZ]
    go_wp2_with fail
    first | refine y _ _ ⟨Reg.same_below (Below.refl _ _) [13] rfl,?_⟩ | refine⟨Reg.same_below (Below.refl _ _) [13] rfl,?_⟩
    try clear y
    refine Reg.aI 14 [15] [] rfl fun Qf y=>?_
    simp only [gT,gS,gZ]
    go_wp2_with fail
    first | refine y _ _ ⟨Reg.nm,?_⟩ | refine⟨Reg.nm,?_⟩
    try clear y
    refine Reg.wI [15] [] rfl fun Qf y=>?_
    go_wp2_with fail
    first | refine y _ _ ⟨rfl,?_⟩ | refine⟨rfl,?_⟩ | refine y _ _ ⟨by simp [Reg.fineT,Reg.intOp,Region.wanted,yielded,Reg.intFine,Reg.isInt,Act.eval],?_⟩
    try clear y
    first | refine Reg.restI_end ?_ | skip
    go_wp2_with fail
    go_ret
    exact⟨congrArg (Value.int .i64) (G.out.trans (by rw [aM.out]; exact pv5 J.out H3.out H4.out rfl)).symm,am.out.trans (a2.out.mono am.out.size)⟩
   | true=>
    have U:=hide b6
    clear b6
    have cy:(L.take k).length=k:=by rw [List.length_take]; omega
    have dM:=hide cy
    clear cy
    have cn:Hid (∀F,Hid (Below w6.heap.size w6 F)→Hid (Calls Tryz.prog 136 #[.slice (some ⟨b,aP,none⟩) k bP,.string s] F fun r w'=>r=.returned (.bool (decide (s∈L.take k)))∧F=w')):=hide (fun F hx=>by
     have h1:=(cc.out.keep (w':=F) (B':=w6.heap.size) (fun _ O=>hx.out.cell O) (Nat.le_refl _)).takeS k
     have Z:=Ht (c:=bP) (x:=s) h1
     rw [dM.out] at Z
     exact Z)
    by_cases hm:s∈L.take k
    ·have bs:=hide hm
     have br:=hide (show decide (s∈L.take k)=true from decide_eq_true hm)
     clear hm
     have aM:=hide (show e0=2 from bX.out.symm.trans (Fl b4 hE.out bH.out (.inr bs.out)))
     go_wp2_with fail
     refine Reg.cI [0,0,3,7,15,31,63,127,127,511,127,127,3199,7295,16383,32767] [0,1,2,3,4,5,6,7,8,10,11,12,13,9,14,15] ?_
     refine Reg.wI [0,1,2,3] [4,5,6,7,8,10,11,12,13,9,14,15] rfl fun Qf y=>?_
     go_wp2_with fail
     first | refine y _ _ ⟨rfl,?_⟩ | refine⟨rfl,?_⟩ | refine y _ _ ⟨by simp [Reg.fineT,Reg.intOp,Region.wanted,yielded,Reg.intFine,Reg.isInt,Act.eval],?_⟩
     try clear y
     refine Reg.aI 4 [5,6,7,8,10,11,12,13,9,14,15] [] rfl fun Qf y=>?_
     simp only [gT,gS,gZ]
     go_wp2_with (go_at_call 96; refine Calls.ret (Cm s _ (by omega)) ?_; rintro v w8 ⟨rfl,a7⟩; rw [U.out]; have a2:=hide (a6.out.trans (((Ap wr).trans a7).mono a6.out.size)); have d8:=(a2.out.cell (p:=⟨b,aP+k,none⟩) aZ).trans d0)
     first | refine y _ _ ⟨Reg.nm,?_⟩ | refine⟨Reg.nm,?_⟩
     try clear y
     clear a7
     refine Reg.wI [5,6,7,8,10,11,12,13] [9,14,15] rfl fun Qf y=>?_
     go_wp2_with fail
     first | refine y _ _ ⟨rfl,?_⟩ | refine⟨rfl,?_⟩ | refine y _ _ ⟨by simp [Reg.fineT,Reg.intOp,Region.wanted,yielded,Reg.intFine,Reg.isInt,Act.eval],?_⟩
     try clear y
     refine Reg.aI 9 [14,15] [13] rfl fun Qf y=>?_
     simp only [gT,gS,gZ]
     go_wp2_with fail
     first | refine y _ _ ⟨Reg.same_below (Below.refl _ _) [13] rfl,?_⟩ | refine⟨Reg.same_below (Below.refl _ _) [13] rfl,?_⟩
     try clear y
     refine Reg.aI 14 [15] [] rfl fun Qf y=>?_
     simp only [gT,gS,gZ]
     go_wp2_with (go_at_call 136; refine(cn.out _ a2).out.mono ?_; rintro r w' ⟨rfl,rfl⟩; rw [br.out])
     first | refine y _ _ ⟨Reg.nm,?_⟩ | refine⟨Reg.nm,?_⟩
     try clear y
     refine Reg.wI [15] [] rfl fun Qf y=>?_
     go_wp2_with fail
     first | refine y _ _ ⟨rfl,?_⟩ | refine⟨rfl,?_⟩ | refine y _ _ ⟨by simp [Reg.fineT,Reg.intOp,Region.wanted,yielded,Reg.intFine,Reg.isInt,Act.eval],?_⟩
     try clear y
     first | refine Reg.restI_end ?_ | skip
     go_wp2_with fail
     go_ret
     exact⟨congrArg (Value.int .i64) (G.out.trans (by rw [aM.out]; exact pv5 J.out H3.out H4.out rfl)).symm,am.out.trans (a2.out.mono am.out.size)⟩
    ·have bs:=hide hm
     have br:=hide (show decide (s∈L.take k)=false from decide_eq_false hm)
     clear hm
     have bC:=hide (HN b4 hE.out bH.out U.out bs.out)
     go_wp2_with fail
     refine Reg.cI [0,0,3,7,15,31,63,127,127,511,127,127,3199,7295,16383,32767] [0,1,2,3,4,5,6,7,8,10,11,12,13,9,14,15] ?_
     refine Reg.wI [0,1,2,3] [4,5,6,7,8,10,11,12,13,9,14,15] rfl fun Qf y=>?_
     go_wp2_with fail
     first | refine y _ _ ⟨rfl,?_⟩ | refine⟨rfl,?_⟩ | refine y _ _ ⟨by simp [Reg.fineT,Reg.intOp,Region.wanted,yielded,Reg.intFine,Reg.isInt,Act.eval],?_⟩
     try clear y
     refine Reg.aI 4 [5,6,7,8,10,11,12,13,9,14,15] [] rfl fun Qf y=>?_
     simp only [gT,gS,gZ]
     go_wp2_with (go_at_call 96; refine Calls.ret (Cm s _ (by omega)) ?_; rintro v w8 ⟨rfl,a7⟩; rw [U.out]; have a2:=hide (a6.out.trans (((Ap wr).trans a7).mono a6.out.size)); have d8:=(a2.out.cell (p:=⟨b,aP+k,none⟩) aZ).trans d0)
     first | refine y _ _ ⟨Reg.nm,?_⟩ | refine⟨Reg.nm,?_⟩
     try clear y
     clear a7
     refine Reg.wI [5,6,7,8,10,11,12,13] [9,14,15] rfl fun Qf y=>?_
     go_wp2_with fail
     first | refine y _ _ ⟨rfl,?_⟩ | refine⟨rfl,?_⟩ | refine y _ _ ⟨by simp [Reg.fineT,Reg.intOp,Region.wanted,yielded,Reg.intFine,Reg.isInt,Act.eval],?_⟩
     try clear y
     refine Reg.aI 9 [14,15] [13] rfl fun Qf y=>?_
     simp only [gT,gS,gZ]
     go_wp2_with fail
     first | refine y _ _ ⟨Reg.same_below (Below.refl _ _) [13] rfl,?_⟩ | refine⟨Reg.same_below (Below.refl _ _) [13] rfl,?_⟩
     try clear y
     refine Reg.aI 14 [15] [] rfl fun Qf y=>?_
     simp only [gT,gS,gZ]
     go_wp2_with (go_at_call 136; refine(cn.out _ a2).out.mono ?_; rintro r w' ⟨rfl,rfl⟩; rw [br.out])
     first | refine y _ _ ⟨Reg.nm,?_⟩ | refine⟨Reg.nm,?_⟩
     try clear y
     refine Reg.wI [15] [] rfl fun Qf y=>?_
     go_wp2_with fail
     first | refine y _ _ ⟨rfl,?_⟩ | refine⟨rfl,?_⟩ | refine y _ _ ⟨by simp [Reg.fineT,Reg.intOp,Region.wanted,yielded,Reg.intFine,Reg.isInt,Act.eval],?_⟩
     try clear y
     first | refine Reg.restI_end ?_ | skip
     go_wp2_with fail
     exact⟨⟨k+1,by go_num,by omega,bC.out,a2.out⟩,by simp [intOf]; omega⟩
  ·have aN:=hide (show e0=0 from by
    have h1:=hE.out
    rw [show k=L.length by omega] at h1
    exact ct.out.trans h1)
   have ch:=hide (cg.out.at a6.out)
   have er:=ch.out.b.cell
   have an:=hide (am.out.trans (a6.out.mono am.out.size))
   clear hE
   obtain⟨cF,dQ⟩:∃x,x=wr:=⟨_,rfl⟩
   subst dQ
   by_cases d4:(0:Int)<(nm:Int)
   case pos=>
    go_wp2_with fail
    go_ret
    exact⟨congrArg (Value.int .i64) (G.out.trans (pv6 J.out H3.out H4.out (by rw [aN.out]; rfl) (by have:=ab.out; omega))).symm,an.out⟩
   by_cases d6:(0:Int)<(nv:Int)
   case pos=>
    go_wp2_with fail
    go_ret
    exact⟨congrArg (Value.int .i64) (G.out.trans (pv6 J.out H3.out H4.out (by rw [aN.out]; rfl) (by have:=ab.out; omega))).symm,an.out⟩
   by_cases d5:(0:Int)<(nr:Int)
   case pos=>
    go_wp2_with fail
    go_ret
    exact⟨congrArg (Value.int .i64) (G.out.trans (pv6 J.out H3.out H4.out (by rw [aN.out]; rfl) (by have:=ab.out; omega))).symm,an.out⟩
   by_cases aj:kf=0
   case neg=>
    have QC:(kf != 0)=true:=by simp [aj]
    have HC:=hide aj
    clear aj
    go_wp2_with fail
    go_ret
    exact⟨congrArg (Value.int .i64) (G.out.trans (pv6 J.out H3.out H4.out (by rw [aN.out]; rfl) (by have:=ab.out; have:=HC.out; omega))).symm,an.out⟩
   have QC:(kf != 0)=false:=by simp [aj]
   have hR:=hide (G.out.trans (pv7 J.out H3.out H4.out (by rw [aN.out]; rfl) (by have:=ab.out; omega)))
   have dB:=hide (show nr=0 by omega)
   have e8:=hide aj
   clear aj
   go_wp2_with fail
   clear d4 d6 d5 QC
   go_loopw [5] (fun W wr=>∃(k:Nat),W=.int .i64 (k:Int)∧k≤0∧Hid (Below cF.heap.size cF wr)∧Hid ((p.res.take k).all Bg=true)) (fun W _=>0 - (intOf W).toNat)
   case atStart=>exact⟨0,rfl,Nat.zero_le _,Below.refl _ _,by show _=_; simp⟩
   case round=>
    obtain⟨k2,rfl,ew,ck,bY⟩:=hrel
    have bj:=hide (ch.out.at ck.out)
    have et:=bj.out.b.cell
    have a5:=hide (an.out.trans (ck.out.mono an.out.size))
    by_cases eB:k2<0
    ·exfalso
     omega
    ·have cx:=hide (show p.res.all Bg=true from by
      have h1:=M.out.1
      have Z:=bY.out
      have h3:=dB.out
      rwa [List.take_of_length_le (by omega)] at Z)
     have c0:=hide (show AC Ab p=orE (Aa p.initial (ns:Int)) (orE (Ad (decide (ni=0)) 1) (orE (Aa p.leader (ns:Int)) (Cc p))) from by
      rw [hR.out]
      obtain⟨-,-,-,-,e5,e6,-⟩:=M.out
      unfold DJ Cc
      rw [cx.out,Bv,e5,e6]
      rfl)
     clear cx bY
     go_wp2_with fail
     obtain⟨ei,aJ⟩:∃e,Hid (Aa p.initial (ns:Int)=e):=⟨_,rfl⟩
     by_cases ah:ei=0
     case neg=>
      have Qi:(ei != 0)=true:=by simp [ah]
      have Hi:=hide ah
      clear ah
      refine Calls.ret (bo _ a5.out) ?_; rintro v w9 ⟨rfl,z⟩; rw [aJ.out]; have I:=hide (a5.out.trans (z.mono a5.out.size)); clear z; go_wp2_with fail
      go_ret
      exact⟨congrArg (Value.int .i64) (c0.out.trans (by rw [aJ.out]; exact BF Hi.out)).symm,I.out⟩
     have Qi:(ei != 0)=false:=by simp [ah]
     have Hi:=hide ah
     clear ah
     have c8:=hide (show AC Ab p=orE (Ad (decide (ni=0)) 1) (orE (Aa p.leader (ns:Int)) (Cc p)) from c0.out.trans (by rw [aJ.out,Hi.out]; rfl))
     by_cases au:ni=0
     case pos=>
      have Qn:((ni:Int)==0)=true:=by simp [au]
      have Hn:=hide au
      clear au
      refine Calls.ret (bo _ a5.out) ?_; rintro v w9 ⟨rfl,z⟩; rw [aJ.out]; have ad:=hide (bj.out.at z); have dk:=ad.out.b.cell; have dq:=Ah ad.out.b aw.out; have I:=hide (a5.out.trans (z.mono a5.out.size)); clear z; go_wp2_with fail
      go_ret
      exact⟨congrArg (Value.int .i64) (c8.out.trans (by rw [decide_eq_true Hn.out]; rfl)).symm,I.out⟩
     have Qn:((ni:Int)==0)=false:=by simp [au]
     have Hn:=hide au
     clear au
     have c9:=hide (show AC Ab p=orE (Aa p.leader (ns:Int)) (Cc p) from c8.out.trans (by rw [decide_eq_false Hn.out]; rfl))
     refine Calls.ret (bo _ a5.out) ?_; rintro v w9 ⟨rfl,z⟩; rw [aJ.out]; have ad:=hide (bj.out.at z); have dk:=ad.out.b.cell; have dq:=Ah ad.out.b aw.out; have I:=hide (a5.out.trans (z.mono a5.out.size)); clear z; go_wp2_with fail
     obtain⟨el,b2⟩:∃e,Hid (Aa p.leader (ns:Int)=e):=⟨_,rfl⟩
     by_cases ai:el=0
     case neg=>
      have Ql:(el != 0)=true:=by simp [ai]
      have Hl:=hide ai
      clear ai
      refine Calls.ret (cr _ I.out) ?_; rintro v wa ⟨rfl,ae⟩; rw [b2.out]; have al:=hide (ad.out.at ae); have dl:=al.out.b.cell; have dr:=Ah al.out.b aw.out; have ao:=hide (I.out.trans (ae.mono I.out.size)); clear ae; go_wp2_with fail
      go_ret
      exact⟨congrArg (Value.int .i64) (c9.out.trans (by rw [b2.out]; exact BF Hl.out)).symm,ao.out⟩
     have Ql:(el != 0)=false:=by simp [ai]
     have Hl:=hide ai
     clear ai
     have ca:=hide (show AC Ab p=Cc p from c9.out.trans (by rw [b2.out,Hl.out]; rfl))
     refine Calls.ret (cr _ I.out) ?_; rintro v wa ⟨rfl,ae⟩; rw [b2.out]; have al:=hide (ad.out.at ae); have dl:=al.out.b.cell; have dr:=Ah al.out.b aw.out; have ao:=hide (I.out.trans (ae.mono I.out.size)); clear ae; go_wp2_with fail
     clear Qi Qn Ql
     go_loopw [8] (fun W wr=>∃(k:Nat),W=.int .i64 (k:Int)∧k≤nu∧Hid (Below wa.heap.size wa wr)∧Hid (Aj (BB Ab p) (List.range k)=0)) (fun W _=>nu - (intOf W).toNat)
     case atStart=>exact⟨0,rfl,Nat.zero_le _,Below.refl _ _,by show _=_; rfl⟩
     case round=>
      obtain⟨k4,rfl,ex,aq,aV⟩:=hrel
      have aD:=hide (al.out.at aq.out)
      have eu:=aD.out.b.cell
      have ez:=Ah aD.out.b aw.out
      have aY:=hide (ao.out.trans (aq.out.mono ao.out.size))
      by_cases eD:k4<nu
      ·obtain⟨e9,b1⟩:∃e,Hid (BB Ab p k4=e):=⟨_,rfl⟩
       have bm:=hide (KF (cs:=pc.toList) (i:=k4) aD.out.pr (by have:=M.out.2.2.2.2.2.2; omega) E.out aD.out.tab)
       rw [b1.out] at bm
       have cA:=hide (show(List.range p.rules.length)[k4]?=some k4 from by rw [List.getElem?_range (by have:=M.out.2.2.2.2.2.2; omega)])
       have cz:=hide (show(List.range p.rules.length).take k4=List.range k4 from by rw [List.take_range,Nat.min_eq_left (by have:=M.out.2.2.2.2.2.2; omega)])
       go_wp2_with fail
       by_cases h0:e9=0
       ·have hq:(e9 != 0)=false:=by simp [h0]
        have bC:=hide (show Aj (BB Ab p) (List.range (k4+1))=0 from by
         have h1:=CD (BB Ab p) cA.out (by rw [cz.out]; exact aV.out)
         rw [List.take_range,Nat.min_eq_left (by have:=M.out.2.2.2.2.2.2; omega)] at h1
         rw [h1,b1.out,h0])
        clear h0
        refine Calls.ret bm.out ?_; rintro v w9 ⟨rfl,z⟩; have bl:=hide (aq.out.trans (z.mono aq.out.size)); clear z; go_wp2_with fail
        exact⟨⟨k4+1,by go_num,by omega,bl.out,bC.out⟩,by simp [intOf]; omega⟩
       ·have hq:(e9 != 0)=true:=by simp [h0]
        have aM:=hide (show AC Ab p=e9 from by
         have h1:=Ct (BB Ab p) cA.out (by rw [cz.out]; exact aV.out) (by rw [b1.out]; exact h0)
         rw [ca.out]
         unfold Cc
         rw [h1,b1.out,BF h0])
        clear h0
        refine Calls.ret bm.out ?_; rintro v w9 ⟨rfl,z⟩; have bl:=hide (aq.out.trans (z.mono aq.out.size)); clear z; go_wp2_with fail
        go_ret
        exact⟨congrArg (Value.int .i64) aM.out.symm,ao.out.trans (bl.out.mono ao.out.size)⟩
      ·obtain⟨nt,bz⟩:∃n,n=(BO p.rules).length:=⟨_,rfl⟩
       have cb:=hide (show AC Ab p=Ad (decide (3<nt)) 4 from by
        have h1:=aV.out
        rw [show k4=p.rules.length by have:=M.out.2.2.2.2.2.2; omega] at h1
        rw [ca.out,bz]
        unfold Cc
        rw [h1,AY])
       have bI:=hide (Jo (cs:=pc.toList) aD.out.pr E.out)
       rw [←bz] at bI
       have eF:nt≤1800:=by
        have h1:=FB p.rules (fun r hr=>(E.out.rule r hr).1.2.1)
        have Z:=E.out.rules
        omega
       clear bz aV
       go_wp2_with fail
       by_cases bS:3<nt
       ·have G3:(3:Int)<(nt:Int):=by omega
        refine Calls.ret bI.out ?_; rintro v w9 ⟨aK,z⟩; obtain⟨Av,cv,hv⟩:=AH aK; subst hv; have I:=hide (aY.out.trans (z.mono aY.out.size)); clear aK z; go_wp2_with fail
        go_ret
        exact⟨congrArg (Value.int .i64) (cb.out.trans (by rw [decide_eq_true bS]; rfl)).symm,I.out⟩
       ·have G3:¬(3:Int)<(nt:Int):=by omega
        refine Calls.ret bI.out ?_; rintro v w9 ⟨aK,z⟩; obtain⟨Av,cv,hv⟩:=AH aK; subst hv; have I:=hide (aY.out.trans (z.mono aY.out.size)); clear aK z; go_wp2_with fail
        go_ret
        exact⟨congrArg (Value.int .i64) (cb.out.trans (by rw [decide_eq_false bS]; rfl)).symm,I.out⟩
end Go.Proofs.YtfcfpoemojjglaaGreatDoor.K
