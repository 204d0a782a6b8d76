/-
  Part CR of a proof.
-/
import Derived.Test.YtfcfpoemojjglaaGreatDoorPA
import Derived.Test.YtfcfpoemojjglaaGreatDoorCN
import Derived.Test.YtfcfpoemojjglaaGreatDoorCJ
import Derived.Test.YtfcfpoemojjglaaGreatDoorCI
set_option maxHeartbeats 16000000
set_option maxRecDepth 100000
set_option linter.unusedVariables false
set_option linter.unusedSimpArgs false
namespace Go.Proofs.YtfcfpoemojjglaaGreatDoor.K
open Go.RowKit
attribute [-go_sem] loadCellsFrom storeCells
theorem RU {w:World} {cs:List Value} {p:Am} (h:At w w.heap.size cs p) (a4:p.Small) (hT:SpOK w) (bp:p.topo≠1):
  Calls Tryz.prog 95 #[.agg cs.toArray] w (Ret fun v w'=>v=.int .i64 (protE nameOK p)∧Below w.heap.size w w'):=by
 obtain⟨A1,c1,A2,c2,A3,c3,A4,c4,A5,c5,A6,c6,A7,c7,cw,ex,dB,dC,bH,aM,dD,dE,dF,dG,dH,h1,h2,h3,h4,h5,h6,h7,dl⟩:=h.cells
 have dr:=a4.states
 have dt:=a4.messages
 have du:=a4.values
 have dv:=a4.res
 have dw:=a4.initial
 have dx:=a4.leader
 have dy:=a4.rules
 have ev:=a4.name
 have F:=hide a4
 have d9:=hide h1
 have da:=hide h2
 have db:=hide h3
 have e8:=hide h7
 have ea:=hide h4
 have dc:=hide h5
 have de:=hide h6
 obtain⟨w1,eB,aF,aS,dm⟩:=Ae w cs.toArray 27
 have cf:=hide (show C0 w1 w.heap.size cs.toArray p from⟨h.keep (fun _ U=>aF.cell U) aF.size,aS,hT.below aF⟩)
 have di:=hide aF
 generalize dI:cs.toArray=pc at*
 clear h1 h2 h3 h4 h5 h6 h7 h a4 aF aS dm dI hT
 obtain⟨nr,bz⟩:∃n,n=p.res.length:=⟨_,rfl⟩
 obtain⟨nm,bx⟩:∃n,n=p.messages.length:=⟨_,rfl⟩
 obtain⟨nv,bD⟩:∃n,n=p.values.length:=⟨_,rfl⟩
 obtain⟨nl,bw⟩:∃n,n=p.leader.length:=⟨_,rfl⟩
 obtain⟨ni,bv⟩:∃n,n=p.initial.length:=⟨_,rfl⟩
 obtain⟨ns,bA⟩:∃n,n=p.states.length:=⟨_,rfl⟩
 obtain⟨nu,bC⟩:∃n,n=p.rules.length:=⟨_,rfl⟩
 have O:=hide (show nr=p.res.length∧nm=p.messages.length∧nv=p.values.length∧nl=p.leader.length∧ni=p.initial.length∧ns=p.states.length∧nu=p.rules.length from⟨bz,bx,bD,bw,bv,bA,bC⟩)
 simp only [←bz,←bx,←bD,←bw,←bv,←bA,←bC] at dC bH aM dE dF dG dH dr dt du dv dw dx dy dl
 clear bz bx bD bw bv bA bC
 obtain⟨kt,bs⟩:∃n,n=p.topo:=⟨_,rfl⟩
 obtain⟨kf,br⟩:∃n,n=p.fault:=⟨_,rfl⟩
 have c0:=hide (show kt=p.topo∧kf=p.fault from⟨bs,br⟩)
 simp only [←bs,←br] at dB dD
 clear bs br
 have ax:=hide cw
 clear cw
 have eb:=cf.out.b.cell
 have ad:Hid (kt≠1):=by rw [←c0.out.1] at bp; exact bp
 have ey:(kt==1)=false:=by simp [ad.out]
 have ez:(kt != 1)=true:=by simp [ad.out]
 clear bp
 have aW:=di
 obtain⟨e0,aZ⟩:∃e,Hid (CU nameOK (Bd p)=e):=⟨_,rfl⟩
 cases b7:nameOK p.name
 case false=>
  have V:=hide b7
  clear b7
  go_enter Tryz.func95,Tryz.ntmps95
  go_wp2_with fail
  refine Calls.ret (Cm p.name _ (by omega)) ?_; rintro v w2 ⟨rfl,aq⟩; rw [V.out]; have E:=hide (aW.out.trans (aq.mono aW.out.size)); clear aq; go_wp2_with fail
  go_ret
  exact⟨by unfold protE; rw [V.out]; rfl,E.out⟩
 have V:=hide b7
 clear b7
 have I:=hide (show protE nameOK p=CH kt kf ns nm nv nr nu nl e0 (DJ p) from by
  obtain⟨e1,e2,e3,e4,e5,e6,e7⟩:=O.out
  obtain⟨f1,f2⟩:=c0.out
  rw [e1,e2,e3,e4,e6,e7,f1,f2,←aZ.out]
  exact GI p V.out)
 have bq:∀G,Below w.heap.size w G→Calls Tryz.prog 97 #[.slice A5 ni c5,.int .i64 (ns:Int)] G (Ret fun r w'=>r=.int .i64 (Aa p.initial (ns:Int))∧Below G.heap.size G w'):=fun G hx=>by
  rw [O.out.2.2.2.2.1]
  exact B0 (by omega) (dc.out.keep (fun _ U=>hx.cell U) hx.size)
 have cr:∀G,Below w.heap.size w G→Calls Tryz.prog 97 #[.slice A6 nl c6,.int .i64 (ns:Int)] G (Ret fun r w'=>r=.int .i64 (Aa p.leader (ns:Int))∧Below G.heap.size G w'):=fun G hx=>by
  rw [O.out.2.2.2.1]
  exact B0 (by omega) (de.out.keep (fun _ U=>hx.cell U) hx.size)
 go_enter Tryz.func95,Tryz.ntmps95
 go_wp2_with fail
 refine Calls.ret (Cm p.name _ (by omega)) ?_; rintro v w2 ⟨rfl,aq⟩; rw [V.out]; have al:=hide (cf.out.at aq); have ec:=al.out.b.cell; have ep:=Ah al.out.b ax.out; have E:=hide (aW.out.trans (aq.mono aW.out.size)); clear aq; go_wp2_with fail
 cases b9:inC kt 1 4
 case false=>
  have az:=hide b9
  clear b9
  refine(within2_any _ _ _ _).mono ?_; rintro e w' ⟨rfl,rfl⟩; rw [az.out]; go_wp2_with fail
  go_ret
  exact⟨congrArg (Value.int .i64) (I.out.trans (pv2 (by have h1:=az.out; simp [inC] at h1; omega))).symm,E.out⟩
 have az:=hide b9
 clear b9
 refine(within2_any _ _ _ _).mono ?_; rintro e w' ⟨rfl,rfl⟩; rw [az.out]; go_wp2_with fail
 cases b5:inC kf 0 3
 case false=>
  have W:=hide b5
  clear b5
  refine(within2_any _ _ _ _).mono ?_; rintro e w' ⟨rfl,rfl⟩; rw [W.out]; go_wp2_with fail
  go_ret
  exact⟨congrArg (Value.int .i64) (I.out.trans (pv2 (by have h1:=W.out; simp [inC] at h1; omega))).symm,E.out⟩
 have W:=hide b5
 clear b5
 have M:=hide (show 1≤kt∧kt≤4∧0≤kf∧kf≤3 from by
  have h1:=az.out
  have h2:=W.out
  simp [inC] at h1 h2
  omega)
 cases aa:((ns:Int)==0)
 case true=>
  refine(within2_any _ _ _ _).mono ?_; rintro e w' ⟨rfl,rfl⟩; rw [W.out]; go_wp2_with fail
  go_ret
  exact⟨congrArg (Value.int .i64) (I.out.trans (pv3 M.out aa)).symm,E.out⟩
 by_cases cY:6<(ns:Int)
 case pos=>
  refine(within2_any _ _ _ _).mono ?_; rintro e w' ⟨rfl,rfl⟩; rw [W.out]; go_wp2_with fail
  go_ret
  exact⟨congrArg (Value.int .i64) (I.out.trans (pv4 M.out aa (by omega))).symm,E.out⟩
 by_cases aS:3<(nm:Int)
 case pos=>
  refine(within2_any _ _ _ _).mono ?_; rintro e w' ⟨rfl,rfl⟩; rw [W.out]; go_wp2_with fail
  go_ret
  exact⟨congrArg (Value.int .i64) (I.out.trans (pv4 M.out aa (by omega))).symm,E.out⟩
 by_cases cZ:3<(nv:Int)
 case pos=>
  refine(within2_any _ _ _ _).mono ?_; rintro e w' ⟨rfl,rfl⟩; rw [W.out]; go_wp2_with fail
  go_ret
  exact⟨congrArg (Value.int .i64) (I.out.trans (pv4 M.out aa (by omega))).symm,E.out⟩
 by_cases aT:4<(nr:Int)
 case pos=>
  refine(within2_any _ _ _ _).mono ?_; rintro e w' ⟨rfl,rfl⟩; rw [W.out]; go_wp2_with fail
  go_ret
  exact⟨congrArg (Value.int .i64) (I.out.trans (pv4 M.out aa (by omega))).symm,E.out⟩
 by_cases d2:8<(nu:Int)
 case pos=>
  refine(within2_any _ _ _ _).mono ?_; rintro e w' ⟨rfl,rfl⟩; rw [W.out]; go_wp2_with fail
  go_ret
  exact⟨congrArg (Value.int .i64) (I.out.trans (pv4 M.out aa (by omega))).symm,E.out⟩
 refine(within2_any _ _ _ _).mono ?_; rintro e w' ⟨rfl,rfl⟩; rw [W.out]; go_wp2_with fail
 have H3:=hide aa
 have H4:=hide (show(ns:Int)≤6∧(nm:Int)≤3∧(nv:Int)≤3∧(nr:Int)≤4∧(nu:Int)≤8 from by omega)
 clear aa cY aS cZ aT d2
 rename_i z1 zK za
 clear z1
 obtain⟨w3,eC,bm,aT,dn⟩:=Ae w2 #[] 9
 have aG:=hide (show Below w2.heap.size w2 w3.drew from bm.trans ((Ap w3).mono bm.size))
 have bh:=hide (show World.ownsRow w3.drew w2.heap.size 9 1 (.slice (some ⟨w2.heap.size,0,none⟩) 0 0) 0 [] from⟨by simp,.inr ⟨w2.heap.size,0,#[],rfl,Nat.le_refl _,aT,Nat.le_refl _,by unfold maxLen; omega,by simp,by simp⟩⟩)
 have bk:=hide (al.out.at aG.out)
 have ed:=bk.out.b.cell
 have df:=hide (E.out.trans (aG.out.mono E.out.size))
 clear bm aT dn
 refine Reg.cI [0,0,2,7,0,16,63,0,128,511,1023] [1,2,4,5,7,8,0,3,6,9,10] ?_
 refine Reg.wI [1,2,4,5,7,8,0] [3,6,9,10] rfl fun Qf y=>?_
 go_wp2_with fail
 first | refine y _ _ ⟨rfl,?_⟩ | refine⟨rfl,?_⟩ | refine y _ _ ⟨by simp [Reg.fineT,Reg.intOp,Region.wanted,yielded,Reg.intFine,Reg.isInt,Act.eval],?_⟩
 try clear y
 refine Reg.aI 3 [6,9,10] [5,8] rfl fun Qf y=>?_
 simp only [gT,gS,gZ]
 go_wp2_with (at_builtin; refine Ei (w:=w3.drew) EW rfl _ _ rfl w2.heap.size _ _ _ rfl bh.out (l:=p.states) (d9.out.keep (w':=w3.drew) (B':=w.heap.size) (fun _ U=>df.out.cell U) (Nat.le_refl _)) (by rw [←O.out.2.2.2.2.2.1]; rfl) (fun d=>rfl) (by have:=F.out.states; have:=F.out.messages; have:=F.out.values; omega) aG.out.size ?_; intro v4 w4 bF co)
 have aH:=hide (aG.out.trans (co.below aG.out.size fun b' cj e=>by have:=(bh.out.lt b' e).1; omega))
 have bi:=hide bF
 have aV:=hide (al.out.at aH.out)
 have ee:=aV.out.b.cell
 have dg:=hide (E.out.trans (aH.out.mono E.out.size))
 obtain⟨dS,dX,dM⟩:=AH bF
 subst dM
 clear co bF
 first | refine y _ _ ⟨?_,?_⟩ | refine⟨?_,?_⟩
 ·exact⟨Reg.same_load1 rfl rfl ((bk.out.b.cell 3).trans bH) ((aV.out.b.cell 3).trans bH) Tryz.underlying22 rfl,Reg.same_load1 rfl rfl ((bk.out.b.cell 4).trans aM) ((aV.out.b.cell 4).trans aM) Tryz.underlying22 rfl⟩
 try clear y
 refine Reg.aI 6 [9,10] [8] rfl fun Qf y=>?_
 simp only [gT,gS,gZ]
 go_wp2_with (at_builtin; refine Ei (w:=w4) EW rfl _ _ rfl w2.heap.size _ _ _ rfl bi.out (l:=p.messages) (da.out.keep (w':=w4) (B':=w.heap.size) (fun _ U=>dg.out.cell U) (Nat.le_refl _)) (by rw [←O.out.2.1]; rfl) (fun d=>rfl) (by have:=F.out.states; have:=F.out.messages; have:=F.out.values; omega) aH.out.size ?_; intro v5 w5 bG cp)
 have aJ:=hide (aH.out.trans (cp.below aH.out.size fun b' cj e=>by have:=(bi.out.lt b' e).1; omega))
 have bj:=hide bG
 have cg:=hide (al.out.at aJ.out)
 have ef:=cg.out.b.cell
 have dh:=hide (E.out.trans (aJ.out.mono E.out.size))
 obtain⟨dT,dY,dN⟩:=AH bG
 subst dN
 clear cp bG
 first | refine y _ _ ⟨?_,?_⟩ | refine⟨?_,?_⟩
 ·exact Reg.same_load1 rfl rfl ((aV.out.b.cell 4).trans aM) ((cg.out.b.cell 4).trans aM) Tryz.underlying22 rfl
 try clear y
 refine Reg.aI 9 [10] [] rfl fun Qf y=>?_
 simp only [gT,gS,gZ]
 go_wp2_with (at_builtin; refine Ei (w:=w5) EW rfl _ _ rfl w2.heap.size _ _ _ rfl bj.out (l:=p.values) (db.out.keep (w':=w5) (B':=w.heap.size) (fun _ U=>dh.out.cell U) (Nat.le_refl _)) (by rw [←O.out.2.2.1]; rfl) (fun d=>rfl) (by have:=F.out.states; have:=F.out.messages; have:=F.out.values; omega) aJ.out.size ?_; intro v6 w6 aw cq)
 have ck:=hide (aJ.out.trans (cq.below aJ.out.size fun b' cj e=>by have:=(bj.out.lt b' e).1; omega))
 have d6:=hide aw
 have ch:=hide (al.out.at ck.out)
 have eg:=ch.out.b.cell
 have an:=hide (E.out.trans (ck.out.mono E.out.size))
 obtain⟨dU,bR,dO⟩:=AH aw
 subst dO
 clear cq
 first | refine y _ _ ⟨Reg.nm,?_⟩ | skip
 try clear y
 refine Reg.wI [10] [] rfl fun Qf y=>?_
 go_wp2_with fail
 first | refine y _ _ ⟨rfl,?_⟩ | refine⟨rfl,?_⟩ | refine y _ _ ⟨by simp [Reg.fineT,Reg.intOp,Region.wanted,yielded,Reg.intFine,Reg.isInt,Act.eval],?_⟩
 try clear y
 first | refine Reg.restI_end ?_ | skip
 have cu:0+p.states.length+p.messages.length+p.values.length=(Bd p).length:=by simp only [Bd,List.length_append]; omega
 have cB:[]++p.states.map (BE · 0)++p.messages.map (BE · 0)++p.values.map (BE · 0)=DV (Bd p):=by simp [DV,Bd]
 rw [cu,cB] at aw
 rw [show p.states.length+p.messages.length+p.values.length=(Bd p).length by simp only [Bd,List.length_append]]
 have er:(Bd p).length≤180:=by
  have:=F.out.states
  have:=F.out.messages
  have:=F.out.values
  omega
 have cd:=hide (HS aw (by omega)).2
 have em:=HP aw
 have dz:=hide F.out.names
 have ct:=hide (show CU nameOK (Bd p)=Aj (nmE (Bd p)) (List.range (Bd p).length) from rfl)
 rw [aZ.out] at ct
 have bY:=hide (show CU nameOK (Bd p)=e0 from aZ.out)
 clear aw cu cB bh bi bj d6 aZ
 generalize Bd p=L at*
 go_wp2_with fail
 go_loopw [4] (fun Z wr=>∃(k:Nat),Z=.int .i64 (k:Int)∧k≤L.length∧Hid (Aj (nmE L) (List.range k)=0)∧Hid (Below w6.heap.size w6 wr)) (fun Z _=>L.length - (intOf Z).toNat)
 case atStart=>exact⟨0,rfl,Nat.zero_le _,by show _=_; rfl,Below.refl _ _⟩
 case round=>
  obtain⟨k,rfl,hk,hE,a8⟩:=hrel
  by_cases b6:k<L.length
  ·obtain⟨b,off,s,hA,aY,bI,hc⟩:=cd.out.at b6
   have d0:=hc 0 (by omega)
   simp only [Nat.add_zero,Nat.mul_one,BE] at d0
   have d1:=(a8.out.cell (p:=⟨b,off+k,none⟩) aY).trans d0
   have eA:=dz.out s (List.mem_of_getElem? bI)
   have bJ:=hide bI
   subst hA
   clear hc bI
   cases b8:nameOK s with
   | false=>
    have V:=hide b8
    clear b8
    have aN:=hide (show e0=2 from bY.out.symm.trans (Fl b6 hE.out bJ.out (.inl V.out)))
    go_wp2_with fail
    refine Reg.cI [0,0,3,7,15,31,63,127,127,511,127,127,3199,7295,16383,32767] [0,1,2,3,4,5,6,7,8,10,11,12,13,9,14,15] ?_
    refine Reg.wI [0,1,2,3] [4,5,6,7,8,10,11,12,13,9,14,15] rfl fun Qf y=>?_
    go_wp2_with fail
    first | refine y _ _ ⟨rfl,?_⟩ | refine⟨rfl,?_⟩ | refine y _ _ ⟨by simp [Reg.fineT,Reg.intOp,Region.wanted,yielded,Reg.intFine,Reg.isInt,Act.eval],?_⟩
    try clear y
    refine Reg.aI 4 [5,6,7,8,10,11,12,13,9,14,15] [] rfl fun Qf y=>?_
    simp only [gT,gS,gZ]
    go_wp2_with (go_at_call 96; refine Calls.ret (Cm s _ (by omega)) ?_; rintro v w8 ⟨rfl,a9⟩; rw [V.out]; have a3:=hide (a8.out.trans (((Ap wr).trans a9).mono a8.out.size)); have d8:=(a3.out.cell (p:=⟨b,off+k,none⟩) aY).trans d0)
    first | refine y _ _ ⟨Reg.nm,?_⟩ | refine⟨Reg.nm,?_⟩
    try clear y
    clear a9
    refine Reg.wI [5,6,7,8,10,11,12,13] [9,14,15] rfl fun Qf y=>?_
    go_wp2_with fail
    first | refine y _ _ ⟨rfl,?_⟩ | refine⟨rfl,?_⟩ | refine y _ _ ⟨by simp [Reg.fineT,Reg.intOp,Region.wanted,yielded,Reg.intFine,Reg.isInt,Act.eval],?_⟩
    try clear y
    refine Reg.aI 9 [14,15] [13] rfl fun Qf y=>?_
    simp only [gT,gS,gZ]
    go_wp2_with fail
    first | refine y _ _ ⟨Reg.same_below (Below.refl _ _) [13] rfl,?_⟩ | refine⟨Reg.same_below (Below.refl _ _) [13] rfl,?_⟩
    try clear y
    refine Reg.aI 14 [15] [] rfl fun Qf y=>?_
    simp only [gT,gS,gZ]
    go_wp2_with fail
    first | refine y _ _ ⟨Reg.nm,?_⟩ | refine⟨Reg.nm,?_⟩
    try clear y
    refine Reg.wI [15] [] rfl fun Qf y=>?_
    go_wp2_with fail
    first | refine y _ _ ⟨rfl,?_⟩ | refine⟨rfl,?_⟩ | refine y _ _ ⟨by simp [Reg.fineT,Reg.intOp,Region.wanted,yielded,Reg.intFine,Reg.isInt,Act.eval],?_⟩
    try clear y
    first | refine Reg.restI_end ?_ | skip
    go_wp2_with fail
    go_ret
    exact⟨congrArg (Value.int .i64) (I.out.trans (by rw [aN.out]; exact pv5 M.out H3.out H4.out rfl)).symm,an.out.trans (a3.out.mono an.out.size)⟩
   | true=>
    have V:=hide b8
    clear b8
    have cy:(L.take k).length=k:=by rw [List.length_take]; omega
    have dL:=hide cy
    clear cy
    have cn:Hid (∀G,Hid (Below w6.heap.size w6 G)→Hid (Calls Tryz.prog 136 #[.slice (some ⟨b,off,none⟩) k bR,.string s] G fun r w'=>r=.returned (.bool (decide (s∈L.take k)))∧G=w')):=hide (fun G hx=>by
     have h1:=(cd.out.keep (w':=G) (B':=w6.heap.size) (fun _ U=>hx.out.cell U) (Nat.le_refl _)).takeS k
     have h2:=Ht (c:=bR) (x:=s) h1
     rw [dL.out] at h2
     exact h2)
    by_cases hm:s∈L.take k
    ·have bu:=hide hm
     have bt:=hide (show decide (s∈L.take k)=true from decide_eq_true hm)
     clear hm
     have aN:=hide (show e0=2 from bY.out.symm.trans (Fl b6 hE.out bJ.out (.inr bu.out)))
     go_wp2_with fail
     refine Reg.cI [0,0,3,7,15,31,63,127,127,511,127,127,3199,7295,16383,32767] [0,1,2,3,4,5,6,7,8,10,11,12,13,9,14,15] ?_
     refine Reg.wI [0,1,2,3] [4,5,6,7,8,10,11,12,13,9,14,15] rfl fun Qf y=>?_
     go_wp2_with fail
     first | refine y _ _ ⟨rfl,?_⟩ | refine⟨rfl,?_⟩ | refine y _ _ ⟨by simp [Reg.fineT,Reg.intOp,Region.wanted,yielded,Reg.intFine,Reg.isInt,Act.eval],?_⟩
     try clear y
     refine Reg.aI 4 [5,6,7,8,10,11,12,13,9,14,15] [] rfl fun Qf y=>?_
     simp only [gT,gS,gZ]
     go_wp2_with (go_at_call 96; refine Calls.ret (Cm s _ (by omega)) ?_; rintro v w8 ⟨rfl,a9⟩; rw [V.out]; have a3:=hide (a8.out.trans (((Ap wr).trans a9).mono a8.out.size)); have d8:=(a3.out.cell (p:=⟨b,off+k,none⟩) aY).trans d0)
     first | refine y _ _ ⟨Reg.nm,?_⟩ | refine⟨Reg.nm,?_⟩
     try clear y
     clear a9
     refine Reg.wI [5,6,7,8,10,11,12,13] [9,14,15] rfl fun Qf y=>?_
     go_wp2_with fail
     first | refine y _ _ ⟨rfl,?_⟩ | refine⟨rfl,?_⟩ | refine y _ _ ⟨by simp [Reg.fineT,Reg.intOp,Region.wanted,yielded,Reg.intFine,Reg.isInt,Act.eval],?_⟩
     try clear y
     refine Reg.aI 9 [14,15] [13] rfl fun Qf y=>?_
     simp only [gT,gS,gZ]
     go_wp2_with fail
     first | refine y _ _ ⟨Reg.same_below (Below.refl _ _) [13] rfl,?_⟩ | refine⟨Reg.same_below (Below.refl _ _) [13] rfl,?_⟩
     try clear y
     refine Reg.aI 14 [15] [] rfl fun Qf y=>?_
     simp only [gT,gS,gZ]
     go_wp2_with (go_at_call 136; refine(cn.out _ a3).out.mono ?_; rintro r w' ⟨rfl,rfl⟩; rw [bt.out])
     first | refine y _ _ ⟨Reg.nm,?_⟩ | refine⟨Reg.nm,?_⟩
     try clear y
     refine Reg.wI [15] [] rfl fun Qf y=>?_
     go_wp2_with fail
     first | refine y _ _ ⟨rfl,?_⟩ | refine⟨rfl,?_⟩ | refine y _ _ ⟨by simp [Reg.fineT,Reg.intOp,Region.wanted,yielded,Reg.intFine,Reg.isInt,Act.eval],?_⟩
     try clear y
     first | refine Reg.restI_end ?_ | skip
     go_wp2_with fail
     go_ret
     exact⟨congrArg (Value.int .i64) (I.out.trans (by rw [aN.out]; exact pv5 M.out H3.out H4.out rfl)).symm,an.out.trans (a3.out.mono an.out.size)⟩
    ·have bu:=hide hm
     have bt:=hide (show decide (s∈L.take k)=false from decide_eq_false hm)
     clear hm
     have bE:=hide (HN b6 hE.out bJ.out V.out bu.out)
     go_wp2_with fail
     refine Reg.cI [0,0,3,7,15,31,63,127,127,511,127,127,3199,7295,16383,32767] [0,1,2,3,4,5,6,7,8,10,11,12,13,9,14,15] ?_
     refine Reg.wI [0,1,2,3] [4,5,6,7,8,10,11,12,13,9,14,15] rfl fun Qf y=>?_
     go_wp2_with fail
     first | refine y _ _ ⟨rfl,?_⟩ | refine⟨rfl,?_⟩ | refine y _ _ ⟨by simp [Reg.fineT,Reg.intOp,Region.wanted,yielded,Reg.intFine,Reg.isInt,Act.eval],?_⟩
     try clear y
     refine Reg.aI 4 [5,6,7,8,10,11,12,13,9,14,15] [] rfl fun Qf y=>?_
     simp only [gT,gS,gZ]
     go_wp2_with (go_at_call 96; refine Calls.ret (Cm s _ (by omega)) ?_; rintro v w8 ⟨rfl,a9⟩; rw [V.out]; have a3:=hide (a8.out.trans (((Ap wr).trans a9).mono a8.out.size)); have d8:=(a3.out.cell (p:=⟨b,off+k,none⟩) aY).trans d0)
     first | refine y _ _ ⟨Reg.nm,?_⟩ | refine⟨Reg.nm,?_⟩
     try clear y
     clear a9
     refine Reg.wI [5,6,7,8,10,11,12,13] [9,14,15] rfl fun Qf y=>?_
     go_wp2_with fail
     first | refine y _ _ ⟨rfl,?_⟩ | refine⟨rfl,?_⟩ | refine y _ _ ⟨by simp [Reg.fineT,Reg.intOp,Region.wanted,yielded,Reg.intFine,Reg.isInt,Act.eval],?_⟩
     try clear y
     refine Reg.aI 9 [14,15] [13] rfl fun Qf y=>?_
     simp only [gT,gS,gZ]
     go_wp2_with fail
     first | refine y _ _ ⟨Reg.same_below (Below.refl _ _) [13] rfl,?_⟩ | refine⟨Reg.same_below (Below.refl _ _) [13] rfl,?_⟩
     try clear y
     refine Reg.aI 14 [15] [] rfl fun Qf y=>?_
     simp only [gT,gS,gZ]
     go_wp2_with (go_at_call 136; refine(cn.out _ a3).out.mono ?_; rintro r w' ⟨rfl,rfl⟩; rw [bt.out])
     first | refine y _ _ ⟨Reg.nm,?_⟩ | refine⟨Reg.nm,?_⟩
     try clear y
     refine Reg.wI [15] [] rfl fun Qf y=>?_
     go_wp2_with fail
     first | refine y _ _ ⟨rfl,?_⟩ | refine⟨rfl,?_⟩ | refine y _ _ ⟨by simp [Reg.fineT,Reg.intOp,Region.wanted,yielded,Reg.intFine,Reg.isInt,Act.eval],?_⟩
     try clear y
     first | refine Reg.restI_end ?_ | skip
     go_wp2_with fail
     exact⟨⟨k+1,by go_num,by omega,bE.out,a3.out⟩,by simp [intOf]; omega⟩
  ·have aO:=hide (show e0=0 from by
    have h1:=hE.out
    rw [show k=L.length by omega] at h1
    exact ct.out.trans h1)
   have ci:=hide (ch.out.at a8.out)
   have eh:=ci.out.b.cell
   have ao:=hide (an.out.trans (a8.out.mono an.out.size))
   clear hE
   obtain⟨cF,dP⟩:∃x,x=wr:=⟨_,rfl⟩
   subst dP
   by_cases d3:(0:Int)<(nm:Int)
   case pos=>
    go_wp2_with fail
    go_ret
    exact⟨congrArg (Value.int .i64) (I.out.trans (pv6 M.out H3.out H4.out (by rw [aO.out]; rfl) (by have:=ad.out; omega))).symm,ao.out⟩
   by_cases d5:(0:Int)<(nv:Int)
   case pos=>
    go_wp2_with fail
    go_ret
    exact⟨congrArg (Value.int .i64) (I.out.trans (pv6 M.out H3.out H4.out (by rw [aO.out]; rfl) (by have:=ad.out; omega))).symm,ao.out⟩
   by_cases d4:(0:Int)<(nr:Int)
   case pos=>
    go_wp2_with fail
    go_ret
    exact⟨congrArg (Value.int .i64) (I.out.trans (pv6 M.out H3.out H4.out (by rw [aO.out]; rfl) (by have:=ad.out; omega))).symm,ao.out⟩
   by_cases ak:kf=0
   case neg=>
    have QC:(kf != 0)=true:=by simp [ak]
    have HC:=hide ak
    clear ak
    go_wp2_with fail
    go_ret
    exact⟨congrArg (Value.int .i64) (I.out.trans (pv6 M.out H3.out H4.out (by rw [aO.out]; rfl) (by have:=ad.out; have:=HC.out; omega))).symm,ao.out⟩
   have QC:(kf != 0)=false:=by simp [ak]
   have hR:=hide (I.out.trans (pv7 M.out H3.out H4.out (by rw [aO.out]; rfl) (by have:=ad.out; omega)))
   have dA:=hide (show nr=0 by omega)
   have dV:=hide ak
   clear ak
   go_wp2_with fail
   clear d3 d5 d4 QC
   go_loopw [5] (fun Z wr=>∃(k:Nat),Z=.int .i64 (k:Int)∧k≤0∧Hid (Below cF.heap.size cF wr)∧Hid ((p.res.take k).all Bg=true)) (fun Z _=>0 - (intOf Z).toNat)
   case atStart=>exact⟨0,rfl,Nat.zero_le _,Below.refl _ _,by show _=_; simp⟩
   case round=>
    obtain⟨k2,rfl,en,cl,bZ⟩:=hrel
    have bl:=hide (ci.out.at cl.out)
    have ej:=bl.out.b.cell
    have a7:=hide (ao.out.trans (cl.out.mono ao.out.size))
    by_cases et:k2<0
    ·exfalso
     omega
    ·have cx:=hide (show p.res.all Bg=true from by
      have h1:=O.out.1
      have h2:=bZ.out
      have h3:=dA.out
      rwa [List.take_of_length_le (by omega)] at h2)
     have c8:=hide (show protE nameOK p=orE (Aa p.initial (ns:Int)) (orE (Ad (decide (ni=0)) 1) (orE (Aa p.leader (ns:Int)) (Cc p))) from by
      rw [hR.out]
      obtain⟨-,-,-,-,e5,e6,-⟩:=O.out
      unfold DJ Cc
      rw [cx.out,Bv,e5,e6]
      rfl)
     clear cx bZ
     go_wp2_with fail
     obtain⟨ei,aK⟩:∃e,Hid (Aa p.initial (ns:Int)=e):=⟨_,rfl⟩
     by_cases ai:ei=0
     case neg=>
      have Qi:(ei != 0)=true:=by simp [ai]
      have Hi:=hide ai
      clear ai
      refine Calls.ret (bq _ a7.out) ?_; rintro v w9 ⟨rfl,C⟩; rw [aK.out]; have J:=hide (a7.out.trans (C.mono a7.out.size)); clear C; go_wp2_with fail
      go_ret
      exact⟨congrArg (Value.int .i64) (c8.out.trans (by rw [aK.out]; exact BF Hi.out)).symm,J.out⟩
     have Qi:(ei != 0)=false:=by simp [ai]
     have Hi:=hide ai
     clear ai
     have c9:=hide (show protE nameOK p=orE (Ad (decide (ni=0)) 1) (orE (Aa p.leader (ns:Int)) (Cc p)) from c8.out.trans (by rw [aK.out,Hi.out]; rfl))
     by_cases av:ni=0
     case pos=>
      have Qn:((ni:Int)==0)=true:=by simp [av]
      have Hn:=hide av
      clear av
      refine Calls.ret (bq _ a7.out) ?_; rintro v w9 ⟨rfl,C⟩; rw [aK.out]; have ae:=hide (bl.out.at C); have dj:=ae.out.b.cell; have dp:=Ah ae.out.b ax.out; have J:=hide (a7.out.trans (C.mono a7.out.size)); clear C; go_wp2_with fail
      go_ret
      exact⟨congrArg (Value.int .i64) (c9.out.trans (by rw [decide_eq_true Hn.out]; rfl)).symm,J.out⟩
     have Qn:((ni:Int)==0)=false:=by simp [av]
     have Hn:=hide av
     clear av
     have ca:=hide (show protE nameOK p=orE (Aa p.leader (ns:Int)) (Cc p) from c9.out.trans (by rw [decide_eq_false Hn.out]; rfl))
     refine Calls.ret (bq _ a7.out) ?_; rintro v w9 ⟨rfl,C⟩; rw [aK.out]; have ae:=hide (bl.out.at C); have dj:=ae.out.b.cell; have dp:=Ah ae.out.b ax.out; have J:=hide (a7.out.trans (C.mono a7.out.size)); clear C; go_wp2_with fail
     obtain⟨el,b4⟩:∃e,Hid (Aa p.leader (ns:Int)=e):=⟨_,rfl⟩
     by_cases aj:el=0
     case neg=>
      have Ql:(el != 0)=true:=by simp [aj]
      have Hl:=hide aj
      clear aj
      refine Calls.ret (cr _ J.out) ?_; rintro v wa ⟨rfl,af⟩; rw [b4.out]; have am:=hide (ae.out.at af); have dk:=am.out.b.cell; have dq:=Ah am.out.b ax.out; have ap:=hide (J.out.trans (af.mono J.out.size)); clear af; go_wp2_with fail
      go_ret
      exact⟨congrArg (Value.int .i64) (ca.out.trans (by rw [b4.out]; exact BF Hl.out)).symm,ap.out⟩
     have Ql:(el != 0)=false:=by simp [aj]
     have Hl:=hide aj
     clear aj
     have cb:=hide (show protE nameOK p=Cc p from ca.out.trans (by rw [b4.out,Hl.out]; rfl))
     refine Calls.ret (cr _ J.out) ?_; rintro v wa ⟨rfl,af⟩; rw [b4.out]; have am:=hide (ae.out.at af); have dk:=am.out.b.cell; have dq:=Ah am.out.b ax.out; have ap:=hide (J.out.trans (af.mono J.out.size)); clear af; go_wp2_with fail
     clear Qi Qn Ql
     go_loopw [8] (fun Z wr=>∃(k:Nat),Z=.int .i64 (k:Int)∧k≤nu∧Hid (Below wa.heap.size wa wr)∧Hid (Aj (BB nameOK p) (List.range k)=0)) (fun Z _=>nu - (intOf Z).toNat)
     case atStart=>exact⟨0,rfl,Nat.zero_le _,Below.refl _ _,by show _=_; rfl⟩
     case round=>
      obtain⟨k4,rfl,eo,ar,aU⟩:=hrel
      have aE:=hide (am.out.at ar.out)
      have ek:=aE.out.b.cell
      have eq:=Ah aE.out.b ax.out
      have aX:=hide (ap.out.trans (ar.out.mono ap.out.size))
      by_cases eu:k4<nu
      ·obtain⟨e9,b0⟩:∃e,Hid (BB nameOK p k4=e):=⟨_,rfl⟩
       have bo:=hide (KF (cs:=pc.toList) (i:=k4) aE.out.pr (by have:=O.out.2.2.2.2.2.2; omega) F.out aE.out.tab)
       rw [b0.out] at bo
       have cA:=hide (show(List.range p.rules.length)[k4]?=some k4 from by rw [List.getElem?_range (by have:=O.out.2.2.2.2.2.2; omega)])
       have cz:=hide (show(List.range p.rules.length).take k4=List.range k4 from by rw [List.take_range,Nat.min_eq_left (by have:=O.out.2.2.2.2.2.2; omega)])
       go_wp2_with fail
       by_cases h0:e9=0
       ·have hq:(e9 != 0)=false:=by simp [h0]
        have bE:=hide (show Aj (BB nameOK p) (List.range (k4+1))=0 from by
         have h1:=CD (BB nameOK p) cA.out (by rw [cz.out]; exact aU.out)
         rw [List.take_range,Nat.min_eq_left (by have:=O.out.2.2.2.2.2.2; omega)] at h1
         rw [h1,b0.out,h0])
        clear h0
        refine Calls.ret bo.out ?_; rintro v w9 ⟨rfl,C⟩; have bn:=hide (ar.out.trans (C.mono ar.out.size)); clear C; go_wp2_with fail
        exact⟨⟨k4+1,by go_num,by omega,bn.out,bE.out⟩,by simp [intOf]; omega⟩
       ·have hq:(e9 != 0)=true:=by simp [h0]
        have aN:=hide (show protE nameOK p=e9 from by
         have h1:=Ct (BB nameOK p) cA.out (by rw [cz.out]; exact aU.out) (by rw [b0.out]; exact h0)
         rw [cb.out]
         unfold Cc
         rw [h1,b0.out,BF h0])
        clear h0
        refine Calls.ret bo.out ?_; rintro v w9 ⟨rfl,C⟩; have bn:=hide (ar.out.trans (C.mono ar.out.size)); clear C; go_wp2_with fail
        go_ret
        exact⟨congrArg (Value.int .i64) aN.out.symm,ap.out.trans (bn.out.mono ap.out.size)⟩
      ·obtain⟨nt,bB⟩:∃n,n=(BO p.rules).length:=⟨_,rfl⟩
       have cc:=hide (show protE nameOK p=Ad (decide (3<nt)) 4 from by
        have h1:=aU.out
        rw [show k4=p.rules.length by have:=O.out.2.2.2.2.2.2; omega] at h1
        rw [cb.out,bB]
        unfold Cc
        rw [h1,AY])
       have bK:=hide (Jo (cs:=pc.toList) aE.out.pr F.out)
       rw [←bB] at bK
       have ew:nt≤1800:=by
        have h1:=FB p.rules (fun r hr=>(F.out.rule r hr).1.2.1)
        have h2:=F.out.rules
        omega
       clear bB aU
       go_wp2_with fail
       by_cases bT:3<nt
       ·have G3:(3:Int)<(nt:Int):=by omega
        refine Calls.ret bK.out ?_; rintro v w9 ⟨aL,C⟩; obtain⟨Av,cv,hv⟩:=AH aL; subst hv; have J:=hide (aX.out.trans (C.mono aX.out.size)); clear aL C; go_wp2_with fail
        go_ret
        exact⟨congrArg (Value.int .i64) (cc.out.trans (by rw [decide_eq_true bT]; rfl)).symm,J.out⟩
       ·have G3:¬(3:Int)<(nt:Int):=by omega
        refine Calls.ret bK.out ?_; rintro v w9 ⟨aL,C⟩; obtain⟨Av,cv,hv⟩:=AH aL; subst hv; have J:=hide (aX.out.trans (C.mono aX.out.size)); clear aL C; go_wp2_with fail
        go_ret
        exact⟨congrArg (Value.int .i64) (cc.out.trans (by rw [decide_eq_false bT]; rfl)).symm,J.out⟩
end Go.Proofs.YtfcfpoemojjglaaGreatDoor.K
