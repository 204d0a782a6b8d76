/-
  Part CR of a proof.
-/
import Derived.Test.YtlakpndhhelliaaGreatDoorPA
import Derived.Test.YtlakpndhhelliaaGreatDoorCP
import Derived.Test.YtlakpndhhelliaaGreatDoorCJ
import Derived.Test.YtlakpndhhelliaaGreatDoorCI
set_option maxHeartbeats 16000000
set_option maxRecDepth 100000
set_option linter.unusedVariables false
set_option linter.unusedSimpArgs false
namespace Go.Proofs.YtlakpndhhelliaaGreatDoor.K
open Go.RowKit
attribute [-go_sem] loadCellsFrom storeCells
theorem MF {w:World} {cs:List Value} {p:Ao} (h:Ax w w.heap.size cs p) (Z:p.Small) (hT:AL w) (b9:p.topo≠1):
  Calls Tryz.prog 31 #[.agg cs.toArray] w (Ret fun v w'=>v=.int .i64 (At Ab p)∧Below w.heap.size w w'):=by
 obtain⟨A1,c1,A2,c2,A3,c3,A4,c4,A5,c5,A6,c6,A7,c7,bN,ec,cO,cQ,ba,az,cR,cS,cT,cU,cV,y,h2,h3,h4,h5,h6,h7,cW⟩:=h.cells
 have cX:=Z.states
 have cY:=Z.messages
 have cZ:=Z.values
 have d2:=Z.res
 have d3:=Z.initial
 have d4:=Z.leader
 have d5:=Z.rules
 have ed:=Z.name
 have E:=hide Z
 have d6:=hide y
 have d7:=hide h2
 have d9:=hide h3
 have ee:=hide h7
 have ef:=hide h4
 have da:=hide h5
 have db:=hide h6
 obtain⟨w1,eg,aA,aT,dc⟩:=Ag w cs.toArray 27
 have bS:=hide (show CK w1 w.heap.size cs.toArray p from⟨h.keep (fun _ J=>aA.cell J) aA.size,aT,hT.below aA⟩)
 have de:=hide aA
 generalize df:cs.toArray=pc at*
 clear y h2 h3 h4 h5 h6 h7 h Z aA aT dc df hT
 obtain⟨nr,bc⟩:∃n,n=p.res.length:=⟨_,rfl⟩
 obtain⟨nm,bd⟩:∃n,n=p.messages.length:=⟨_,rfl⟩
 obtain⟨nv,be⟩:∃n,n=p.values.length:=⟨_,rfl⟩
 obtain⟨nl,bf⟩:∃n,n=p.leader.length:=⟨_,rfl⟩
 obtain⟨ni,bg⟩:∃n,n=p.initial.length:=⟨_,rfl⟩
 obtain⟨ns,bh⟩:∃n,n=p.states.length:=⟨_,rfl⟩
 obtain⟨nu,bi⟩:∃n,n=p.rules.length:=⟨_,rfl⟩
 have M:=hide (show nr=p.res.length∧nm=p.messages.length∧nv=p.values.length∧nl=p.leader.length∧ni=p.initial.length∧ns=p.states.length∧nu=p.rules.length from⟨bc,bd,be,bf,bg,bh,bi⟩)
 simp only [←bc,←bd,←be,←bf,←bg,←bh,←bi] at cQ ba az cS cT cU cV cX cY cZ d2 d3 d4 d5 cW
 clear bc bd be bf bg bh bi
 obtain⟨kt,bj⟩:∃n,n=p.topo:=⟨_,rfl⟩
 obtain⟨kf,bk⟩:∃n,n=p.fault:=⟨_,rfl⟩
 have bT:=hide (show kt=p.topo∧kf=p.fault from⟨bj,bk⟩)
 simp only [←bj,←bk] at cO cR
 clear bj bk
 have ai:=hide bN
 clear bN
 have eh:=bS.out.b.cell
 have aa:Hid (kt≠1):=by rw [←bT.out.1] at b9; exact b9
 have ej:(kt==1)=false:=by simp [aa.out]
 have ek:(kt != 1)=true:=by simp [aa.out]
 clear b9
 have aU:=de
 obtain⟨e0,aV⟩:∃e,Hid (CB Ab (AP p)=e):=⟨_,rfl⟩
 cases aW:Ab p.name
 case false=>
  have U:=hide aW
  clear aW
  go_enter Tryz.func31,Tryz.ntmps31
  go_wp2_with fail
  refine Calls.ret (BK p.name _ (by omega)) ?_; rintro v w2 ⟨rfl,aj⟩; rw [U.out]; have C:=hide (aU.out.trans (aj.mono aU.out.size)); clear aj; go_wp2_with fail
  go_ret
  exact⟨by unfold At; rw [U.out]; rfl,C.out⟩
 have U:=hide aW
 clear aW
 have G:=hide (show At Ab p=Cv kt kf ns nm nv nr nu nl e0 (Di p) from by
  obtain⟨e1,e2,e3,e4,e5,e6,e7⟩:=M.out
  obtain⟨f1,f2⟩:=bT.out
  rw [e1,e2,e3,e4,e6,e7,f1,f2,←aV.out]
  exact FZ p U.out)
 have bm:∀F,Below w.heap.size w F→Calls Tryz.prog 33 #[.slice A5 ni c5,.int .i64 (ns:Int)] F (Ret fun r w'=>r=.int .i64 (Aa p.initial (ns:Int))∧Below F.heap.size F w'):=fun F hx=>by
  rw [M.out.2.2.2.2.1]
  exact AU (by omega) (da.out.keep (fun _ J=>hx.cell J) hx.size)
 have bV:∀F,Below w.heap.size w F→Calls Tryz.prog 33 #[.slice A6 nl c6,.int .i64 (ns:Int)] F (Ret fun r w'=>r=.int .i64 (Aa p.leader (ns:Int))∧Below F.heap.size F w'):=fun F hx=>by
  rw [M.out.2.2.2.1]
  exact AU (by omega) (db.out.keep (fun _ J=>hx.cell J) hx.size)
 go_enter Tryz.func31,Tryz.ntmps31
 go_wp2_with fail
 refine Calls.ret (BK p.name _ (by omega)) ?_; rintro v w2 ⟨rfl,aj⟩; rw [U.out]; have ak:=hide (bS.out.at aj); have em:=ak.out.b.cell; have en:=Am ak.out.b ai.out; have C:=hide (aU.out.trans (aj.mono aU.out.size)); clear aj; go_wp2_with fail
 cases aX:inC kt 1 4
 case false=>
  have aC:=hide aX
  clear aX
  refine(Al _ _ _ _).mono ?_; rintro e w' ⟨rfl,rfl⟩; rw [aC.out]; go_wp2_with fail
  go_ret
  exact⟨congrArg (Value.int .i64) (G.out.trans (pv2 (by have y:=aC.out; simp [inC] at y; omega))).symm,C.out⟩
 have aC:=hide aX
 clear aX
 refine(Al _ _ _ _).mono ?_; rintro e w' ⟨rfl,rfl⟩; rw [aC.out]; go_wp2_with fail
 cases aY:inC kf 0 3
 case false=>
  have V:=hide aY
  clear aY
  refine(Al _ _ _ _).mono ?_; rintro e w' ⟨rfl,rfl⟩; rw [V.out]; go_wp2_with fail
  go_ret
  exact⟨congrArg (Value.int .i64) (G.out.trans (pv2 (by have y:=V.out; simp [inC] at y; omega))).symm,C.out⟩
 have V:=hide aY
 clear aY
 have O:=hide (show 1≤kt∧kt≤4∧0≤kf∧kf≤3 from by
  have y:=aC.out
  have h2:=V.out
  simp [inC] at y h2
  omega)
 cases a7:((ns:Int)==0)
 case true=>
  refine(Al _ _ _ _).mono ?_; rintro e w' ⟨rfl,rfl⟩; rw [V.out]; go_wp2_with fail
  go_ret
  exact⟨congrArg (Value.int .i64) (G.out.trans (pv3 O.out a7)).symm,C.out⟩
 by_cases dn:6<(ns:Int)
 case pos=>
  refine(Al _ _ _ _).mono ?_; rintro e w' ⟨rfl,rfl⟩; rw [V.out]; go_wp2_with fail
  go_ret
  exact⟨congrArg (Value.int .i64) (G.out.trans (pv4 O.out a7 (by omega))).symm,C.out⟩
 by_cases aT:3<(nm:Int)
 case pos=>
  refine(Al _ _ _ _).mono ?_; rintro e w' ⟨rfl,rfl⟩; rw [V.out]; go_wp2_with fail
  go_ret
  exact⟨congrArg (Value.int .i64) (G.out.trans (pv4 O.out a7 (by omega))).symm,C.out⟩
 by_cases dp:3<(nv:Int)
 case pos=>
  refine(Al _ _ _ _).mono ?_; rintro e w' ⟨rfl,rfl⟩; rw [V.out]; go_wp2_with fail
  go_ret
  exact⟨congrArg (Value.int .i64) (G.out.trans (pv4 O.out a7 (by omega))).symm,C.out⟩
 by_cases aZ:4<(nr:Int)
 case pos=>
  refine(Al _ _ _ _).mono ?_; rintro e w' ⟨rfl,rfl⟩; rw [V.out]; go_wp2_with fail
  go_ret
  exact⟨congrArg (Value.int .i64) (G.out.trans (pv4 O.out a7 (by omega))).symm,C.out⟩
 by_cases dq:8<(nu:Int)
 case pos=>
  refine(Al _ _ _ _).mono ?_; rintro e w' ⟨rfl,rfl⟩; rw [V.out]; go_wp2_with fail
  go_ret
  exact⟨congrArg (Value.int .i64) (G.out.trans (pv4 O.out a7 (by omega))).symm,C.out⟩
 refine(Al _ _ _ _).mono ?_; rintro e w' ⟨rfl,rfl⟩; rw [V.out]; go_wp2_with fail
 have H3:=hide a7
 have H4:=hide (show(ns:Int)≤6∧(nm:Int)≤3∧(nv:Int)≤3∧(nr:Int)≤4∧(nu:Int)≤8 from by omega)
 clear a7 dn aT dp aZ dq
 rename_i z1 zK za
 clear z1
 obtain⟨w3,eo,bn,aZ,dr⟩:=Ag w2 #[] 9
 have aE:=hide (show Below w2.heap.size w2 w3.drew from bn.trans ((Ap w3).mono bn.size))
 have bo:=hide (show World.ownsRow w3.drew w2.heap.size 9 1 (.slice (some ⟨w2.heap.size,0,none⟩) 0 0) 0 [] from⟨by simp,.inr ⟨w2.heap.size,0,#[],rfl,Nat.le_refl _,aZ,Nat.le_refl _,by unfold maxLen; omega,by simp,by simp⟩⟩)
 have bp:=hide (ak.out.at aE.out)
 have ep:=bp.out.b.cell
 have dt:=hide (C.out.trans (aE.out.mono C.out.size))
 clear bn aZ dr
 refine Reg.cI [0,0,2,7,0,16,63,0,128,511,1023] [1,2,4,5,7,8,0,3,6,9,10] ?_
 refine Reg.wI [1,2,4,5,7,8,0] [3,6,9,10] rfl fun Qf f=>?_
 go_wp2_with fail
 first | refine f _ _ ⟨rfl,?_⟩ | refine⟨rfl,?_⟩ | refine f _ _ ⟨by simp [Reg.fineT,Reg.intOp,Region.wanted,yielded,Reg.intFine,Reg.isInt,Act.eval],?_⟩
 try clear f
 refine Reg.aI 3 [6,9,10] [5,8] rfl fun Qf f=>?_
 simp only [gT,gS,gZ]
 go_wp2_with (at_builtin; refine DR (w:=w3.drew) D8 rfl _ _ rfl w2.heap.size _ _ _ rfl bo.out (l:=p.states) (d6.out.keep (w':=w3.drew) (B':=w.heap.size) (fun _ J=>dt.out.cell J) (Nat.le_refl _)) (by rw [←M.out.2.2.2.2.2.1]; rfl) (fun d=>rfl) (by have:=E.out.states; have:=E.out.messages; have:=E.out.values; omega) aE.out.size ?_; intro v4 w4 bq bX)
 have aF:=hide (aE.out.trans (bX.below aE.out.size fun b' bY e=>by have:=(bo.out.lt b' e).1; omega))
 have br:=hide bq
 have b0:=hide (ak.out.at aF.out)
 have er:=b0.out.b.cell
 have du:=hide (C.out.trans (aF.out.mono C.out.size))
 obtain⟨et,eu,dv⟩:=AV bq
 subst dv
 clear bX bq
 first | refine f _ _ ⟨?_,?_⟩ | refine⟨?_,?_⟩
 ·exact⟨Reg.same_load1 rfl rfl ((bp.out.b.cell 3).trans ba) ((b0.out.b.cell 3).trans ba) Tryz.underlying22 rfl,Reg.same_load1 rfl rfl ((bp.out.b.cell 4).trans az) ((b0.out.b.cell 4).trans az) Tryz.underlying22 rfl⟩
 try clear f
 refine Reg.aI 6 [9,10] [8] rfl fun Qf f=>?_
 simp only [gT,gS,gZ]
 go_wp2_with (at_builtin; refine DR (w:=w4) D8 rfl _ _ rfl w2.heap.size _ _ _ rfl br.out (l:=p.messages) (d7.out.keep (w':=w4) (B':=w.heap.size) (fun _ J=>du.out.cell J) (Nat.le_refl _)) (by rw [←M.out.2.1]; rfl) (fun d=>rfl) (by have:=E.out.states; have:=E.out.messages; have:=E.out.values; omega) aF.out.size ?_; intro v5 w5 bs c0)
 have aH:=hide (aF.out.trans (c0.below aF.out.size fun b' bY e=>by have:=(br.out.lt b' e).1; omega))
 have bt:=hide bs
 have c8:=hide (ak.out.at aH.out)
 have ev:=c8.out.b.cell
 have dw:=hide (C.out.trans (aH.out.mono C.out.size))
 obtain⟨ew,ex,dx⟩:=AV bs
 subst dx
 clear c0 bs
 first | refine f _ _ ⟨?_,?_⟩ | refine⟨?_,?_⟩
 ·exact Reg.same_load1 rfl rfl ((b0.out.b.cell 4).trans az) ((c8.out.b.cell 4).trans az) Tryz.underlying22 rfl
 try clear f
 refine Reg.aI 9 [10] [] rfl fun Qf f=>?_
 simp only [gT,gS,gZ]
 go_wp2_with (at_builtin; refine DR (w:=w5) D8 rfl _ _ rfl w2.heap.size _ _ _ rfl bt.out (l:=p.values) (d9.out.keep (w':=w5) (B':=w.heap.size) (fun _ J=>dw.out.cell J) (Nat.le_refl _)) (by rw [←M.out.2.2.1]; rfl) (fun d=>rfl) (by have:=E.out.states; have:=E.out.messages; have:=E.out.values; omega) aH.out.size ?_; intro v6 w6 al c9)
 have ca:=hide (aH.out.trans (c9.below aH.out.size fun b' bY e=>by have:=(bt.out.lt b' e).1; omega))
 have dy:=hide al
 have cb:=hide (ak.out.at ca.out)
 have ez:=cb.out.b.cell
 have am:=hide (C.out.trans (ca.out.mono C.out.size))
 obtain⟨eA,cc,dz⟩:=AV al
 subst dz
 clear c9
 first | refine f _ _ ⟨Reg.nm,?_⟩ | skip
 try clear f
 refine Reg.wI [10] [] rfl fun Qf f=>?_
 go_wp2_with fail
 first | refine f _ _ ⟨rfl,?_⟩ | refine⟨rfl,?_⟩ | refine f _ _ ⟨by simp [Reg.fineT,Reg.intOp,Region.wanted,yielded,Reg.intFine,Reg.isInt,Act.eval],?_⟩
 try clear f
 first | refine Reg.restI_end ?_ | skip
 have cd:0+p.states.length+p.messages.length+p.values.length=(AP p).length:=by simp only [AP,List.length_append]; omega
 have ce:[]++p.states.map (Bx · 0)++p.messages.map (Bx · 0)++p.values.map (Bx · 0)=Dl (AP p):=by simp [Dl,AP]
 rw [cd,ce] at al
 rw [show p.states.length+p.messages.length+p.values.length=(AP p).length by simp only [AP,List.length_append]]
 have eB:(AP p).length≤180:=by
  have:=E.out.states
  have:=E.out.messages
  have:=E.out.values
  omega
 have cf:=hide (Hj al (by omega)).2
 have eD:=Gr al
 have dA:=hide E.out.names
 have cg:=hide (show CB Ab (AP p)=Ah (nmE (AP p)) (List.range (AP p).length) from rfl)
 rw [aV.out] at cg
 have ch:=hide (show CB Ab (AP p)=e0 from aV.out)
 clear al cd ce bo br bt dy aV
 generalize AP p=L at*
 go_wp2_with fail
 go_loopw [4] (fun W wr=>∃(k:Nat),W=.int .i64 (k:Int)∧k≤L.length∧Hid (Ah (nmE L) (List.range k)=0)∧Hid (Below w6.heap.size w6 wr)) (fun W _=>L.length - (intOf W).toNat)
 case atStart=>exact⟨0,rfl,Nat.zero_le _,by show _=_; rfl,Below.refl _ _⟩
 case round=>
  obtain⟨k,rfl,hk,hE,a5⟩:=hrel
  by_cases b1:k<L.length
  ·obtain⟨b,aL,s,hA,b2,bu,hc⟩:=cf.out.at b1
   have d0:=hc 0 (by omega)
   simp only [Nat.add_zero,Nat.mul_one,Bx] at d0
   have d1:=(a5.out.cell (p:=⟨b,aL+k,none⟩) b2).trans d0
   have eF:=dA.out s (List.mem_of_getElem? bu)
   have bv:=hide bu
   subst hA
   clear hc bu
   cases b3:Ab s with
   | false=>
    have U:=hide b3
    clear b3
    have aN:=hide (show e0=2 from ch.out.symm.trans (ET b1 hE.out bv.out (.inl U.out)))
    go_wp2_with fail
    refine Reg.cI [0,0,3,7,15,31,63,127,127,511,127,127,3199,7295,16383,32767] [0,1,2,3,4,5,6,7,8,10,11,12,13,9,14,15] ?_
    refine Reg.wI [0,1,2,3] [4,5,6,7,8,10,11,12,13,9,14,15] rfl fun Qf f=>?_
    go_wp2_with fail
    first | refine f _ _ ⟨rfl,?_⟩ | refine⟨rfl,?_⟩ | refine f _ _ ⟨by simp [Reg.fineT,Reg.intOp,Region.wanted,yielded,Reg.intFine,Reg.isInt,Act.eval],?_⟩
    try clear f
    refine Reg.aI 4 [5,6,7,8,10,11,12,13,9,14,15] [] rfl fun Qf f=>?_
    simp only [gT,gS,gZ]
    go_wp2_with (go_at_call 32; refine Calls.ret (BK s _ (by omega)) ?_; rintro v w8 ⟨rfl,a8⟩; rw [U.out]; have a3:=hide (a5.out.trans (((Ap wr).trans a8).mono a5.out.size)); have d8:=(a3.out.cell (p:=⟨b,aL+k,none⟩) b2).trans d0)
    first | refine f _ _ ⟨Reg.nm,?_⟩ | refine⟨Reg.nm,?_⟩
    try clear f
    clear a8
    refine Reg.wI [5,6,7,8,10,11,12,13] [9,14,15] rfl fun Qf f=>?_
    go_wp2_with fail
    first | refine f _ _ ⟨rfl,?_⟩ | refine⟨rfl,?_⟩ | refine f _ _ ⟨by simp [Reg.fineT,Reg.intOp,Region.wanted,yielded,Reg.intFine,Reg.isInt,Act.eval],?_⟩
    try clear f
    refine Reg.aI 9 [14,15] [13] rfl fun Qf f=>?_
    simp only [gT,gS,gZ]
    go_wp2_with fail
    first | refine f _ _ ⟨Reg.same_below (Below.refl _ _) [13] rfl,?_⟩ | refine⟨Reg.same_below (Below.refl _ _) [13] rfl,?_⟩
    try clear f
    refine Reg.aI 14 [15] [] rfl fun Qf f=>?_
    simp only [gT,gS,gZ]
    go_wp2_with fail
    first | refine f _ _ ⟨Reg.nm,?_⟩ | refine⟨Reg.nm,?_⟩
    try clear f
    refine Reg.wI [15] [] rfl fun Qf f=>?_
    go_wp2_with fail
    first | refine f _ _ ⟨rfl,?_⟩ | refine⟨rfl,?_⟩ | refine f _ _ ⟨by simp [Reg.fineT,Reg.intOp,Region.wanted,yielded,Reg.intFine,Reg.isInt,Act.eval],?_⟩
    try clear f
    first | refine Reg.restI_end ?_ | skip
    go_wp2_with fail
    go_ret
    exact⟨congrArg (Value.int .i64) (G.out.trans (by rw [aN.out]; exact pv5 O.out H3.out H4.out rfl)).symm,am.out.trans (a3.out.mono am.out.size)⟩
   | true=>
    have U:=hide b3
    clear b3
    have cm:(L.take k).length=k:=by rw [List.length_take]; omega
    have dC:=hide cm
    clear cm
    have cn:Hid (∀F,Hid (Below w6.heap.size w6 F)→Hid (Calls Tryz.prog 53 #[.slice (some ⟨b,aL,none⟩) k cc,.string s] F fun r w'=>r=.returned (.bool (decide (s∈L.take k)))∧F=w')):=hide (fun F hx=>by
     have y:=(cf.out.keep (w':=F) (B':=w6.heap.size) (fun _ J=>hx.out.cell J) (Nat.le_refl _)).takeS k
     have h2:=GY (c:=cc) (x:=s) y
     rw [dC.out] at h2
     exact h2)
    by_cases hm:s∈L.take k
    ·have bw:=hide hm
     have bx:=hide (show decide (s∈L.take k)=true from decide_eq_true hm)
     clear hm
     have aN:=hide (show e0=2 from ch.out.symm.trans (ET b1 hE.out bv.out (.inr bw.out)))
     go_wp2_with fail
     refine Reg.cI [0,0,3,7,15,31,63,127,127,511,127,127,3199,7295,16383,32767] [0,1,2,3,4,5,6,7,8,10,11,12,13,9,14,15] ?_
     refine Reg.wI [0,1,2,3] [4,5,6,7,8,10,11,12,13,9,14,15] rfl fun Qf f=>?_
     go_wp2_with fail
     first | refine f _ _ ⟨rfl,?_⟩ | refine⟨rfl,?_⟩ | refine f _ _ ⟨by simp [Reg.fineT,Reg.intOp,Region.wanted,yielded,Reg.intFine,Reg.isInt,Act.eval],?_⟩
     try clear f
     refine Reg.aI 4 [5,6,7,8,10,11,12,13,9,14,15] [] rfl fun Qf f=>?_
     simp only [gT,gS,gZ]
     go_wp2_with (go_at_call 32; refine Calls.ret (BK s _ (by omega)) ?_; rintro v w8 ⟨rfl,a8⟩; rw [U.out]; have a3:=hide (a5.out.trans (((Ap wr).trans a8).mono a5.out.size)); have d8:=(a3.out.cell (p:=⟨b,aL+k,none⟩) b2).trans d0)
     first | refine f _ _ ⟨Reg.nm,?_⟩ | refine⟨Reg.nm,?_⟩
     try clear f
     clear a8
     refine Reg.wI [5,6,7,8,10,11,12,13] [9,14,15] rfl fun Qf f=>?_
     go_wp2_with fail
     first | refine f _ _ ⟨rfl,?_⟩ | refine⟨rfl,?_⟩ | refine f _ _ ⟨by simp [Reg.fineT,Reg.intOp,Region.wanted,yielded,Reg.intFine,Reg.isInt,Act.eval],?_⟩
     try clear f
     refine Reg.aI 9 [14,15] [13] rfl fun Qf f=>?_
     simp only [gT,gS,gZ]
     go_wp2_with fail
     first | refine f _ _ ⟨Reg.same_below (Below.refl _ _) [13] rfl,?_⟩ | refine⟨Reg.same_below (Below.refl _ _) [13] rfl,?_⟩
     try clear f
     refine Reg.aI 14 [15] [] rfl fun Qf f=>?_
     simp only [gT,gS,gZ]
     go_wp2_with (go_at_call 53; refine(cn.out _ a3).out.mono ?_; rintro r w' ⟨rfl,rfl⟩; rw [bx.out])
     first | refine f _ _ ⟨Reg.nm,?_⟩ | refine⟨Reg.nm,?_⟩
     try clear f
     refine Reg.wI [15] [] rfl fun Qf f=>?_
     go_wp2_with fail
     first | refine f _ _ ⟨rfl,?_⟩ | refine⟨rfl,?_⟩ | refine f _ _ ⟨by simp [Reg.fineT,Reg.intOp,Region.wanted,yielded,Reg.intFine,Reg.isInt,Act.eval],?_⟩
     try clear f
     first | refine Reg.restI_end ?_ | skip
     go_wp2_with fail
     go_ret
     exact⟨congrArg (Value.int .i64) (G.out.trans (by rw [aN.out]; exact pv5 O.out H3.out H4.out rfl)).symm,am.out.trans (a3.out.mono am.out.size)⟩
    ·have bw:=hide hm
     have bx:=hide (show decide (s∈L.take k)=false from decide_eq_false hm)
     clear hm
     have bz:=hide (G8 b1 hE.out bv.out U.out bw.out)
     go_wp2_with fail
     refine Reg.cI [0,0,3,7,15,31,63,127,127,511,127,127,3199,7295,16383,32767] [0,1,2,3,4,5,6,7,8,10,11,12,13,9,14,15] ?_
     refine Reg.wI [0,1,2,3] [4,5,6,7,8,10,11,12,13,9,14,15] rfl fun Qf f=>?_
     go_wp2_with fail
     first | refine f _ _ ⟨rfl,?_⟩ | refine⟨rfl,?_⟩ | refine f _ _ ⟨by simp [Reg.fineT,Reg.intOp,Region.wanted,yielded,Reg.intFine,Reg.isInt,Act.eval],?_⟩
     try clear f
     refine Reg.aI 4 [5,6,7,8,10,11,12,13,9,14,15] [] rfl fun Qf f=>?_
     simp only [gT,gS,gZ]
     go_wp2_with (go_at_call 32; refine Calls.ret (BK s _ (by omega)) ?_; rintro v w8 ⟨rfl,a8⟩; rw [U.out]; have a3:=hide (a5.out.trans (((Ap wr).trans a8).mono a5.out.size)); have d8:=(a3.out.cell (p:=⟨b,aL+k,none⟩) b2).trans d0)
     first | refine f _ _ ⟨Reg.nm,?_⟩ | refine⟨Reg.nm,?_⟩
     try clear f
     clear a8
     refine Reg.wI [5,6,7,8,10,11,12,13] [9,14,15] rfl fun Qf f=>?_
     go_wp2_with fail
     first | refine f _ _ ⟨rfl,?_⟩ | refine⟨rfl,?_⟩ | refine f _ _ ⟨by simp [Reg.fineT,Reg.intOp,Region.wanted,yielded,Reg.intFine,Reg.isInt,Act.eval],?_⟩
     try clear f
     refine Reg.aI 9 [14,15] [13] rfl fun Qf f=>?_
     simp only [gT,gS,gZ]
     go_wp2_with fail
     first | refine f _ _ ⟨Reg.same_below (Below.refl _ _) [13] rfl,?_⟩ | refine⟨Reg.same_below (Below.refl _ _) [13] rfl,?_⟩
     try clear f
     refine Reg.aI 14 [15] [] rfl fun Qf f=>?_
     simp only [gT,gS,gZ]
     go_wp2_with (go_at_call 53; refine(cn.out _ a3).out.mono ?_; rintro r w' ⟨rfl,rfl⟩; rw [bx.out])
     first | refine f _ _ ⟨Reg.nm,?_⟩ | refine⟨Reg.nm,?_⟩
     try clear f
     refine Reg.wI [15] [] rfl fun Qf f=>?_
     go_wp2_with fail
     first | refine f _ _ ⟨rfl,?_⟩ | refine⟨rfl,?_⟩ | refine f _ _ ⟨by simp [Reg.fineT,Reg.intOp,Region.wanted,yielded,Reg.intFine,Reg.isInt,Act.eval],?_⟩
     try clear f
     first | refine Reg.restI_end ?_ | skip
     go_wp2_with fail
     exact⟨⟨k+1,by go_num,by omega,bz.out,a3.out⟩,by simp [intOf]; omega⟩
  ·have aO:=hide (show e0=0 from by
    have y:=hE.out
    rw [show k=L.length by omega] at y
    exact cg.out.trans y)
   have co:=hide (cb.out.at a5.out)
   have eG:=co.out.b.cell
   have ao:=hide (am.out.trans (a5.out.mono am.out.size))
   clear hE
   obtain⟨cp,dD⟩:∃x,x=wr:=⟨_,rfl⟩
   subst dD
   by_cases dE:(0:Int)<(nm:Int)
   case pos=>
    go_wp2_with fail
    go_ret
    exact⟨congrArg (Value.int .i64) (G.out.trans (pv6 O.out H3.out H4.out (by rw [aO.out]; rfl) (by have:=aa.out; omega))).symm,ao.out⟩
   by_cases dF:(0:Int)<(nv:Int)
   case pos=>
    go_wp2_with fail
    go_ret
    exact⟨congrArg (Value.int .i64) (G.out.trans (pv6 O.out H3.out H4.out (by rw [aO.out]; rfl) (by have:=aa.out; omega))).symm,ao.out⟩
   by_cases dG:(0:Int)<(nr:Int)
   case pos=>
    go_wp2_with fail
    go_ret
    exact⟨congrArg (Value.int .i64) (G.out.trans (pv6 O.out H3.out H4.out (by rw [aO.out]; rfl) (by have:=aa.out; omega))).symm,ao.out⟩
   by_cases ap:kf=0
   case neg=>
    have QC:(kf != 0)=true:=by simp [ap]
    have HC:=hide ap
    clear ap
    go_wp2_with fail
    go_ret
    exact⟨congrArg (Value.int .i64) (G.out.trans (pv6 O.out H3.out H4.out (by rw [aO.out]; rfl) (by have:=aa.out; have:=HC.out; omega))).symm,ao.out⟩
   have QC:(kf != 0)=false:=by simp [ap]
   have hR:=hide (G.out.trans (pv7 O.out H3.out H4.out (by rw [aO.out]; rfl) (by have:=aa.out; omega)))
   have dJ:=hide (show nr=0 by omega)
   have eH:=hide ap
   clear ap
   go_wp2_with fail
   clear dE dF dG QC
   go_loopw [5] (fun W wr=>∃(k:Nat),W=.int .i64 (k:Int)∧k≤0∧Hid (Below cp.heap.size cp wr)∧Hid ((p.res.take k).all AR=true)) (fun W _=>0 - (intOf W).toNat)
   case atStart=>exact⟨0,rfl,Nat.zero_le _,Below.refl _ _,by show _=_; simp⟩
   case round=>
    obtain⟨k2,rfl,eI,cr,ct⟩:=hrel
    have bA:=hide (co.out.at cr.out)
    have eJ:=bA.out.b.cell
    have a6:=hide (ao.out.trans (cr.out.mono ao.out.size))
    by_cases eK:k2<0
    ·exfalso
     omega
    ·have cu:=hide (show p.res.all AR=true from by
      have y:=M.out.1
      have h2:=ct.out
      have h3:=dJ.out
      rwa [List.take_of_length_le (by omega)] at h2)
     have cw:=hide (show At Ab p=orE (Aa p.initial (ns:Int)) (orE (Ac (decide (ni=0)) 1) (orE (Aa p.leader (ns:Int)) (BW p))) from by
      rw [hR.out]
      obtain⟨-,-,-,-,e5,e6,-⟩:=M.out
      unfold Di BW
      rw [cu.out,Bn,e5,e6]
      rfl)
     clear cu ct
     go_wp2_with fail
     obtain⟨ei,aP⟩:∃e,Hid (Aa p.initial (ns:Int)=e):=⟨_,rfl⟩
     by_cases aq:ei=0
     case neg=>
      have Qi:(ei != 0)=true:=by simp [aq]
      have Hi:=hide aq
      clear aq
      refine Calls.ret (bm _ a6.out) ?_; rintro v w9 ⟨rfl,z⟩; rw [aP.out]; have I:=hide (a6.out.trans (z.mono a6.out.size)); clear z; go_wp2_with fail
      go_ret
      exact⟨congrArg (Value.int .i64) (cw.out.trans (by rw [aP.out]; exact Bz Hi.out)).symm,I.out⟩
     have Qi:(ei != 0)=false:=by simp [aq]
     have Hi:=hide aq
     clear aq
     have cy:=hide (show At Ab p=orE (Ac (decide (ni=0)) 1) (orE (Aa p.leader (ns:Int)) (BW p)) from cw.out.trans (by rw [aP.out,Hi.out]; rfl))
     by_cases au:ni=0
     case pos=>
      have Qn:((ni:Int)==0)=true:=by simp [au]
      have Hn:=hide au
      clear au
      refine Calls.ret (bm _ a6.out) ?_; rintro v w9 ⟨rfl,z⟩; rw [aP.out]; have af:=hide (bA.out.at z); have dL:=af.out.b.cell; have dM:=Am af.out.b ai.out; have I:=hide (a6.out.trans (z.mono a6.out.size)); clear z; go_wp2_with fail
      go_ret
      exact⟨congrArg (Value.int .i64) (cy.out.trans (by rw [decide_eq_true Hn.out]; rfl)).symm,I.out⟩
     have Qn:((ni:Int)==0)=false:=by simp [au]
     have Hn:=hide au
     clear au
     have cA:=hide (show At Ab p=orE (Aa p.leader (ns:Int)) (BW p) from cy.out.trans (by rw [decide_eq_false Hn.out]; rfl))
     refine Calls.ret (bm _ a6.out) ?_; rintro v w9 ⟨rfl,z⟩; rw [aP.out]; have af:=hide (bA.out.at z); have dL:=af.out.b.cell; have dM:=Am af.out.b ai.out; have I:=hide (a6.out.trans (z.mono a6.out.size)); clear z; go_wp2_with fail
     obtain⟨el,b4⟩:∃e,Hid (Aa p.leader (ns:Int)=e):=⟨_,rfl⟩
     by_cases av:el=0
     case neg=>
      have Ql:(el != 0)=true:=by simp [av]
      have Hl:=hide av
      clear av
      refine Calls.ret (bV _ I.out) ?_; rintro v wa ⟨rfl,ag⟩; rw [b4.out]; have aw:=hide (af.out.at ag); have dN:=aw.out.b.cell; have dO:=Am aw.out.b ai.out; have ax:=hide (I.out.trans (ag.mono I.out.size)); clear ag; go_wp2_with fail
      go_ret
      exact⟨congrArg (Value.int .i64) (cA.out.trans (by rw [b4.out]; exact Bz Hl.out)).symm,ax.out⟩
     have Ql:(el != 0)=false:=by simp [av]
     have Hl:=hide av
     clear av
     have cD:=hide (show At Ab p=BW p from cA.out.trans (by rw [b4.out,Hl.out]; rfl))
     refine Calls.ret (bV _ I.out) ?_; rintro v wa ⟨rfl,ag⟩; rw [b4.out]; have aw:=hide (af.out.at ag); have dN:=aw.out.b.cell; have dO:=Am aw.out.b ai.out; have ax:=hide (I.out.trans (ag.mono I.out.size)); clear ag; go_wp2_with fail
     clear Qi Qn Ql
     go_loopw [8] (fun W wr=>∃(k:Nat),W=.int .i64 (k:Int)∧k≤nu∧Hid (Below wa.heap.size wa wr)∧Hid (Ah (Bu Ab p) (List.range k)=0)) (fun W _=>nu - (intOf W).toNat)
     case atStart=>exact⟨0,rfl,Nat.zero_le _,Below.refl _ _,by show _=_; rfl⟩
     case round=>
      obtain⟨k4,rfl,eL,ay,b5⟩:=hrel
      have aQ:=hide (aw.out.at ay.out)
      have eM:=aQ.out.b.cell
      have eN:=Am aQ.out.b ai.out
      have b6:=hide (ax.out.trans (ay.out.mono ax.out.size))
      by_cases eO:k4<nu
      ·obtain⟨e9,b8⟩:∃e,Hid (Bu Ab p k4=e):=⟨_,rfl⟩
       have bH:=hide (H8 (cs:=pc.toList) (i:=k4) aQ.out.pr (by have:=M.out.2.2.2.2.2.2; omega) E.out aQ.out.tab)
       rw [b8.out] at bH
       have cE:=hide (show(List.range p.rules.length)[k4]?=some k4 from by rw [List.getElem?_range (by have:=M.out.2.2.2.2.2.2; omega)])
       have cF:=hide (show(List.range p.rules.length).take k4=List.range k4 from by rw [List.take_range,Nat.min_eq_left (by have:=M.out.2.2.2.2.2.2; omega)])
       go_wp2_with fail
       by_cases h0:e9=0
       ·have hq:(e9 != 0)=false:=by simp [h0]
        have bz:=hide (show Ah (Bu Ab p) (List.range (k4+1))=0 from by
         have y:=Cq (Bu Ab p) cE.out (by rw [cF.out]; exact b5.out)
         rw [List.take_range,Nat.min_eq_left (by have:=M.out.2.2.2.2.2.2; omega)] at y
         rw [y,b8.out,h0])
        clear h0
        refine Calls.ret bH.out ?_; rintro v w9 ⟨rfl,z⟩; have bI:=hide (ay.out.trans (z.mono ay.out.size)); clear z; go_wp2_with fail
        exact⟨⟨k4+1,by go_num,by omega,bI.out,bz.out⟩,by simp [intOf]; omega⟩
       ·have hq:(e9 != 0)=true:=by simp [h0]
        have aN:=hide (show At Ab p=e9 from by
         have y:=Cd (Bu Ab p) cE.out (by rw [cF.out]; exact b5.out) (by rw [b8.out]; exact h0)
         rw [cD.out]
         unfold BW
         rw [y,b8.out,Bz h0])
        clear h0
        refine Calls.ret bH.out ?_; rintro v w9 ⟨rfl,z⟩; have bI:=hide (ay.out.trans (z.mono ay.out.size)); clear z; go_wp2_with fail
        go_ret
        exact⟨congrArg (Value.int .i64) aN.out.symm,ax.out.trans (bI.out.mono ax.out.size)⟩
      ·obtain⟨nt,bJ⟩:∃n,n=(BH p.rules).length:=⟨_,rfl⟩
       have cG:=hide (show At Ab p=Ac (decide (3<nt)) 4 from by
        have y:=b5.out
        rw [show k4=p.rules.length by have:=M.out.2.2.2.2.2.2; omega] at y
        rw [cD.out,bJ]
        unfold BW
        rw [y,BI])
       have bK:=hide (J2 (cs:=pc.toList) aQ.out.pr E.out)
       rw [←bJ] at bK
       have eP:nt≤1800:=by
        have y:=Ez p.rules (fun r hr=>(E.out.rule r hr).1.2.1)
        have h2:=E.out.rules
        omega
       clear bJ b5
       go_wp2_with fail
       by_cases cH:3<nt
       ·have G3:(3:Int)<(nt:Int):=by omega
        refine Calls.ret bK.out ?_; rintro v w9 ⟨aS,z⟩; obtain⟨Av,cv,hv⟩:=AV aS; subst hv; have I:=hide (b6.out.trans (z.mono b6.out.size)); clear aS z; go_wp2_with fail
        go_ret
        exact⟨congrArg (Value.int .i64) (cG.out.trans (by rw [decide_eq_true cH]; rfl)).symm,I.out⟩
       ·have G3:¬(3:Int)<(nt:Int):=by omega
        refine Calls.ret bK.out ?_; rintro v w9 ⟨aS,z⟩; obtain⟨Av,cv,hv⟩:=AV aS; subst hv; have I:=hide (b6.out.trans (z.mono b6.out.size)); clear aS z; go_wp2_with fail
        go_ret
        exact⟨congrArg (Value.int .i64) (cG.out.trans (by rw [decide_eq_false cH]; rfl)).symm,I.out⟩
end Go.Proofs.YtlakpndhhelliaaGreatDoor.K
