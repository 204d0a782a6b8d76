/-
  Part CQ of a proof.
-/
import Derived.Test.YtlakpndhhelliaaGreatDoorPA
import Derived.Test.YtlakpndhhelliaaGreatDoorCP
import Derived.Test.YtlakpndhhelliaaGreatDoorCJ
import Derived.Test.YtlakpndhhelliaaGreatDoorCI
set_option maxHeartbeats 16000000
set_option maxRecDepth 100000
set_option linter.unusedVariables false
set_option linter.unusedSimpArgs false
namespace Go.Proofs.YtlakpndhhelliaaGreatDoor.K
open Go.RowKit
attribute [-go_sem] loadCellsFrom storeCells
theorem PP {w:World} {cs:List Value} {p:Ao} (h:Ax w w.heap.size cs p) (a3:p.Small) (hT:AL w) (bc:p.topo=1):
  Calls Tryz.prog 31 #[.agg cs.toArray] w (Ret fun v w'=>v=.int .i64 (At Ab p)∧Below w.heap.size w w'):=by
 obtain⟨A1,c1,A2,c2,A3,c3,A4,c4,A5,c5,A6,c6,A7,c7,bQ,eg,cW,cX,bd,ax,cY,cZ,d2,d3,d4,C,h2,h3,h4,h5,h6,h7,d5⟩:=h.cells
 have d6:=a3.states
 have d7:=a3.messages
 have d9:=a3.values
 have da:=a3.res
 have db:=a3.initial
 have dc:=a3.leader
 have de:=a3.rules
 have eh:=a3.name
 have G:=hide a3
 have df:=hide C
 have dg:=hide h2
 have dh:=hide h3
 have ej:=hide h7
 have di:=hide h4
 have dj:=hide h5
 have dk:=hide h6
 obtain⟨w1,ek,ay,aR,dl⟩:=Ag w cs.toArray 27
 have bW:=hide (show CK w1 w.heap.size cs.toArray p from⟨h.keep (fun _ M=>ay.cell M) ay.size,aR,hT.below ay⟩)
 have dm:=hide ay
 generalize dn:cs.toArray=pc at*
 clear C h2 h3 h4 h5 h6 h7 h a3 ay aR dl dn hT
 obtain⟨nr,be⟩:∃n,n=p.res.length:=⟨_,rfl⟩
 obtain⟨nm,bf⟩:∃n,n=p.messages.length:=⟨_,rfl⟩
 obtain⟨nv,bg⟩:∃n,n=p.values.length:=⟨_,rfl⟩
 obtain⟨nl,bh⟩:∃n,n=p.leader.length:=⟨_,rfl⟩
 obtain⟨ni,bi⟩:∃n,n=p.initial.length:=⟨_,rfl⟩
 obtain⟨ns,bj⟩:∃n,n=p.states.length:=⟨_,rfl⟩
 obtain⟨nu,bk⟩:∃n,n=p.rules.length:=⟨_,rfl⟩
 have O:=hide (show nr=p.res.length∧nm=p.messages.length∧nv=p.values.length∧nl=p.leader.length∧ni=p.initial.length∧ns=p.states.length∧nu=p.rules.length from⟨be,bf,bg,bh,bi,bj,bk⟩)
 simp only [←be,←bf,←bg,←bh,←bi,←bj,←bk] at cX bd ax cZ d2 d3 d4 d6 d7 d9 da db dc de d5
 clear be bf bg bh bi bj bk
 obtain⟨kt,bl⟩:∃n,n=p.topo:=⟨_,rfl⟩
 obtain⟨kf,bm⟩:∃n,n=p.fault:=⟨_,rfl⟩
 have bX:=hide (show kt=p.topo∧kf=p.fault from⟨bl,bm⟩)
 simp only [←bl,←bm] at cW cY
 clear bl bm
 have ai:=hide bQ
 clear bQ
 have em:=bW.out.b.cell
 have aS:Hid (kt=1):=by rw [←bX.out.1] at bc; exact bc
 have en:(kt==1)=true:=by simp [aS.out]
 have eo:(kt != 1)=false:=by simp [aS.out]
 clear bc
 have aT:=dm
 obtain⟨e0,aU⟩:∃e,Hid (CB Ab (AP p)=e):=⟨_,rfl⟩
 cases aV:Ab p.name
 case false=>
  have U:=hide aV
  clear aV
  go_enter Tryz.func31,Tryz.ntmps31
  go_wp2_with fail
  refine Calls.ret (BK p.name _ (by omega)) ?_; rintro v w2 ⟨rfl,aj⟩; rw [U.out]; have F:=hide (aT.out.trans (aj.mono aT.out.size)); clear aj; go_wp2_with fail
  go_ret
  exact⟨by unfold At; rw [U.out]; rfl,F.out⟩
 have U:=hide aV
 clear aV
 have V:=hide (show At Ab p=Cv kt kf ns nm nv nr nu nl e0 (Di p) from by
  obtain⟨e1,e2,e3,e4,e5,e6,e7⟩:=O.out
  obtain⟨f1,f2⟩:=bX.out
  rw [e1,e2,e3,e4,e6,e7,f1,f2,←aU.out]
  exact FZ p U.out)
 have bo:∀I,Below w.heap.size w I→Calls Tryz.prog 33 #[.slice A5 ni c5,.int .i64 (ns:Int)] I (Ret fun r w'=>r=.int .i64 (Aa p.initial (ns:Int))∧Below I.heap.size I w'):=fun I hx=>by
  rw [O.out.2.2.2.2.1]
  exact AU (by omega) (dj.out.keep (fun _ M=>hx.cell M) hx.size)
 have bZ:∀I,Below w.heap.size w I→Calls Tryz.prog 33 #[.slice A6 nl c6,.int .i64 (ns:Int)] I (Ret fun r w'=>r=.int .i64 (Aa p.leader (ns:Int))∧Below I.heap.size I w'):=fun I hx=>by
  rw [O.out.2.2.2.1]
  exact AU (by omega) (dk.out.keep (fun _ M=>hx.cell M) hx.size)
 go_enter Tryz.func31,Tryz.ntmps31
 go_wp2_with fail
 refine Calls.ret (BK p.name _ (by omega)) ?_; rintro v w2 ⟨rfl,aj⟩; rw [U.out]; have ak:=hide (bW.out.at aj); have ep:=ak.out.b.cell; have eq:=Am ak.out.b ai.out; have F:=hide (aT.out.trans (aj.mono aT.out.size)); clear aj; go_wp2_with fail
 cases aW:inC kt 1 4
 case false=>
  have aA:=hide aW
  clear aW
  refine(Al _ _ _ _).mono ?_; rintro e w' ⟨rfl,rfl⟩; rw [aA.out]; go_wp2_with fail
  go_ret
  exact⟨congrArg (Value.int .i64) (V.out.trans (pv2 (by have C:=aA.out; simp [inC] at C; omega))).symm,F.out⟩
 have aA:=hide aW
 clear aW
 refine(Al _ _ _ _).mono ?_; rintro e w' ⟨rfl,rfl⟩; rw [aA.out]; go_wp2_with fail
 cases aX:inC kf 0 3
 case false=>
  have Z:=hide aX
  clear aX
  refine(Al _ _ _ _).mono ?_; rintro e w' ⟨rfl,rfl⟩; rw [Z.out]; go_wp2_with fail
  go_ret
  exact⟨congrArg (Value.int .i64) (V.out.trans (pv2 (by have C:=Z.out; simp [inC] at C; omega))).symm,F.out⟩
 have Z:=hide aX
 clear aX
 have H2:=hide (show 1≤kt∧kt≤4∧0≤kf∧kf≤3 from by
  have C:=aA.out
  have h2:=Z.out
  simp [inC] at C h2
  omega)
 cases a9:((ns:Int)==0)
 case true=>
  refine(Al _ _ _ _).mono ?_; rintro e w' ⟨rfl,rfl⟩; rw [Z.out]; go_wp2_with fail
  go_ret
  exact⟨congrArg (Value.int .i64) (V.out.trans (pv3 H2.out a9)).symm,F.out⟩
 by_cases dx:6<(ns:Int)
 case pos=>
  refine(Al _ _ _ _).mono ?_; rintro e w' ⟨rfl,rfl⟩; rw [Z.out]; go_wp2_with fail
  go_ret
  exact⟨congrArg (Value.int .i64) (V.out.trans (pv4 H2.out a9 (by omega))).symm,F.out⟩
 by_cases aR:3<(nm:Int)
 case pos=>
  refine(Al _ _ _ _).mono ?_; rintro e w' ⟨rfl,rfl⟩; rw [Z.out]; go_wp2_with fail
  go_ret
  exact⟨congrArg (Value.int .i64) (V.out.trans (pv4 H2.out a9 (by omega))).symm,F.out⟩
 by_cases dy:3<(nv:Int)
 case pos=>
  refine(Al _ _ _ _).mono ?_; rintro e w' ⟨rfl,rfl⟩; rw [Z.out]; go_wp2_with fail
  go_ret
  exact⟨congrArg (Value.int .i64) (V.out.trans (pv4 H2.out a9 (by omega))).symm,F.out⟩
 by_cases aY:4<(nr:Int)
 case pos=>
  refine(Al _ _ _ _).mono ?_; rintro e w' ⟨rfl,rfl⟩; rw [Z.out]; go_wp2_with fail
  go_ret
  exact⟨congrArg (Value.int .i64) (V.out.trans (pv4 H2.out a9 (by omega))).symm,F.out⟩
 by_cases dz:8<(nu:Int)
 case pos=>
  refine(Al _ _ _ _).mono ?_; rintro e w' ⟨rfl,rfl⟩; rw [Z.out]; go_wp2_with fail
  go_ret
  exact⟨congrArg (Value.int .i64) (V.out.trans (pv4 H2.out a9 (by omega))).symm,F.out⟩
 refine(Al _ _ _ _).mono ?_; rintro e w' ⟨rfl,rfl⟩; rw [Z.out]; go_wp2_with fail
 have H3:=hide a9
 have H4:=hide (show(ns:Int)≤6∧(nm:Int)≤3∧(nv:Int)≤3∧(nr:Int)≤4∧(nu:Int)≤8 from by omega)
 clear a9 dx aR dy aY dz
 rename_i z1 zK za
 clear z1
 obtain⟨w3,er,bp,aY,dA⟩:=Ag w2 #[] 9
 have aC:=hide (show Below w2.heap.size w2 w3.drew from bp.trans ((Ap w3).mono bp.size))
 have bq:=hide (show World.ownsRow w3.drew w2.heap.size 9 1 (.slice (some ⟨w2.heap.size,0,none⟩) 0 0) 0 [] from⟨by simp,.inr ⟨w2.heap.size,0,#[],rfl,Nat.le_refl _,aY,Nat.le_refl _,by unfold maxLen; omega,by simp,by simp⟩⟩)
 have br:=hide (ak.out.at aC.out)
 have et:=br.out.b.cell
 have dB:=hide (F.out.trans (aC.out.mono F.out.size))
 clear bp aY dA
 refine Reg.cI [0,0,2,7,0,16,63,0,128,511,1023] [1,2,4,5,7,8,0,3,6,9,10] ?_
 refine Reg.wI [1,2,4,5,7,8,0] [3,6,9,10] rfl fun Qf y=>?_
 go_wp2_with fail
 first | refine y _ _ ⟨rfl,?_⟩ | refine⟨rfl,?_⟩ | refine y _ _ ⟨by simp [Reg.fineT,Reg.intOp,Region.wanted,yielded,Reg.intFine,Reg.isInt,Act.eval],?_⟩
 try clear y
 refine Reg.aI 3 [6,9,10] [5,8] rfl fun Qf y=>?_
 simp only [gT,gS,gZ]
 go_wp2_with (at_builtin; refine DR (w:=w3.drew) D8 rfl _ _ rfl w2.heap.size _ _ _ rfl bq.out (l:=p.states) (df.out.keep (w':=w3.drew) (B':=w.heap.size) (fun _ M=>dB.out.cell M) (Nat.le_refl _)) (by rw [←O.out.2.2.2.2.2.1]; rfl) (fun d=>rfl) (by have:=G.out.states; have:=G.out.messages; have:=G.out.values; omega) aC.out.size ?_; intro v4 w4 bs c8)
 have aD:=hide (aC.out.trans (c8.below aC.out.size fun b' c9 e=>by have:=(bq.out.lt b' e).1; omega))
 have bt:=hide bs
 have b1:=hide (ak.out.at aD.out)
 have ev:=b1.out.b.cell
 have dC:=hide (F.out.trans (aD.out.mono F.out.size))
 obtain⟨ew,ex,dD⟩:=AV bs
 subst dD
 clear c8 bs
 first | refine y _ _ ⟨?_,?_⟩ | refine⟨?_,?_⟩
 ·exact⟨Reg.same_load1 rfl rfl ((br.out.b.cell 3).trans bd) ((b1.out.b.cell 3).trans bd) Tryz.underlying22 rfl,Reg.same_load1 rfl rfl ((br.out.b.cell 4).trans ax) ((b1.out.b.cell 4).trans ax) Tryz.underlying22 rfl⟩
 try clear y
 refine Reg.aI 6 [9,10] [8] rfl fun Qf y=>?_
 simp only [gT,gS,gZ]
 go_wp2_with (at_builtin; refine DR (w:=w4) D8 rfl _ _ rfl w2.heap.size _ _ _ rfl bt.out (l:=p.messages) (dg.out.keep (w':=w4) (B':=w.heap.size) (fun _ M=>dC.out.cell M) (Nat.le_refl _)) (by rw [←O.out.2.1]; rfl) (fun d=>rfl) (by have:=G.out.states; have:=G.out.messages; have:=G.out.values; omega) aD.out.size ?_; intro v5 w5 bu cb)
 have aF:=hide (aD.out.trans (cb.below aD.out.size fun b' c9 e=>by have:=(bt.out.lt b' e).1; omega))
 have bv:=hide bu
 have cc:=hide (ak.out.at aF.out)
 have ey:=cc.out.b.cell
 have dE:=hide (F.out.trans (aF.out.mono F.out.size))
 obtain⟨ez,eA,dF⟩:=AV bu
 subst dF
 clear cb bu
 first | refine y _ _ ⟨?_,?_⟩ | refine⟨?_,?_⟩
 ·exact Reg.same_load1 rfl rfl ((b1.out.b.cell 4).trans ax) ((cc.out.b.cell 4).trans ax) Tryz.underlying22 rfl
 try clear y
 refine Reg.aI 9 [10] [] rfl fun Qf y=>?_
 simp only [gT,gS,gZ]
 go_wp2_with (at_builtin; refine DR (w:=w5) D8 rfl _ _ rfl w2.heap.size _ _ _ rfl bv.out (l:=p.values) (dh.out.keep (w':=w5) (B':=w.heap.size) (fun _ M=>dE.out.cell M) (Nat.le_refl _)) (by rw [←O.out.2.2.1]; rfl) (fun d=>rfl) (by have:=G.out.states; have:=G.out.messages; have:=G.out.values; omega) aF.out.size ?_; intro v6 w6 al cd)
 have ce:=hide (aF.out.trans (cd.below aF.out.size fun b' c9 e=>by have:=(bv.out.lt b' e).1; omega))
 have dG:=hide al
 have cf:=hide (ak.out.at ce.out)
 have eD:=cf.out.b.cell
 have am:=hide (F.out.trans (ce.out.mono F.out.size))
 obtain⟨eE,cg,dH⟩:=AV al
 subst dH
 clear cd
 first | refine y _ _ ⟨Reg.nm,?_⟩ | skip
 try clear y
 refine Reg.wI [10] [] rfl fun Qf y=>?_
 go_wp2_with fail
 first | refine y _ _ ⟨rfl,?_⟩ | refine⟨rfl,?_⟩ | refine y _ _ ⟨by simp [Reg.fineT,Reg.intOp,Region.wanted,yielded,Reg.intFine,Reg.isInt,Act.eval],?_⟩
 try clear y
 first | refine Reg.restI_end ?_ | skip
 have ch:0+p.states.length+p.messages.length+p.values.length=(AP p).length:=by simp only [AP,List.length_append]; omega
 have ci:[]++p.states.map (Bx · 0)++p.messages.map (Bx · 0)++p.values.map (Bx · 0)=Dl (AP p):=by simp [Dl,AP]
 rw [ch,ci] at al
 rw [show p.states.length+p.messages.length+p.values.length=(AP p).length by simp only [AP,List.length_append]]
 have eF:(AP p).length≤180:=by
  have:=G.out.states
  have:=G.out.messages
  have:=G.out.values
  omega
 have cj:=hide (Hj al (by omega)).2
 have eG:=Gr al
 have dI:=hide G.out.names
 have ck:=hide (show CB Ab (AP p)=Ah (nmE (AP p)) (List.range (AP p).length) from rfl)
 rw [aU.out] at ck
 have cm:=hide (show CB Ab (AP p)=e0 from aU.out)
 clear al ch ci bq bt bv dG aU
 generalize AP p=L at*
 go_wp2_with fail
 go_loopw [4] (fun ii wr=>∃(k:Nat),ii=.int .i64 (k:Int)∧k≤L.length∧Hid (Ah (nmE L) (List.range k)=0)∧Hid (Below w6.heap.size w6 wr)) (fun ii _=>L.length - (intOf ii).toNat)
 case atStart=>exact⟨0,rfl,Nat.zero_le _,by show _=_; rfl,Below.refl _ _⟩
 case round=>
  obtain⟨k,rfl,hk,hE,a8⟩:=hrel
  by_cases b3:k<L.length
  ·obtain⟨b,aJ,s,hA,b4,bw,hc⟩:=cj.out.at b3
   have d0:=hc 0 (by omega)
   simp only [Nat.add_zero,Nat.mul_one,Bx] at d0
   have d1:=(a8.out.cell (p:=⟨b,aJ+k,none⟩) b4).trans d0
   have eI:=dI.out s (List.mem_of_getElem? bw)
   have bx:=hide bw
   subst hA
   clear hc bw
   cases b5:Ab s with
   | false=>
    have U:=hide b5
    clear b5
    have aL:=hide (show e0=2 from cm.out.symm.trans (ET b3 hE.out bx.out (.inl U.out)))
    go_wp2_with fail
    refine Reg.cI [0,0,3,7,15,31,63,127,127,511,127,127,3199,7295,16383,32767] [0,1,2,3,4,5,6,7,8,10,11,12,13,9,14,15] ?_
    refine Reg.wI [0,1,2,3] [4,5,6,7,8,10,11,12,13,9,14,15] rfl fun Qf y=>?_
    go_wp2_with fail
    first | refine y _ _ ⟨rfl,?_⟩ | refine⟨rfl,?_⟩ | refine y _ _ ⟨by simp [Reg.fineT,Reg.intOp,Region.wanted,yielded,Reg.intFine,Reg.isInt,Act.eval],?_⟩
    try clear y
    refine Reg.aI 4 [5,6,7,8,10,11,12,13,9,14,15] [] rfl fun Qf y=>?_
    simp only [gT,gS,gZ]
    go_wp2_with (go_at_call 32; refine Calls.ret (BK s _ (by omega)) ?_; rintro v w8 ⟨rfl,aa⟩; rw [U.out]; have a6:=hide (a8.out.trans (((Ap wr).trans aa).mono a8.out.size)); have d8:=(a6.out.cell (p:=⟨b,aJ+k,none⟩) b4).trans d0)
    first | refine y _ _ ⟨Reg.nm,?_⟩ | refine⟨Reg.nm,?_⟩
    try clear y
    clear aa
    refine Reg.wI [5,6,7,8,10,11,12,13] [9,14,15] rfl fun Qf y=>?_
    go_wp2_with fail
    first | refine y _ _ ⟨rfl,?_⟩ | refine⟨rfl,?_⟩ | refine y _ _ ⟨by simp [Reg.fineT,Reg.intOp,Region.wanted,yielded,Reg.intFine,Reg.isInt,Act.eval],?_⟩
    try clear y
    refine Reg.aI 9 [14,15] [13] rfl fun Qf y=>?_
    simp only [gT,gS,gZ]
    go_wp2_with fail
    first | refine y _ _ ⟨Reg.same_below (Below.refl _ _) [13] rfl,?_⟩ | refine⟨Reg.same_below (Below.refl _ _) [13] rfl,?_⟩
    try clear y
    refine Reg.aI 14 [15] [] rfl fun Qf y=>?_
    simp only [gT,gS,gZ]
    go_wp2_with fail
    first | refine y _ _ ⟨Reg.nm,?_⟩ | refine⟨Reg.nm,?_⟩
    try clear y
    refine Reg.wI [15] [] rfl fun Qf y=>?_
    go_wp2_with fail
    first | refine y _ _ ⟨rfl,?_⟩ | refine⟨rfl,?_⟩ | refine y _ _ ⟨by simp [Reg.fineT,Reg.intOp,Region.wanted,yielded,Reg.intFine,Reg.isInt,Act.eval],?_⟩
    try clear y
    first | refine Reg.restI_end ?_ | skip
    go_wp2_with fail
    go_ret
    exact⟨congrArg (Value.int .i64) (V.out.trans (by rw [aL.out]; exact pv5 H2.out H3.out H4.out rfl)).symm,am.out.trans (a6.out.mono am.out.size)⟩
   | true=>
    have U:=hide b5
    clear b5
    have cq:(L.take k).length=k:=by rw [List.length_take]; omega
    have dK:=hide cq
    clear cq
    have cr:Hid (∀I,Hid (Below w6.heap.size w6 I)→Hid (Calls Tryz.prog 53 #[.slice (some ⟨b,aJ,none⟩) k cg,.string s] I fun r w'=>r=.returned (.bool (decide (s∈L.take k)))∧I=w')):=hide (fun I hx=>by
     have C:=(cj.out.keep (w':=I) (B':=w6.heap.size) (fun _ M=>hx.out.cell M) (Nat.le_refl _)).takeS k
     have h2:=GY (c:=cg) (x:=s) C
     rw [dK.out] at h2
     exact h2)
    by_cases hm:s∈L.take k
    ·have bz:=hide hm
     have bA:=hide (show decide (s∈L.take k)=true from decide_eq_true hm)
     clear hm
     have aL:=hide (show e0=2 from cm.out.symm.trans (ET b3 hE.out bx.out (.inr bz.out)))
     go_wp2_with fail
     refine Reg.cI [0,0,3,7,15,31,63,127,127,511,127,127,3199,7295,16383,32767] [0,1,2,3,4,5,6,7,8,10,11,12,13,9,14,15] ?_
     refine Reg.wI [0,1,2,3] [4,5,6,7,8,10,11,12,13,9,14,15] rfl fun Qf y=>?_
     go_wp2_with fail
     first | refine y _ _ ⟨rfl,?_⟩ | refine⟨rfl,?_⟩ | refine y _ _ ⟨by simp [Reg.fineT,Reg.intOp,Region.wanted,yielded,Reg.intFine,Reg.isInt,Act.eval],?_⟩
     try clear y
     refine Reg.aI 4 [5,6,7,8,10,11,12,13,9,14,15] [] rfl fun Qf y=>?_
     simp only [gT,gS,gZ]
     go_wp2_with (go_at_call 32; refine Calls.ret (BK s _ (by omega)) ?_; rintro v w8 ⟨rfl,aa⟩; rw [U.out]; have a6:=hide (a8.out.trans (((Ap wr).trans aa).mono a8.out.size)); have d8:=(a6.out.cell (p:=⟨b,aJ+k,none⟩) b4).trans d0)
     first | refine y _ _ ⟨Reg.nm,?_⟩ | refine⟨Reg.nm,?_⟩
     try clear y
     clear aa
     refine Reg.wI [5,6,7,8,10,11,12,13] [9,14,15] rfl fun Qf y=>?_
     go_wp2_with fail
     first | refine y _ _ ⟨rfl,?_⟩ | refine⟨rfl,?_⟩ | refine y _ _ ⟨by simp [Reg.fineT,Reg.intOp,Region.wanted,yielded,Reg.intFine,Reg.isInt,Act.eval],?_⟩
     try clear y
     refine Reg.aI 9 [14,15] [13] rfl fun Qf y=>?_
     simp only [gT,gS,gZ]
     go_wp2_with fail
     first | refine y _ _ ⟨Reg.same_below (Below.refl _ _) [13] rfl,?_⟩ | refine⟨Reg.same_below (Below.refl _ _) [13] rfl,?_⟩
     try clear y
     refine Reg.aI 14 [15] [] rfl fun Qf y=>?_
     simp only [gT,gS,gZ]
     go_wp2_with (go_at_call 53; refine(cr.out _ a6).out.mono ?_; rintro r w' ⟨rfl,rfl⟩; rw [bA.out])
     first | refine y _ _ ⟨Reg.nm,?_⟩ | refine⟨Reg.nm,?_⟩
     try clear y
     refine Reg.wI [15] [] rfl fun Qf y=>?_
     go_wp2_with fail
     first | refine y _ _ ⟨rfl,?_⟩ | refine⟨rfl,?_⟩ | refine y _ _ ⟨by simp [Reg.fineT,Reg.intOp,Region.wanted,yielded,Reg.intFine,Reg.isInt,Act.eval],?_⟩
     try clear y
     first | refine Reg.restI_end ?_ | skip
     go_wp2_with fail
     go_ret
     exact⟨congrArg (Value.int .i64) (V.out.trans (by rw [aL.out]; exact pv5 H2.out H3.out H4.out rfl)).symm,am.out.trans (a6.out.mono am.out.size)⟩
    ·have bz:=hide hm
     have bA:=hide (show decide (s∈L.take k)=false from decide_eq_false hm)
     clear hm
     have bB:=hide (G8 b3 hE.out bx.out U.out bz.out)
     go_wp2_with fail
     refine Reg.cI [0,0,3,7,15,31,63,127,127,511,127,127,3199,7295,16383,32767] [0,1,2,3,4,5,6,7,8,10,11,12,13,9,14,15] ?_
     refine Reg.wI [0,1,2,3] [4,5,6,7,8,10,11,12,13,9,14,15] rfl fun Qf y=>?_
     go_wp2_with fail
     first | refine y _ _ ⟨rfl,?_⟩ | refine⟨rfl,?_⟩ | refine y _ _ ⟨by simp [Reg.fineT,Reg.intOp,Region.wanted,yielded,Reg.intFine,Reg.isInt,Act.eval],?_⟩
     try clear y
     refine Reg.aI 4 [5,6,7,8,10,11,12,13,9,14,15] [] rfl fun Qf y=>?_
     simp only [gT,gS,gZ]
     go_wp2_with (go_at_call 32; refine Calls.ret (BK s _ (by omega)) ?_; rintro v w8 ⟨rfl,aa⟩; rw [U.out]; have a6:=hide (a8.out.trans (((Ap wr).trans aa).mono a8.out.size)); have d8:=(a6.out.cell (p:=⟨b,aJ+k,none⟩) b4).trans d0)
     first | refine y _ _ ⟨Reg.nm,?_⟩ | refine⟨Reg.nm,?_⟩
     try clear y
     clear aa
     refine Reg.wI [5,6,7,8,10,11,12,13] [9,14,15] rfl fun Qf y=>?_
     go_wp2_with fail
     first | refine y _ _ ⟨rfl,?_⟩ | refine⟨rfl,?_⟩ | refine y _ _ ⟨by simp [Reg.fineT,Reg.intOp,Region.wanted,yielded,Reg.intFine,Reg.isInt,Act.eval],?_⟩
     try clear y
     refine Reg.aI 9 [14,15] [13] rfl fun Qf y=>?_
     simp only [gT,gS,gZ]
     go_wp2_with fail
     first | refine y _ _ ⟨Reg.same_below (Below.refl _ _) [13] rfl,?_⟩ | refine⟨Reg.same_below (Below.refl _ _) [13] rfl,?_⟩
     try clear y
     refine Reg.aI 14 [15] [] rfl fun Qf y=>?_
     simp only [gT,gS,gZ]
     go_wp2_with (go_at_call 53; refine(cr.out _ a6).out.mono ?_; rintro r w' ⟨rfl,rfl⟩; rw [bA.out])
     first | refine y _ _ ⟨Reg.nm,?_⟩ | refine⟨Reg.nm,?_⟩
     try clear y
     refine Reg.wI [15] [] rfl fun Qf y=>?_
     go_wp2_with fail
     first | refine y _ _ ⟨rfl,?_⟩ | refine⟨rfl,?_⟩ | refine y _ _ ⟨by simp [Reg.fineT,Reg.intOp,Region.wanted,yielded,Reg.intFine,Reg.isInt,Act.eval],?_⟩
     try clear y
     first | refine Reg.restI_end ?_ | skip
     go_wp2_with fail
     exact⟨⟨k+1,by go_num,by omega,bB.out,a6.out⟩,by simp [intOf]; omega⟩
  ·have ct:=hide (show e0=0 from by
    have C:=hE.out
    rw [show k=L.length by omega] at C
    exact ck.out.trans C)
   have cu:=hide (cf.out.at a8.out)
   have eJ:=cu.out.b.cell
   have bC:=hide (am.out.trans (a8.out.mono am.out.size))
   clear hE
   obtain⟨cw,dL⟩:∃x,x=wr:=⟨_,rfl⟩
   subst dL
   by_cases dM:(0:Int)<(nl:Int)
   case pos=>
    go_wp2_with fail
    go_ret
    exact⟨congrArg (Value.int .i64) (V.out.trans (pv6 H2.out H3.out H4.out (by rw [ct.out]; rfl) (by have:=aS.out; omega))).symm,bC.out⟩
   have hR:=hide (V.out.trans (pv7 H2.out H3.out H4.out (by rw [ct.out]; rfl) (by have:=aS.out; omega)))
   go_wp2_with fail
   clear dM
   go_loopw [5] (fun ii wr=>∃(k:Nat),ii=.int .i64 (k:Int)∧k≤nr∧Hid (Below cw.heap.size cw wr)∧Hid ((p.res.take k).all AR=true)) (fun ii _=>nr - (intOf ii).toNat)
   case atStart=>exact⟨0,rfl,Nat.zero_le _,Below.refl _ _,by show _=_; simp⟩
   case round=>
    obtain⟨k2,rfl,eK,b6,bD⟩:=hrel
    have bE:=hide (cu.out.at b6.out)
    have eL:=bE.out.b.cell
    have W:=hide (bC.out.trans (b6.out.mono bC.out.size))
    by_cases eM:k2<nr
    ·obtain⟨b2,cy,l,dN,eN,hl,cA⟩:=(di.out.keep (w':=wr) (B':=w.heap.size) (fun _ M=>W.out.cell M) (Nat.le_refl _)).at (k:=k2) (by have:=O.out.1; omega)
     have eO:(loadCellsFrom ⟨b2,cy+k2*4,none⟩ 0 4 #[]).run Tryz.prog wr=.ok #[.int .i64 l.c,.int .i64 l.n,.int .i64 l.t,.int .i64 l.f] wr:=by
      have:=run_loadCells_list (P:=Tryz.prog) wr ⟨b2,cy+k2*4,none⟩ [.int .i64 l.c,.int .i64 l.n,.int .i64 l.t,.int .i64 l.f] (fun j v E=>by
       rw [Addr.add_mid]
       have hj:=AO E
       rw [cA j hj]
       match j,hj,E with
       | 0,_,E=>exact congrArg some (Option.some.inj E)
       | 1,_,E=>exact congrArg some (Option.some.inj E)
       | 2,_,E=>exact congrArg some (Option.some.inj E)
       | 3,_,E=>exact congrArg some (Option.some.inj E))
      simpa [loadCells] using this
     have cD:=hide hl
     subst dN
     clear cA hl
     go_wp2_with fail
     cases E:AR l
     ·have ao:=hide (show p.res.all AR=false from by
       rw [List.all_eq_false]
       exact⟨l,List.mem_of_getElem? cD.out,by rw [E]; decide⟩)
      refine Calls.ret (FS l _) ?_; rintro v w9 ⟨rfl,z⟩; rw [E]; have J:=hide (W.out.trans (z.mono W.out.size)); clear z; go_wp2_with fail
      go_ret
      refine⟨congrArg (Value.int .i64) (hR.out.trans ?_).symm,J.out⟩
      unfold Di
      rw [ao.out]
      rfl
     ·have ao:=hide (BP (p:=AR) cD.out bD.out E)
      refine Calls.ret (FS l _) ?_; rintro v w9 ⟨rfl,z⟩; rw [E]; have dO:=hide (b6.out.trans (z.mono b6.out.size)); clear z; go_wp2_with fail
      exact⟨⟨k2+1,by go_num,by omega,dO.out,ao.out⟩,by simp [intOf]; omega⟩
    ·have ao:=hide (show p.res.all AR=true from by
      have C:=O.out.1
      have h2:=bD.out
      rwa [List.take_of_length_le (by omega)] at h2)
     have cE:=hide (show At Ab p=orE (Aa p.initial (ns:Int)) (orE (Ac (decide (ni=0)) 1) (orE (Aa p.leader (ns:Int)) (BW p))) from by
      rw [hR.out]
      obtain⟨-,-,-,-,e5,e6,-⟩:=O.out
      unfold Di BW
      rw [ao.out,Bn,e5,e6]
      rfl)
     clear ao bD
     go_wp2_with fail
     obtain⟨ei,aN⟩:∃e,Hid (Aa p.initial (ns:Int)=e):=⟨_,rfl⟩
     by_cases ap:ei=0
     case neg=>
      have Qi:(ei != 0)=true:=by simp [ap]
      have Hi:=hide ap
      clear ap
      refine Calls.ret (bo _ W.out) ?_; rintro v w9 ⟨rfl,z⟩; rw [aN.out]; have J:=hide (W.out.trans (z.mono W.out.size)); clear z; go_wp2_with fail
      go_ret
      exact⟨congrArg (Value.int .i64) (cE.out.trans (by rw [aN.out]; exact Bz Hi.out)).symm,J.out⟩
     have Qi:(ei != 0)=false:=by simp [ap]
     have Hi:=hide ap
     clear ap
     have cG:=hide (show At Ab p=orE (Ac (decide (ni=0)) 1) (orE (Aa p.leader (ns:Int)) (BW p)) from cE.out.trans (by rw [aN.out,Hi.out]; rfl))
     by_cases aq:ni=0
     case pos=>
      have Qn:((ni:Int)==0)=true:=by simp [aq]
      have Hn:=hide aq
      clear aq
      refine Calls.ret (bo _ W.out) ?_; rintro v w9 ⟨rfl,z⟩; rw [aN.out]; have af:=hide (bE.out.at z); have dP:=af.out.b.cell; have dQ:=Am af.out.b ai.out; have J:=hide (W.out.trans (z.mono W.out.size)); clear z; go_wp2_with fail
      go_ret
      exact⟨congrArg (Value.int .i64) (cG.out.trans (by rw [decide_eq_true Hn.out]; rfl)).symm,J.out⟩
     have Qn:((ni:Int)==0)=false:=by simp [aq]
     have Hn:=hide aq
     clear aq
     have cJ:=hide (show At Ab p=orE (Aa p.leader (ns:Int)) (BW p) from cG.out.trans (by rw [decide_eq_false Hn.out]; rfl))
     refine Calls.ret (bo _ W.out) ?_; rintro v w9 ⟨rfl,z⟩; rw [aN.out]; have af:=hide (bE.out.at z); have dP:=af.out.b.cell; have dQ:=Am af.out.b ai.out; have J:=hide (W.out.trans (z.mono W.out.size)); clear z; go_wp2_with fail
     obtain⟨el,b7⟩:∃e,Hid (Aa p.leader (ns:Int)=e):=⟨_,rfl⟩
     by_cases ar:el=0
     case neg=>
      have Ql:(el != 0)=true:=by simp [ar]
      have Hl:=hide ar
      clear ar
      refine Calls.ret (bZ _ J.out) ?_; rintro v wa ⟨rfl,ag⟩; rw [b7.out]; have au:=hide (af.out.at ag); have dR:=au.out.b.cell; have dS:=Am au.out.b ai.out; have av:=hide (J.out.trans (ag.mono J.out.size)); clear ag; go_wp2_with fail
      go_ret
      exact⟨congrArg (Value.int .i64) (cJ.out.trans (by rw [b7.out]; exact Bz Hl.out)).symm,av.out⟩
     have Ql:(el != 0)=false:=by simp [ar]
     have Hl:=hide ar
     clear ar
     have cL:=hide (show At Ab p=BW p from cJ.out.trans (by rw [b7.out,Hl.out]; rfl))
     refine Calls.ret (bZ _ J.out) ?_; rintro v wa ⟨rfl,ag⟩; rw [b7.out]; have au:=hide (af.out.at ag); have dR:=au.out.b.cell; have dS:=Am au.out.b ai.out; have av:=hide (J.out.trans (ag.mono J.out.size)); clear ag; go_wp2_with fail
     clear Qi Qn Ql
     go_loopw [8] (fun ii wr=>∃(k:Nat),ii=.int .i64 (k:Int)∧k≤nu∧Hid (Below wa.heap.size wa wr)∧Hid (Ah (Bu Ab p) (List.range k)=0)) (fun ii _=>nu - (intOf ii).toNat)
     case atStart=>exact⟨0,rfl,Nat.zero_le _,Below.refl _ _,by show _=_; rfl⟩
     case round=>
      obtain⟨k4,rfl,eP,aw,b8⟩:=hrel
      have aO:=hide (au.out.at aw.out)
      have eQ:=aO.out.b.cell
      have eR:=Am aO.out.b ai.out
      have b9:=hide (av.out.trans (aw.out.mono av.out.size))
      by_cases eS:k4<nu
      ·obtain⟨e9,bb⟩:∃e,Hid (Bu Ab p k4=e):=⟨_,rfl⟩
       have bL:=hide (H8 (cs:=pc.toList) (i:=k4) aO.out.pr (by have:=O.out.2.2.2.2.2.2; omega) G.out aO.out.tab)
       rw [bb.out] at bL
       have cM:=hide (show(List.range p.rules.length)[k4]?=some k4 from by rw [List.getElem?_range (by have:=O.out.2.2.2.2.2.2; omega)])
       have cO:=hide (show(List.range p.rules.length).take k4=List.range k4 from by rw [List.take_range,Nat.min_eq_left (by have:=O.out.2.2.2.2.2.2; omega)])
       go_wp2_with fail
       by_cases h0:e9=0
       ·have hq:(e9 != 0)=false:=by simp [h0]
        have bB:=hide (show Ah (Bu Ab p) (List.range (k4+1))=0 from by
         have C:=Cq (Bu Ab p) cM.out (by rw [cO.out]; exact b8.out)
         rw [List.take_range,Nat.min_eq_left (by have:=O.out.2.2.2.2.2.2; omega)] at C
         rw [C,bb.out,h0])
        clear h0
        refine Calls.ret bL.out ?_; rintro v w9 ⟨rfl,z⟩; have bM:=hide (aw.out.trans (z.mono aw.out.size)); clear z; go_wp2_with fail
        exact⟨⟨k4+1,by go_num,by omega,bM.out,bB.out⟩,by simp [intOf]; omega⟩
       ·have hq:(e9 != 0)=true:=by simp [h0]
        have aL:=hide (show At Ab p=e9 from by
         have C:=Cd (Bu Ab p) cM.out (by rw [cO.out]; exact b8.out) (by rw [bb.out]; exact h0)
         rw [cL.out]
         unfold BW
         rw [C,bb.out,Bz h0])
        clear h0
        refine Calls.ret bL.out ?_; rintro v w9 ⟨rfl,z⟩; have bM:=hide (aw.out.trans (z.mono aw.out.size)); clear z; go_wp2_with fail
        go_ret
        exact⟨congrArg (Value.int .i64) aL.out.symm,av.out.trans (bM.out.mono av.out.size)⟩
      ·obtain⟨nt,bN⟩:∃n,n=(BH p.rules).length:=⟨_,rfl⟩
       have cQ:=hide (show At Ab p=Ac (decide (3<nt)) 4 from by
        have C:=b8.out
        rw [show k4=p.rules.length by have:=O.out.2.2.2.2.2.2; omega] at C
        rw [cL.out,bN]
        unfold BW
        rw [C,BI])
       have bO:=hide (J2 (cs:=pc.toList) aO.out.pr G.out)
       rw [←bN] at bO
       have eT:nt≤1800:=by
        have C:=Ez p.rules (fun r hr=>(G.out.rule r hr).1.2.1)
        have h2:=G.out.rules
        omega
       clear bN b8
       go_wp2_with fail
       by_cases cR:3<nt
       ·have G3:(3:Int)<(nt:Int):=by omega
        refine Calls.ret bO.out ?_; rintro v w9 ⟨aQ,z⟩; obtain⟨Av,cv,E⟩:=AV aQ; subst E; have J:=hide (b9.out.trans (z.mono b9.out.size)); clear aQ z; go_wp2_with fail
        go_ret
        exact⟨congrArg (Value.int .i64) (cQ.out.trans (by rw [decide_eq_true cR]; rfl)).symm,J.out⟩
       ·have G3:¬(3:Int)<(nt:Int):=by omega
        refine Calls.ret bO.out ?_; rintro v w9 ⟨aQ,z⟩; obtain⟨Av,cv,E⟩:=AV aQ; subst E; have J:=hide (b9.out.trans (z.mono b9.out.size)); clear aQ z; go_wp2_with fail
        go_ret
        exact⟨congrArg (Value.int .i64) (cQ.out.trans (by rw [decide_eq_false cR]; rfl)).symm,J.out⟩
end Go.Proofs.YtlakpndhhelliaaGreatDoor.K
