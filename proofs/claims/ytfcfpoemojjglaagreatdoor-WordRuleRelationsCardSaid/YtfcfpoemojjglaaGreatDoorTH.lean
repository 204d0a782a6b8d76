/-
  Part TH of a proof.
-/
import Derived.Test.YtfcfpoemojjglaaGreatDoorPA
import Derived.Test.YtfcfpoemojjglaaGreatDoorTF
import Derived.Test.YtfcfpoemojjglaaGreatDoorCI
set_option maxHeartbeats 16000000
set_option maxRecDepth 100000
set_option linter.unusedVariables false
set_option linter.unusedSimpArgs false
namespace Go.Proofs.YtfcfpoemojjglaaGreatDoor
open Go.RowKit
open K (Am Az At AW Fc BR Ah Du Dv)
attribute [-go_sem] loadCellsFrom storeCells
set_option maxHeartbeats 16000000
set_option maxRecDepth 100000
theorem YD {w:World} {cs:List Value} {p:Am} {r:Az} {n m cap i:Nat} {k:Int} {A:Option Addr} {l:List Int} (h:At w w.heap.size cs p) (ht:p.topo=2∨p.topo=3) (hr:p.rules[n]?=some r) (hR:WU p.topo p.states.length r) (cw:p.rules.length≤30) (hl:Sl w w.heap.size 1 Ai A l) (Z:m=l.length) (dI:m≤8) (an:l[i]?=some r.fr) (hk:-1≤k∧k<m) (h5:r.kind=4):
  Calls Tryz.prog 65 #[.agg cs.toArray,.agg #[.int .i64 (m:Int),.int .i64 0,.int .i64 0],.agg #[.slice none 0 0,.slice A m cap,.int .i64 (m:Int),.slice none 0 0,.slice none 0 0,.int .i64 0],.agg #[.int .i64 (n:Int),.int .i64 (i:Int),.int .i64 k],.bool false] w (Ret fun v w'=>(∃b,v=.bool b∧(b=true↔EnR p.topo r l i k))∧Below w.heap.size w w'):=by
 obtain⟨A1,c1,A2,c2,A3,c3,A4,c4,A5,c5,A6,c6,A7,c7,cx,q0,q1,q2,q3,q4,q5,q6,q7,q8,q9,-,-,-,-,-,-,h7,cl⟩:=h.cells
 have cu:=AP hr
 obtain⟨w1,dM,aL,bc,-⟩:=Ae w cs.toArray 27
 obtain⟨w2,dN,a4,cb,-⟩:=Ae w1 #[.int .i64 (m:Int),.int .i64 0,.int .i64 0] 44
 obtain⟨w3,dO,ai,bd,-⟩:=Ae w2 #[.slice none 0 0,.slice A m cap,.int .i64 (m:Int),.slice none 0 0,.slice none 0 0,.int .i64 0] 46
 obtain⟨C,dP,aj,ae,-⟩:=Ae w3 #[.int .i64 (n:Int),.int .i64 (i:Int),.int .i64 k] 63
 have aJ:=aL.trans (a4.mono aL.size)
 have aK:=aJ.trans (ai.mono aJ.size)
 have a7:=aK.trans (aj.mono aK.size)
 have V:=a7.trans ((Ap C).mono a7.size)
 have ag:=bc.below (a4.trans ((ai.mono a4.size).trans (aj.mono (a4.trans (ai.mono a4.size)).size)))
 have aD:=bd.below aj
 have aB:=ag.below (Ap C)
 have bk:=aD.below (Ap C)
 have ah:=ae.below (Ap C)
 obtain⟨bU,cz,aO,cc,-⟩:=Ae C #[.string ⟨#[]⟩,.int .i64 0,.int .i64 0,.int .i64 0,.int .i64 0,.int .i64 0,.slice none 0 0,.slice none 0 0,.slice none 0 0,.slice none 0 0,.int .i64 0,.int .i64 0,.slice none 0 0,.int .i64 0,.slice none 0 0,.slice none 0 0,.slice none 0 0,.int .i64 0] 99
 have ak:=aO.trans ((Ap bU).mono aO.size)
 have cf:=a7.trans (ak.mono a7.size)
 have cd:=ag.below ak
 have aF:=ae.below ak
 obtain⟨b,off,rc,c9,cj,hC,cm,bs⟩:=Du (h7.keep (w':=C.drew) (B':=w.heap.size) (R':=AW C.drew w.heap.size) (fun _ hp=>V.cell hp) (fun _ _ x=>x.keep (fun _ hp=>V.cell hp) (Nat.le_refl _)) (Nat.le_refl _)) hr
 subst c9
 obtain⟨E1,f1,E2,f2,E3,f3,E4,f4,E5,f5,E6,f6,E7,f7,E8,f8,⟨rz,r0,r1,r2,r3,r4,r5,r6,bN,r8,r9,b6,bI,bJ,aq,au,av,ac,aw⟩,⟨s1,s2,s3,s4,s5,s6,s7,s8⟩⟩:=K.AW.cells hC.is
 simp only [Array.toArray_toList] at rz r0 r1 r2 r3 r4 r5 r6 bN r8 r9 b6 bI bJ aq au av ac aw
 obtain⟨F,cA,W,be,-⟩:=Ae C.drew rc 99
 have aZ:=Dv C.drew 99 18 (by kernel_rfl) rz hC.one #[.string ⟨#[]⟩,.int .i64 0,.int .i64 0,.int .i64 0,.int .i64 0,.int .i64 0,.slice none 0 0,.slice none 0 0,.slice none 0 0,.slice none 0 0,.int .i64 0,.int .i64 0,.slice none 0 0,.int .i64 0,.slice none 0 0,.slice none 0 0,.slice none 0 0,.int .i64 0] rfl
 rw [cA] at aZ
 have dL:(storeCells ⟨C.heap.size,0,none⟩ rc.toList 0).run Tryz.prog bU.drew=.ok () F:=by rw [←cz]; exact aZ
 have a8:=V.trans (W.mono V.size)
 have I:Blk F.drew C.heap.size 99 rc:=be.below (Ap F)
 have aE:=(bk.below W).below (Ap F)
 have aC:=(aB.below W).below (Ap F)
 have de:=aF.cell 1
 have df:=aF.cell 2
 have db:=(ah.below W).cell 1
 have dc:=(ah.below W).cell 2
 have bX:=(ag.cell 9).trans q9
 have bY:=(aB.cell 9).trans q9
 have du:=aD.cell
 have dv:=ae.cell
 have dw:=ah.cell
 have dC:=aE.cell
 have g11:=(aC.cell 1).trans q1
 have k1:=(I.cell 1).trans r1
 have k2:=(I.cell 2).trans r2
 have k4:=(I.cell 4).trans r4
 have cD:=(I.cell 10).trans b6
 have cE:=(I.cell 13).trans aq
 have dR:=(I.cell 14).trans au
 have dS:=(I.cell 15).trans av
 have dT:=(I.cell 16).trans ac
 have dU:=(I.cell 17).trans aw
 have hi:i<m:=by rw [Z]; exact AP an
 have bp:i<l.length:=by omega
 have cv:∀{d:List Int} {x:Int},x<l.length→x<l.length:=fun h=>h
 obtain⟨al,aG⟩:∃b,b=Sb l r.left (AN (decide (p.topo=3)) m i):=⟨_,rfl⟩
 obtain⟨ar,aH⟩:∃b,b=Sb l r.right (Ar (decide (p.topo=3)) m i):=⟨_,rfl⟩
 have bo:AN (decide (p.topo=3)) m i<l.length∧-1≤AN (decide (p.topo=3)) m i:=by unfold AN; split <;> (try split) <;> omega
 have bz:Ar (decide (p.topo=3)) m i<l.length∧-1≤Ar (decide (p.topo=3)) m i:=by unfold Ar; split <;> (try split) <;> omega
 have ay:r.kind≠5:=by omega
 have O:EnR p.topo r l i k↔k= -1∧(r.at_=1→i=0)∧(r.at_=2→p.topo=2→Ar (decide (p.topo=3)) m i= -1)∧(al=true∧ar=true):=by
  rw [aG,aH,Z]
  exact⟨fun J=>by obtain⟨a,b,c,d,e⟩:=J.loc ay; exact⟨a,b,c,d,e⟩,fun⟨a,b,c,d,e⟩=>⟨bp,an,fun h=>absurd h ay,fun _=>⟨a,b,c,d,e⟩⟩⟩
 have aT:(k≠-1∧Hid (¬EnR p.topo r l i k))∨(k= -1∧r.at_=1∧i≠0∧Hid (¬EnR p.topo r l i k))∨(k= -1∧r.at_=2∧p.topo=2∧Ar (decide (p.topo=3)) m i≠-1∧Hid (¬EnR p.topo r l i k))∨
   (k= -1∧r.at_=1∧i=0∧Hid (EnR p.topo r l i k↔(al=true∧ar=true)))∨(k= -1∧r.at_=2∧p.topo=2∧Ar (decide (p.topo=3)) m i= -1∧Hid (EnR p.topo r l i k↔(al=true∧ar=true)))∨(k= -1∧r.at_≠1∧r.at_≠2∧Hid (EnR p.topo r l i k↔(al=true∧ar=true))):=by
  by_cases h0:k= -1
  ·by_cases h1:r.at_=1
   ·by_cases G:i=0
    ·exact .inr (.inr (.inr (.inl ⟨h0,h1,G,hide ⟨fun h=>(O.1 h).2.2.2,fun h=>O.2 ⟨h0,fun _=>G,fun h=>by omega,h⟩⟩⟩)))
    ·exact .inr (.inl ⟨h0,h1,G,hide fun h=>G ((O.1 h).2.1 h1)⟩)
   ·by_cases G:r.at_=2
    ·have b0:p.topo=2:=by
      rcases ht with ht | ht
      ·exact ht
      ·have:=hR.at_ h5 ht; omega
     by_cases h3:Ar (decide (p.topo=3)) m i= -1
     ·exact .inr (.inr (.inr (.inr (.inl ⟨h0,G,b0,h3,hide ⟨fun h=>(O.1 h).2.2.2,fun h=>O.2 ⟨h0,fun h=>by omega,fun _ _=>h3,h⟩⟩⟩))))
     ·exact .inr (.inr (.inl ⟨h0,G,b0,h3,hide fun h=>h3 ((O.1 h).2.2.1 G b0)⟩))
    ·exact .inr (.inr (.inr (.inr (.inr ⟨h0,h1,G,hide ⟨fun h=>(O.1 h).2.2.2,fun h=>O.2 ⟨h0,fun h=>by omega,fun h=>by omega,h⟩⟩⟩))))
  ·exact .inl ⟨h0,hide fun h=>h0 (O.1 h).1⟩
 have ap:∀y,Below C.drew.heap.size C.drew y→Sl y y.heap.size 1 Ai E6 r.left∧Sl y y.heap.size 1 Ai E7 r.right∧Sl y y.heap.size 1 Ai E8 r.parent∧Sl y y.heap.size 1 Ai A l:=fun y M=>by
  have bB:=V.trans (M.mono V.size)
  have b4:=V.size
  have dQ:=M.size
  exact⟨s6.keep (fun q E=>M.cell (Nat.lt_of_lt_of_le E b4)) (by omega),s7.keep (fun q E=>M.cell (Nat.lt_of_lt_of_le E b4)) (by omega),s8.keep (fun q E=>M.cell (Nat.lt_of_lt_of_le E b4)) (by omega),hl.keep (fun q E=>bB.cell E) bB.size⟩
 have bv:Hid (∀y,Below C.drew.heap.size C.drew y→Calls Tryz.prog 109 #[.agg #[.slice none 0 0,.slice A m cap,.int .i64 (m:Int),.slice none 0 0,.slice none 0 0,.int .i64 0],.slice E6 r.left.length f6,.int .i64 (AN (decide (p.topo=3)) m i)] y (Ret fun v w'=>v=.bool al∧Below y.heap.size y w')):=hide fun y M=>by
  obtain⟨g1,-,-,g4⟩:=ap y M
  rw [aG]
  exact Xi g4 Z g1 bo.1 (by omega)
 have bw:Hid (∀y,Below C.drew.heap.size C.drew y→Calls Tryz.prog 109 #[.agg #[.slice none 0 0,.slice A m cap,.int .i64 (m:Int),.slice none 0 0,.slice none 0 0,.int .i64 0],.slice E7 r.right.length f7,.int .i64 (Ar (decide (p.topo=3)) m i)] y (Ret fun v w'=>v=.bool ar∧Below y.heap.size y w')):=hide fun y M=>by
  obtain⟨-,g2,-,g4⟩:=ap y M
  rw [aH]
  exact Xi g4 Z g2 bz.1 (by omega)
 have cy:Hid (∀y,Below C.drew.heap.size C.drew y→Calls Tryz.prog 109 #[.agg #[.slice none 0 0,.slice A m cap,.int .i64 (m:Int),.slice none 0 0,.slice none 0 0,.int .i64 0],.slice E8 0 f8,.int .i64 (-1)] y (Ret fun v w'=>v=.bool true∧Below y.heap.size y w')):=hide fun y M=>by
  obtain⟨-,-,g3,g4⟩:=ap y M
  have bu:r.parent.length=0:=by rw [hR.parent]; rfl
  have:=Xi (c:=f8) (cap:=cap) g4 Z g3 (who:=-1) (by omega) (by omega)
  rw [bu,show Sb l r.parent (-1)=true by unfold Sb; rw [bu]; rfl] at this
  exact this
 rw [show r.parent.length=0 by rw [hR.parent]; rfl] at ac
 have cS:=hide au
 have cT:=hide av
 have cU:=hide ac
 have bK:=hide aq
 have am:=hide W
 generalize EnR p.topo r l i k=EE at*
 have bq:K.inC (n:Int) 0 ((p.rules.length:Int) - 1)=true:=by simp [K.inC]; omega
 have co:K.inC (i:Int) 0 ((m:Int) - 1)=true:=by simp [K.inC]; omega
 have aW:=hl.keep (w':=F.drew) (B':=w.heap.size) (fun _ hp=>(a8.trans ((Ap F).mono a8.size)).cell hp) (Nat.le_refl _)
 obtain⟨bl,ol,y0,ca,ck,bC,bn⟩:=aW.at (k:=i) (by rw [←Z]; exact hi)
 subst ca
 have cB:y0=r.fr:=Option.some.inj (bC.symm.trans an)
 subst cB
 have ci:F.drew.cell? ⟨bl,ol+i,none⟩=some (.int .i64 r.fr):=by
  have:=bn 0 (by decide)
  rwa [Nat.mul_one,Nat.add_zero] at this
 have aX:Hid (Calls Tryz.prog 101 #[.int .i64 p.topo,.slice none 0 0,.int .i64 (m:Int),.int .i64 (i:Int)] F.drew (Ret fun v w'=>Below F.drew.heap.size F.drew w'∧v=.tuple #[.int .i64 (AN (decide (p.topo=3)) m i),.int .i64 (Ar (decide (p.topo=3)) m i),.int .i64 (-1)])):=by
  rcases ht with ht | ht
  ·rw [ht]; exact hide (XV hi (by omega))
  ·rw [ht]; exact hide (XW hi (by omega))
 have bj:=hide aE
 have ce:=hide aC
 have bg:=hide I
 have ct:=hide aW
 have aS:=hide (a8.trans ((Ap F).mono a8.size))
 obtain⟨nr,bt⟩:∃x,x=p.rules.length:=⟨_,rfl⟩
 rw [←bt] at bq cu cw bX bY
 obtain⟨tp,bA⟩:∃x,x=p.topo:=⟨_,rfl⟩
 rw [←bA] at g11 aX aT bv bw
 generalize AN (decide (tp=3)) m i=fs at*
 generalize Ar (decide (tp=3)) m i=sc at*
 have dX:=hide r4
 have dV:=hide aw
 have bF:=hide r1
 rw [h5] at k1 bF
 rw [hR.rd] at cD
 have dH:(loadCellsFrom ⟨b,off+n*18,none⟩ 0 18 #[]).run Tryz.prog C.drew=.ok rc C.drew:=bs
 have dJ:(n:Int)<(nr:Int):=by omega
 have dF:(i:Int)<(m:Int):=by omega
 clear h h7 hC cm bs hr hR hl Z aW bn aL a4 ai aj W aJ aK a7 V a8 bc cb bd ae be I ag aD aB bk ah aE aC cd aF aO ak cf cc aZ q0 q1 q2 q3 q4 q5 q6 q7 q8 q9 r0 r1 r2 r3 r4 r5 r6 bN r8 r9 b6 bI bJ aq au av ac aw s1 s2 s3 s4 s5 s6 s7 s8 cl cj ck bC an bt bA ht cx h5 aG aH bo bz ay O ap bp cv
 generalize cs.toArray=pc at*
 have c8:=hide g11
 generalize r.left.length=nl at*
 generalize r.right.length=nq at*
 obtain⟨za,bE⟩:∃x,x=r.at_:=⟨_,rfl⟩
 rw [←bE] at aT bK cE
 have cF:r.kind=4→True:=fun _=>trivial
 clear bE cF
 rcases aT with⟨br,J⟩ | ⟨rfl,rfl,ao,J⟩ | ⟨rfl,rfl,rfl,bx,J⟩ | ⟨rfl,rfl,ao,J⟩ | ⟨rfl,rfl,rfl,rfl,J⟩ | ⟨rfl,h1,G,J⟩
 case' inl=>have dG:(k != -1)=true:=(by simp [br]); clear br
 case' inr.inl=>have cn:((i:Int) != 0)=true:=(by simp; omega); clear ao
 case' inr.inr.inl=>have dK:(sc != -1)=true:=(by simp [bx]); clear bx
 case' inr.inr.inr.inl=>have cn:((i:Int) != 0)=false:=(by simp [ao]); clear ao
 case' inr.inr.inr.inr.inr=>have dD:(za==1)=false:=(by simp [h1]); have dE:(za==2)=false:=(by simp [G]); clear h1 G
 all_goals
  go_enter Tryz.func65,Tryz.ntmps65
  go_wp2_with fail
  refine Calls.mono (Kz _ _ _ _) ?_
  rintro e wb ⟨rfl,rfl⟩
  rw [bq]
  go_wp2_with fail
  refine Calls.mono (Kz _ _ _ _) ?_
  rintro e wb ⟨rfl,rfl⟩
  rw [co]
  go_wp2_with fail
  refine Reg.cC [0,1,0,4,15,31,0,64,0,256,0,1087,3327,8191] [0,1,2,3,4,5,6,7,8,9,10,11,12,13] ?_ (by kernel_rfl) (by repeat (first | exact Reg.NoQ.body (fun _ _ h=>h) (fun _ h=>h) | refine Reg.NoQ.then ?_ | refine Reg.NoQ.inBlock ?_))
  refine Reg.rest_walk' [0,1,2,3,4,5,6,7,8,9,10] [11,12,13] rfl (by kernel_rfl) ?_
  intro Qf U
  go_wp2_with fail
  first | refine U _ _ ?_ | skip
  try clear U
  refine Reg.rest_act' 11 [12,13] [7,9] rfl (by kernel_rfl) ?_
  intro Qf U
  try simp only [gT,gS,gZ]
  go_wp2_with fail
  first | refine U _ _ ⟨?_,?_⟩ | refine⟨?_,?_⟩
  ·intro z hz q E
   simp only [List.mem_cons,List.not_mem_nil,or_false] at hz
   rcases hz with rfl | rfl
   ·injection E with E
    subst E
    exact Reg.same_load1 rfl rfl (de) (db) Tryz.underlying3 rfl
   ·injection E with E
    subst E
    exact Reg.same_load1 rfl rfl (df) (dc) Tryz.underlying3 rfl
  try clear U
  refine Reg.rest_walk' [12,13] [] rfl (by kernel_rfl) ?_
  intro Qf U
  go_wp2_with fail
  first | refine U _ _ ?_ | skip
  try clear U
  first | refine Reg.rest_end ?_ | skip
  go_wp2_with fail
  refine Reg.cP [0,1,0,7,15,0,32,127,255,511,1023,2047,4095,8191,16383,8191,40959,131071,262143,524287] ?_
  go_wp2_with fail
  refine Calls.ret aX.out ?_
  rintro v w6 ⟨a5,rfl⟩
  have aP:=hide (aS.out.trans (a5.mono aS.out.size))
  have aM:=hide (((am.out.trans ((Ap F).mono am.out.size)).trans (a5.mono (am.out.trans ((Ap F).mono am.out.size)).size)))
  have af:=hide (bg.out.below a5)
  have bh:=hide (bj.out.below a5)
  have v1:=(af.out.cell 1).trans bF.out
  have d1:=(af.out.cell 13).trans bK.out
  have d2:=(af.out.cell 14).trans cS.out
  have d3:=(a5.cell (p:=⟨w.heap.size,1,none⟩) ce.out.lt).trans c8.out
  have cp:=Ah bh.out (n:=6) rfl
  clear a5 aX bj bg ct aS
  go_wp2_with fail
  try exact bodyPost_ret (v:=.bool false) (by simp [results,Tryz.results65,go_sem]) rfl ⟨⟨false,rfl,by simp [J.out]⟩,aP.out⟩
  all_goals
   refine Calls.ret (bv.out _ aM.out) ?_
   rintro v w7 ⟨rfl,a9⟩
   have aQ:=hide (aP.out.trans (a9.mono aP.out.size))
   have aN:=hide (aM.out.trans (a9.mono aM.out.size))
   have bf:=hide (af.out.below a9)
   have bi:=hide (bh.out.below a9)
   have d9:=(bf.out.cell 15).trans cT.out
   have cq:=Ah bi.out (n:=6) rfl
   clear a9 cp v1 d1 d2 d3
   cases al
   ·go_wp2_with fail
    exact bodyPost_ret (v:=.bool false) (by simp [results,Tryz.results65,go_sem]) rfl ⟨⟨false,rfl,by rw [J.out]; simp⟩,aQ.out⟩
   go_wp2_with fail
   refine Calls.ret (bw.out _ aN.out) ?_
   rintro v w8 ⟨rfl,aa⟩
   have aR:=hide (aQ.out.trans (aa.mono aQ.out.size))
   have cg:=hide (aN.out.trans (aa.mono aN.out.size))
   have da:=((bf.out.below aa).cell 16).trans cU.out
   have cr:=Ah (bi.out.below aa) (n:=6) rfl
   clear aa cq d9
   cases ar
   ·go_wp2_with fail
    exact bodyPost_ret (v:=.bool false) (by simp [results,Tryz.results65,go_sem]) rfl ⟨⟨false,rfl,by rw [J.out]; simp⟩,aR.out⟩
   go_wp2_with fail
   refine Calls.ret (cy.out _ cg.out) ?_
   rintro v w9 ⟨rfl,bm⟩
   have ch:=hide (aR.out.trans (bm.mono aR.out.size))
   clear bm cr da
   go_wp2_with fail
   exact bodyPost_ret (v:=.bool true) (by simp [results,Tryz.results65,go_sem]) rfl ⟨⟨true,rfl,by rw [J.out]; simp⟩,ch.out⟩
end Go.Proofs.YtfcfpoemojjglaaGreatDoor
