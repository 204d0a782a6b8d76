/-
  Part TG of a proof.
-/
import Derived.Test.YtfcfpoemojjglaaGreatDoorPA
import Derived.Test.YtfcfpoemojjglaaGreatDoorTF
import Derived.Test.YtfcfpoemojjglaaGreatDoorCI
set_option maxHeartbeats 16000000
set_option maxRecDepth 100000
set_option linter.unusedVariables false
set_option linter.unusedSimpArgs false
namespace Go.Proofs.YtfcfpoemojjglaaGreatDoor
open Go.RowKit
open K (Am Az At AW Fc BR Ah Du Dv)
attribute [-go_sem] loadCellsFrom storeCells
set_option maxHeartbeats 16000000
set_option maxRecDepth 100000
theorem YE {w:World} {cs:List Value} {p:Am} {r:Az} {n m cap i:Nat} {k:Int} {A:Option Addr} {l:List Int} (h:At w w.heap.size cs p) (ht:p.topo=2∨p.topo=3) (hr:p.rules[n]?=some r) (hR:WU p.topo p.states.length r) (bG:p.rules.length≤30) (hl:Sl w w.heap.size 1 Ai A l) (V:m=l.length) (cU:m≤8) (a7:l[i]?=some r.fr) (hk:-1≤k∧k<m) (J:r.kind=5):
    Calls Tryz.prog 65 #[.agg cs.toArray,.agg #[.int .i64 (m:Int),.int .i64 0,.int .i64 0],.agg #[.slice none 0 0,.slice A m cap,.int .i64 (m:Int),.slice none 0 0,.slice none 0 0,.int .i64 0],.agg #[.int .i64 (n:Int),.int .i64 (i:Int),.int .i64 k],.bool false] w (Ret fun v w'=>(∃b,v=.bool b∧(b=true↔EnR p.topo r l i k))∧Below w.heap.size w w'):=by
  obtain⟨A1,c1,A2,c2,A3,c3,A4,c4,A5,c5,A6,c6,A7,c7,bH,q0,q1,q2,q3,q4,q5,q6,q7,q8,q9,-,-,-,-,-,-,h7,bB⟩:=h.cells
  have bF:=AP hr
  obtain⟨w1,cX,aw,aQ,-⟩:=Ae w cs.toArray 27
  obtain⟨w2,cY,W,bt,-⟩:=Ae w1 #[.int .i64 (m:Int),.int .i64 0,.int .i64 0] 44
  obtain⟨w3,cZ,ad,aR,-⟩:=Ae w2 #[.slice none 0 0,.slice A m cap,.int .i64 (m:Int),.slice none 0 0,.slice none 0 0,.int .i64 0] 46
  obtain⟨G,d0,ae,aa,-⟩:=Ae w3 #[.int .i64 (n:Int),.int .i64 (i:Int),.int .i64 k] 63
  have au:=aw.trans (W.mono aw.size)
  have av:=au.trans (ad.mono au.size)
  have a4:=av.trans (ae.mono av.size)
  have a6:=a4.trans ((Ap G).mono a4.size)
  have ab:=aQ.below (W.trans ((ad.mono W.size).trans (ae.mono (W.trans (ad.mono W.size)).size)))
  have ap:=aR.below ae
  have ao:=ab.below (Ap G)
  have aV:=ap.below (Ap G)
  have ac:=aa.below (Ap G)
  obtain⟨bk,bI,ax,bu,-⟩:=Ae G #[.string ⟨#[]⟩,.int .i64 0,.int .i64 0,.int .i64 0,.int .i64 0,.int .i64 0,.slice none 0 0,.slice none 0 0,.slice none 0 0,.slice none 0 0,.int .i64 0,.int .i64 0,.slice none 0 0,.int .i64 0,.slice none 0 0,.slice none 0 0,.slice none 0 0,.int .i64 0] 99
  have af:=ax.trans ((Ap bk).mono ax.size)
  have bw:=a4.trans (af.mono a4.size)
  have bv:=ab.below af
  have ar:=aa.below af
  obtain⟨b,off,rc,br,bx,hC,bC,b5⟩:=Du (h7.keep (w':=G.drew) (B':=w.heap.size) (R':=AW G.drew w.heap.size) (fun _ hp=>a6.cell hp) (fun _ _ x=>x.keep (fun _ hp=>a6.cell hp) (Nat.le_refl _)) (Nat.le_refl _)) hr
  subst br
  obtain⟨E1,f1,E2,f2,E3,f3,E4,f4,E5,f5,E6,f6,E7,f7,E8,f8,⟨rz,r0,r1,r2,r3,r4,r5,r6,bg,r8,r9,aJ,bc,bd,aK,aL,aM,aN,aj⟩,⟨s1,s2,s3,s4,s5,s6,s7,s8⟩⟩:=K.AW.cells hC.is
  simp only [Array.toArray_toList] at rz r0 r1 r2 r3 r4 r5 r6 bg r8 r9 aJ bc bd aK aL aM aN aj
  obtain⟨F,bJ,Z,aS,-⟩:=Ae G.drew rc 99
  have aE:=Dv G.drew 99 18 (by kernel_rfl) rz hC.one #[.string ⟨#[]⟩,.int .i64 0,.int .i64 0,.int .i64 0,.int .i64 0,.int .i64 0,.slice none 0 0,.slice none 0 0,.slice none 0 0,.slice none 0 0,.int .i64 0,.int .i64 0,.slice none 0 0,.int .i64 0,.slice none 0 0,.slice none 0 0,.slice none 0 0,.int .i64 0] rfl
  rw [bJ] at aE
  have cW:(storeCells ⟨G.heap.size,0,none⟩ rc.toList 0).run Tryz.prog bk.drew=.ok () F:=by rw [←bI]; exact aE
  have a5:=a6.trans (Z.mono a6.size)
  have I:Blk F.drew G.heap.size 99 rc:=aS.below (Ap F)
  have aq:=(aV.below Z).below (Ap F)
  have aT:=(ao.below Z).below (Ap F)
  have cj:=ar.cell 1
  have ck:=ar.cell 2
  have cg:=(ac.below Z).cell 1
  have ch:=(ac.below Z).cell 2
  have bo:=(ab.cell 9).trans q9
  have bp:=(ao.cell 9).trans q9
  have cB:=ap.cell
  have cD:=aa.cell
  have cE:=ac.cell
  have cO:=aq.cell
  have g11:=(aT.cell 1).trans q1
  have k1:=(I.cell 1).trans r1
  have k2:=(I.cell 2).trans r2
  have k4:=(I.cell 4).trans r4
  have bN:=(I.cell 10).trans aJ
  have d2:=(I.cell 13).trans aK
  have d3:=(I.cell 14).trans aL
  have d4:=(I.cell 15).trans aM
  have d5:=(I.cell 16).trans aN
  have d6:=(I.cell 17).trans aj
  have hi:i<m:=by rw [V]; exact AP a7
  have aW:(k= -1∧Hid (¬EnR p.topo r l i k))∨∃j:Nat,k=(j:Int)∧j<m∧((j=i∧Hid (¬EnR p.topo r l i k))∨(j≠i∧∃z,l[j]?=some z∧z≠r.pf∧Hid (¬EnR p.topo r l i k))∨
      (j≠i∧l[j]?=some r.pf∧r.dir=1∧Hid (EnR p.topo r l i k↔k=Ar (decide (p.topo=3)) m i))∨(j≠i∧l[j]?=some r.pf∧r.dir=2∧Hid (EnR p.topo r l i k↔k=AN (decide (p.topo=3)) m i))):=by
    have aZ:i<l.length:=by omega
    by_cases h0:k= -1
    · exact .inl ⟨h0,hide fun C=>by have:=(C.pass J).1; omega⟩
    · refine .inr ⟨k.toNat,by omega,by omega,?_⟩
      by_cases E:k.toNat=i
      · exact .inl ⟨E,hide fun C=>(C.pass J).2.1 E⟩
      · obtain⟨z,y⟩:∃z,l[k.toNat]?=some z:=⟨_,List.getElem?_eq_getElem (by omega)⟩
        by_cases a2:z=r.pf
        · subst a2
          rcases hR.dir J with hd | hd
          · refine .inr (.inr (.inl ⟨E,y,hd,hide ⟨fun C=>?_,fun aB=>⟨aZ,a7,fun _=>⟨by omega,E,y,fun _=>by rw [←V]; exact aB,fun h=>by omega⟩,fun h=>absurd J h⟩⟩⟩))
            have:=(C.pass J).2.2.2.1 hd
            rw [←V] at this
            exact this
          · refine .inr (.inr (.inr ⟨E,y,hd,hide ⟨fun C=>?_,fun aB=>⟨aZ,a7,fun _=>⟨by omega,E,y,fun h=>by omega,fun _=>by rw [←V]; exact aB⟩,fun h=>absurd J h⟩⟩⟩))
            have:=(C.pass J).2.2.2.2 hd
            rw [←V] at this
            exact this
        · exact .inr (.inl ⟨E,z,y,a2,hide fun C=>a2 (Option.some.inj (y.symm.trans (C.pass J).2.2.1))⟩)
  generalize EnR p.topo r l i k=EE at*
  have b0:K.inC (n:Int) 0 ((p.rules.length:Int) - 1)=true:=by simp [K.inC]; omega
  have bD:K.inC (i:Int) 0 ((m:Int) - 1)=true:=by simp [K.inC]; omega
  have ai:=hl.keep (w':=F.drew) (B':=w.heap.size) (fun _ hp=>(a5.trans ((Ap F).mono a5.size)).cell hp) (Nat.le_refl _)
  obtain⟨bl,ol,y0,bs,bz,b8,aX⟩:=ai.at (k:=i) (by rw [←V]; exact hi)
  subst bs
  have bL:y0=r.fr:=Option.some.inj (b8.symm.trans a7)
  subst bL
  have ci:F.drew.cell? ⟨bl,ol+i,none⟩=some (.int .i64 r.fr):=by
    have:=aX 0 (by decide)
    rwa [Nat.mul_one,Nat.add_zero] at this
  have aC:Hid (Calls Tryz.prog 101 #[.int .i64 p.topo,.slice none 0 0,.int .i64 (m:Int),.int .i64 (i:Int)] F.drew (Ret fun v w'=>Below F.drew.heap.size F.drew w'∧v=.tuple #[.int .i64 (AN (decide (p.topo=3)) m i),.int .i64 (Ar (decide (p.topo=3)) m i),.int .i64 (-1)])):=by
    rcases ht with ht | ht
    · rw [ht]; exact hide (XV hi (by omega))
    · rw [ht]; exact hide (XW hi (by omega))
  have aU:=hide aq
  have a3:=hide I
  have bE:=hide ai
  have ah:=hide (a5.trans ((Ap F).mono a5.size))
  have aY:Hid (∀(wx:World) (j:Nat) (z:Int),Below F.drew.heap.size F.drew wx→l[j]?=some z→wx.cell? ⟨bl,ol+j,none⟩=some (.int .i64 z)):=hide fun wx j z hx y=>by
    have h1:=ai.keep (w':=wx) (B':=w.heap.size) (fun q O=>hx.cell (Nat.lt_of_lt_of_le O ah.out.size)) (Nat.le_refl _)
    obtain⟨b2,o2,z2,e2,-,bM,bA⟩:=h1.at (AP y)
    cases e2
    have:=bA 0 (by decide)
    rw [Nat.mul_one,Nat.add_zero] at this
    rw [this]
    congr 1
    exact congrArg (Value.int .i64) (Option.some.inj (bM.symm.trans y))
  obtain⟨nr,b6⟩:∃x,x=p.rules.length:=⟨_,rfl⟩
  rw [←b6] at b0 bF bG bo bp
  obtain⟨tp,b7⟩:∃x,x=p.topo:=⟨_,rfl⟩
  rw [←b7] at g11 aC aW
  generalize AN (decide (tp=3)) m i=fs at*
  generalize Ar (decide (tp=3)) m i=sc at*
  have bO:=hide r4
  have aF:=hide aj
  have aG:=hide r1
  rw [J] at k1 aG
  rw [hR.rd] at bN
  have cT:(loadCellsFrom ⟨b,off+n*18,none⟩ 0 18 #[]).run Tryz.prog G.drew=.ok rc G.drew:=b5
  have cV:(n:Int)<(nr:Int):=by omega
  have cQ:(i:Int)<(m:Int):=by omega
  clear h h7 hC bC b5 hr hR hl V ai aX aw W ad ae Z au av a4 a6 a5 aQ bt aR aa aS I ab ap ao aV ac aq aT bv ar ax af bw bu aE q0 q1 q2 q3 q4 q5 q6 q7 q8 q9 r0 r1 r2 r3 r4 r5 r6 bg r8 r9 aJ bc bd aK aL aM aN aj s1 s2 s3 s4 s5 s6 s7 s8 bB bx bz b8 a7 b6 b7 ht bH J
  generalize cs.toArray=pc at*
  rcases aW with⟨rfl,C⟩ | ⟨j,rfl,hj,⟨E,C⟩ | ⟨E,z,y,a2,C⟩ | ⟨E,y,hd,C⟩ | ⟨E,y,hd,C⟩⟩
  case' inl=>have a8:K.inC (-1) 0 ((m:Int) - 1)=false:=by simp [K.inC]
  case' inr.inl=>have aA:((j:Int)==(i:Int))=true:=(by simp; omega); clear E
  case' inr.inl=>have a8:K.inC (j:Int) 0 ((m:Int) - 1)=true:=by simp [K.inC]; omega
  case' inr.inr.inl=>have d1:(z != r.pf)=true:=by simp [a2]
  case' inr.inr.inl=>have y:=hide y; clear a2
  case' inr.inr.inr.inl=>have y:=hide y; rw [hd] at aF; clear hd
  case' inr.inr.inr.inr=>have y:=hide y; rw [hd] at aF; clear hd
  case' inr.inr.inl=>have aA:((j:Int)==(i:Int))=false:=(by simp; omega); clear E
  case' inr.inr.inl=>have a8:K.inC (j:Int) 0 ((m:Int) - 1)=true:=by simp [K.inC]; omega
  case' inr.inr.inr.inl=>have aA:((j:Int)==(i:Int))=false:=(by simp; omega); clear E
  case' inr.inr.inr.inl=>have a8:K.inC (j:Int) 0 ((m:Int) - 1)=true:=by simp [K.inC]; omega
  case' inr.inr.inr.inr=>have aA:((j:Int)==(i:Int))=false:=(by simp; omega); clear E
  case' inr.inr.inr.inr=>have a8:K.inC (j:Int) 0 ((m:Int) - 1)=true:=by simp [K.inC]; omega
  all_goals
    go_enter Tryz.func65,Tryz.ntmps65
    go_wp2_with fail
    refine Calls.mono (Kz _ _ _ _) ?_
    rintro e wb ⟨rfl,rfl⟩
    rw [b0]
    go_wp2_with fail
    refine Calls.mono (Kz _ _ _ _) ?_
    rintro e wb ⟨rfl,rfl⟩
    rw [bD]
    go_wp2_with fail
    refine Reg.cC [0,1,0,4,15,31,0,64,0,256,0,1087,3327,8191] [0,1,2,3,4,5,6,7,8,9,10,11,12,13] ?_ (by kernel_rfl) (by repeat (first | exact Reg.NoQ.body (fun _ _ h=>h) (fun _ h=>h) | refine Reg.NoQ.then ?_ | refine Reg.NoQ.inBlock ?_))
    refine Reg.rest_walk' [0,1,2,3,4,5,6,7,8,9,10] [11,12,13] rfl (by kernel_rfl) ?_
    intro Qf M
    go_wp2_with fail
    first | refine M _ _ ?_ | skip
    try clear M
    refine Reg.rest_act' 11 [12,13] [7,9] rfl (by kernel_rfl) ?_
    intro Qf M
    try simp only [gT,gS,gZ]
    go_wp2_with fail
    first | refine M _ _ ⟨?_,?_⟩ | refine⟨?_,?_⟩
    · intro z y q O
      simp only [List.mem_cons,List.not_mem_nil,or_false] at y
      rcases y with rfl | rfl
      · injection O with O
        subst O
        exact Reg.same_load1 rfl rfl (cj) (cg) Tryz.underlying3 rfl
      · injection O with O
        subst O
        exact Reg.same_load1 rfl rfl (ck) (ch) Tryz.underlying3 rfl
    try clear M
    refine Reg.rest_walk' [12,13] [] rfl (by kernel_rfl) ?_
    intro Qf M
    go_wp2_with fail
    first | refine M _ _ ?_ | skip
    try clear M
    first | refine Reg.rest_end ?_ | skip
    go_wp2_with fail
    refine Reg.cP [0,1,0,7,15,0,32,127,255,511,1023,2047,4095,8191,16383,8191,40959,131071,262143,524287] ?_
    go_wp2_with fail
    refine Calls.ret aC.out ?_
    rintro v w6 ⟨ag,rfl⟩
    have U:=ag.trans ((Ap w6).mono ag.size)
    have ay:=hide (ah.out.trans (U.mono ah.out.size))
    have v1:=((a3.out.below ag).cell 1).trans aG.out
    have x1:=((a3.out.below U).cell 1).trans aG.out
    have x4:=((a3.out.below U).cell 4).trans bO.out
    have da:=((a3.out.below U).cell 17).trans aF.out
    have db:=(aU.out.below U).cell
    try have xj:=aY.out w6.drew _ _ U y.out
    try have cS:(j:Int)<(m:Int):=by omega
    clear ag U aY aC aU a3 bE ah
    go_wp2_with fail
    refine Reg.cP [0,0,2,6,14,31,63,127,255,255,1023,2047,4095,8191,16383,8191,65535,131071,8191,270335,1048575,2097151] ?_
    go_wp2_with fail
    refine Calls.mono (Kz _ _ _ _) ?_
    rintro e wb ⟨rfl,rfl⟩
    rw [a8]
    go_wp2_with fail
    first
    | (refine bodyPost_ret (v:=.bool false) ?_ rfl ⟨⟨false,rfl,?_⟩,ay.out⟩
       · simp [results,Tryz.results65,go_sem]
       · simp [C.out])
    | (refine bodyPost_ret (v:=.bool ((j:Int)==sc)) ?_ rfl ⟨⟨_,rfl,?_⟩,ay.out⟩
       · simp [results,Tryz.results65,go_sem]
       · rw [C.out]
         simp)
    | (refine bodyPost_ret (v:=.bool ((j:Int)==fs)) ?_ rfl ⟨⟨_,rfl,?_⟩,ay.out⟩
       · simp [results,Tryz.results65,go_sem]
       · rw [C.out]
         simp)
end Go.Proofs.YtfcfpoemojjglaaGreatDoor
