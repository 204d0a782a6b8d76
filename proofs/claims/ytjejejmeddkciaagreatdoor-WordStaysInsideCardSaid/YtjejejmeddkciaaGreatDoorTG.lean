/-
  Part TG of a proof.
-/
import Derived.Test.YtjejejmeddkciaaGreatDoorPA
import Derived.Test.YtjejejmeddkciaaGreatDoorTF
import Derived.Test.YtjejejmeddkciaaGreatDoorCI
set_option maxHeartbeats 16000000
set_option maxRecDepth 100000
set_option linter.unusedVariables false
set_option linter.unusedSimpArgs false
namespace Go.Proofs.YtjejejmeddkciaaGreatDoor
open Go.RowKit
open K (Am Az At AW Fc BR Ah Du Dv)
attribute [-go_sem] loadCellsFrom storeCells
set_option maxHeartbeats 16000000
set_option maxRecDepth 100000
theorem YE {w:World} {cs:List Value} {p:Am} {r:Az} {n m cap i z0 z3 z4:Nat} {k:Int} {A Z0 Z3 Z4:Option Addr} {l:List Int} (h:At w w.heap.size cs p) (ht:p.topo=2\/p.topo=3) (hr:p.rules[n]?=some r) (hR:WU p.topo p.states.length r) (bJ:p.rules.length<=30) (hl:Sl w w.heap.size 1 Ai A l) (Z:m=l.length) (d1:m<=8) (a9:l[i]?=some r.fr) (hk:-1<=k/\k<m) (O:r.kind=5):
    Calls Tryz.prog 33 #[.agg cs.toArray,.agg #[.int .i64 (m:Int),.int .i64 0,.int .i64 0],.agg #[.slice Z0 0 z0,.slice A m cap,.int .i64 (m:Int),.slice Z3 0 z3,.slice Z4 0 z4,.int .i64 0],.agg #[.int .i64 (n:Int),.int .i64 (i:Int),.int .i64 k],.bool false] w (Ret fun v w'=>(∃b,v=.bool b/\(b=true↔EnR p.topo r l i k))/\Below w.heap.size w w'):=by
  obtain⟨A1,c1,A2,c2,A3,c3,A4,c4,A5,c5,A6,c6,A7,c7,bK,q0,q1,q2,q3,q4,q5,q6,q7,q8,q9,-,-,-,-,-,-,h7,bE⟩:=h.cells;have bI:=AP hr;obtain⟨w1,d4,az,aT,-⟩:=Ae w cs.toArray 27;obtain⟨w2,d5,a2,bw,-⟩:=Ae w1 #[.int .i64 (m:Int),.int .i64 0,.int .i64 0] 44;obtain⟨w3,d6,ag,aU,-⟩:=Ae w2 #[.slice Z0 0 z0,.slice A m cap,.int .i64 (m:Int),.slice Z3 0 z3,.slice Z4 0 z4,.int .i64 0] 46;obtain⟨I,d7,ah,ad,-⟩:=Ae w3 #[.int .i64 (n:Int),.int .i64 (i:Int),.int .i64 k] 52;have ax:=az.trans (a2.mono az.size);have ay:=ax.trans (ag.mono ax.size);have a6:=ay.trans (ah.mono ay.size);have a8:=a6.trans ((Ap I).mono a6.size);have ae:=aT.below (a2.trans ((ag.mono a2.size).trans (ah.mono (a2.trans (ag.mono a2.size)).size)));have au:=aU.below ah;have ar:=ae.below (Ap I);have aY:=au.below (Ap I);have af:=ad.below (Ap I);obtain⟨bo,bL,aA,bx,-⟩:=Ae I #[.string ⟨#[]⟩,.int .i64 0,.int .i64 0,.int .i64 0,.int .i64 0,.int .i64 0,.slice none 0 0,.slice none 0 0,.slice none 0 0,.slice none 0 0,.int .i64 0,.int .i64 0,.slice none 0 0,.int .i64 0,.slice none 0 0,.slice none 0 0,.slice none 0 0,.int .i64 0] 109;have ai:=aA.trans ((Ap bo).mono aA.size);have bA:=a6.trans (ai.mono a6.size);have bz:=ae.below ai;have aw:=ad.below ai;obtain⟨b,off,rc,bu,bB,hC,bF,b8⟩:=Du (h7.keep (w':=I.drew) (B':=w.heap.size) (R':=AW I.drew w.heap.size) (fun _ hp=>a8.cell hp) (fun _ _ x=>x.keep (fun _ hp=>a8.cell hp) (Nat.le_refl _)) (Nat.le_refl _)) hr;subst bu;obtain⟨E1,f1,E2,f2,E3,f3,E4,f4,E5,f5,E6,f6,E7,f7,E8,f8,⟨rz,r0,r1,r2,r3,r4,r5,r6,bj,r8,r9,aM,bf,bg,aN,aO,aP,aQ,am⟩,⟨s1,s2,s3,s4,s5,s6,s7,s8⟩⟩:=K.AW.cells hC.is;simp only [Array.toArray_toList] at rz r0 r1 r2 r3 r4 r5 r6 bj r8 r9 aM bf bg aN aO aP aQ am;obtain⟨G,bM,a3,aV,-⟩:=Ae I.drew rc 109;have aH:=Dv I.drew 109 18 (by kernel_rfl) rz hC.one #[.string ⟨#[]⟩,.int .i64 0,.int .i64 0,.int .i64 0,.int .i64 0,.int .i64 0,.slice none 0 0,.slice none 0 0,.slice none 0 0,.slice none 0 0,.int .i64 0,.int .i64 0,.slice none 0 0,.int .i64 0,.slice none 0 0,.slice none 0 0,.slice none 0 0,.int .i64 0] rfl;rw [bM] at aH;have d3:(storeCells ⟨I.heap.size,0,none⟩ rc.toList 0).run Tryz.prog bo.drew=.ok () G:=by rw [<-bL];exact aH
  have a7:=a8.trans (a3.mono a8.size);have J:Blk G.drew I.heap.size 109 rc:=aV.below (Ap G);have av:=(aY.below a3).below (Ap G);have aW:=(ar.below a3).below (Ap G);have cm:=aw.cell 1;have cn:=aw.cell 2;have cj:=(af.below a3).cell 1;have ck:=(af.below a3).cell 2;have br:=(ae.cell 9).trans q9;have bs:=(ar.cell 9).trans q9;have cJ:=au.cell;have cK:=ad.cell;have cL:=af.cell;have cV:=av.cell;have g11:=(aW.cell 1).trans q1;have k1:=(J.cell 1).trans r1;have k2:=(J.cell 2).trans r2;have k4:=(J.cell 4).trans r4;have bR:=(J.cell 10).trans aM;have d9:=(J.cell 13).trans aN;have da:=(J.cell 14).trans aO;have db:=(J.cell 15).trans aP;have dc:=(J.cell 16).trans aQ;have de:=(J.cell 17).trans am;have hi:i<m:=by rw [Z];exact AP a9
  have aZ:(k= -1/\Hid (¬EnR p.topo r l i k))\/∃j:Nat,k=(j:Int)/\j<m/\((j=i/\Hid (¬EnR p.topo r l i k))\/(j≠i/\∃z,l[j]?=some z/\z≠r.pf/\Hid (¬EnR p.topo r l i k))\/
      (j≠i/\l[j]?=some r.pf/\r.dir=1/\Hid (EnR p.topo r l i k↔k=Ar (decide (p.topo=3)) m i))\/(j≠i/\l[j]?=some r.pf/\r.dir=2/\Hid (EnR p.topo r l i k↔k=AN (decide (p.topo=3)) m i))):=by
    have b5:i<l.length:=by omega
    by_cases h0:k= -1
    · exact .inl ⟨h0,hide fun E=>by have:=(E.pass O).1;omega⟩
    · refine .inr ⟨k.toNat,by omega,by omega,?_⟩
      by_cases F:k.toNat=i
      · exact .inl ⟨F,hide fun E=>(E.pass O).2.1 F⟩
      · obtain⟨z,C⟩:∃z,l[k.toNat]?=some z:=⟨_,List.getElem?_eq_getElem (by omega)⟩
        by_cases a4:z=r.pf
        · subst a4
          rcases hR.dir O with M|M
          · refine .inr (.inr (.inl ⟨F,C,M,hide ⟨fun E=>?_,fun aE=>⟨b5,a9,fun _=>⟨by omega,F,C,fun _=>by rw [<-Z];exact aE,fun h=>by omega⟩,fun h=>absurd O h⟩⟩⟩))
            have:=(E.pass O).2.2.2.1 M;rw [<-Z] at this;exact this
          · refine .inr (.inr (.inr ⟨F,C,M,hide ⟨fun E=>?_,fun aE=>⟨b5,a9,fun _=>⟨by omega,F,C,fun h=>by omega,fun _=>by rw [<-Z];exact aE⟩,fun h=>absurd O h⟩⟩⟩))
            have:=(E.pass O).2.2.2.2 M;rw [<-Z] at this;exact this
        · exact .inr (.inl ⟨F,z,C,a4,hide fun E=>a4 (Option.some.inj (C.symm.trans (E.pass O).2.2.1))⟩)
  generalize EnR p.topo r l i k=EE at*;have b6:K.inC (n:Int) 0 ((p.rules.length:Int) - 1)=true:=by simp [K.inC];omega
  have bG:K.inC (i:Int) 0 ((m:Int) - 1)=true:=by simp [K.inC];omega
  have al:=hl.keep (w':=G.drew) (B':=w.heap.size) (fun _ hp=>(a7.trans ((Ap G).mono a7.size)).cell hp) (Nat.le_refl _);obtain⟨bl,ol,y0,bv,bC,bb,b0⟩:=al.at (k:=i) (by rw [<-Z];exact hi);subst bv;have bO:y0=r.fr:=Option.some.inj (bb.symm.trans a9);subst bO;have ci:G.drew.cell? ⟨bl,ol+i,none⟩=some (.int .i64 r.fr):=by
    have:=b0 0 (by decide)
    rwa [Nat.mul_one,Nat.add_zero] at this
  have aF:Hid (Calls Tryz.prog 67 #[.int .i64 p.topo,.slice Z0 0 z0,.int .i64 (m:Int),.int .i64 (i:Int)] G.drew (Ret fun v w'=>Below G.drew.heap.size G.drew w'/\v=.tuple #[.int .i64 (AN (decide (p.topo=3)) m i),.int .i64 (Ar (decide (p.topo=3)) m i),.int .i64 (-1)])):=by
    rcases ht with ht|ht
    · rw [ht];exact hide (XV hi (by omega))
    · rw [ht];exact hide (XW hi (by omega))
  have aX:=hide av;have a5:=hide J;have bH:=hide al;have ak:=hide (a7.trans ((Ap G).mono a7.size));have b4:Hid (∀(wx:World) (j:Nat) (z:Int),Below G.drew.heap.size G.drew wx->l[j]?=some z->wx.cell? ⟨bl,ol+j,none⟩=some (.int .i64 z)):=hide fun wx j z hx C=>by
    have h1:=al.keep (w':=wx) (B':=w.heap.size) (fun q V=>hx.cell (Nat.lt_of_lt_of_le V ak.out.size)) (Nat.le_refl _);obtain⟨b2,o2,z2,e2,-,bP,bD⟩:=h1.at (AP C);cases e2;have:=bD 0 (by decide);rw [Nat.mul_one,Nat.add_zero] at this;rw [this];congr 1;exact congrArg (Value.int .i64) (Option.some.inj (bP.symm.trans C))
  obtain⟨nr,b9⟩:∃x,x=p.rules.length:=⟨_,rfl⟩;rw [<-b9] at b6 bI bJ br bs;obtain⟨tp,ba⟩:∃x,x=p.topo:=⟨_,rfl⟩;rw [<-ba] at g11 aF aZ;generalize AN (decide (tp=3)) m i=fs at*;generalize Ar (decide (tp=3)) m i=sc at*;have bS:=hide r4;have aJ:=hide am;have aK:=hide r1;rw [O] at k1 aK;rw [hR.rd] at bR;have d0:(loadCellsFrom ⟨b,off+n*18,none⟩ 0 18 #[]).run Tryz.prog I.drew=.ok rc I.drew:=b8;have d2:(n:Int)<(nr:Int):=by omega
  have cW:(i:Int)<(m:Int):=by omega
  clear h h7 hC bF b8 hr hR hl Z al b0 az a2 ag ah a3 ax ay a6 a8 a7 aT bw aU ad aV J ae au ar aY af av aW bz aw aA ai bA bx aH q0 q1 q2 q3 q4 q5 q6 q7 q8 q9 r0 r1 r2 r3 r4 r5 r6 bj r8 r9 aM bf bg aN aO aP aQ am s1 s2 s3 s4 s5 s6 s7 s8 bE bB bC bb a9 b9 ba ht bK O;generalize cs.toArray=pc at*;rcases aZ with⟨rfl,E⟩|⟨j,rfl,hj,⟨F,E⟩|⟨F,z,C,a4,E⟩|⟨F,C,M,E⟩|⟨F,C,M,E⟩⟩
  case' inl=>have aa:K.inC (-1) 0 ((m:Int) - 1)=false:=by simp [K.inC]
  case' inr.inl=>have aD:((j:Int)==(i:Int))=true:=(by simp;omega);clear F
  case' inr.inl=>have aa:K.inC (j:Int) 0 ((m:Int) - 1)=true:=by simp [K.inC];omega
  case' inr.inr.inl=>have d8:(z != r.pf)=true:=by simp [a4]
  case' inr.inr.inl=>have C:=hide C;clear a4
  case' inr.inr.inr.inl=>have C:=hide C;rw [M] at aJ;clear M
  case' inr.inr.inr.inr=>have C:=hide C;rw [M] at aJ;clear M
  case' inr.inr.inl=>have aD:((j:Int)==(i:Int))=false:=(by simp;omega);clear F
  case' inr.inr.inl=>have aa:K.inC (j:Int) 0 ((m:Int) - 1)=true:=by simp [K.inC];omega
  case' inr.inr.inr.inl=>have aD:((j:Int)==(i:Int))=false:=(by simp;omega);clear F
  case' inr.inr.inr.inl=>have aa:K.inC (j:Int) 0 ((m:Int) - 1)=true:=by simp [K.inC];omega
  case' inr.inr.inr.inr=>have aD:((j:Int)==(i:Int))=false:=(by simp;omega);clear F
  case' inr.inr.inr.inr=>have aa:K.inC (j:Int) 0 ((m:Int) - 1)=true:=by simp [K.inC];omega
  all_goals
    go_enter Tryz.func33,Tryz.ntmps33;go_wp2_with fail;refine Calls.mono (Kz _ _ _ _) ?_;rintro e wb ⟨rfl,rfl⟩;rw [b6];go_wp2_with fail;refine Calls.mono (Kz _ _ _ _) ?_;rintro e wb ⟨rfl,rfl⟩;rw [bG];go_wp2_with fail;refine Reg.cC [0,1,0,4,15,31,0,64,0,256,0,1087,3327,8191] [0,1,2,3,4,5,6,7,8,9,10,11,12,13] ?_ (by kernel_rfl) (by repeat (first|exact Reg.NoQ.body (fun _ _ h=>h) (fun _ h=>h)|refine Reg.NoQ.then ?_|refine Reg.NoQ.inBlock ?_));refine Reg.rest_walk' [0,1,2,3,4,5,6,7,8,9,10] [11,12,13] rfl (by kernel_rfl) ?_;intro Qf U;go_wp2_with fail;first|refine U _ _ ?_|skip
    (try clear U);refine Reg.rest_act' 11 [12,13] [7,9] rfl (by kernel_rfl) ?_;intro Qf U;try simp only [gT,gS,gZ]
    go_wp2_with fail;first|refine U _ _ ⟨?_,?_⟩|refine⟨?_,?_⟩
    · intro z C q V
      simp only [List.mem_cons,List.not_mem_nil,or_false] at C;rcases C with rfl|rfl
      · injection V with V
        subst V;exact Reg.same_load1 rfl rfl (cm) (cj) Tryz.underlying3 rfl
      · injection V with V
        subst V;exact Reg.same_load1 rfl rfl (cn) (ck) Tryz.underlying3 rfl
    (try clear U);refine Reg.rest_walk' [12,13] [] rfl (by kernel_rfl) ?_;intro Qf U;go_wp2_with fail;first|refine U _ _ ?_|skip
    (try clear U);first|refine Reg.rest_end ?_|skip
    go_wp2_with fail;refine Reg.cP [0,1,0,7,15,0,32,127,255,511,1023,2047,4095,8191,16383,8191,40959,131071,262143,524287] ?_;go_wp2_with fail;refine Calls.ret aF.out ?_;rintro v w6 ⟨aj,rfl⟩;have W:=aj.trans ((Ap w6).mono aj.size);have aB:=hide (ak.out.trans (W.mono ak.out.size));have v1:=((a5.out.below aj).cell 1).trans aK.out;have x1:=((a5.out.below W).cell 1).trans aK.out;have x4:=((a5.out.below W).cell 4).trans bS.out;have di:=((a5.out.below W).cell 17).trans aJ.out;have dj:=(aX.out.below W).cell;try have xj:=b4.out w6.drew _ _ W C.out
    try have cY:(j:Int)<(m:Int):=by omega
    clear aj W b4 aF aX a5 bH ak;go_wp2_with fail;refine Reg.cP [0,0,2,6,14,31,63,127,255,255,1023,2047,4095,8191,16383,8191,65535,131071,8191,270335,1048575,2097151] ?_;go_wp2_with fail;refine Calls.mono (Kz _ _ _ _) ?_;rintro e wb ⟨rfl,rfl⟩;rw [aa];go_wp2_with fail;first
    | (refine bodyPost_ret (v:=.bool false) ?_ rfl ⟨⟨false,rfl,?_⟩,aB.out⟩
       · simp [results,Tryz.results33,go_sem]
       · simp [E.out])
    | (refine bodyPost_ret (v:=.bool ((j:Int)==sc)) ?_ rfl ⟨⟨_,rfl,?_⟩,aB.out⟩
       · simp [results,Tryz.results33,go_sem]
       · rw [E.out]
         simp)
    | (refine bodyPost_ret (v:=.bool ((j:Int)==fs)) ?_ rfl ⟨⟨_,rfl,?_⟩,aB.out⟩
       · simp [results,Tryz.results33,go_sem]
       · rw [E.out]
         simp)
end Go.Proofs.YtjejejmeddkciaaGreatDoor
