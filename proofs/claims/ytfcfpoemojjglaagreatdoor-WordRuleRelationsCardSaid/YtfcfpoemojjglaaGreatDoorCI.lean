/-
  Part CI of a proof.
-/
import Derived.Test.YtfcfpoemojjglaaGreatDoorPA
import Derived.Test.YtfcfpoemojjglaaGreatDoorCG
import Derived.Test.YtfcfpoemojjglaaGreatDoorCE
set_option maxHeartbeats 16000000
set_option maxRecDepth 100000
set_option linter.unusedVariables false
set_option linter.unusedSimpArgs false
namespace Go.Proofs.YtfcfpoemojjglaaGreatDoor.K
open Go.RowKit
attribute [-go_sem] loadCellsFrom storeCells
structure C0 (w:World) (g:Nat) (pc:Array Value) (p:Am):Prop where
 pr:At w w.heap.size pc.toList p
 b:Blk w g 27 pc
 tab:SpOK w
theorem C0.at {w w':World} {g:Nat} {pc:Array Value} {p:Am} (h:C0 w g pc p) (x:Below w.heap.size w w'):C0 w' g pc p:=
 ⟨h.pr.keep (fun _ y=>x.cell y) x.size,h.b.below x,h.tab.below x⟩
theorem At.cells {w:World} {B:Nat} {cs:List Value} {p:Am} (h:At w B cs p):∃A1 c1 A2 c2 A3 c3 x E y F C G A7 c7,
  cs.toArray.size=10∧cs.toArray[0]?=some (.string p.name)∧cs.toArray[1]?=some (.int .i64 p.topo)∧cs.toArray[2]?=some (.slice A1 p.states.length c1)∧cs.toArray[3]?=some (.slice A2 p.messages.length c2)∧
  cs.toArray[4]?=some (.slice A3 p.values.length c3)∧cs.toArray[5]?=some (.int .i64 p.fault)∧cs.toArray[6]?=some (.slice x p.res.length E)∧cs.toArray[7]?=some (.slice y p.initial.length F)∧cs.toArray[8]?=some (.slice C p.leader.length G)∧cs.toArray[9]?=some (.slice A7 p.rules.length c7)∧
  Sl w B 1 BE A1 p.states∧Sl w B 1 BE A2 p.messages∧Sl w B 1 BE A3 p.values∧Sl w B 4 EG x p.res∧Sl w B 1 Ai y p.initial∧Sl w B 1 Ai C p.leader∧BR w B 18 (AW w B) A7 p.rules∧p.rules.length≤c7:=by
 obtain⟨A1,c1,A2,c2,A3,c3,x,E,y,F,C,G,A7,c7,rfl,h1,I,J,M,O,U,V,W⟩:=h
 exact⟨A1,c1,A2,c2,A3,c3,x,E,y,F,C,G,A7,c7,rfl,rfl,rfl,rfl,rfl,rfl,rfl,rfl,rfl,rfl,rfl,h1,I,J,M,O,U,V,W⟩
def DJ (p:Am):Int:=
 orE (Ad (!p.res.all Bg) 4)
 (orE (Aa p.initial p.states.length)
 (orE (Ad p.initial.isEmpty 1)
 (orE (Aa p.leader p.states.length)
 (orE (Aj (BB nameOK p) (List.range p.rules.length))
 (Ad (decide (3<(BO p.rules).length)) 4)))))
def Cc (p:Am):Int:=orE (Aj (BB nameOK p) (List.range p.rules.length)) (Ad (decide (3<(BO p.rules).length)) 4)
def CH (kt kf:Int) (ns nm nv nr nu nl:Nat) (e R:Int):Int:=
 orE (Ad (!(decide (1≤kt)&&decide (kt≤4))||!(decide (0≤kf)&&decide (kf≤3))) 1)
 (orE (Ad (decide (ns=0)) 1)
 (orE (Ad (decide (6<ns)||decide (3<nm)||decide (3<nv)||decide (4<nr)||decide (8<nu)) 4)
 (orE e
 (orE (Ad ((!decide (kt=1)&&(!decide (nm=0)||!decide (nv=0)||!decide (nr=0)||!decide (kf=0)))||(decide (kt=1)&&!decide (nl=0))) 1) R))))
section
variable {kt kf:Int} {ns nm nv nr nu nl:Nat} {e R:Int}
theorem pvA (h:1≤kt∧kt≤4∧0≤kf∧kf≤3):(!(decide (1≤kt)&&decide (kt≤4))||!(decide (0≤kf)&&decide (kf≤3)))=false:=by simp [h]
theorem pv2 (h:kt<1∨4<kt∨kf<0∨3<kf):CH kt kf ns nm nv nr nu nl e R=1:=by
 have h1:(!(decide (1≤kt)&&decide (kt≤4))||!(decide (0≤kf)&&decide (kf≤3)))=true:=by
  simp
  omega
 unfold CH
 rw [h1]
 rfl
theorem pv3 (x:1≤kt∧kt≤4∧0≤kf∧kf≤3) (h:((ns:Int)==0)=true):CH kt kf ns nm nv nr nu nl e R=1:=by
 unfold CH
 rw [pvA x,decide_eq_true (show ns=0 by simpa using h)]
 rfl
theorem pvB (h:((ns:Int)==0)=false):decide (ns=0)=false:=by simpa using h
theorem pv4 (x:1≤kt∧kt≤4∧0≤kf∧kf≤3) (y:((ns:Int)==0)=false) (h:6<(ns:Int)∨3<(nm:Int)∨3<(nv:Int)∨4<(nr:Int)∨8<(nu:Int)):CH kt kf ns nm nv nr nu nl e R=4:=by
 have h1:(decide (6<ns)||decide (3<nm)||decide (3<nv)||decide (4<nr)||decide (8<nu))=true:=by
  simp
  omega
 unfold CH
 rw [pvA x,pvB y,h1]
 rfl
theorem pvC (h:(ns:Int)≤6∧(nm:Int)≤3∧(nv:Int)≤3∧(nr:Int)≤4∧(nu:Int)≤8):(decide (6<ns)||decide (3<nm)||decide (3<nv)||decide (4<nr)||decide (8<nu))=false:=by
 simp
 omega
theorem pv5 (x:1≤kt∧kt≤4∧0≤kf∧kf≤3) (y:((ns:Int)==0)=false) (C:(ns:Int)≤6∧(nm:Int)≤3∧(nv:Int)≤3∧(nr:Int)≤4∧(nu:Int)≤8) (h:(e != 0)=true):CH kt kf ns nm nv nr nu nl e R=e:=by
 unfold CH
 rw [pvA x,pvB y,pvC C]
 exact BF (by simpa using h)
theorem pvD (h:(e != 0)=false):e=0:=by simpa using h
theorem pv6 (x:1≤kt∧kt≤4∧0≤kf∧kf≤3) (y:((ns:Int)==0)=false) (C:(ns:Int)≤6∧(nm:Int)≤3∧(nv:Int)≤3∧(nr:Int)≤4∧(nu:Int)≤8) (E:(e != 0)=false) (h:(kt≠1∧(nm≠0∨nv≠0∨nr≠0∨kf≠0))∨(kt=1∧nl≠0)):CH kt kf ns nm nv nr nu nl e R=1:=by
 have h1:((!decide (kt=1)&&(!decide (nm=0)||!decide (nv=0)||!decide (nr=0)||!decide (kf=0)))||(decide (kt=1)&&!decide (nl=0)))=true:=by
  simp
  omega
 unfold CH
 rw [pvA x,pvB y,pvC C,pvD E,h1]
 rfl
theorem pv7 (x:1≤kt∧kt≤4∧0≤kf∧kf≤3) (y:((ns:Int)==0)=false) (C:(ns:Int)≤6∧(nm:Int)≤3∧(nv:Int)≤3∧(nr:Int)≤4∧(nu:Int)≤8) (E:(e != 0)=false) (h:(kt≠1∧nm=0∧nv=0∧nr=0∧kf=0)∨(kt=1∧nl=0)):CH kt kf ns nm nv nr nu nl e R=R:=by
 have h1:((!decide (kt=1)&&(!decide (nm=0)||!decide (nv=0)||!decide (nr=0)||!decide (kf=0)))||(decide (kt=1)&&!decide (nl=0)))=false:=by
  simp
  omega
 unfold CH
 rw [pvA x,pvB y,pvC C,pvD E,h1]
 rfl
end
theorem GI (p:Am) (h:nameOK p.name=true):protE nameOK p=CH p.topo p.fault p.states.length p.messages.length p.values.length p.res.length p.rules.length p.leader.length (CU nameOK (Bd p)) (DJ p):=by
 unfold protE CH DJ
 rw [h,Bv,Bv,Bv,Bv,Bv]
 rfl
theorem EF (n:Nat):((n:Int)==0)=decide (n=0):=by by_cases h:n=0 <;> simp [h]
end Go.Proofs.YtfcfpoemojjglaaGreatDoor.K
namespace Go.Proofs.YtfcfpoemojjglaaGreatDoor.K
open Go.RowKit
attribute [-go_sem] loadCellsFrom storeCells
theorem RC {w:World} {cs:List Value} {p:Am} (h:At w w.heap.size cs p) (J:p.Small) (hT:SpOK w) (bi:nameOK p.name=true) (aC:p.topo=1):
    Calls Tryz.prog 117 #[.agg cs.toArray] w (Ret fun v w'=>v=.int .i64 (protE nameOK p)∧Below w.heap.size w w'):=by
  obtain⟨A1,c1,A2,c2,A3,c3,A4,c4,A5,c5,A6,c6,A7,c7,bl,cX,cd,ce,cf,cg,ch,ci,cj,ck,cl,h1,h2,h3,h4,h5,h6,h7,bQ⟩:=h.cells
  have bX:=J.states
  have bY:=J.messages
  have bZ:=J.values
  have c0:=J.res
  have c8:=J.initial
  have c9:=J.leader
  have ca:=J.rules
  have cV:=J.name
  have aa:=hide J
  have bJ:=hide h4
  have bK:=hide h5
  have bL:=hide h6
  obtain⟨w1,cZ,a7,aT,bT⟩:=Ae w cs.toArray 27
  have am:=hide (show C0 w1 w.heap.size cs.toArray p from⟨h.keep (fun _ V=>a7.cell V) a7.size,aT,hT.below a7⟩)
  have ba:=hide a7
  generalize cm:cs.toArray=pc at*
  clear h1 h2 h3 h4 h5 h6 h7 h J a7 aT bT cm hT
  obtain⟨nr,aJ⟩:∃n,n=p.res.length:=⟨_,rfl⟩
  obtain⟨nm,aH⟩:∃n,n=p.messages.length:=⟨_,rfl⟩
  obtain⟨nv,aN⟩:∃n,n=p.values.length:=⟨_,rfl⟩
  obtain⟨nl,aG⟩:∃n,n=p.leader.length:=⟨_,rfl⟩
  obtain⟨U,aF⟩:∃n,n=p.initial.length:=⟨_,rfl⟩
  obtain⟨ns,aK⟩:∃n,n=p.states.length:=⟨_,rfl⟩
  obtain⟨nu,aM⟩:∃n,n=p.rules.length:=⟨_,rfl⟩
  have G:=hide (show nr=p.res.length∧nm=p.messages.length∧nv=p.values.length∧nl=p.leader.length∧U=p.initial.length∧ns=p.states.length∧nu=p.rules.length from⟨aJ,aH,aN,aG,aF,aK,aM⟩)
  simp only [←aJ,←aH,←aN,←aG,←aF,←aK,←aM] at ce cf cg ci cj ck cl bX bY bZ c0 c8 c9 ca bQ
  clear aJ aH aN aG aF aK aM
  obtain⟨kt,aE⟩:∃n,n=p.topo:=⟨_,rfl⟩
  obtain⟨kf,aD⟩:∃n,n=p.fault:=⟨_,rfl⟩
  have aW:=hide (show kt=p.topo∧kf=p.fault from⟨aE,aD⟩)
  simp only [←aE,←aD] at cd ch
  clear aE aD
  have a8:=hide bl
  clear bl
  have cA:=am.out.b.cell
  have bj:=hide bi
  clear bi
  have hP:=hide (show protE nameOK p=CH kt kf ns nm nv nr nu nl (CU nameOK (Bd p)) (DJ p) from by
    obtain⟨e1,e2,e3,e4,e5,e6,e7⟩:=G.out
    obtain⟨f1,f2⟩:=aW.out
    rw [e1,e2,e3,e4,e6,e7,f1,f2]
    exact GI p bj.out)
  have cb:∀y,Hid (C0 y w.heap.size pc p)→Calls Tryz.prog 168 #[.agg pc] y (Ret fun v w'=>v=.int .i64 (CU nameOK (Bd p))∧Below y.heap.size y w'):=fun y F=>J6 F.out.pr aa.out F.out.tab
  generalize CU nameOK (Bd p)=e0 at*
  have aj:Hid (kt=1):=by rw [←aW.out.1] at aC; exact aC
  have cK:(kt==1)=true:=by simp [aj.out]
  clear aC
  go_enter Tryz.func117,Tryz.ntmps117
  go_wp2_with (first
    | (go_at_call 118; refine Calls.ret (Da p.name _ (by omega) am.out.tab) ?_; rintro v w2 ⟨rfl,aw⟩; rw [bj.out]; have ac:=hide (am.out.at aw); have cB:=ac.out.b.cell; have cM:=Ah ac.out.b a8.out; have aq:=hide (ba.out.trans (aw.mono ba.out.size)); clear aw)
    | (go_at_call 168; refine Calls.ret (cb _ ac) ?_; rintro v w3 ⟨rfl,ax⟩; have b4:=hide (ac.out.at ax); have cD:=b4.out.b.cell; have a5:=hide (aq.out.trans (ax.mono aq.out.size)); clear ax))
  all_goals first
    | (go_ret
       refine⟨congrArg (Value.int .i64) (hP.out.trans ?_).symm,?_⟩
       · first
           | exact pv2 (by omega)
           | exact pv3 (by omega) (by assumption)
           | exact pv4 (by omega) (by assumption) (by omega)
           | exact pv5 (by omega) (by assumption) (by omega) (by assumption)
           | exact pv6 (by omega) (by assumption) (by omega) (by assumption) (by have:=aj.out; omega)
       · first
           | exact a5.out
           | exact aq.out)
    | (have hR:=hide (hP.out.trans (pv7 (by omega) (by assumption) (by omega) (by assumption) (by have:=aj.out; omega))))
  rename_i z0 z1 z2 z3 z4 z5 z6 z7 z8 z9 z10 z11 zK zQ
  clear z0 z1 z2 z3 z4 z5 z6 z7 z8 z9 z10 z11
  clear hP
  have co:∀(k:Nat) (y:World),k<nu→Hid (C0 y w.heap.size pc p)→Calls Tryz.prog 170 #[.agg pc,.int .i64 (k:Int)] y (Ret fun v w'=>v=.int .i64 (BB nameOK p k)∧Below y.heap.size y w'):=by
    intro k y hk F
    obtain⟨r,hr⟩:∃r,p.rules[k]?=some r:=⟨_,List.getElem?_eq_getElem (by have:=G.out.2.2.2.2.2.2; omega)⟩
    have h0:=aa.out.rule r (List.mem_of_getElem? hr)
    have h1:=KT (cs:=pc.toList) F.out.pr hr h0.1 (by have:=h0.2; omega) F.out.tab
    rw [KU _ _ _ _ _ (by omega)] at h1
    have h2:BB nameOK p k=BC nameOK p.topo p.states.length p.messages.length p.values.length ((p.rules.take k).any fun x=>decide (x.name=r.name)) r:=by
      unfold BB
      rw [hr]
    rw [h2]
    exact h1
  have bS:∀y,Below w.heap.size w y→Calls Tryz.prog 119 #[.slice A5 U c5,.int .i64 (ns:Int)] y (Ret fun r w'=>r=.int .i64 (Aa p.initial (ns:Int))∧Below y.heap.size y w'):=fun y F=>by
    rw [G.out.2.2.2.2.1]
    exact DE (bK.out.keep (fun _ V=>F.cell V) F.size)
  have bW:∀y,Below w.heap.size w y→Calls Tryz.prog 119 #[.slice A6 nl c6,.int .i64 (ns:Int)] y (Ret fun r w'=>r=.int .i64 (Aa p.leader (ns:Int))∧Below y.heap.size y w'):=fun y F=>by
    rw [G.out.2.2.2.1]
    exact DE (bL.out.keep (fun _ V=>F.cell V) F.size)
  go_loopw [113] (fun W wr=>∃(k:Nat),W=.int .i64 (k:Int)∧k≤nr∧Hid (Below w3.heap.size w3 wr)∧Hid ((p.res.take k).all Bg=true)) (fun W _=>nr - (intOf W).toNat)
  case atStart=>exact⟨0,rfl,Nat.zero_le _,Below.refl _ _,by show _=_; simp⟩
  case round=>
    obtain⟨k,rfl,hk,af,M⟩:=hrel
    have b5:=hide (b4.out.at af.out)
    have cE:=b5.out.b.cell
    have ar:=hide (a5.out.trans (af.out.mono a5.out.size))
    by_cases bh:k<nr
    · obtain⟨b,off,l,hA,cz,hl,bc⟩:=(bJ.out.keep (w':=wr) (B':=w.heap.size) (fun _ V=>ar.out.cell V) (Nat.le_refl _)).at (k:=k) (by have:=G.out.1; omega)
      have cT:(loadCellsFrom ⟨b,off+k*4,none⟩ 0 4 #[]).run Tryz.prog wr=.ok #[.int .i64 l.c,.int .i64 l.n,.int .i64 l.t,.int .i64 l.f] wr:=by
        have:=run_loadCells_list (P:=Tryz.prog) wr ⟨b,off+k*4,none⟩ [.int .i64 l.c,.int .i64 l.n,.int .i64 l.t,.int .i64 l.f] (fun j v E=>by
          rw [Addr.add_mid]
          have hj:=AP E
          rw [bc j hj]
          match j,hj,E with
          | 0,_,E=>exact congrArg some (Option.some.inj E)
          | 1,_,E=>exact congrArg some (Option.some.inj E)
          | 2,_,E=>exact congrArg some (Option.some.inj E)
          | 3,_,E=>exact congrArg some (Option.some.inj E))
        simpa [loadCells] using this
      obtain⟨w5,cq,b9,aU,bU⟩:=Ae wr #[.int .i64 l.c,.int .i64 l.n,.int .i64 l.t,.int .i64 l.f] 202
      have cY:∀c:Array Value,c.size=4→(storeCells ⟨wr.heap.size,0,none⟩ [.int .i64 l.c,.int .i64 l.n,.int .i64 l.t,.int .i64 l.f] 0).run Tryz.prog (wr.alloc (.cells c 202))=.ok () w5:=fun c hc=>by rw [←cq]; exact Dv wr 202 4 (by kernel_rfl) (rc:=#[.int .i64 l.c,.int .i64 l.n,.int .i64 l.t,.int .i64 l.f]) rfl (by simp [Value.oneCell']) c hc
      have cO:(loadCellsFrom ⟨wr.heap.size,0,none⟩ 0 4 #[]).run Tryz.prog w5=.ok #[.int .i64 l.c,.int .i64 l.n,.int .i64 l.t,.int .i64 l.f] w5:=Ah (n:=4) aU rfl
      have bb:∀y,Calls Tryz.prog 169 #[.agg #[.int .i64 l.c,.int .i64 l.n,.int .i64 l.t,.int .i64 l.f]] y (Ret fun r w'=>r=.bool (Bg l)∧Below y.heap.size y w'):=fun y=>FJ l y
      have ae:=hide (af.out.trans (b9.mono af.out.size))
      have bg:=hide hl
      subst hA
      clear bc bU aU b9 hl
      cases E:Bg l
      · have a4:=hide (show p.res.all Bg=false from by
          rw [List.all_eq_false]
          exact⟨l,List.mem_of_getElem? bg.out,by rw [E]; decide⟩)
        go_wp2_with (go_at_call 169; refine Calls.ret (bb _) ?_; rintro v w6 ⟨rfl,I⟩; rw [E])
        go_ret
        refine⟨congrArg (Value.int .i64) (hR.out.trans ?_).symm,a5.out.trans ((ae.out.trans (I.mono ae.out.size)).mono a5.out.size)⟩
        unfold DJ
        rw [a4.out]
        rfl
      · have a4:=hide (Cq (p:=Bg) bg.out M.out E)
        go_wp2_with (go_at_call 169; refine Calls.ret (bb _) ?_; rintro v w6 ⟨rfl,I⟩; rw [E]; have bO:=hide (ae.out.trans (I.mono ae.out.size)); clear I)
        exact⟨⟨k+1,by go_num,by omega,bO.out,a4.out⟩,by simp [intOf]; omega⟩
    · have a4:=hide (show p.res.all Bg=true from by
        have h1:=G.out.1
        have h2:=M.out
        rwa [List.take_of_length_le (by omega)] at h2)
      have al:=hide (show protE nameOK p=orE (Aj id [Aa p.initial (ns:Int),Ad ((U:Int)==0) 1,Aa p.leader (ns:Int)]) (Cc p) from by
        rw [hR.out]
        obtain⟨-,-,-,-,e5,e6,-⟩:=G.out
        have hq:((U:Int)==0)=p.initial.isEmpty:=by rw [Bv,e5,EF]
        unfold DJ Cc
        rw [a4.out,hq,e6]
        simp only [Aj,id_eq,Bk,Ef,show Ad (!true) 4=0 from rfl,AY])
      obtain⟨e8,bd⟩:∃e,Hid (Aj id [Aa p.initial (ns:Int),Ad ((U:Int)==0) 1,Aa p.leader (ns:Int)]=e):=⟨_,rfl⟩
      rw [bd.out] at al
      have aY:=hide al
      clear a4 M al
      go_wp2_with fail
      have b6:=hide (b5.out.at (Ap wr))
      have cF:=b6.out.b.cell
      have au:=hide (ar.out.trans ((Ap wr).mono ar.out.size))
      refine Reg.cI [0,1,0,7,0,16,48,112,255,0,512,0,4095,8191,16383,32767] [0,1,2,4,5,6,7,9,10,11,3,8,12,13,14,15] ?_
      refine Reg.wI [0,1,2,4,5,6,7,9,10,11] [3,8,12,13,14,15] rfl fun Qf C=>?_
      go_wp2_with fail
      first | refine C _ _ ⟨rfl,?_⟩ | refine⟨rfl,?_⟩ | refine C _ _ ⟨by simp [Reg.fineT,Reg.intOp,Region.wanted,yielded,Reg.intFine,Reg.isInt,Act.eval],?_⟩
      try clear C
      refine Reg.aI 3 [8,12,13,14,15] [5,10] rfl fun Qf C=>?_
      simp only [gT,gS,gZ]
      go_wp2_with (go_at_call 119; refine Calls.ret (bS _ au.out) ?_; rintro v w6 ⟨rfl,I⟩)
      first | refine C _ _ ⟨Reg.same_below (I) [5,10] rfl,?_⟩ | refine⟨Reg.same_below (I) [5,10] rfl,?_⟩
      try clear C
      have an:=hide (b6.out.at I)
      have cG:=an.out.b.cell
      have cQ:=Ah an.out.b a8.out
      have av:=hide (au.out.trans (I.mono au.out.size))
      clear I
      refine Reg.aI 8 [12,13,14,15] [10] rfl fun Qf C=>?_
      simp only [gT,gS,gZ]
      go_wp2_with (go_at_call 121; refine(Ce _ _ _).mono ?_; rintro e w' ⟨rfl,rfl⟩)
      first | refine C _ _ ⟨Reg.same_below (Below.refl _ _) [10] rfl,?_⟩ | refine⟨Reg.same_below (Below.refl _ _) [10] rfl,?_⟩
      try clear C
      refine Reg.aI 12 [13,14,15] [] rfl fun Qf C=>?_
      simp only [gT,gS,gZ]
      go_wp2_with (go_at_call 119; refine Calls.ret (bW _ av.out) ?_; rintro v w7 ⟨rfl,ay⟩)
      first | refine C _ _ ⟨Reg.nm,?_⟩ | refine⟨Reg.nm,?_⟩
      try clear C
      have ao:=hide (an.out.at ay)
      have cH:=ao.out.b.cell
      have cR:=Ah ao.out.b a8.out
      have b7:=hide (av.out.trans (ay.mono av.out.size))
      clear ay
      obtain⟨wz,d0,aA,aV,bV⟩:=Ae w7 #[.int .i64 (Aa p.initial (ns:Int)),.int .i64 (Ad ((U:Int)==0) 1),.int .i64 (Aa p.leader (ns:Int))] 36
      have bM:=hide (Ch (l:=[Aa p.initial (ns:Int),Ad ((U:Int)==0) 1,Aa p.leader (ns:Int)]) aV (by simp))
      clear aV bV
      have ap:=hide (ao.out.at aA)
      have cL:=ap.out.b.cell
      have cU:=Ah ap.out.b a8.out
      have a6:=hide (b7.out.trans (aA.mono b7.out.size))
      clear aA
      refine Reg.wI [13] [14,15] rfl fun Qf C=>?_
      go_wp2_with fail
      first | refine C _ _ ⟨rfl,?_⟩ | refine⟨rfl,?_⟩ | refine C _ _ ⟨by simp [Reg.fineT,Reg.intOp,Region.wanted,yielded,Reg.intFine,Reg.isInt,Act.eval],?_⟩
      try clear C
      refine Reg.aI 14 [15] [] rfl fun Qf C=>?_
      simp only [gT,gS,gZ]
      go_wp2_with (go_at_call 120; refine(Ci (l:=[Aa p.initial (ns:Int),Ad ((U:Int)==0) 1,Aa p.leader (ns:Int)]) bM.out).mono ?_; rintro e w' ⟨rfl,rfl⟩; rw [bd.out])
      first | refine C _ _ ⟨Reg.nm,?_⟩ | refine⟨Reg.nm,?_⟩
      try clear C
      refine Reg.wI [15] [] rfl fun Qf C=>?_
      go_wp2_with fail
      first | refine C _ _ ⟨rfl,?_⟩ | refine⟨rfl,?_⟩ | refine C _ _ ⟨by simp [Reg.fineT,Reg.intOp,Region.wanted,yielded,Reg.intFine,Reg.isInt,Act.eval],?_⟩
      try clear C
      first | refine Reg.restI_end ?_ | skip
      by_cases Z:e8=0
      case neg=>
        have cn:(e8 != 0)=true:=by simp [Z]
        have bE:=hide Z
        clear Z
        go_wp2_with fail
        go_ret
        exact⟨congrArg (Value.int .i64) (aY.out.trans (BF bE.out)).symm,a6.out⟩
      have cn:(e8 != 0)=false:=by simp [Z]
      have aZ:=hide (show protE nameOK p=Cc p from by rw [aY.out,Z,AY])
      clear Z
      go_wp2_with fail
      go_loopw [142] (fun W wr=>∃(k:Nat),W=.int .i64 (k:Int)∧k≤nu∧Hid (Below wz.heap.size wz wr)∧Hid (Aj (BB nameOK p) (List.range k)=0)) (fun W _=>nu - (intOf W).toNat)
      case atStart=>exact⟨0,rfl,Nat.zero_le _,Below.refl _ _,by show _=_; rfl⟩
      case round=>
        obtain⟨k,rfl,hk,a3,M⟩:=hrel
        have ad:=hide (ap.out.at a3.out)
        have cJ:=ad.out.b.cell
        have cS:=Ah ad.out.b a8.out
        have b8:=hide (a6.out.trans (a3.out.mono a6.out.size))
        by_cases bh:k<nu
        · obtain⟨e9,ag⟩:∃e,Hid (BB nameOK p k=e):=⟨_,rfl⟩
          have aB:=hide (co k _ bh ad)
          rw [ag.out] at aB
          have F:(List.range p.rules.length)[k]?=some k:=by rw [List.getElem?_range (by have:=G.out.2.2.2.2.2.2; omega)]
          have bp:=hide F
          have bn:(List.range p.rules.length).take k=List.range k:=by rw [List.take_range,Nat.min_eq_left (by have:=G.out.2.2.2.2.2.2; omega)]
          have bo:=hide bn
          clear F bn
          by_cases h0:e9=0
          · have hq:(e9 != 0)=false:=by simp [h0]
            have cc:=hide (show Aj (BB nameOK p) (List.range (k+1))=0 from by
              have h1:=CD (BB nameOK p) bp.out (by rw [bo.out]; exact M.out)
              rw [List.take_range,Nat.min_eq_left (by have:=G.out.2.2.2.2.2.2; omega)] at h1
              rw [h1,ag.out,h0])
            clear h0
            go_wp2_with (go_at_call 170; refine Calls.ret aB.out ?_; rintro v w9 ⟨rfl,O⟩; have az:=hide (a3.out.trans (O.mono a3.out.size)); clear O)
            exact⟨⟨k+1,by go_num,by omega,az.out,cc.out⟩,by simp [intOf]; omega⟩
          · have hq:(e9 != 0)=true:=by simp [h0]
            have cp:=hide (show protE nameOK p=e9 from by
              have h1:=Ct (BB nameOK p) bp.out (by rw [bo.out]; exact M.out) (by rw [ag.out]; exact h0)
              rw [aZ.out]
              unfold Cc
              rw [h1,ag.out,BF h0])
            clear h0
            go_wp2_with (go_at_call 170; refine Calls.ret aB.out ?_; rintro v w9 ⟨rfl,O⟩; have az:=hide (a3.out.trans (O.mono a3.out.size)); clear O)
            go_ret
            exact⟨congrArg (Value.int .i64) cp.out.symm,a6.out.trans (az.out.mono a6.out.size)⟩
        · obtain⟨nt,aL⟩:∃n,n=(BO p.rules).length:=⟨_,rfl⟩
          have bI:=hide (show protE nameOK p=Ad (decide (3<nt)) 4 from by
            have h1:=M.out
            rw [show k=p.rules.length by have:=G.out.2.2.2.2.2.2; omega] at h1
            rw [aZ.out,aL]
            unfold Cc
            rw [h1,AY])
          have bm:=hide (Lz (cs:=pc.toList) ad.out.pr aa.out)
          rw [←aL] at bm
          have bR:=hide (show decide (3<(nt:Int))=decide (3<nt) from by
            rw [decide_eq_decide]
            omega)
          have cW:nt≤1800:=by
            have h1:=FB p.rules (fun r hr=>(aa.out.rule r hr).1.2.1)
            have h2:=aa.out.rules
            omega
          clear aL M
          go_wp2_with (first
            | (go_at_call 171; refine Calls.ret bm.out ?_; rintro v w9 ⟨bk,O⟩; obtain⟨Av,cv,E⟩:=AH bk; subst E; have bN:=hide (b8.out.trans (O.mono b8.out.size)); clear bk O)
            | (go_at_call 121; refine(Ce _ _ _).mono ?_; rintro e w' ⟨rfl,rfl⟩))
          go_ret
          refine⟨congrArg (Value.int .i64) ?_,bN.out⟩
          rw [bI.out,←bR.out]
end Go.Proofs.YtfcfpoemojjglaaGreatDoor.K
namespace Go.Proofs.YtfcfpoemojjglaaGreatDoor.K
open Go.RowKit
attribute [-go_sem] loadCellsFrom storeCells
theorem RD {w:World} {cs:List Value} {p:Am} (h:At w w.heap.size cs p) (G:p.Small) (hT:SpOK w) (b7:nameOK p.name=true) (ax:p.topo≠1):
    Calls Tryz.prog 117 #[.agg cs.toArray] w (Ret fun v w'=>v=.int .i64 (protE nameOK p)∧Below w.heap.size w w'):=by
  obtain⟨A1,c1,A2,c2,A3,c3,A4,c4,A5,c5,A6,c6,A7,c7,ba,cD,bR,bS,bT,bU,bV,bW,bX,bY,bZ,h1,V,h3,h4,h5,h6,h7,bB⟩:=h.cells
  have bH:=G.states
  have bI:=G.messages
  have bJ:=G.values
  have bK:=G.res
  have bL:=G.initial
  have bM:=G.leader
  have bN:=G.rules
  have cA:=G.name
  have a7:=hide G
  have ci:=hide h4
  have bw:=hide h5
  have bx:=hide h6
  obtain⟨w1,cE,a2,aO,bE⟩:=Ae w cs.toArray 27
  have ah:=hide (show C0 w1 w.heap.size cs.toArray p from⟨h.keep (fun _ hp=>a2.cell hp) a2.size,aO,hT.below a2⟩)
  have b0:=hide a2
  generalize c0:cs.toArray=pc at*
  clear h1 V h3 h4 h5 h6 h7 h G a2 aO bE c0 hT
  obtain⟨nr,aD⟩:∃n,n=p.res.length:=⟨_,rfl⟩
  obtain⟨nm,aC⟩:∃n,n=p.messages.length:=⟨_,rfl⟩
  obtain⟨nv,aH⟩:∃n,n=p.values.length:=⟨_,rfl⟩
  obtain⟨nl,aB⟩:∃n,n=p.leader.length:=⟨_,rfl⟩
  obtain⟨J,aA⟩:∃n,n=p.initial.length:=⟨_,rfl⟩
  obtain⟨ns,aE⟩:∃n,n=p.states.length:=⟨_,rfl⟩
  obtain⟨nu,aG⟩:∃n,n=p.rules.length:=⟨_,rfl⟩
  have F:=hide (show nr=p.res.length∧nm=p.messages.length∧nv=p.values.length∧nl=p.leader.length∧J=p.initial.length∧ns=p.states.length∧nu=p.rules.length from⟨aD,aC,aH,aB,aA,aE,aG⟩)
  simp only [←aD,←aC,←aH,←aB,←aA,←aE,←aG] at bS bT bU bW bX bY bZ bH bI bJ bK bL bM bN bB
  clear aD aC aH aB aA aE aG
  obtain⟨kt,az⟩:∃n,n=p.topo:=⟨_,rfl⟩
  obtain⟨kf,ay⟩:∃n,n=p.fault:=⟨_,rfl⟩
  have aQ:=hide (show kt=p.topo∧kf=p.fault from⟨az,ay⟩)
  simp only [←az,←ay] at bR bV
  clear az ay
  have a5:=hide ba
  clear ba
  have cj:=ah.out.b.cell
  have b8:=hide b7
  clear b7
  have hP:=hide (show protE nameOK p=CH kt kf ns nm nv nr nu nl (CU nameOK (Bd p)) (DJ p) from by
    obtain⟨e1,e2,e3,e4,e5,e6,e7⟩:=F.out
    obtain⟨f1,f2⟩:=aQ.out
    rw [e1,e2,e3,e4,e6,e7,f1,f2]
    exact GI p b8.out)
  have bO:∀C,Hid (C0 C w.heap.size pc p)→Calls Tryz.prog 168 #[.agg pc] C (Ret fun v w'=>v=.int .i64 (CU nameOK (Bd p))∧Below C.heap.size C w'):=fun C E=>J6 E.out.pr a7.out E.out.tab
  generalize CU nameOK (Bd p)=e0 at*
  have ae:Hid (kt≠1):=by rw [←aQ.out.1] at ax; exact ax
  have cr:(kt==1)=false:=by simp [ae.out]
  clear ax
  go_enter Tryz.func117,Tryz.ntmps117
  go_wp2_with (first
    | (go_at_call 118; refine Calls.ret (Da p.name _ (by omega) ah.out.tab) ?_; rintro v w2 ⟨rfl,ap⟩; rw [b8.out]; have a9:=hide (ah.out.at ap); have ck:=a9.out.b.cell; have cu:=Ah a9.out.b a5.out; have al:=hide (b0.out.trans (ap.mono b0.out.size)); clear ap)
    | (go_at_call 168; refine Calls.ret (bO _ a9) ?_; rintro v w3 ⟨rfl,aq⟩; have aU:=hide (a9.out.at aq); have cl:=aU.out.b.cell; have am:=hide (al.out.trans (aq.mono al.out.size)); clear aq))
  all_goals first
    | (go_ret
       refine⟨congrArg (Value.int .i64) (hP.out.trans ?_).symm,?_⟩
       · first
           | exact pv2 (by omega)
           | exact pv3 (by omega) (by assumption)
           | exact pv4 (by omega) (by assumption) (by omega)
           | exact pv5 (by omega) (by assumption) (by omega) (by assumption)
           | exact pv6 (by omega) (by assumption) (by omega) (by assumption) (by have:=ae.out; omega)
       · first
           | exact am.out
           | exact al.out)
    | (have hR:=hide (hP.out.trans (pv7 (by omega) (by assumption) (by omega) (by assumption) (by have:=ae.out; omega))))
  have bP:=hide (show nr=0 by omega)
  rename_i z0 z1 z2 z3 z4 z5 z6 z7 z8 z9 z10 z11 z12 z13 z14 zK zQ
  clear z0 z1 z2 z3 z4 z5 z6 z7 z8 z9 z10 z11 z12 z13 z14
  clear hP
  have c9:∀(k:Nat) (C:World),k<nu→Hid (C0 C w.heap.size pc p)→Calls Tryz.prog 170 #[.agg pc,.int .i64 (k:Int)] C (Ret fun v w'=>v=.int .i64 (BB nameOK p k)∧Below C.heap.size C w'):=by
    intro k C hk E
    obtain⟨r,hr⟩:∃r,p.rules[k]?=some r:=⟨_,List.getElem?_eq_getElem (by have:=F.out.2.2.2.2.2.2; omega)⟩
    have h0:=a7.out.rule r (List.mem_of_getElem? hr)
    have h1:=KT (cs:=pc.toList) E.out.pr hr h0.1 (by have:=h0.2; omega) E.out.tab
    rw [KU _ _ _ _ _ (by omega)] at h1
    have V:BB nameOK p k=BC nameOK p.topo p.states.length p.messages.length p.values.length ((p.rules.take k).any fun x=>decide (x.name=r.name)) r:=by
      unfold BB
      rw [hr]
    rw [V]
    exact h1
  have bD:∀C,Below w.heap.size w C→Calls Tryz.prog 119 #[.slice A5 J c5,.int .i64 (ns:Int)] C (Ret fun r w'=>r=.int .i64 (Aa p.initial (ns:Int))∧Below C.heap.size C w'):=fun C E=>by
    rw [F.out.2.2.2.2.1]
    exact DE (bw.out.keep (fun _ hp=>E.cell hp) E.size)
  have bG:∀C,Below w.heap.size w C→Calls Tryz.prog 119 #[.slice A6 nl c6,.int .i64 (ns:Int)] C (Ret fun r w'=>r=.int .i64 (Aa p.leader (ns:Int))∧Below C.heap.size C w'):=fun C E=>by
    rw [F.out.2.2.2.1]
    exact DE (bx.out.keep (fun _ hp=>E.cell hp) E.size)
  go_loopw [113] (fun O wr=>∃(k:Nat),O=.int .i64 (k:Int)∧k≤0∧Hid (Below w3.heap.size w3 wr)∧Hid ((p.res.take k).all Bg=true)) (fun O _=>0 - (intOf O).toNat)
  case atStart=>exact⟨0,rfl,Nat.zero_le _,Below.refl _ _,by show _=_; simp⟩
  case round=>
    obtain⟨k,rfl,hk,b4,M⟩:=hrel
    have aV:=hide (aU.out.at b4.out)
    have cm:=aV.out.b.cell
    have aX:=hide (am.out.trans (b4.out.mono am.out.size))
    by_cases b6:k<0
    · exfalso
      omega
    · have bb:=hide (show p.res.all Bg=true from by
        have h1:=F.out.1
        have V:=M.out
        have h3:=bP.out
        rwa [List.take_of_length_le (by omega)] at V)
      have ag:=hide (show protE nameOK p=orE (Aj id [Aa p.initial (ns:Int),Ad ((J:Int)==0) 1,Aa p.leader (ns:Int)]) (Cc p) from by
        rw [hR.out]
        obtain⟨-,-,-,-,e5,e6,-⟩:=F.out
        have hq:((J:Int)==0)=p.initial.isEmpty:=by rw [Bv,e5,EF]
        unfold DJ Cc
        rw [bb.out,hq,e6]
        simp only [Aj,id_eq,Bk,Ef,show Ad (!true) 4=0 from rfl,AY])
      obtain⟨e8,b5⟩:∃e,Hid (Aj id [Aa p.initial (ns:Int),Ad ((J:Int)==0) 1,Aa p.leader (ns:Int)]=e):=⟨_,rfl⟩
      rw [b5.out] at ag
      have aR:=hide ag
      clear bb M ag
      go_wp2_with fail
      have aW:=hide (aV.out.at (Ap wr))
      have cn:=aW.out.b.cell
      have an:=hide (aX.out.trans ((Ap wr).mono aX.out.size))
      refine Reg.cI [0,1,0,7,0,16,48,112,255,0,512,0,4095,8191,16383,32767] [0,1,2,4,5,6,7,9,10,11,3,8,12,13,14,15] ?_
      refine Reg.wI [0,1,2,4,5,6,7,9,10,11] [3,8,12,13,14,15] rfl fun Qf y=>?_
      go_wp2_with fail
      first | refine y _ _ ⟨rfl,?_⟩ | refine⟨rfl,?_⟩ | refine y _ _ ⟨by simp [Reg.fineT,Reg.intOp,Region.wanted,yielded,Reg.intFine,Reg.isInt,Act.eval],?_⟩
      try clear y
      refine Reg.aI 3 [8,12,13,14,15] [5,10] rfl fun Qf y=>?_
      simp only [gT,gS,gZ]
      go_wp2_with (go_at_call 119; refine Calls.ret (bD _ an.out) ?_; rintro v w6 ⟨rfl,a3⟩)
      first | refine y _ _ ⟨Reg.same_below (a3) [5,10] rfl,?_⟩ | refine⟨Reg.same_below (a3) [5,10] rfl,?_⟩
      try clear y
      have ai:=hide (aW.out.at a3)
      have co:=ai.out.b.cell
      have cw:=Ah ai.out.b a5.out
      have ao:=hide (an.out.trans (a3.mono an.out.size))
      clear a3
      refine Reg.aI 8 [12,13,14,15] [10] rfl fun Qf y=>?_
      simp only [gT,gS,gZ]
      go_wp2_with (go_at_call 121; refine(Ce _ _ _).mono ?_; rintro e w' ⟨rfl,rfl⟩)
      first | refine y _ _ ⟨Reg.same_below (Below.refl _ _) [10] rfl,?_⟩ | refine⟨Reg.same_below (Below.refl _ _) [10] rfl,?_⟩
      try clear y
      refine Reg.aI 12 [13,14,15] [] rfl fun Qf y=>?_
      simp only [gT,gS,gZ]
      go_wp2_with (go_at_call 119; refine Calls.ret (bG _ ao.out) ?_; rintro v w7 ⟨rfl,ar⟩)
      first | refine y _ _ ⟨Reg.nm,?_⟩ | refine⟨Reg.nm,?_⟩
      try clear y
      have aj:=hide (ai.out.at ar)
      have cp:=aj.out.b.cell
      have cx:=Ah aj.out.b a5.out
      have aY:=hide (ao.out.trans (ar.mono ao.out.size))
      clear ar
      obtain⟨wz,cF,av,aP,bF⟩:=Ae w7 #[.int .i64 (Aa p.initial (ns:Int)),.int .i64 (Ad ((J:Int)==0) 1),.int .i64 (Aa p.leader (ns:Int))] 36
      have bz:=hide (Ch (l:=[Aa p.initial (ns:Int),Ad ((J:Int)==0) 1,Aa p.leader (ns:Int)]) aP (by simp))
      clear aP bF
      have ak:=hide (aj.out.at av)
      have ct:=ak.out.b.cell
      have cz:=Ah ak.out.b a5.out
      have Z:=hide (aY.out.trans (av.mono aY.out.size))
      clear av
      refine Reg.wI [13] [14,15] rfl fun Qf y=>?_
      go_wp2_with fail
      first | refine y _ _ ⟨rfl,?_⟩ | refine⟨rfl,?_⟩ | refine y _ _ ⟨by simp [Reg.fineT,Reg.intOp,Region.wanted,yielded,Reg.intFine,Reg.isInt,Act.eval],?_⟩
      try clear y
      refine Reg.aI 14 [15] [] rfl fun Qf y=>?_
      simp only [gT,gS,gZ]
      go_wp2_with (go_at_call 120; refine(Ci (l:=[Aa p.initial (ns:Int),Ad ((J:Int)==0) 1,Aa p.leader (ns:Int)]) bz.out).mono ?_; rintro e w' ⟨rfl,rfl⟩; rw [b5.out])
      first | refine y _ _ ⟨Reg.nm,?_⟩ | refine⟨Reg.nm,?_⟩
      try clear y
      refine Reg.wI [15] [] rfl fun Qf y=>?_
      go_wp2_with fail
      first | refine y _ _ ⟨rfl,?_⟩ | refine⟨rfl,?_⟩ | refine y _ _ ⟨by simp [Reg.fineT,Reg.intOp,Region.wanted,yielded,Reg.intFine,Reg.isInt,Act.eval],?_⟩
      try clear y
      first | refine Reg.restI_end ?_ | skip
      by_cases U:e8=0
      case neg=>
        have c8:(e8 != 0)=true:=by simp [U]
        have bs:=hide U
        clear U
        go_wp2_with fail
        go_ret
        exact⟨congrArg (Value.int .i64) (aR.out.trans (BF bs.out)).symm,Z.out⟩
      have c8:(e8 != 0)=false:=by simp [U]
      have aS:=hide (show protE nameOK p=Cc p from by rw [aR.out,U,AY])
      clear U
      go_wp2_with fail
      go_loopw [142] (fun O wr=>∃(k:Nat),O=.int .i64 (k:Int)∧k≤nu∧Hid (Below wz.heap.size wz wr)∧Hid (Aj (BB nameOK p) (List.range k)=0)) (fun O _=>nu - (intOf O).toNat)
      case atStart=>exact⟨0,rfl,Nat.zero_le _,Below.refl _ _,by show _=_; rfl⟩
      case round=>
        obtain⟨k,rfl,hk,W,M⟩:=hrel
        have aa:=hide (ak.out.at W.out)
        have cq:=aa.out.b.cell
        have cy:=Ah aa.out.b a5.out
        have aZ:=hide (Z.out.trans (W.out.mono Z.out.size))
        by_cases b6:k<nu
        · obtain⟨e9,ab⟩:∃e,Hid (BB nameOK p k=e):=⟨_,rfl⟩
          have aw:=hide (c9 k _ b6 aa)
          rw [ab.out] at aw
          have E:(List.range p.rules.length)[k]?=some k:=by rw [List.getElem?_range (by have:=F.out.2.2.2.2.2.2; omega)]
          have bf:=hide E
          have bd:(List.range p.rules.length).take k=List.range k:=by rw [List.take_range,Nat.min_eq_left (by have:=F.out.2.2.2.2.2.2; omega)]
          have be:=hide bd
          clear E bd
          by_cases h0:e9=0
          · have hq:(e9 != 0)=false:=by simp [h0]
            have bQ:=hide (show Aj (BB nameOK p) (List.range (k+1))=0 from by
              have h1:=CD (BB nameOK p) bf.out (by rw [be.out]; exact M.out)
              rw [List.take_range,Nat.min_eq_left (by have:=F.out.2.2.2.2.2.2; omega)] at h1
              rw [h1,ab.out,h0])
            clear h0
            go_wp2_with (go_at_call 170; refine Calls.ret aw.out ?_; rintro v w9 ⟨rfl,I⟩; have au:=hide (W.out.trans (I.mono W.out.size)); clear I)
            exact⟨⟨k+1,by go_num,by omega,au.out,bQ.out⟩,by simp [intOf]; omega⟩
          · have hq:(e9 != 0)=true:=by simp [h0]
            have ca:=hide (show protE nameOK p=e9 from by
              have h1:=Ct (BB nameOK p) bf.out (by rw [be.out]; exact M.out) (by rw [ab.out]; exact h0)
              rw [aS.out]
              unfold Cc
              rw [h1,ab.out,BF h0])
            clear h0
            go_wp2_with (go_at_call 170; refine Calls.ret aw.out ?_; rintro v w9 ⟨rfl,I⟩; have au:=hide (W.out.trans (I.mono W.out.size)); clear I)
            go_ret
            exact⟨congrArg (Value.int .i64) ca.out.symm,Z.out.trans (au.out.mono Z.out.size)⟩
        · obtain⟨nt,aF⟩:∃n,n=(BO p.rules).length:=⟨_,rfl⟩
          have bv:=hide (show protE nameOK p=Ad (decide (3<nt)) 4 from by
            have h1:=M.out
            rw [show k=p.rules.length by have:=F.out.2.2.2.2.2.2; omega] at h1
            rw [aS.out,aF]
            unfold Cc
            rw [h1,AY])
          have bc:=hide (Lz (cs:=pc.toList) aa.out.pr a7.out)
          rw [←aF] at bc
          have bC:=hide (show decide (3<(nt:Int))=decide (3<nt) from by
            rw [decide_eq_decide]
            omega)
          have cB:nt≤1800:=by
            have h1:=FB p.rules (fun r hr=>(a7.out.rule r hr).1.2.1)
            have V:=a7.out.rules
            omega
          clear aF M
          go_wp2_with (first
            | (go_at_call 171; refine Calls.ret bc.out ?_; rintro v w9 ⟨b9,I⟩; obtain⟨Av,cv,hv⟩:=AH b9; subst hv; have bA:=hide (aZ.out.trans (I.mono aZ.out.size)); clear b9 I)
            | (go_at_call 121; refine(Ce _ _ _).mono ?_; rintro e w' ⟨rfl,rfl⟩))
          go_ret
          refine⟨congrArg (Value.int .i64) ?_,bA.out⟩
          rw [bv.out,←bC.out]
end Go.Proofs.YtfcfpoemojjglaaGreatDoor.K
namespace Go.Proofs.YtfcfpoemojjglaaGreatDoor.K
open Go.RowKit
attribute [-go_sem] loadCellsFrom storeCells
theorem RE {w:World} {cs:List Value} {p:Am} (h:At w w.heap.size cs p) (x:p.Small) (hT:SpOK w) (a6:nameOK p.name=false):
  Calls Tryz.prog 117 #[.agg cs.toArray] w (Ret fun v w'=>v=.int .i64 (protE nameOK p)∧Below w.heap.size w w'):=by
 obtain⟨A1,c1,A2,c2,A3,c3,A4,c4,A5,c5,A6,c6,A7,c7,a8,aP,an,ao,ap,aq,ar,au,av,aw,ax,h1,h2,h3,V,W,Z,h7,ad⟩:=h.cells
 have af:=x.states
 have ag:=x.messages
 have ah:=x.values
 have ai:=x.res
 have aj:=x.initial
 have ak:=x.leader
 have al:=x.rules
 have aO:=x.name
 have aR:=hide x
 have aK:=hide V
 have aL:=hide W
 have aM:=hide Z
 obtain⟨w1,aS,y,a2,ae⟩:=Ae w cs.toArray 27
 have a4:=hide (show C0 w1 w.heap.size cs.toArray p from⟨h.keep (fun _ hp=>y.cell hp) y.size,a2,hT.below y⟩)
 have a5:=hide y
 generalize ay:cs.toArray=pc at*
 clear h1 h2 h3 V W Z h7 h x y a2 ae ay hT
 obtain⟨nr,J⟩:∃n,n=p.res.length:=⟨_,rfl⟩
 obtain⟨nm,I⟩:∃n,n=p.messages.length:=⟨_,rfl⟩
 obtain⟨nv,U⟩:∃n,n=p.values.length:=⟨_,rfl⟩
 obtain⟨nl,G⟩:∃n,n=p.leader.length:=⟨_,rfl⟩
 obtain⟨ni,F⟩:∃n,n=p.initial.length:=⟨_,rfl⟩
 obtain⟨ns,M⟩:∃n,n=p.states.length:=⟨_,rfl⟩
 obtain⟨nu,O⟩:∃n,n=p.rules.length:=⟨_,rfl⟩
 have aJ:=hide (show nr=p.res.length∧nm=p.messages.length∧nv=p.values.length∧nl=p.leader.length∧ni=p.initial.length∧ns=p.states.length∧nu=p.rules.length from⟨J,I,U,G,F,M,O⟩)
 simp only [←J,←I,←U,←G,←F,←M,←O] at ao ap aq au av aw ax af ag ah ai aj ak al ad
 clear J I U G F M O
 obtain⟨kt,E⟩:∃n,n=p.topo:=⟨_,rfl⟩
 obtain⟨kf,C⟩:∃n,n=p.fault:=⟨_,rfl⟩
 have aH:=hide (show kt=p.topo∧kf=p.fault from⟨E,C⟩)
 simp only [←E,←C] at an ar
 clear E C
 have aQ:=hide a8
 clear a8
 have aN:=a4.out.b.cell
 have a7:=hide a6
 clear a6
 go_enter Tryz.func117,Tryz.ntmps117
 go_wp2_with (go_at_call 118; refine Calls.ret (Da p.name _ (by omega) a4.out.tab) ?_; rintro v w2 ⟨rfl,ac⟩; rw [a7.out])
 go_ret
 exact⟨by unfold protE; rw [a7.out]; rfl,a5.out.trans (ac.mono a5.out.size)⟩
theorem Kt {w:World} {cs:List Value} {p:Am} (h:At w w.heap.size cs p) (C:p.Small) (x:SpOK w):
  Calls Tryz.prog 117 #[.agg cs.toArray] w (Ret fun v w'=>v=.int .i64 (protE nameOK p)∧Below w.heap.size w w'):=by
 cases y:nameOK p.name
 ·exact RE h C x y
 ·by_cases ht:p.topo=1
  ·exact RC h C x y ht
  ·exact RD h C x y ht
end Go.Proofs.YtfcfpoemojjglaaGreatDoor.K
