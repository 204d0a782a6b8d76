/-
  Part CI of a proof.
-/
import Derived.Test.YtfcfpoemojjglaaGreatDoorPA
import Derived.Test.YtfcfpoemojjglaaGreatDoorCG
import Derived.Test.YtfcfpoemojjglaaGreatDoorCE
set_option maxHeartbeats 16000000
set_option maxRecDepth 100000
set_option linter.unusedVariables false
set_option linter.unusedSimpArgs false
namespace Go.Proofs.YtfcfpoemojjglaaGreatDoor.K
open Go.RowKit
attribute [-go_sem] loadCellsFrom storeCells
structure C0 (w:World) (g:Nat) (pc:Array Value) (p:Am):Prop where
 pr:At w w.heap.size pc.toList p
 b:Blk w g 27 pc
 tab:A0 w
theorem C0.at {w w':World} {g:Nat} {z:Array Value} {p:Am} (h:C0 w g z p) (y:Below w.heap.size w w'):C0 w' g z p:=
 ⟨h.pr.keep (fun _ C=>y.cell C) y.size,h.b.below y,h.tab.below y⟩
theorem At.cells {w:World} {B:Nat} {cs:List Value} {p:Am} (h:At w B cs p):∃y M z c2 C O E U F V G W I J,
  cs.toArray.size=10∧cs.toArray[0]?=some (.string p.name)∧cs.toArray[1]?=some (.int .i64 p.topo)∧cs.toArray[2]?=some (.slice y p.states.length M)∧cs.toArray[3]?=some (.slice z p.messages.length c2)∧
  cs.toArray[4]?=some (.slice C p.values.length O)∧cs.toArray[5]?=some (.int .i64 p.fault)∧cs.toArray[6]?=some (.slice E p.res.length U)∧cs.toArray[7]?=some (.slice F p.initial.length V)∧cs.toArray[8]?=some (.slice G p.leader.length W)∧cs.toArray[9]?=some (.slice I p.rules.length J)∧
  Sl w B 1 BE y p.states∧Sl w B 1 BE z p.messages∧Sl w B 1 BE C p.values∧Sl w B 4 EG E p.res∧Sl w B 1 Ai F p.initial∧Sl w B 1 Ai G p.leader∧BR w B 18 (AW w B) I p.rules∧p.rules.length≤J:=by
 obtain⟨y,M,z,c2,C,O,E,U,F,V,G,W,I,J,rfl,h1,Z,h3,h4,h5,h6,h7,a7⟩:=h
 exact⟨y,M,z,c2,C,O,E,U,F,V,G,W,I,J,rfl,rfl,rfl,rfl,rfl,rfl,rfl,rfl,rfl,rfl,rfl,h1,Z,h3,h4,h5,h6,h7,a7⟩
def DJ (p:Am):Int:=
 orE (Ad (!p.res.all Bg) 4)
 (orE (Aa p.initial p.states.length)
 (orE (Ad p.initial.isEmpty 1)
 (orE (Aa p.leader p.states.length)
 (orE (Aj (BB Ab p) (List.range p.rules.length))
 (Ad (decide (3<(BO p.rules).length)) 4)))))
def Cc (p:Am):Int:=orE (Aj (BB Ab p) (List.range p.rules.length)) (Ad (decide (3<(BO p.rules).length)) 4)
def CH (kt kf:Int) (ns nm nv nr nu nl:Nat) (e R:Int):Int:=
 orE (Ad (!(decide (1≤kt)&&decide (kt≤4))||!(decide (0≤kf)&&decide (kf≤3))) 1)
 (orE (Ad (decide (ns=0)) 1)
 (orE (Ad (decide (6<ns)||decide (3<nm)||decide (3<nv)||decide (4<nr)||decide (8<nu)) 4)
 (orE e
 (orE (Ad ((!decide (kt=1)&&(!decide (nm=0)||!decide (nv=0)||!decide (nr=0)||!decide (kf=0)))||(decide (kt=1)&&!decide (nl=0))) 1) R))))
section
variable {kt kf:Int} {ns nm nv nr nu nl:Nat} {e R:Int}
theorem pvA (h:1≤kt∧kt≤4∧0≤kf∧kf≤3):(!(decide (1≤kt)&&decide (kt≤4))||!(decide (0≤kf)&&decide (kf≤3)))=false:=by simp [h]
theorem pv2 (h:kt<1∨4<kt∨kf<0∨3<kf):CH kt kf ns nm nv nr nu nl e R=1:=by
 have h1:(!(decide (1≤kt)&&decide (kt≤4))||!(decide (0≤kf)&&decide (kf≤3)))=true:=by
  simp
  omega
 unfold CH
 rw [h1]
 rfl
theorem pv3 (y:1≤kt∧kt≤4∧0≤kf∧kf≤3) (h:((ns:Int)==0)=true):CH kt kf ns nm nv nr nu nl e R=1:=by
 unfold CH
 rw [pvA y,decide_eq_true (show ns=0 by simpa using h)]
 rfl
theorem pvB (h:((ns:Int)==0)=false):decide (ns=0)=false:=by simpa using h
theorem pv4 (y:1≤kt∧kt≤4∧0≤kf∧kf≤3) (z:((ns:Int)==0)=false) (h:6<(ns:Int)∨3<(nm:Int)∨3<(nv:Int)∨4<(nr:Int)∨8<(nu:Int)):CH kt kf ns nm nv nr nu nl e R=4:=by
 have h1:(decide (6<ns)||decide (3<nm)||decide (3<nv)||decide (4<nr)||decide (8<nu))=true:=by
  simp
  omega
 unfold CH
 rw [pvA y,pvB z,h1]
 rfl
theorem pvC (h:(ns:Int)≤6∧(nm:Int)≤3∧(nv:Int)≤3∧(nr:Int)≤4∧(nu:Int)≤8):(decide (6<ns)||decide (3<nm)||decide (3<nv)||decide (4<nr)||decide (8<nu))=false:=by
 simp
 omega
theorem pv5 (y:1≤kt∧kt≤4∧0≤kf∧kf≤3) (z:((ns:Int)==0)=false) (C:(ns:Int)≤6∧(nm:Int)≤3∧(nv:Int)≤3∧(nr:Int)≤4∧(nu:Int)≤8) (h:(e != 0)=true):CH kt kf ns nm nv nr nu nl e R=e:=by
 unfold CH
 rw [pvA y,pvB z,pvC C]
 exact BF (by simpa using h)
theorem pvD (h:(e != 0)=false):e=0:=by simpa using h
theorem pv6 (y:1≤kt∧kt≤4∧0≤kf∧kf≤3) (z:((ns:Int)==0)=false) (C:(ns:Int)≤6∧(nm:Int)≤3∧(nv:Int)≤3∧(nr:Int)≤4∧(nu:Int)≤8) (E:(e != 0)=false) (h:(kt≠1∧(nm≠0∨nv≠0∨nr≠0∨kf≠0))∨(kt=1∧nl≠0)):CH kt kf ns nm nv nr nu nl e R=1:=by
 have h1:((!decide (kt=1)&&(!decide (nm=0)||!decide (nv=0)||!decide (nr=0)||!decide (kf=0)))||(decide (kt=1)&&!decide (nl=0)))=true:=by
  simp
  omega
 unfold CH
 rw [pvA y,pvB z,pvC C,pvD E,h1]
 rfl
theorem pv7 (y:1≤kt∧kt≤4∧0≤kf∧kf≤3) (z:((ns:Int)==0)=false) (C:(ns:Int)≤6∧(nm:Int)≤3∧(nv:Int)≤3∧(nr:Int)≤4∧(nu:Int)≤8) (E:(e != 0)=false) (h:(kt≠1∧nm=0∧nv=0∧nr=0∧kf=0)∨(kt=1∧nl=0)):CH kt kf ns nm nv nr nu nl e R=R:=by
 have h1:((!decide (kt=1)&&(!decide (nm=0)||!decide (nv=0)||!decide (nr=0)||!decide (kf=0)))||(decide (kt=1)&&!decide (nl=0)))=false:=by
  simp
  omega
 unfold CH
 rw [pvA y,pvB z,pvC C,pvD E,h1]
 rfl
end
theorem GI (p:Am) (h:Ab p.name=true):AC Ab p=CH p.topo p.fault p.states.length p.messages.length p.values.length p.res.length p.rules.length p.leader.length (CU Ab (Bd p)) (DJ p):=by
 unfold AC CH DJ
 rw [h,Bv,Bv,Bv,Bv,Bv]
 rfl
theorem EF (n:Nat):((n:Int)==0)=decide (n=0):=by by_cases h:n=0 <;> simp [h]
end Go.Proofs.YtfcfpoemojjglaaGreatDoor.K
namespace Go.Proofs.YtfcfpoemojjglaaGreatDoor.K
open Go.RowKit
attribute [-go_sem] loadCellsFrom storeCells
theorem RC {w:World} {cs:List Value} {p:Am} (h:At w w.heap.size cs p) (I:p.Small) (hT:A0 w) (bh:Ab p.name=true) (aD:p.topo=1):
    Calls Tryz.prog 117 #[.agg cs.toArray] w (Ret fun v w'=>v=.int .i64 (AC Ab p)∧Below w.heap.size w w'):=by
  obtain⟨A1,c1,A2,c2,A3,c3,A4,c4,A5,c5,A6,c6,A7,c7,bk,d5,ce,cf,cg,ch,ci,cj,ck,cm,cn,h1,Z,h3,h4,h5,h6,h7,bR⟩:=h.cells
  have bY:=I.states
  have bZ:=I.messages
  have c0:=I.values
  have c8:=I.res
  have c9:=I.initial
  have ca:=I.leader
  have cb:=I.rules
  have d3:=I.name
  have a9:=hide I
  have bK:=hide h4
  have bL:=hide h5
  have bM:=hide h6
  obtain⟨w1,d7,a6,aV,bU⟩:=Ae w cs.toArray 27
  have an:=hide (show C0 w1 w.heap.size cs.toArray p from⟨h.keep (fun _ U=>a6.cell U) a6.size,aV,hT.below a6⟩)
  have b9:=hide a6
  generalize co:cs.toArray=pc at*
  clear h1 Z h3 h4 h5 h6 h7 h I a6 aV bU co hT
  obtain⟨nr,aK⟩:∃n,n=p.res.length:=⟨_,rfl⟩
  obtain⟨nm,aJ⟩:∃n,n=p.messages.length:=⟨_,rfl⟩
  obtain⟨nv,aO⟩:∃n,n=p.values.length:=⟨_,rfl⟩
  obtain⟨nl,aH⟩:∃n,n=p.leader.length:=⟨_,rfl⟩
  obtain⟨O,aG⟩:∃n,n=p.initial.length:=⟨_,rfl⟩
  obtain⟨ns,aL⟩:∃n,n=p.states.length:=⟨_,rfl⟩
  obtain⟨nu,aN⟩:∃n,n=p.rules.length:=⟨_,rfl⟩
  have F:=hide (show nr=p.res.length∧nm=p.messages.length∧nv=p.values.length∧nl=p.leader.length∧O=p.initial.length∧ns=p.states.length∧nu=p.rules.length from⟨aK,aJ,aO,aH,aG,aL,aN⟩)
  simp only [←aK,←aJ,←aO,←aH,←aG,←aL,←aN] at cf cg ch cj ck cm cn bY bZ c0 c8 c9 ca cb bR
  clear aK aJ aO aH aG aL aN
  obtain⟨kt,aF⟩:∃n,n=p.topo:=⟨_,rfl⟩
  obtain⟨kf,aE⟩:∃n,n=p.fault:=⟨_,rfl⟩
  have aY:=hide (show kt=p.topo∧kf=p.fault from⟨aF,aE⟩)
  simp only [←aF,←aE] at ce ci
  clear aF aE
  have a7:=hide bk
  clear bk
  have cK:=an.out.b.cell
  have bi:=hide bh
  clear bh
  have hP:=hide (show AC Ab p=CH kt kf ns nm nv nr nu nl (CU Ab (Bd p)) (DJ p) from by
    obtain⟨e1,e2,e3,e4,e5,e6,e7⟩:=F.out
    obtain⟨f1,f2⟩:=aY.out
    rw [e1,e2,e3,e4,e6,e7,f1,f2]
    exact GI p bi.out)
  have cc:∀y,Hid (C0 y w.heap.size pc p)→Calls Tryz.prog 168 #[.agg pc] y (Ret fun v w'=>v=.int .i64 (CU Ab (Bd p))∧Below y.heap.size y w'):=fun y E=>J6 E.out.pr a9.out E.out.tab
  generalize CU Ab (Bd p)=e0 at*
  have ak:Hid (kt=1):=by rw [←aY.out.1] at aD; exact aD
  have cU:(kt==1)=true:=by simp [ak.out]
  clear aD
  go_enter Tryz.func117,Tryz.ntmps117
  go_wp2_with (first
    | (go_at_call 118; refine Calls.ret (Da p.name _ (by omega) an.out.tab) ?_; rintro v w2 ⟨rfl,ax⟩; rw [bi.out]; have ab:=hide (an.out.at ax); have cL:=ab.out.b.cell; have cW:=Ah ab.out.b a7.out; have ar:=hide (b9.out.trans (ax.mono b9.out.size)); clear ax)
    | (go_at_call 168; refine Calls.ret (cc _ ab) ?_; rintro v w3 ⟨rfl,ay⟩; have b3:=hide (ab.out.at ay); have cM:=b3.out.b.cell; have a4:=hide (ar.out.trans (ay.mono ar.out.size)); clear ay))
  all_goals first
    | (go_ret
       refine⟨congrArg (Value.int .i64) (hP.out.trans ?_).symm,?_⟩
       · first
           | exact pv2 (by omega)
           | exact pv3 (by omega) (by assumption)
           | exact pv4 (by omega) (by assumption) (by omega)
           | exact pv5 (by omega) (by assumption) (by omega) (by assumption)
           | exact pv6 (by omega) (by assumption) (by omega) (by assumption) (by have:=ak.out; omega)
       · first
           | exact a4.out
           | exact ar.out)
    | (have hR:=hide (hP.out.trans (pv7 (by omega) (by assumption) (by omega) (by assumption) (by have:=ak.out; omega))))
  rename_i z0 z1 z2 z3 z4 z5 z6 z7 z8 z9 z10 z11 zK zQ
  clear z0 z1 z2 z3 z4 z5 z6 z7 z8 z9 z10 z11
  clear hP
  have cq:∀(k:Nat) (y:World),k<nu→Hid (C0 y w.heap.size pc p)→Calls Tryz.prog 170 #[.agg pc,.int .i64 (k:Int)] y (Ret fun v w'=>v=.int .i64 (BB Ab p k)∧Below y.heap.size y w'):=by
    intro k y hk E
    obtain⟨r,hr⟩:∃r,p.rules[k]?=some r:=⟨_,List.getElem?_eq_getElem (by have:=F.out.2.2.2.2.2.2; omega)⟩
    have h0:=a9.out.rule r (List.mem_of_getElem? hr)
    have h1:=KT (cs:=pc.toList) E.out.pr hr h0.1 (by have:=h0.2; omega) E.out.tab
    rw [KU _ _ _ _ _ (by omega)] at h1
    have Z:BB Ab p k=BC Ab p.topo p.states.length p.messages.length p.values.length ((p.rules.take k).any fun x=>decide (x.name=r.name)) r:=by
      unfold BB
      rw [hr]
    rw [Z]
    exact h1
  have bT:∀y,Below w.heap.size w y→Calls Tryz.prog 119 #[.slice A5 O c5,.int .i64 (ns:Int)] y (Ret fun r w'=>r=.int .i64 (Aa p.initial (ns:Int))∧Below y.heap.size y w'):=fun y E=>by
    rw [F.out.2.2.2.2.1]
    exact DE (bL.out.keep (fun _ U=>E.cell U) E.size)
  have bX:∀y,Below w.heap.size w y→Calls Tryz.prog 119 #[.slice A6 nl c6,.int .i64 (ns:Int)] y (Ret fun r w'=>r=.int .i64 (Aa p.leader (ns:Int))∧Below y.heap.size y w'):=fun y E=>by
    rw [F.out.2.2.2.1]
    exact DE (bM.out.keep (fun _ U=>E.cell U) E.size)
  go_loopw [113] (fun V wr=>∃(k:Nat),V=.int .i64 (k:Int)∧k≤nr∧Hid (Below w3.heap.size w3 wr)∧Hid ((p.res.take k).all Bg=true)) (fun V _=>nr - (intOf V).toNat)
  case atStart=>exact⟨0,rfl,Nat.zero_le _,Below.refl _ _,by show _=_; simp⟩
  case round=>
    obtain⟨k,rfl,hk,af,J⟩:=hrel
    have b4:=hide (b3.out.at af.out)
    have cO:=b4.out.b.cell
    have au:=hide (a4.out.trans (af.out.mono a4.out.size))
    by_cases bg:k<nr
    · obtain⟨b,bp,l,hA,cJ,hl,bb⟩:=(bK.out.keep (w':=wr) (B':=w.heap.size) (fun _ U=>au.out.cell U) (Nat.le_refl _)).at (k:=k) (by have:=F.out.1; omega)
      have d1:(loadCellsFrom ⟨b,bp+k*4,none⟩ 0 4 #[]).run Tryz.prog wr=.ok #[.int .i64 l.c,.int .i64 l.n,.int .i64 l.t,.int .i64 l.f] wr:=by
        have:=run_loadCells_list (P:=Tryz.prog) wr ⟨b,bp+k*4,none⟩ [.int .i64 l.c,.int .i64 l.n,.int .i64 l.t,.int .i64 l.f] (fun j v C=>by
          rw [Addr.add_mid]
          have hj:=AP C
          rw [bb j hj]
          match j,hj,C with
          | 0,_,C=>exact congrArg some (Option.some.inj C)
          | 1,_,C=>exact congrArg some (Option.some.inj C)
          | 2,_,C=>exact congrArg some (Option.some.inj C)
          | 3,_,C=>exact congrArg some (Option.some.inj C))
        simpa [loadCells] using this
      obtain⟨w5,ct,b8,aW,bV⟩:=Ae wr #[.int .i64 l.c,.int .i64 l.n,.int .i64 l.t,.int .i64 l.f] 202
      have d6:∀c:Array Value,c.size=4→(storeCells ⟨wr.heap.size,0,none⟩ [.int .i64 l.c,.int .i64 l.n,.int .i64 l.t,.int .i64 l.f] 0).run Tryz.prog (wr.alloc (.cells c 202))=.ok () w5:=fun c hc=>by rw [←ct]; exact Dv wr 202 4 (by kernel_rfl) (rc:=#[.int .i64 l.c,.int .i64 l.n,.int .i64 l.t,.int .i64 l.f]) rfl (by simp [Value.oneCell']) c hc
      have cX:(loadCellsFrom ⟨wr.heap.size,0,none⟩ 0 4 #[]).run Tryz.prog w5=.ok #[.int .i64 l.c,.int .i64 l.n,.int .i64 l.t,.int .i64 l.f] w5:=Ah (n:=4) aW rfl
      have ba:∀y,Calls Tryz.prog 169 #[.agg #[.int .i64 l.c,.int .i64 l.n,.int .i64 l.t,.int .i64 l.f]] y (Ret fun r w'=>r=.bool (Bg l)∧Below y.heap.size y w'):=fun y=>FJ l y
      have ae:=hide (af.out.trans (b8.mono af.out.size))
      have bf:=hide hl
      subst hA
      clear bb bV aW b8 hl
      cases C:Bg l
      · have a3:=hide (show p.res.all Bg=false from by
          rw [List.all_eq_false]
          exact⟨l,List.mem_of_getElem? bf.out,by rw [C]; decide⟩)
        go_wp2_with (go_at_call 169; refine Calls.ret (ba _) ?_; rintro v w6 ⟨rfl,G⟩; rw [C])
        go_ret
        refine⟨congrArg (Value.int .i64) (hR.out.trans ?_).symm,a4.out.trans ((ae.out.trans (G.mono ae.out.size)).mono a4.out.size)⟩
        unfold DJ
        rw [a3.out]
        rfl
      · have a3:=hide (Cq (p:=Bg) bf.out J.out C)
        go_wp2_with (go_at_call 169; refine Calls.ret (ba _) ?_; rintro v w6 ⟨rfl,G⟩; rw [C]; have bP:=hide (ae.out.trans (G.mono ae.out.size)); clear G)
        exact⟨⟨k+1,by go_num,by omega,bP.out,a3.out⟩,by simp [intOf]; omega⟩
    · have a3:=hide (show p.res.all Bg=true from by
        have h1:=F.out.1
        have Z:=J.out
        rwa [List.take_of_length_le (by omega)] at Z)
      have am:=hide (show AC Ab p=orE (Aj id [Aa p.initial (ns:Int),Ad ((O:Int)==0) 1,Aa p.leader (ns:Int)]) (Cc p) from by
        rw [hR.out]
        obtain⟨-,-,-,-,e5,e6,-⟩:=F.out
        have hq:((O:Int)==0)=p.initial.isEmpty:=by rw [Bv,e5,EF]
        unfold DJ Cc
        rw [a3.out,hq,e6]
        simp only [Aj,id_eq,Bk,Ef,show Ad (!true) 4=0 from rfl,AY])
      obtain⟨e8,bc⟩:∃e,Hid (Aj id [Aa p.initial (ns:Int),Ad ((O:Int)==0) 1,Aa p.leader (ns:Int)]=e):=⟨_,rfl⟩
      rw [bc.out] at am
      have b0:=hide am
      clear a3 J am
      go_wp2_with fail
      have b5:=hide (b4.out.at (Ap wr))
      have cQ:=b5.out.b.cell
      have av:=hide (au.out.trans ((Ap wr).mono au.out.size))
      refine Reg.cI [0,1,0,7,0,16,48,112,255,0,512,0,4095,8191,16383,32767] [0,1,2,4,5,6,7,9,10,11,3,8,12,13,14,15] ?_
      refine Reg.wI [0,1,2,4,5,6,7,9,10,11] [3,8,12,13,14,15] rfl fun Qf z=>?_
      go_wp2_with fail
      first | refine z _ _ ⟨rfl,?_⟩ | refine⟨rfl,?_⟩ | refine z _ _ ⟨by simp [Reg.fineT,Reg.intOp,Region.wanted,yielded,Reg.intFine,Reg.isInt,Act.eval],?_⟩
      try clear z
      refine Reg.aI 3 [8,12,13,14,15] [5,10] rfl fun Qf z=>?_
      simp only [gT,gS,gZ]
      go_wp2_with (go_at_call 119; refine Calls.ret (bT _ av.out) ?_; rintro v w6 ⟨rfl,G⟩)
      first | refine z _ _ ⟨Reg.same_below (G) [5,10] rfl,?_⟩ | refine⟨Reg.same_below (G) [5,10] rfl,?_⟩
      try clear z
      have ao:=hide (b5.out.at G)
      have cR:=ao.out.b.cell
      have cY:=Ah ao.out.b a7.out
      have aw:=hide (av.out.trans (G.mono av.out.size))
      clear G
      refine Reg.aI 8 [12,13,14,15] [10] rfl fun Qf z=>?_
      simp only [gT,gS,gZ]
      go_wp2_with (go_at_call 121; refine(Ce _ _ _).mono ?_; rintro e w' ⟨rfl,rfl⟩)
      first | refine z _ _ ⟨Reg.same_below (Below.refl _ _) [10] rfl,?_⟩ | refine⟨Reg.same_below (Below.refl _ _) [10] rfl,?_⟩
      try clear z
      refine Reg.aI 12 [13,14,15] [] rfl fun Qf z=>?_
      simp only [gT,gS,gZ]
      go_wp2_with (go_at_call 119; refine Calls.ret (bX _ aw.out) ?_; rintro v w7 ⟨rfl,az⟩)
      first | refine z _ _ ⟨Reg.nm,?_⟩ | refine⟨Reg.nm,?_⟩
      try clear z
      have ap:=hide (ao.out.at az)
      have cS:=ap.out.b.cell
      have cZ:=Ah ap.out.b a7.out
      have b6:=hide (aw.out.trans (az.mono aw.out.size))
      clear az
      obtain⟨wz,d8,aB,aX,bW⟩:=Ae w7 #[.int .i64 (Aa p.initial (ns:Int)),.int .i64 (Ad ((O:Int)==0) 1),.int .i64 (Aa p.leader (ns:Int))] 36
      have bN:=hide (Ch (l:=[Aa p.initial (ns:Int),Ad ((O:Int)==0) 1,Aa p.leader (ns:Int)]) aX (by simp))
      clear aX bW
      have aq:=hide (ap.out.at aB)
      have cV:=aq.out.b.cell
      have d2:=Ah aq.out.b a7.out
      have a5:=hide (b6.out.trans (aB.mono b6.out.size))
      clear aB
      refine Reg.wI [13] [14,15] rfl fun Qf z=>?_
      go_wp2_with fail
      first | refine z _ _ ⟨rfl,?_⟩ | refine⟨rfl,?_⟩ | refine z _ _ ⟨by simp [Reg.fineT,Reg.intOp,Region.wanted,yielded,Reg.intFine,Reg.isInt,Act.eval],?_⟩
      try clear z
      refine Reg.aI 14 [15] [] rfl fun Qf z=>?_
      simp only [gT,gS,gZ]
      go_wp2_with (go_at_call 120; refine(Ci (l:=[Aa p.initial (ns:Int),Ad ((O:Int)==0) 1,Aa p.leader (ns:Int)]) bN.out).mono ?_; rintro e w' ⟨rfl,rfl⟩; rw [bc.out])
      first | refine z _ _ ⟨Reg.nm,?_⟩ | refine⟨Reg.nm,?_⟩
      try clear z
      refine Reg.wI [15] [] rfl fun Qf z=>?_
      go_wp2_with fail
      first | refine z _ _ ⟨rfl,?_⟩ | refine⟨rfl,?_⟩ | refine z _ _ ⟨by simp [Reg.fineT,Reg.intOp,Region.wanted,yielded,Reg.intFine,Reg.isInt,Act.eval],?_⟩
      try clear z
      first | refine Reg.restI_end ?_ | skip
      by_cases W:e8=0
      case neg=>
        have cp:(e8 != 0)=true:=by simp [W]
        have bF:=hide W
        clear W
        go_wp2_with fail
        go_ret
        exact⟨congrArg (Value.int .i64) (b0.out.trans (BF bF.out)).symm,a5.out⟩
      have cp:(e8 != 0)=false:=by simp [W]
      have b1:=hide (show AC Ab p=Cc p from by rw [b0.out,W,AY])
      clear W
      go_wp2_with fail
      go_loopw [142] (fun V wr=>∃(k:Nat),V=.int .i64 (k:Int)∧k≤nu∧Hid (Below wz.heap.size wz wr)∧Hid (Aj (BB Ab p) (List.range k)=0)) (fun V _=>nu - (intOf V).toNat)
      case atStart=>exact⟨0,rfl,Nat.zero_le _,Below.refl _ _,by show _=_; rfl⟩
      case round=>
        obtain⟨k,rfl,hk,a2,J⟩:=hrel
        have ad:=hide (aq.out.at a2.out)
        have cT:=ad.out.b.cell
        have d0:=Ah ad.out.b a7.out
        have b7:=hide (a5.out.trans (a2.out.mono a5.out.size))
        by_cases bg:k<nu
        · obtain⟨e9,ag⟩:∃e,Hid (BB Ab p k=e):=⟨_,rfl⟩
          have aC:=hide (cq k _ bg ad)
          rw [ag.out] at aC
          have E:(List.range p.rules.length)[k]?=some k:=by rw [List.getElem?_range (by have:=F.out.2.2.2.2.2.2; omega)]
          have bo:=hide E
          have bm:(List.range p.rules.length).take k=List.range k:=by rw [List.take_range,Nat.min_eq_left (by have:=F.out.2.2.2.2.2.2; omega)]
          have bn:=hide bm
          clear E bm
          by_cases h0:e9=0
          · have hq:(e9 != 0)=false:=by simp [h0]
            have cd:=hide (show Aj (BB Ab p) (List.range (k+1))=0 from by
              have h1:=CD (BB Ab p) bo.out (by rw [bn.out]; exact J.out)
              rw [List.take_range,Nat.min_eq_left (by have:=F.out.2.2.2.2.2.2; omega)] at h1
              rw [h1,ag.out,h0])
            clear h0
            go_wp2_with (go_at_call 170; refine Calls.ret aC.out ?_; rintro v w9 ⟨rfl,M⟩; have aA:=hide (a2.out.trans (M.mono a2.out.size)); clear M)
            exact⟨⟨k+1,by go_num,by omega,aA.out,cd.out⟩,by simp [intOf]; omega⟩
          · have hq:(e9 != 0)=true:=by simp [h0]
            have cr:=hide (show AC Ab p=e9 from by
              have h1:=Ct (BB Ab p) bo.out (by rw [bn.out]; exact J.out) (by rw [ag.out]; exact h0)
              rw [b1.out]
              unfold Cc
              rw [h1,ag.out,BF h0])
            clear h0
            go_wp2_with (go_at_call 170; refine Calls.ret aC.out ?_; rintro v w9 ⟨rfl,M⟩; have aA:=hide (a2.out.trans (M.mono a2.out.size)); clear M)
            go_ret
            exact⟨congrArg (Value.int .i64) cr.out.symm,a5.out.trans (aA.out.mono a5.out.size)⟩
        · obtain⟨nt,aM⟩:∃n,n=(BO p.rules).length:=⟨_,rfl⟩
          have bJ:=hide (show AC Ab p=Ad (decide (3<nt)) 4 from by
            have h1:=J.out
            rw [show k=p.rules.length by have:=F.out.2.2.2.2.2.2; omega] at h1
            rw [b1.out,aM]
            unfold Cc
            rw [h1,AY])
          have bl:=hide (Lz (cs:=pc.toList) ad.out.pr a9.out)
          rw [←aM] at bl
          have bS:=hide (show decide (3<(nt:Int))=decide (3<nt) from by
            rw [decide_eq_decide]
            omega)
          have d4:nt≤1800:=by
            have h1:=FB p.rules (fun r hr=>(a9.out.rule r hr).1.2.1)
            have Z:=a9.out.rules
            omega
          clear aM J
          go_wp2_with (first
            | (go_at_call 171; refine Calls.ret bl.out ?_; rintro v w9 ⟨bj,M⟩; obtain⟨Av,cv,C⟩:=AH bj; subst C; have bO:=hide (b7.out.trans (M.mono b7.out.size)); clear bj M)
            | (go_at_call 121; refine(Ce _ _ _).mono ?_; rintro e w' ⟨rfl,rfl⟩))
          go_ret
          refine⟨congrArg (Value.int .i64) ?_,bO.out⟩
          rw [bJ.out,←bS.out]
end Go.Proofs.YtfcfpoemojjglaaGreatDoor.K
namespace Go.Proofs.YtfcfpoemojjglaaGreatDoor.K
open Go.RowKit
attribute [-go_sem] loadCellsFrom storeCells
theorem RD {w:World} {cs:List Value} {p:Am} (h:At w w.heap.size cs p) (F:p.Small) (hT:A0 w) (b6:Ab p.name=true) (ay:p.topo≠1):
    Calls Tryz.prog 117 #[.agg cs.toArray] w (Ret fun v w'=>v=.int .i64 (AC Ab p)∧Below w.heap.size w w'):=by
  obtain⟨A1,c1,A2,c2,A3,c3,A4,c4,A5,c5,A6,c6,A7,c7,b9,cL,bR,bS,bT,bU,bV,bW,bX,bY,bZ,h1,U,h3,h4,h5,h6,h7,bB⟩:=h.cells
  have bH:=F.states
  have bI:=F.messages
  have bJ:=F.values
  have bK:=F.res
  have bL:=F.initial
  have bM:=F.leader
  have bN:=F.rules
  have cJ:=F.name
  have a6:=hide F
  have cp:=hide h4
  have bw:=hide h5
  have bx:=hide h6
  obtain⟨w1,cM,Z,aQ,bE⟩:=Ae w cs.toArray 27
  have ai:=hide (show C0 w1 w.heap.size cs.toArray p from⟨h.keep (fun _ hp=>Z.cell hp) Z.size,aQ,hT.below Z⟩)
  have b2:=hide Z
  generalize c0:cs.toArray=pc at*
  clear h1 U h3 h4 h5 h6 h7 h F Z aQ bE c0 hT
  obtain⟨nr,aE⟩:∃n,n=p.res.length:=⟨_,rfl⟩
  obtain⟨nm,aD⟩:∃n,n=p.messages.length:=⟨_,rfl⟩
  obtain⟨nv,aJ⟩:∃n,n=p.values.length:=⟨_,rfl⟩
  obtain⟨nl,aC⟩:∃n,n=p.leader.length:=⟨_,rfl⟩
  obtain⟨I,aB⟩:∃n,n=p.initial.length:=⟨_,rfl⟩
  obtain⟨ns,aF⟩:∃n,n=p.states.length:=⟨_,rfl⟩
  obtain⟨nu,aH⟩:∃n,n=p.rules.length:=⟨_,rfl⟩
  have E:=hide (show nr=p.res.length∧nm=p.messages.length∧nv=p.values.length∧nl=p.leader.length∧I=p.initial.length∧ns=p.states.length∧nu=p.rules.length from⟨aE,aD,aJ,aC,aB,aF,aH⟩)
  simp only [←aE,←aD,←aJ,←aC,←aB,←aF,←aH] at bS bT bU bW bX bY bZ bH bI bJ bK bL bM bN bB
  clear aE aD aJ aC aB aF aH
  obtain⟨kt,aA⟩:∃n,n=p.topo:=⟨_,rfl⟩
  obtain⟨kf,az⟩:∃n,n=p.fault:=⟨_,rfl⟩
  have aS:=hide (show kt=p.topo∧kf=p.fault from⟨aA,az⟩)
  simp only [←aA,←az] at bR bV
  clear aA az
  have a4:=hide b9
  clear b9
  have cq:=ai.out.b.cell
  have b7:=hide b6
  clear b6
  have hP:=hide (show AC Ab p=CH kt kf ns nm nv nr nu nl (CU Ab (Bd p)) (DJ p) from by
    obtain⟨e1,e2,e3,e4,e5,e6,e7⟩:=E.out
    obtain⟨f1,f2⟩:=aS.out
    rw [e1,e2,e3,e4,e6,e7,f1,f2]
    exact GI p b7.out)
  have bO:∀z,Hid (C0 z w.heap.size pc p)→Calls Tryz.prog 168 #[.agg pc] z (Ret fun v w'=>v=.int .i64 (CU Ab (Bd p))∧Below z.heap.size z w'):=fun z C=>J6 C.out.pr a6.out C.out.tab
  generalize CU Ab (Bd p)=e0 at*
  have af:Hid (kt≠1):=by rw [←aS.out.1] at ay; exact ay
  have cA:(kt==1)=false:=by simp [af.out]
  clear ay
  go_enter Tryz.func117,Tryz.ntmps117
  go_wp2_with (first
    | (go_at_call 118; refine Calls.ret (Da p.name _ (by omega) ai.out.tab) ?_; rintro v w2 ⟨rfl,aq⟩; rw [b7.out]; have a8:=hide (ai.out.at aq); have cr:=a8.out.b.cell; have cD:=Ah a8.out.b a4.out; have am:=hide (b2.out.trans (aq.mono b2.out.size)); clear aq)
    | (go_at_call 168; refine Calls.ret (bO _ a8) ?_; rintro v w3 ⟨rfl,ar⟩; have aW:=hide (a8.out.at ar); have ct:=aW.out.b.cell; have an:=hide (am.out.trans (ar.mono am.out.size)); clear ar))
  all_goals first
    | (go_ret
       refine⟨congrArg (Value.int .i64) (hP.out.trans ?_).symm,?_⟩
       · first
           | exact pv2 (by omega)
           | exact pv3 (by omega) (by assumption)
           | exact pv4 (by omega) (by assumption) (by omega)
           | exact pv5 (by omega) (by assumption) (by omega) (by assumption)
           | exact pv6 (by omega) (by assumption) (by omega) (by assumption) (by have:=af.out; omega)
       · first
           | exact an.out
           | exact am.out)
    | (have hR:=hide (hP.out.trans (pv7 (by omega) (by assumption) (by omega) (by assumption) (by have:=af.out; omega))))
  have bP:=hide (show nr=0 by omega)
  rename_i z0 z1 z2 z3 z4 z5 z6 z7 z8 z9 z10 z11 z12 z13 z14 zK zQ
  clear z0 z1 z2 z3 z4 z5 z6 z7 z8 z9 z10 z11 z12 z13 z14
  clear hP
  have c9:∀(k:Nat) (z:World),k<nu→Hid (C0 z w.heap.size pc p)→Calls Tryz.prog 170 #[.agg pc,.int .i64 (k:Int)] z (Ret fun v w'=>v=.int .i64 (BB Ab p k)∧Below z.heap.size z w'):=by
    intro k z hk C
    obtain⟨r,hr⟩:∃r,p.rules[k]?=some r:=⟨_,List.getElem?_eq_getElem (by have:=E.out.2.2.2.2.2.2; omega)⟩
    have h0:=a6.out.rule r (List.mem_of_getElem? hr)
    have h1:=KT (cs:=pc.toList) C.out.pr hr h0.1 (by have:=h0.2; omega) C.out.tab
    rw [KU _ _ _ _ _ (by omega)] at h1
    have U:BB Ab p k=BC Ab p.topo p.states.length p.messages.length p.values.length ((p.rules.take k).any fun x=>decide (x.name=r.name)) r:=by
      unfold BB
      rw [hr]
    rw [U]
    exact h1
  have bD:∀z,Below w.heap.size w z→Calls Tryz.prog 119 #[.slice A5 I c5,.int .i64 (ns:Int)] z (Ret fun r w'=>r=.int .i64 (Aa p.initial (ns:Int))∧Below z.heap.size z w'):=fun z C=>by
    rw [E.out.2.2.2.2.1]
    exact DE (bw.out.keep (fun _ hp=>C.cell hp) C.size)
  have bG:∀z,Below w.heap.size w z→Calls Tryz.prog 119 #[.slice A6 nl c6,.int .i64 (ns:Int)] z (Ret fun r w'=>r=.int .i64 (Aa p.leader (ns:Int))∧Below z.heap.size z w'):=fun z C=>by
    rw [E.out.2.2.2.1]
    exact DE (bx.out.keep (fun _ hp=>C.cell hp) C.size)
  go_loopw [113] (fun M wr=>∃(k:Nat),M=.int .i64 (k:Int)∧k≤0∧Hid (Below w3.heap.size w3 wr)∧Hid ((p.res.take k).all Bg=true)) (fun M _=>0 - (intOf M).toNat)
  case atStart=>exact⟨0,rfl,Nat.zero_le _,Below.refl _ _,by show _=_; simp⟩
  case round=>
    obtain⟨k,rfl,hk,b3,J⟩:=hrel
    have aX:=hide (aW.out.at b3.out)
    have cu:=aX.out.b.cell
    have aZ:=hide (an.out.trans (b3.out.mono an.out.size))
    by_cases b5:k<0
    · exfalso
      omega
    · have ba:=hide (show p.res.all Bg=true from by
        have h1:=E.out.1
        have U:=J.out
        have h3:=bP.out
        rwa [List.take_of_length_le (by omega)] at U)
      have ah:=hide (show AC Ab p=orE (Aj id [Aa p.initial (ns:Int),Ad ((I:Int)==0) 1,Aa p.leader (ns:Int)]) (Cc p) from by
        rw [hR.out]
        obtain⟨-,-,-,-,e5,e6,-⟩:=E.out
        have hq:((I:Int)==0)=p.initial.isEmpty:=by rw [Bv,e5,EF]
        unfold DJ Cc
        rw [ba.out,hq,e6]
        simp only [Aj,id_eq,Bk,Ef,show Ad (!true) 4=0 from rfl,AY])
      obtain⟨e8,b4⟩:∃e,Hid (Aj id [Aa p.initial (ns:Int),Ad ((I:Int)==0) 1,Aa p.leader (ns:Int)]=e):=⟨_,rfl⟩
      rw [b4.out] at ah
      have aT:=hide ah
      clear ba J ah
      go_wp2_with fail
      have aY:=hide (aX.out.at (Ap wr))
      have cw:=aY.out.b.cell
      have ao:=hide (aZ.out.trans ((Ap wr).mono aZ.out.size))
      refine Reg.cI [0,1,0,7,0,16,48,112,255,0,512,0,4095,8191,16383,32767] [0,1,2,4,5,6,7,9,10,11,3,8,12,13,14,15] ?_
      refine Reg.wI [0,1,2,4,5,6,7,9,10,11] [3,8,12,13,14,15] rfl fun Qf y=>?_
      go_wp2_with fail
      first | refine y _ _ ⟨rfl,?_⟩ | refine⟨rfl,?_⟩ | refine y _ _ ⟨by simp [Reg.fineT,Reg.intOp,Region.wanted,yielded,Reg.intFine,Reg.isInt,Act.eval],?_⟩
      try clear y
      refine Reg.aI 3 [8,12,13,14,15] [5,10] rfl fun Qf y=>?_
      simp only [gT,gS,gZ]
      go_wp2_with (go_at_call 119; refine Calls.ret (bD _ ao.out) ?_; rintro v w6 ⟨rfl,a2⟩)
      first | refine y _ _ ⟨Reg.same_below (a2) [5,10] rfl,?_⟩ | refine⟨Reg.same_below (a2) [5,10] rfl,?_⟩
      try clear y
      have aj:=hide (aY.out.at a2)
      have cx:=aj.out.b.cell
      have cE:=Ah aj.out.b a4.out
      have ap:=hide (ao.out.trans (a2.mono ao.out.size))
      clear a2
      refine Reg.aI 8 [12,13,14,15] [10] rfl fun Qf y=>?_
      simp only [gT,gS,gZ]
      go_wp2_with (go_at_call 121; refine(Ce _ _ _).mono ?_; rintro e w' ⟨rfl,rfl⟩)
      first | refine y _ _ ⟨Reg.same_below (Below.refl _ _) [10] rfl,?_⟩ | refine⟨Reg.same_below (Below.refl _ _) [10] rfl,?_⟩
      try clear y
      refine Reg.aI 12 [13,14,15] [] rfl fun Qf y=>?_
      simp only [gT,gS,gZ]
      go_wp2_with (go_at_call 119; refine Calls.ret (bG _ ap.out) ?_; rintro v w7 ⟨rfl,au⟩)
      first | refine y _ _ ⟨Reg.nm,?_⟩ | refine⟨Reg.nm,?_⟩
      try clear y
      have ak:=hide (aj.out.at au)
      have cy:=ak.out.b.cell
      have cF:=Ah ak.out.b a4.out
      have b0:=hide (ap.out.trans (au.mono ap.out.size))
      clear au
      obtain⟨wz,cO,aw,aR,bF⟩:=Ae w7 #[.int .i64 (Aa p.initial (ns:Int)),.int .i64 (Ad ((I:Int)==0) 1),.int .i64 (Aa p.leader (ns:Int))] 36
      have bz:=hide (Ch (l:=[Aa p.initial (ns:Int),Ad ((I:Int)==0) 1,Aa p.leader (ns:Int)]) aR (by simp))
      clear aR bF
      have al:=hide (ak.out.at aw)
      have cB:=al.out.b.cell
      have cH:=Ah al.out.b a4.out
      have W:=hide (b0.out.trans (aw.mono b0.out.size))
      clear aw
      refine Reg.wI [13] [14,15] rfl fun Qf y=>?_
      go_wp2_with fail
      first | refine y _ _ ⟨rfl,?_⟩ | refine⟨rfl,?_⟩ | refine y _ _ ⟨by simp [Reg.fineT,Reg.intOp,Region.wanted,yielded,Reg.intFine,Reg.isInt,Act.eval],?_⟩
      try clear y
      refine Reg.aI 14 [15] [] rfl fun Qf y=>?_
      simp only [gT,gS,gZ]
      go_wp2_with (go_at_call 120; refine(Ci (l:=[Aa p.initial (ns:Int),Ad ((I:Int)==0) 1,Aa p.leader (ns:Int)]) bz.out).mono ?_; rintro e w' ⟨rfl,rfl⟩; rw [b4.out])
      first | refine y _ _ ⟨Reg.nm,?_⟩ | refine⟨Reg.nm,?_⟩
      try clear y
      refine Reg.wI [15] [] rfl fun Qf y=>?_
      go_wp2_with fail
      first | refine y _ _ ⟨rfl,?_⟩ | refine⟨rfl,?_⟩ | refine y _ _ ⟨by simp [Reg.fineT,Reg.intOp,Region.wanted,yielded,Reg.intFine,Reg.isInt,Act.eval],?_⟩
      try clear y
      first | refine Reg.restI_end ?_ | skip
      by_cases O:e8=0
      case neg=>
        have c8:(e8 != 0)=true:=by simp [O]
        have bs:=hide O
        clear O
        go_wp2_with fail
        go_ret
        exact⟨congrArg (Value.int .i64) (aT.out.trans (BF bs.out)).symm,W.out⟩
      have c8:(e8 != 0)=false:=by simp [O]
      have aU:=hide (show AC Ab p=Cc p from by rw [aT.out,O,AY])
      clear O
      go_wp2_with fail
      go_loopw [142] (fun M wr=>∃(k:Nat),M=.int .i64 (k:Int)∧k≤nu∧Hid (Below wz.heap.size wz wr)∧Hid (Aj (BB Ab p) (List.range k)=0)) (fun M _=>nu - (intOf M).toNat)
      case atStart=>exact⟨0,rfl,Nat.zero_le _,Below.refl _ _,by show _=_; rfl⟩
      case round=>
        obtain⟨k,rfl,hk,V,J⟩:=hrel
        have a9:=hide (al.out.at V.out)
        have cz:=a9.out.b.cell
        have cG:=Ah a9.out.b a4.out
        have b1:=hide (W.out.trans (V.out.mono W.out.size))
        by_cases b5:k<nu
        · obtain⟨e9,aa⟩:∃e,Hid (BB Ab p k=e):=⟨_,rfl⟩
          have ax:=hide (c9 k _ b5 a9)
          rw [aa.out] at ax
          have C:(List.range p.rules.length)[k]?=some k:=by rw [List.getElem?_range (by have:=E.out.2.2.2.2.2.2; omega)]
          have be:=hide C
          have bc:(List.range p.rules.length).take k=List.range k:=by rw [List.take_range,Nat.min_eq_left (by have:=E.out.2.2.2.2.2.2; omega)]
          have bd:=hide bc
          clear C bc
          by_cases h0:e9=0
          · have hq:(e9 != 0)=false:=by simp [h0]
            have bQ:=hide (show Aj (BB Ab p) (List.range (k+1))=0 from by
              have h1:=CD (BB Ab p) be.out (by rw [bd.out]; exact J.out)
              rw [List.take_range,Nat.min_eq_left (by have:=E.out.2.2.2.2.2.2; omega)] at h1
              rw [h1,aa.out,h0])
            clear h0
            go_wp2_with (go_at_call 170; refine Calls.ret ax.out ?_; rintro v w9 ⟨rfl,G⟩; have av:=hide (V.out.trans (G.mono V.out.size)); clear G)
            exact⟨⟨k+1,by go_num,by omega,av.out,bQ.out⟩,by simp [intOf]; omega⟩
          · have hq:(e9 != 0)=true:=by simp [h0]
            have ca:=hide (show AC Ab p=e9 from by
              have h1:=Ct (BB Ab p) be.out (by rw [bd.out]; exact J.out) (by rw [aa.out]; exact h0)
              rw [aU.out]
              unfold Cc
              rw [h1,aa.out,BF h0])
            clear h0
            go_wp2_with (go_at_call 170; refine Calls.ret ax.out ?_; rintro v w9 ⟨rfl,G⟩; have av:=hide (V.out.trans (G.mono V.out.size)); clear G)
            go_ret
            exact⟨congrArg (Value.int .i64) ca.out.symm,W.out.trans (av.out.mono W.out.size)⟩
        · obtain⟨nt,aG⟩:∃n,n=(BO p.rules).length:=⟨_,rfl⟩
          have bv:=hide (show AC Ab p=Ad (decide (3<nt)) 4 from by
            have h1:=J.out
            rw [show k=p.rules.length by have:=E.out.2.2.2.2.2.2; omega] at h1
            rw [aU.out,aG]
            unfold Cc
            rw [h1,AY])
          have bb:=hide (Lz (cs:=pc.toList) a9.out.pr a6.out)
          rw [←aG] at bb
          have bC:=hide (show decide (3<(nt:Int))=decide (3<nt) from by
            rw [decide_eq_decide]
            omega)
          have cK:nt≤1800:=by
            have h1:=FB p.rules (fun r hr=>(a6.out.rule r hr).1.2.1)
            have U:=a6.out.rules
            omega
          clear aG J
          go_wp2_with (first
            | (go_at_call 171; refine Calls.ret bb.out ?_; rintro v w9 ⟨b8,G⟩; obtain⟨Av,cv,hv⟩:=AH b8; subst hv; have bA:=hide (b1.out.trans (G.mono b1.out.size)); clear b8 G)
            | (go_at_call 121; refine(Ce _ _ _).mono ?_; rintro e w' ⟨rfl,rfl⟩))
          go_ret
          refine⟨congrArg (Value.int .i64) ?_,bA.out⟩
          rw [bv.out,←bC.out]
end Go.Proofs.YtfcfpoemojjglaaGreatDoor.K
namespace Go.Proofs.YtfcfpoemojjglaaGreatDoor.K
open Go.RowKit
attribute [-go_sem] loadCellsFrom storeCells
theorem RE {w:World} {cs:List Value} {p:Am} (h:At w w.heap.size cs p) (y:p.Small) (hT:A0 w) (a6:Ab p.name=false):
  Calls Tryz.prog 117 #[.agg cs.toArray] w (Ret fun v w'=>v=.int .i64 (AC Ab p)∧Below w.heap.size w w'):=by
 obtain⟨A1,c1,A2,c2,A3,c3,A4,c4,A5,c5,A6,c6,A7,c7,a8,aW,ao,ap,aq,ar,au,av,aw,ax,ay,h1,h2,h3,V,W,Z,h7,ae⟩:=h.cells
 have ag:=y.states
 have ah:=y.messages
 have ai:=y.values
 have aj:=y.res
 have ak:=y.initial
 have al:=y.leader
 have am:=y.rules
 have aV:=y.name
 have aY:=hide y
 have aR:=hide V
 have aS:=hide W
 have aT:=hide Z
 obtain⟨w1,aZ,z,a2,af⟩:=Ae w cs.toArray 27
 have a4:=hide (show C0 w1 w.heap.size cs.toArray p from⟨h.keep (fun _ hp=>z.cell hp) z.size,a2,hT.below z⟩)
 have a5:=hide z
 generalize az:cs.toArray=pc at*
 clear h1 h2 h3 V W Z h7 h y z a2 af az hT
 obtain⟨nr,J⟩:∃n,n=p.res.length:=⟨_,rfl⟩
 obtain⟨nm,I⟩:∃n,n=p.messages.length:=⟨_,rfl⟩
 obtain⟨nv,U⟩:∃n,n=p.values.length:=⟨_,rfl⟩
 obtain⟨nl,G⟩:∃n,n=p.leader.length:=⟨_,rfl⟩
 obtain⟨ni,F⟩:∃n,n=p.initial.length:=⟨_,rfl⟩
 obtain⟨ns,M⟩:∃n,n=p.states.length:=⟨_,rfl⟩
 obtain⟨nu,O⟩:∃n,n=p.rules.length:=⟨_,rfl⟩
 have aQ:=hide (show nr=p.res.length∧nm=p.messages.length∧nv=p.values.length∧nl=p.leader.length∧ni=p.initial.length∧ns=p.states.length∧nu=p.rules.length from⟨J,I,U,G,F,M,O⟩)
 simp only [←J,←I,←U,←G,←F,←M,←O] at ap aq ar av aw ax ay ag ah ai aj ak al am ae
 clear J I U G F M O
 obtain⟨kt,E⟩:∃n,n=p.topo:=⟨_,rfl⟩
 obtain⟨kf,C⟩:∃n,n=p.fault:=⟨_,rfl⟩
 have aP:=hide (show kt=p.topo∧kf=p.fault from⟨E,C⟩)
 simp only [←E,←C] at ao au
 clear E C
 have aX:=hide a8
 clear a8
 have aU:=a4.out.b.cell
 have a7:=hide a6
 clear a6
 go_enter Tryz.func117,Tryz.ntmps117
 go_wp2_with (go_at_call 118; refine Calls.ret (Da p.name _ (by omega) a4.out.tab) ?_; rintro v w2 ⟨rfl,ad⟩; rw [a7.out])
 go_ret
 exact⟨by unfold AC; rw [a7.out]; rfl,a5.out.trans (ad.mono a5.out.size)⟩
theorem Kt {w:World} {cs:List Value} {p:Am} (h:At w w.heap.size cs p) (C:p.Small) (y:A0 w):
  Calls Tryz.prog 117 #[.agg cs.toArray] w (Ret fun v w'=>v=.int .i64 (AC Ab p)∧Below w.heap.size w w'):=by
 cases z:Ab p.name
 ·exact RE h C y z
 ·by_cases ht:p.topo=1
  ·exact RC h C y z ht
  ·exact RD h C y z ht
end Go.Proofs.YtfcfpoemojjglaaGreatDoor.K
