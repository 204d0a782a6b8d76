/-
  Part CI of a proof.
-/
import Derived.Test.YtfcfpoemojjglaaGreatDoorPA
import Derived.Test.YtfcfpoemojjglaaGreatDoorCG
import Derived.Test.YtfcfpoemojjglaaGreatDoorCE
set_option maxHeartbeats 16000000
set_option maxRecDepth 100000
set_option linter.unusedVariables false
set_option linter.unusedSimpArgs false
namespace Go.Proofs.YtfcfpoemojjglaaGreatDoor.K
open Go.RowKit
attribute [-go_sem] loadCellsFrom storeCells
structure C0 (w:World) (g:Nat) (pc:Array Value) (p:Am):Prop where
 pr:At w w.heap.size pc.toList p
 b:Blk w g 27 pc
 tab:SpOK w
theorem C0.at {w w':World} {g:Nat} {z:Array Value} {p:Am} (h:C0 w g z p) (y:Below w.heap.size w w'):C0 w' g z p:=
 ⟨h.pr.keep (fun _ C=>y.cell C) y.size,h.b.below y,h.tab.below y⟩
theorem At.cells {w:World} {B:Nat} {cs:List Value} {p:Am} (h:At w B cs p):∃y c1 z c2 C O E U G V I W J M,
  cs.toArray.size=10∧cs.toArray[0]?=some (.string p.name)∧cs.toArray[1]?=some (.int .i64 p.topo)∧cs.toArray[2]?=some (.slice y p.states.length c1)∧cs.toArray[3]?=some (.slice z p.messages.length c2)∧
  cs.toArray[4]?=some (.slice C p.values.length O)∧cs.toArray[5]?=some (.int .i64 p.fault)∧cs.toArray[6]?=some (.slice E p.res.length U)∧cs.toArray[7]?=some (.slice G p.initial.length V)∧cs.toArray[8]?=some (.slice I p.leader.length W)∧cs.toArray[9]?=some (.slice J p.rules.length M)∧
  Sl w B 1 BE y p.states∧Sl w B 1 BE z p.messages∧Sl w B 1 BE C p.values∧Sl w B 4 EG E p.res∧Sl w B 1 Ai G p.initial∧Sl w B 1 Ai I p.leader∧BR w B 18 (AW w B) J p.rules∧p.rules.length≤M:=by
 obtain⟨y,c1,z,c2,C,O,E,U,G,V,I,W,J,M,rfl,Z,h2,h3,h4,h5,h6,h7,a8⟩:=h
 exact⟨y,c1,z,c2,C,O,E,U,G,V,I,W,J,M,rfl,rfl,rfl,rfl,rfl,rfl,rfl,rfl,rfl,rfl,rfl,Z,h2,h3,h4,h5,h6,h7,a8⟩
def DJ (p:Am):Int:=
 orE (Ad (!p.res.all Bg) 4)
 (orE (setE p.initial p.states.length)
 (orE (Ad p.initial.isEmpty 1)
 (orE (setE p.leader p.states.length)
 (orE (Aj (BB nameOK p) (List.range p.rules.length))
 (Ad (decide (3<(BO p.rules).length)) 4)))))
def Cc (p:Am):Int:=orE (Aj (BB nameOK p) (List.range p.rules.length)) (Ad (decide (3<(BO p.rules).length)) 4)
def CH (kt kf:Int) (ns nm nv nr nu nl:Nat) (e R:Int):Int:=
 orE (Ad (!(decide (1≤kt)&&decide (kt≤4))||!(decide (0≤kf)&&decide (kf≤3))) 1)
 (orE (Ad (decide (ns=0)) 1)
 (orE (Ad (decide (6<ns)||decide (3<nm)||decide (3<nv)||decide (4<nr)||decide (8<nu)) 4)
 (orE e
 (orE (Ad ((!decide (kt=1)&&(!decide (nm=0)||!decide (nv=0)||!decide (nr=0)||!decide (kf=0)))||(decide (kt=1)&&!decide (nl=0))) 1) R))))
section
variable {kt kf:Int} {ns nm nv nr nu nl:Nat} {e R:Int}
theorem pvA (h:1≤kt∧kt≤4∧0≤kf∧kf≤3):(!(decide (1≤kt)&&decide (kt≤4))||!(decide (0≤kf)&&decide (kf≤3)))=false:=by simp [h]
theorem pv2 (h:kt<1∨4<kt∨kf<0∨3<kf):CH kt kf ns nm nv nr nu nl e R=1:=by
 have y:(!(decide (1≤kt)&&decide (kt≤4))||!(decide (0≤kf)&&decide (kf≤3)))=true:=by
  simp
  omega
 unfold CH
 rw [y]
 rfl
theorem pv3 (y:1≤kt∧kt≤4∧0≤kf∧kf≤3) (h:((ns:Int)==0)=true):CH kt kf ns nm nv nr nu nl e R=1:=by
 unfold CH
 rw [pvA y,decide_eq_true (show ns=0 by simpa using h)]
 rfl
theorem pvB (h:((ns:Int)==0)=false):decide (ns=0)=false:=by simpa using h
theorem pv4 (z:1≤kt∧kt≤4∧0≤kf∧kf≤3) (C:((ns:Int)==0)=false) (h:6<(ns:Int)∨3<(nm:Int)∨3<(nv:Int)∨4<(nr:Int)∨8<(nu:Int)):CH kt kf ns nm nv nr nu nl e R=4:=by
 have y:(decide (6<ns)||decide (3<nm)||decide (3<nv)||decide (4<nr)||decide (8<nu))=true:=by
  simp
  omega
 unfold CH
 rw [pvA z,pvB C,y]
 rfl
theorem pvC (h:(ns:Int)≤6∧(nm:Int)≤3∧(nv:Int)≤3∧(nr:Int)≤4∧(nu:Int)≤8):(decide (6<ns)||decide (3<nm)||decide (3<nv)||decide (4<nr)||decide (8<nu))=false:=by
 simp
 omega
theorem pv5 (y:1≤kt∧kt≤4∧0≤kf∧kf≤3) (z:((ns:Int)==0)=false) (C:(ns:Int)≤6∧(nm:Int)≤3∧(nv:Int)≤3∧(nr:Int)≤4∧(nu:Int)≤8) (h:(e != 0)=true):CH kt kf ns nm nv nr nu nl e R=e:=by
 unfold CH
 rw [pvA y,pvB z,pvC C]
 exact BF (by simpa using h)
theorem pvD (h:(e != 0)=false):e=0:=by simpa using h
theorem pv6 (z:1≤kt∧kt≤4∧0≤kf∧kf≤3) (C:((ns:Int)==0)=false) (E:(ns:Int)≤6∧(nm:Int)≤3∧(nv:Int)≤3∧(nr:Int)≤4∧(nu:Int)≤8) (G:(e != 0)=false) (h:(kt≠1∧(nm≠0∨nv≠0∨nr≠0∨kf≠0))∨(kt=1∧nl≠0)):CH kt kf ns nm nv nr nu nl e R=1:=by
 have y:((!decide (kt=1)&&(!decide (nm=0)||!decide (nv=0)||!decide (nr=0)||!decide (kf=0)))||(decide (kt=1)&&!decide (nl=0)))=true:=by
  simp
  omega
 unfold CH
 rw [pvA z,pvB C,pvC E,pvD G,y]
 rfl
theorem pv7 (z:1≤kt∧kt≤4∧0≤kf∧kf≤3) (C:((ns:Int)==0)=false) (E:(ns:Int)≤6∧(nm:Int)≤3∧(nv:Int)≤3∧(nr:Int)≤4∧(nu:Int)≤8) (G:(e != 0)=false) (h:(kt≠1∧nm=0∧nv=0∧nr=0∧kf=0)∨(kt=1∧nl=0)):CH kt kf ns nm nv nr nu nl e R=R:=by
 have y:((!decide (kt=1)&&(!decide (nm=0)||!decide (nv=0)||!decide (nr=0)||!decide (kf=0)))||(decide (kt=1)&&!decide (nl=0)))=false:=by
  simp
  omega
 unfold CH
 rw [pvA z,pvB C,pvC E,pvD G,y]
 rfl
end
theorem GI (p:Am) (h:nameOK p.name=true):protE nameOK p=CH p.topo p.fault p.states.length p.messages.length p.values.length p.res.length p.rules.length p.leader.length (CU nameOK (Bd p)) (DJ p):=by
 unfold protE CH DJ
 rw [h,Bv,Bv,Bv,Bv,Bv]
 rfl
theorem EF (n:Nat):((n:Int)==0)=decide (n=0):=by by_cases h:n=0 <;> simp [h]
end Go.Proofs.YtfcfpoemojjglaaGreatDoor.K
namespace Go.Proofs.YtfcfpoemojjglaaGreatDoor.K
open Go.RowKit
attribute [-go_sem] loadCellsFrom storeCells
theorem RC {w:World} {cs:List Value} {p:Am} (h:At w w.heap.size cs p) (O:p.Small) (hT:SpOK w) (bl:nameOK p.name=true) (aG:p.topo=1):
    Calls Tryz.prog 117 #[.agg cs.toArray] w (Ret fun v w'=>v=.int .i64 (protE nameOK p)∧Below w.heap.size w w'):=by
  obtain⟨A1,c1,A2,c2,A3,c3,A4,c4,A5,c5,A6,c6,A7,c7,bo,d9,cj,ck,cm,cn,co,cp,cq,cr,ct,E,h2,h3,h4,h5,h6,h7,bW⟩:=h.cells
  have ca:=O.states
  have cb:=O.messages
  have cc:=O.values
  have cd:=O.res
  have ce:=O.initial
  have cf:=O.leader
  have cg:=O.rules
  have d7:=O.name
  have ad:=hide O
  have bP:=hide h4
  have bQ:=hide h5
  have bR:=hide h6
  obtain⟨w1,db,a9,aY,bZ⟩:=Ae w cs.toArray 27
  have aq:=hide (show C0 w1 w.heap.size cs.toArray p from⟨h.keep (fun _ Z=>a9.cell Z) a9.size,aY,hT.below a9⟩)
  have bd:=hide a9
  generalize cu:cs.toArray=pc at*
  clear E h2 h3 h4 h5 h6 h7 h O a9 aY bZ cu hT
  obtain⟨nr,aN⟩:∃n,n=p.res.length:=⟨_,rfl⟩
  obtain⟨nm,aM⟩:∃n,n=p.messages.length:=⟨_,rfl⟩
  obtain⟨nv,aR⟩:∃n,n=p.values.length:=⟨_,rfl⟩
  obtain⟨nl,aL⟩:∃n,n=p.leader.length:=⟨_,rfl⟩
  obtain⟨W,aK⟩:∃n,n=p.initial.length:=⟨_,rfl⟩
  obtain⟨ns,aO⟩:∃n,n=p.states.length:=⟨_,rfl⟩
  obtain⟨nu,aQ⟩:∃n,n=p.rules.length:=⟨_,rfl⟩
  have I:=hide (show nr=p.res.length∧nm=p.messages.length∧nv=p.values.length∧nl=p.leader.length∧W=p.initial.length∧ns=p.states.length∧nu=p.rules.length from⟨aN,aM,aR,aL,aK,aO,aQ⟩)
  simp only [←aN,←aM,←aR,←aL,←aK,←aO,←aQ] at ck cm cn cp cq cr ct ca cb cc cd ce cf cg bW
  clear aN aM aR aL aK aO aQ
  obtain⟨kt,aJ⟩:∃n,n=p.topo:=⟨_,rfl⟩
  obtain⟨kf,aH⟩:∃n,n=p.fault:=⟨_,rfl⟩
  have b1:=hide (show kt=p.topo∧kf=p.fault from⟨aJ,aH⟩)
  simp only [←aJ,←aH] at cj co
  clear aJ aH
  have aa:=hide bo
  clear bo
  have cQ:=aq.out.b.cell
  have bm:=hide bl
  clear bl
  have hP:=hide (show protE nameOK p=CH kt kf ns nm nv nr nu nl (CU nameOK (Bd p)) (DJ p) from by
    obtain⟨e1,e2,e3,e4,e5,e6,e7⟩:=I.out
    obtain⟨f1,f2⟩:=b1.out
    rw [e1,e2,e3,e4,e6,e7,f1,f2]
    exact GI p bm.out)
  have ch:∀y,Hid (C0 y w.heap.size pc p)→Calls Tryz.prog 168 #[.agg pc] y (Ret fun v w'=>v=.int .i64 (CU nameOK (Bd p))∧Below y.heap.size y w'):=fun y G=>J6 G.out.pr ad.out G.out.tab
  generalize CU nameOK (Bd p)=e0 at*
  have an:Hid (kt=1):=by rw [←b1.out.1] at aG; exact aG
  have cY:(kt==1)=true:=by simp [an.out]
  clear aG
  go_enter Tryz.func117,Tryz.ntmps117
  go_wp2_with (first
    | (go_at_call 118; refine Calls.ret (Da p.name _ (by omega) aq.out.tab) ?_; rintro v w2 ⟨rfl,aA⟩; rw [bm.out]; have af:=hide (aq.out.at aA); have cR:=af.out.b.cell; have d0:=Ah af.out.b aa.out; have aw:=hide (bd.out.trans (aA.mono bd.out.size)); clear aA)
    | (go_at_call 168; refine Calls.ret (ch _ af) ?_; rintro v w3 ⟨rfl,aB⟩; have b6:=hide (af.out.at aB); have cS:=b6.out.b.cell; have a7:=hide (aw.out.trans (aB.mono aw.out.size)); clear aB))
  all_goals first
    | (go_ret
       refine⟨congrArg (Value.int .i64) (hP.out.trans ?_).symm,?_⟩
       · first
           | exact pv2 (by omega)
           | exact pv3 (by omega) (by assumption)
           | exact pv4 (by omega) (by assumption) (by omega)
           | exact pv5 (by omega) (by assumption) (by omega) (by assumption)
           | exact pv6 (by omega) (by assumption) (by omega) (by assumption) (by have:=an.out; omega)
       · first
           | exact a7.out
           | exact aw.out)
    | (have hR:=hide (hP.out.trans (pv7 (by omega) (by assumption) (by omega) (by assumption) (by have:=an.out; omega))))
  rename_i z0 z1 z2 z3 z4 z5 z6 z7 z8 z9 z10 z11 zK zQ
  clear z0 z1 z2 z3 z4 z5 z6 z7 z8 z9 z10 z11
  clear hP
  have cx:∀(k:Nat) (y:World),k<nu→Hid (C0 y w.heap.size pc p)→Calls Tryz.prog 170 #[.agg pc,.int .i64 (k:Int)] y (Ret fun v w'=>v=.int .i64 (BB nameOK p k)∧Below y.heap.size y w'):=by
    intro k y hk G
    obtain⟨r,hr⟩:∃r,p.rules[k]?=some r:=⟨_,List.getElem?_eq_getElem (by have:=I.out.2.2.2.2.2.2; omega)⟩
    have J:=ad.out.rule r (List.mem_of_getElem? hr)
    have E:=KT (cs:=pc.toList) G.out.pr hr J.1 (by have:=J.2; omega) G.out.tab
    rw [KU _ _ _ _ _ (by omega)] at E
    have h2:BB nameOK p k=BC nameOK p.topo p.states.length p.messages.length p.values.length ((p.rules.take k).any fun x=>decide (x.name=r.name)) r:=by
      unfold BB
      rw [hr]
    rw [h2]
    exact E
  have bY:∀y,Below w.heap.size w y→Calls Tryz.prog 119 #[.slice A5 W c5,.int .i64 (ns:Int)] y (Ret fun r w'=>r=.int .i64 (setE p.initial (ns:Int))∧Below y.heap.size y w'):=fun y G=>by
    rw [I.out.2.2.2.2.1]
    exact DE (bQ.out.keep (fun _ Z=>G.cell Z) G.size)
  have c9:∀y,Below w.heap.size w y→Calls Tryz.prog 119 #[.slice A6 nl c6,.int .i64 (ns:Int)] y (Ret fun r w'=>r=.int .i64 (setE p.leader (ns:Int))∧Below y.heap.size y w'):=fun y G=>by
    rw [I.out.2.2.2.1]
    exact DE (bR.out.keep (fun _ Z=>G.cell Z) G.size)
  go_loopw [113] (fun ii wr=>∃(k:Nat),ii=.int .i64 (k:Int)∧k≤nr∧Hid (Below w3.heap.size w3 wr)∧Hid ((p.res.take k).all Bg=true)) (fun ii _=>nr - (intOf ii).toNat)
  case atStart=>exact⟨0,rfl,Nat.zero_le _,Below.refl _ _,by show _=_; simp⟩
  case round=>
    obtain⟨k,rfl,hk,ai,U⟩:=hrel
    have b7:=hide (b6.out.at ai.out)
    have cT:=b7.out.b.cell
    have ax:=hide (a7.out.trans (ai.out.mono a7.out.size))
    by_cases bk:k<nr
    · obtain⟨b,bt,l,hA,cO,hl,bf⟩:=(bP.out.keep (w':=wr) (B':=w.heap.size) (fun _ Z=>ax.out.cell Z) (Nat.le_refl _)).at (k:=k) (by have:=I.out.1; omega)
      have d5:(loadCellsFrom ⟨b,bt+k*4,none⟩ 0 4 #[]).run Tryz.prog wr=.ok #[.int .i64 l.c,.int .i64 l.n,.int .i64 l.t,.int .i64 l.f] wr:=by
        have:=run_loadCells_list (P:=Tryz.prog) wr ⟨b,bt+k*4,none⟩ [.int .i64 l.c,.int .i64 l.n,.int .i64 l.t,.int .i64 l.f] (fun j v C=>by
          rw [Addr.add_mid]
          have hj:=AP C
          rw [bf j hj]
          match j,hj,C with
          | 0,_,C=>exact congrArg some (Option.some.inj C)
          | 1,_,C=>exact congrArg some (Option.some.inj C)
          | 2,_,C=>exact congrArg some (Option.some.inj C)
          | 3,_,C=>exact congrArg some (Option.some.inj C))
        simpa [loadCells] using this
      obtain⟨w5,cz,bb,aZ,c0⟩:=Ae wr #[.int .i64 l.c,.int .i64 l.n,.int .i64 l.t,.int .i64 l.f] 202
      have da:∀c:Array Value,c.size=4→(storeCells ⟨wr.heap.size,0,none⟩ [.int .i64 l.c,.int .i64 l.n,.int .i64 l.t,.int .i64 l.f] 0).run Tryz.prog (wr.alloc (.cells c 202))=.ok () w5:=fun c hc=>by rw [←cz]; exact Dv wr 202 4 (by kernel_rfl) (rc:=#[.int .i64 l.c,.int .i64 l.n,.int .i64 l.t,.int .i64 l.f]) rfl (by simp [Value.oneCell']) c hc
      have d1:(loadCellsFrom ⟨wr.heap.size,0,none⟩ 0 4 #[]).run Tryz.prog w5=.ok #[.int .i64 l.c,.int .i64 l.n,.int .i64 l.t,.int .i64 l.f] w5:=Ah (n:=4) aZ rfl
      have be:∀y,Calls Tryz.prog 169 #[.agg #[.int .i64 l.c,.int .i64 l.n,.int .i64 l.t,.int .i64 l.f]] y (Ret fun r w'=>r=.bool (Bg l)∧Below y.heap.size y w'):=fun y=>FJ l y
      have ah:=hide (ai.out.trans (bb.mono ai.out.size))
      have bj:=hide hl
      subst hA
      clear bf c0 aZ bb hl
      cases C:Bg l
      · have a6:=hide (show p.res.all Bg=false from by
          rw [List.all_eq_false]
          exact⟨l,List.mem_of_getElem? bj.out,by rw [C]; decide⟩)
        go_wp2_with (go_at_call 169; refine Calls.ret (be _) ?_; rintro v w6 ⟨rfl,M⟩; rw [C])
        go_ret
        refine⟨congrArg (Value.int .i64) (hR.out.trans ?_).symm,a7.out.trans ((ah.out.trans (M.mono ah.out.size)).mono a7.out.size)⟩
        unfold DJ
        rw [a6.out]
        rfl
      · have a6:=hide (Cq (p:=Bg) bj.out U.out C)
        go_wp2_with (go_at_call 169; refine Calls.ret (be _) ?_; rintro v w6 ⟨rfl,M⟩; rw [C]; have bU:=hide (ah.out.trans (M.mono ah.out.size)); clear M)
        exact⟨⟨k+1,by go_num,by omega,bU.out,a6.out⟩,by simp [intOf]; omega⟩
    · have a6:=hide (show p.res.all Bg=true from by
        have E:=I.out.1
        have h2:=U.out
        rwa [List.take_of_length_le (by omega)] at h2)
      have ap:=hide (show protE nameOK p=orE (Aj id [setE p.initial (ns:Int),Ad ((W:Int)==0) 1,setE p.leader (ns:Int)]) (Cc p) from by
        rw [hR.out]
        obtain⟨-,-,-,-,e5,e6,-⟩:=I.out
        have hq:((W:Int)==0)=p.initial.isEmpty:=by rw [Bv,e5,EF]
        unfold DJ Cc
        rw [a6.out,hq,e6]
        simp only [Aj,id_eq,Bk,Ef,show Ad (!true) 4=0 from rfl,AY])
      obtain⟨e8,bg⟩:∃e,Hid (Aj id [setE p.initial (ns:Int),Ad ((W:Int)==0) 1,setE p.leader (ns:Int)]=e):=⟨_,rfl⟩
      rw [bg.out] at ap
      have b3:=hide ap
      clear a6 U ap
      go_wp2_with fail
      have b8:=hide (b7.out.at (Ap wr))
      have cU:=b8.out.b.cell
      have ay:=hide (ax.out.trans ((Ap wr).mono ax.out.size))
      refine Reg.cI [0,1,0,7,0,16,48,112,255,0,512,0,4095,8191,16383,32767] [0,1,2,4,5,6,7,9,10,11,3,8,12,13,14,15] ?_
      refine Reg.wI [0,1,2,4,5,6,7,9,10,11] [3,8,12,13,14,15] rfl fun Qf z=>?_
      go_wp2_with fail
      first | refine z _ _ ⟨rfl,?_⟩ | refine⟨rfl,?_⟩ | refine z _ _ ⟨by simp [Reg.fineT,Reg.intOp,Region.wanted,yielded,Reg.intFine,Reg.isInt,Act.eval],?_⟩
      try clear z
      refine Reg.aI 3 [8,12,13,14,15] [5,10] rfl fun Qf z=>?_
      simp only [gT,gS,gZ]
      go_wp2_with (go_at_call 119; refine Calls.ret (bY _ ay.out) ?_; rintro v w6 ⟨rfl,M⟩)
      first | refine z _ _ ⟨Reg.same_below (M) [5,10] rfl,?_⟩ | refine⟨Reg.same_below (M) [5,10] rfl,?_⟩
      try clear z
      have ar:=hide (b8.out.at M)
      have cV:=ar.out.b.cell
      have d2:=Ah ar.out.b aa.out
      have az:=hide (ay.out.trans (M.mono ay.out.size))
      clear M
      refine Reg.aI 8 [12,13,14,15] [10] rfl fun Qf z=>?_
      simp only [gT,gS,gZ]
      go_wp2_with (go_at_call 121; refine(Ce _ _ _).mono ?_; rintro e w' ⟨rfl,rfl⟩)
      first | refine z _ _ ⟨Reg.same_below (Below.refl _ _) [10] rfl,?_⟩ | refine⟨Reg.same_below (Below.refl _ _) [10] rfl,?_⟩
      try clear z
      refine Reg.aI 12 [13,14,15] [] rfl fun Qf z=>?_
      simp only [gT,gS,gZ]
      go_wp2_with (go_at_call 119; refine Calls.ret (c9 _ az.out) ?_; rintro v w7 ⟨rfl,aC⟩)
      first | refine z _ _ ⟨Reg.nm,?_⟩ | refine⟨Reg.nm,?_⟩
      try clear z
      have au:=hide (ar.out.at aC)
      have cW:=au.out.b.cell
      have d3:=Ah au.out.b aa.out
      have b9:=hide (az.out.trans (aC.mono az.out.size))
      clear aC
      obtain⟨wz,dc,aE,b0,c8⟩:=Ae w7 #[.int .i64 (setE p.initial (ns:Int)),.int .i64 (Ad ((W:Int)==0) 1),.int .i64 (setE p.leader (ns:Int))] 36
      have bS:=hide (Ch (l:=[setE p.initial (ns:Int),Ad ((W:Int)==0) 1,setE p.leader (ns:Int)]) b0 (by simp))
      clear b0 c8
      have av:=hide (au.out.at aE)
      have cZ:=av.out.b.cell
      have d6:=Ah av.out.b aa.out
      have a8:=hide (b9.out.trans (aE.mono b9.out.size))
      clear aE
      refine Reg.wI [13] [14,15] rfl fun Qf z=>?_
      go_wp2_with fail
      first | refine z _ _ ⟨rfl,?_⟩ | refine⟨rfl,?_⟩ | refine z _ _ ⟨by simp [Reg.fineT,Reg.intOp,Region.wanted,yielded,Reg.intFine,Reg.isInt,Act.eval],?_⟩
      try clear z
      refine Reg.aI 14 [15] [] rfl fun Qf z=>?_
      simp only [gT,gS,gZ]
      go_wp2_with (go_at_call 120; refine(Ci (l:=[setE p.initial (ns:Int),Ad ((W:Int)==0) 1,setE p.leader (ns:Int)]) bS.out).mono ?_; rintro e w' ⟨rfl,rfl⟩; rw [bg.out])
      first | refine z _ _ ⟨Reg.nm,?_⟩ | refine⟨Reg.nm,?_⟩
      try clear z
      refine Reg.wI [15] [] rfl fun Qf z=>?_
      go_wp2_with fail
      first | refine z _ _ ⟨rfl,?_⟩ | refine⟨rfl,?_⟩ | refine z _ _ ⟨by simp [Reg.fineT,Reg.intOp,Region.wanted,yielded,Reg.intFine,Reg.isInt,Act.eval],?_⟩
      try clear z
      first | refine Reg.restI_end ?_ | skip
      by_cases a3:e8=0
      case neg=>
        have cw:(e8 != 0)=true:=by simp [a3]
        have bK:=hide a3
        clear a3
        go_wp2_with fail
        go_ret
        exact⟨congrArg (Value.int .i64) (b3.out.trans (BF bK.out)).symm,a8.out⟩
      have cw:(e8 != 0)=false:=by simp [a3]
      have b4:=hide (show protE nameOK p=Cc p from by rw [b3.out,a3,AY])
      clear a3
      go_wp2_with fail
      go_loopw [142] (fun ii wr=>∃(k:Nat),ii=.int .i64 (k:Int)∧k≤nu∧Hid (Below wz.heap.size wz wr)∧Hid (Aj (BB nameOK p) (List.range k)=0)) (fun ii _=>nu - (intOf ii).toNat)
      case atStart=>exact⟨0,rfl,Nat.zero_le _,Below.refl _ _,by show _=_; rfl⟩
      case round=>
        obtain⟨k,rfl,hk,a5,U⟩:=hrel
        have ag:=hide (av.out.at a5.out)
        have cX:=ag.out.b.cell
        have d4:=Ah ag.out.b aa.out
        have ba:=hide (a8.out.trans (a5.out.mono a8.out.size))
        by_cases bk:k<nu
        · obtain⟨e9,aj⟩:∃e,Hid (BB nameOK p k=e):=⟨_,rfl⟩
          have aF:=hide (cx k _ bk ag)
          rw [aj.out] at aF
          have G:(List.range p.rules.length)[k]?=some k:=by rw [List.getElem?_range (by have:=I.out.2.2.2.2.2.2; omega)]
          have bs:=hide G
          have bq:(List.range p.rules.length).take k=List.range k:=by rw [List.take_range,Nat.min_eq_left (by have:=I.out.2.2.2.2.2.2; omega)]
          have br:=hide bq
          clear G bq
          by_cases J:e9=0
          · have hq:(e9 != 0)=false:=by simp [J]
            have ci:=hide (show Aj (BB nameOK p) (List.range (k+1))=0 from by
              have E:=CD (BB nameOK p) bs.out (by rw [br.out]; exact U.out)
              rw [List.take_range,Nat.min_eq_left (by have:=I.out.2.2.2.2.2.2; omega)] at E
              rw [E,aj.out,J])
            clear J
            go_wp2_with (go_at_call 170; refine Calls.ret aF.out ?_; rintro v w9 ⟨rfl,V⟩; have aD:=hide (a5.out.trans (V.mono a5.out.size)); clear V)
            exact⟨⟨k+1,by go_num,by omega,aD.out,ci.out⟩,by simp [intOf]; omega⟩
          · have hq:(e9 != 0)=true:=by simp [J]
            have cy:=hide (show protE nameOK p=e9 from by
              have E:=Ct (BB nameOK p) bs.out (by rw [br.out]; exact U.out) (by rw [aj.out]; exact J)
              rw [b4.out]
              unfold Cc
              rw [E,aj.out,BF J])
            clear J
            go_wp2_with (go_at_call 170; refine Calls.ret aF.out ?_; rintro v w9 ⟨rfl,V⟩; have aD:=hide (a5.out.trans (V.mono a5.out.size)); clear V)
            go_ret
            exact⟨congrArg (Value.int .i64) cy.out.symm,a8.out.trans (aD.out.mono a8.out.size)⟩
        · obtain⟨nt,aP⟩:∃n,n=(BO p.rules).length:=⟨_,rfl⟩
          have bO:=hide (show protE nameOK p=Ad (decide (3<nt)) 4 from by
            have E:=U.out
            rw [show k=p.rules.length by have:=I.out.2.2.2.2.2.2; omega] at E
            rw [b4.out,aP]
            unfold Cc
            rw [E,AY])
          have bp:=hide (Lz (cs:=pc.toList) ag.out.pr ad.out)
          rw [←aP] at bp
          have bX:=hide (show decide (3<(nt:Int))=decide (3<nt) from by
            rw [decide_eq_decide]
            omega)
          have d8:nt≤1800:=by
            have E:=FB p.rules (fun r hr=>(ad.out.rule r hr).1.2.1)
            have h2:=ad.out.rules
            omega
          clear aP U
          go_wp2_with (first
            | (go_at_call 171; refine Calls.ret bp.out ?_; rintro v w9 ⟨bn,V⟩; obtain⟨Av,cv,C⟩:=AH bn; subst C; have bT:=hide (ba.out.trans (V.mono ba.out.size)); clear bn V)
            | (go_at_call 121; refine(Ce _ _ _).mono ?_; rintro e w' ⟨rfl,rfl⟩))
          go_ret
          refine⟨congrArg (Value.int .i64) ?_,bT.out⟩
          rw [bO.out,←bX.out]
end Go.Proofs.YtfcfpoemojjglaaGreatDoor.K
namespace Go.Proofs.YtfcfpoemojjglaaGreatDoor.K
open Go.RowKit
attribute [-go_sem] loadCellsFrom storeCells
theorem RD {w:World} {cs:List Value} {p:Am} (h:At w w.heap.size cs p) (J:p.Small) (hT:SpOK w) (b9:nameOK p.name=true) (aB:p.topo≠1):
    Calls Tryz.prog 117 #[.agg cs.toArray] w (Ret fun v w'=>v=.int .i64 (protE nameOK p)∧Below w.heap.size w w'):=by
  obtain⟨A1,c1,A2,c2,A3,c3,A4,c4,A5,c5,A6,c6,A7,c7,bd,cR,bW,bX,bY,bZ,c0,c8,c9,ca,cb,C,Z,h3,h4,h5,h6,h7,bG⟩:=h.cells
  have bM:=J.states
  have bN:=J.messages
  have bO:=J.values
  have bP:=J.res
  have bQ:=J.initial
  have bR:=J.leader
  have bS:=J.rules
  have cO:=J.name
  have a9:=hide J
  have cu:=hide h4
  have bC:=hide h5
  have bD:=hide h6
  obtain⟨w1,cS,a4,aT,bJ⟩:=Ae w cs.toArray 27
  have al:=hide (show C0 w1 w.heap.size cs.toArray p from⟨h.keep (fun _ hp=>a4.cell hp) a4.size,aT,hT.below a4⟩)
  have b5:=hide a4
  generalize cc:cs.toArray=pc at*
  clear C Z h3 h4 h5 h6 h7 h J a4 aT bJ cc hT
  obtain⟨nr,aH⟩:∃n,n=p.res.length:=⟨_,rfl⟩
  obtain⟨nm,aG⟩:∃n,n=p.messages.length:=⟨_,rfl⟩
  obtain⟨nv,aM⟩:∃n,n=p.values.length:=⟨_,rfl⟩
  obtain⟨nl,aF⟩:∃n,n=p.leader.length:=⟨_,rfl⟩
  obtain⟨O,aE⟩:∃n,n=p.initial.length:=⟨_,rfl⟩
  obtain⟨ns,aJ⟩:∃n,n=p.states.length:=⟨_,rfl⟩
  obtain⟨nu,aL⟩:∃n,n=p.rules.length:=⟨_,rfl⟩
  have I:=hide (show nr=p.res.length∧nm=p.messages.length∧nv=p.values.length∧nl=p.leader.length∧O=p.initial.length∧ns=p.states.length∧nu=p.rules.length from⟨aH,aG,aM,aF,aE,aJ,aL⟩)
  simp only [←aH,←aG,←aM,←aF,←aE,←aJ,←aL] at bX bY bZ c8 c9 ca cb bM bN bO bP bQ bR bS bG
  clear aH aG aM aF aE aJ aL
  obtain⟨kt,aD⟩:∃n,n=p.topo:=⟨_,rfl⟩
  obtain⟨kf,aC⟩:∃n,n=p.fault:=⟨_,rfl⟩
  have aV:=hide (show kt=p.topo∧kf=p.fault from⟨aD,aC⟩)
  simp only [←aD,←aC] at bW c0
  clear aD aC
  have a7:=hide bd
  clear bd
  have cw:=al.out.b.cell
  have ba:=hide b9
  clear b9
  have hP:=hide (show protE nameOK p=CH kt kf ns nm nv nr nu nl (CU nameOK (Bd p)) (DJ p) from by
    obtain⟨e1,e2,e3,e4,e5,e6,e7⟩:=I.out
    obtain⟨f1,f2⟩:=aV.out
    rw [e1,e2,e3,e4,e6,e7,f1,f2]
    exact GI p ba.out)
  have bT:∀z,Hid (C0 z w.heap.size pc p)→Calls Tryz.prog 168 #[.agg pc] z (Ret fun v w'=>v=.int .i64 (CU nameOK (Bd p))∧Below z.heap.size z w'):=fun z E=>J6 E.out.pr a9.out E.out.tab
  generalize CU nameOK (Bd p)=e0 at*
  have ai:Hid (kt≠1):=by rw [←aV.out.1] at aB; exact aB
  have cF:(kt==1)=false:=by simp [ai.out]
  clear aB
  go_enter Tryz.func117,Tryz.ntmps117
  go_wp2_with (first
    | (go_at_call 118; refine Calls.ret (Da p.name _ (by omega) al.out.tab) ?_; rintro v w2 ⟨rfl,av⟩; rw [ba.out]; have ab:=hide (al.out.at av); have cx:=ab.out.b.cell; have cH:=Ah ab.out.b a7.out; have ap:=hide (b5.out.trans (av.mono b5.out.size)); clear av)
    | (go_at_call 168; refine Calls.ret (bT _ ab) ?_; rintro v w3 ⟨rfl,aw⟩; have aZ:=hide (ab.out.at aw); have cy:=aZ.out.b.cell; have aq:=hide (ap.out.trans (aw.mono ap.out.size)); clear aw))
  all_goals first
    | (go_ret
       refine⟨congrArg (Value.int .i64) (hP.out.trans ?_).symm,?_⟩
       · first
           | exact pv2 (by omega)
           | exact pv3 (by omega) (by assumption)
           | exact pv4 (by omega) (by assumption) (by omega)
           | exact pv5 (by omega) (by assumption) (by omega) (by assumption)
           | exact pv6 (by omega) (by assumption) (by omega) (by assumption) (by have:=ai.out; omega)
       · first
           | exact aq.out
           | exact ap.out)
    | (have hR:=hide (hP.out.trans (pv7 (by omega) (by assumption) (by omega) (by assumption) (by have:=ai.out; omega))))
  have bU:=hide (show nr=0 by omega)
  rename_i z0 z1 z2 z3 z4 z5 z6 z7 z8 z9 z10 z11 z12 z13 z14 zK zQ
  clear z0 z1 z2 z3 z4 z5 z6 z7 z8 z9 z10 z11 z12 z13 z14
  clear hP
  have ce:∀(k:Nat) (z:World),k<nu→Hid (C0 z w.heap.size pc p)→Calls Tryz.prog 170 #[.agg pc,.int .i64 (k:Int)] z (Ret fun v w'=>v=.int .i64 (BB nameOK p k)∧Below z.heap.size z w'):=by
    intro k z hk E
    obtain⟨r,hr⟩:∃r,p.rules[k]?=some r:=⟨_,List.getElem?_eq_getElem (by have:=I.out.2.2.2.2.2.2; omega)⟩
    have G:=a9.out.rule r (List.mem_of_getElem? hr)
    have C:=KT (cs:=pc.toList) E.out.pr hr G.1 (by have:=G.2; omega) E.out.tab
    rw [KU _ _ _ _ _ (by omega)] at C
    have Z:BB nameOK p k=BC nameOK p.topo p.states.length p.messages.length p.values.length ((p.rules.take k).any fun x=>decide (x.name=r.name)) r:=by
      unfold BB
      rw [hr]
    rw [Z]
    exact C
  have bI:∀z,Below w.heap.size w z→Calls Tryz.prog 119 #[.slice A5 O c5,.int .i64 (ns:Int)] z (Ret fun r w'=>r=.int .i64 (setE p.initial (ns:Int))∧Below z.heap.size z w'):=fun z E=>by
    rw [I.out.2.2.2.2.1]
    exact DE (bC.out.keep (fun _ hp=>E.cell hp) E.size)
  have bL:∀z,Below w.heap.size w z→Calls Tryz.prog 119 #[.slice A6 nl c6,.int .i64 (ns:Int)] z (Ret fun r w'=>r=.int .i64 (setE p.leader (ns:Int))∧Below z.heap.size z w'):=fun z E=>by
    rw [I.out.2.2.2.1]
    exact DE (bD.out.keep (fun _ hp=>E.cell hp) E.size)
  go_loopw [113] (fun V wr=>∃(k:Nat),V=.int .i64 (k:Int)∧k≤0∧Hid (Below w3.heap.size w3 wr)∧Hid ((p.res.take k).all Bg=true)) (fun V _=>0 - (intOf V).toNat)
  case atStart=>exact⟨0,rfl,Nat.zero_le _,Below.refl _ _,by show _=_; simp⟩
  case round=>
    obtain⟨k,rfl,hk,b6,U⟩:=hrel
    have b0:=hide (aZ.out.at b6.out)
    have cz:=b0.out.b.cell
    have b2:=hide (aq.out.trans (b6.out.mono aq.out.size))
    by_cases b8:k<0
    · exfalso
      omega
    · have be:=hide (show p.res.all Bg=true from by
        have C:=I.out.1
        have Z:=U.out
        have h3:=bU.out
        rwa [List.take_of_length_le (by omega)] at Z)
      have ak:=hide (show protE nameOK p=orE (Aj id [setE p.initial (ns:Int),Ad ((O:Int)==0) 1,setE p.leader (ns:Int)]) (Cc p) from by
        rw [hR.out]
        obtain⟨-,-,-,-,e5,e6,-⟩:=I.out
        have hq:((O:Int)==0)=p.initial.isEmpty:=by rw [Bv,e5,EF]
        unfold DJ Cc
        rw [be.out,hq,e6]
        simp only [Aj,id_eq,Bk,Ef,show Ad (!true) 4=0 from rfl,AY])
      obtain⟨e8,b7⟩:∃e,Hid (Aj id [setE p.initial (ns:Int),Ad ((O:Int)==0) 1,setE p.leader (ns:Int)]=e):=⟨_,rfl⟩
      rw [b7.out] at ak
      have aW:=hide ak
      clear be U ak
      go_wp2_with fail
      have b1:=hide (b0.out.at (Ap wr))
      have cA:=b1.out.b.cell
      have ar:=hide (b2.out.trans ((Ap wr).mono b2.out.size))
      refine Reg.cI [0,1,0,7,0,16,48,112,255,0,512,0,4095,8191,16383,32767] [0,1,2,4,5,6,7,9,10,11,3,8,12,13,14,15] ?_
      refine Reg.wI [0,1,2,4,5,6,7,9,10,11] [3,8,12,13,14,15] rfl fun Qf y=>?_
      go_wp2_with fail
      first | refine y _ _ ⟨rfl,?_⟩ | refine⟨rfl,?_⟩ | refine y _ _ ⟨by simp [Reg.fineT,Reg.intOp,Region.wanted,yielded,Reg.intFine,Reg.isInt,Act.eval],?_⟩
      try clear y
      refine Reg.aI 3 [8,12,13,14,15] [5,10] rfl fun Qf y=>?_
      simp only [gT,gS,gZ]
      go_wp2_with (go_at_call 119; refine Calls.ret (bI _ ar.out) ?_; rintro v w6 ⟨rfl,a5⟩)
      first | refine y _ _ ⟨Reg.same_below (a5) [5,10] rfl,?_⟩ | refine⟨Reg.same_below (a5) [5,10] rfl,?_⟩
      try clear y
      have am:=hide (b1.out.at a5)
      have cB:=am.out.b.cell
      have cJ:=Ah am.out.b a7.out
      have au:=hide (ar.out.trans (a5.mono ar.out.size))
      clear a5
      refine Reg.aI 8 [12,13,14,15] [10] rfl fun Qf y=>?_
      simp only [gT,gS,gZ]
      go_wp2_with (go_at_call 121; refine(Ce _ _ _).mono ?_; rintro e w' ⟨rfl,rfl⟩)
      first | refine y _ _ ⟨Reg.same_below (Below.refl _ _) [10] rfl,?_⟩ | refine⟨Reg.same_below (Below.refl _ _) [10] rfl,?_⟩
      try clear y
      refine Reg.aI 12 [13,14,15] [] rfl fun Qf y=>?_
      simp only [gT,gS,gZ]
      go_wp2_with (go_at_call 119; refine Calls.ret (bL _ au.out) ?_; rintro v w7 ⟨rfl,ax⟩)
      first | refine y _ _ ⟨Reg.nm,?_⟩ | refine⟨Reg.nm,?_⟩
      try clear y
      have an:=hide (am.out.at ax)
      have cD:=an.out.b.cell
      have cK:=Ah an.out.b a7.out
      have b3:=hide (au.out.trans (ax.mono au.out.size))
      clear ax
      obtain⟨wz,cT,az,aU,bK⟩:=Ae w7 #[.int .i64 (setE p.initial (ns:Int)),.int .i64 (Ad ((O:Int)==0) 1),.int .i64 (setE p.leader (ns:Int))] 36
      have bE:=hide (Ch (l:=[setE p.initial (ns:Int),Ad ((O:Int)==0) 1,setE p.leader (ns:Int)]) aU (by simp))
      clear aU bK
      have ao:=hide (an.out.at az)
      have cG:=ao.out.b.cell
      have cM:=Ah ao.out.b a7.out
      have a3:=hide (b3.out.trans (az.mono b3.out.size))
      clear az
      refine Reg.wI [13] [14,15] rfl fun Qf y=>?_
      go_wp2_with fail
      first | refine y _ _ ⟨rfl,?_⟩ | refine⟨rfl,?_⟩ | refine y _ _ ⟨by simp [Reg.fineT,Reg.intOp,Region.wanted,yielded,Reg.intFine,Reg.isInt,Act.eval],?_⟩
      try clear y
      refine Reg.aI 14 [15] [] rfl fun Qf y=>?_
      simp only [gT,gS,gZ]
      go_wp2_with (go_at_call 120; refine(Ci (l:=[setE p.initial (ns:Int),Ad ((O:Int)==0) 1,setE p.leader (ns:Int)]) bE.out).mono ?_; rintro e w' ⟨rfl,rfl⟩; rw [b7.out])
      first | refine y _ _ ⟨Reg.nm,?_⟩ | refine⟨Reg.nm,?_⟩
      try clear y
      refine Reg.wI [15] [] rfl fun Qf y=>?_
      go_wp2_with fail
      first | refine y _ _ ⟨rfl,?_⟩ | refine⟨rfl,?_⟩ | refine y _ _ ⟨by simp [Reg.fineT,Reg.intOp,Region.wanted,yielded,Reg.intFine,Reg.isInt,Act.eval],?_⟩
      try clear y
      first | refine Reg.restI_end ?_ | skip
      by_cases W:e8=0
      case neg=>
        have cd:(e8 != 0)=true:=by simp [W]
        have bx:=hide W
        clear W
        go_wp2_with fail
        go_ret
        exact⟨congrArg (Value.int .i64) (aW.out.trans (BF bx.out)).symm,a3.out⟩
      have cd:(e8 != 0)=false:=by simp [W]
      have aX:=hide (show protE nameOK p=Cc p from by rw [aW.out,W,AY])
      clear W
      go_wp2_with fail
      go_loopw [142] (fun V wr=>∃(k:Nat),V=.int .i64 (k:Int)∧k≤nu∧Hid (Below wz.heap.size wz wr)∧Hid (Aj (BB nameOK p) (List.range k)=0)) (fun V _=>nu - (intOf V).toNat)
      case atStart=>exact⟨0,rfl,Nat.zero_le _,Below.refl _ _,by show _=_; rfl⟩
      case round=>
        obtain⟨k,rfl,hk,a2,U⟩:=hrel
        have ad:=hide (ao.out.at a2.out)
        have cE:=ad.out.b.cell
        have cL:=Ah ad.out.b a7.out
        have b4:=hide (a3.out.trans (a2.out.mono a3.out.size))
        by_cases b8:k<nu
        · obtain⟨e9,ae⟩:∃e,Hid (BB nameOK p k=e):=⟨_,rfl⟩
          have aA:=hide (ce k _ b8 ad)
          rw [ae.out] at aA
          have E:(List.range p.rules.length)[k]?=some k:=by rw [List.getElem?_range (by have:=I.out.2.2.2.2.2.2; omega)]
          have bi:=hide E
          have bg:(List.range p.rules.length).take k=List.range k:=by rw [List.take_range,Nat.min_eq_left (by have:=I.out.2.2.2.2.2.2; omega)]
          have bh:=hide bg
          clear E bg
          by_cases G:e9=0
          · have hq:(e9 != 0)=false:=by simp [G]
            have bV:=hide (show Aj (BB nameOK p) (List.range (k+1))=0 from by
              have C:=CD (BB nameOK p) bi.out (by rw [bh.out]; exact U.out)
              rw [List.take_range,Nat.min_eq_left (by have:=I.out.2.2.2.2.2.2; omega)] at C
              rw [C,ae.out,G])
            clear G
            go_wp2_with (go_at_call 170; refine Calls.ret aA.out ?_; rintro v w9 ⟨rfl,M⟩; have ay:=hide (a2.out.trans (M.mono a2.out.size)); clear M)
            exact⟨⟨k+1,by go_num,by omega,ay.out,bV.out⟩,by simp [intOf]; omega⟩
          · have hq:(e9 != 0)=true:=by simp [G]
            have cf:=hide (show protE nameOK p=e9 from by
              have C:=Ct (BB nameOK p) bi.out (by rw [bh.out]; exact U.out) (by rw [ae.out]; exact G)
              rw [aX.out]
              unfold Cc
              rw [C,ae.out,BF G])
            clear G
            go_wp2_with (go_at_call 170; refine Calls.ret aA.out ?_; rintro v w9 ⟨rfl,M⟩; have ay:=hide (a2.out.trans (M.mono a2.out.size)); clear M)
            go_ret
            exact⟨congrArg (Value.int .i64) cf.out.symm,a3.out.trans (ay.out.mono a3.out.size)⟩
        · obtain⟨nt,aK⟩:∃n,n=(BO p.rules).length:=⟨_,rfl⟩
          have bB:=hide (show protE nameOK p=Ad (decide (3<nt)) 4 from by
            have C:=U.out
            rw [show k=p.rules.length by have:=I.out.2.2.2.2.2.2; omega] at C
            rw [aX.out,aK]
            unfold Cc
            rw [C,AY])
          have bf:=hide (Lz (cs:=pc.toList) ad.out.pr a9.out)
          rw [←aK] at bf
          have bH:=hide (show decide (3<(nt:Int))=decide (3<nt) from by
            rw [decide_eq_decide]
            omega)
          have cQ:nt≤1800:=by
            have C:=FB p.rules (fun r hr=>(a9.out.rule r hr).1.2.1)
            have Z:=a9.out.rules
            omega
          clear aK U
          go_wp2_with (first
            | (go_at_call 171; refine Calls.ret bf.out ?_; rintro v w9 ⟨bb,M⟩; obtain⟨Av,cv,hv⟩:=AH bb; subst hv; have bF:=hide (b4.out.trans (M.mono b4.out.size)); clear bb M)
            | (go_at_call 121; refine(Ce _ _ _).mono ?_; rintro e w' ⟨rfl,rfl⟩))
          go_ret
          refine⟨congrArg (Value.int .i64) ?_,bF.out⟩
          rw [bB.out,←bH.out]
end Go.Proofs.YtfcfpoemojjglaaGreatDoor.K
namespace Go.Proofs.YtfcfpoemojjglaaGreatDoor.K
open Go.RowKit
attribute [-go_sem] loadCellsFrom storeCells
theorem RE {w:World} {cs:List Value} {p:Am} (h:At w w.heap.size cs p) (y:p.Small) (hT:SpOK w) (a7:nameOK p.name=false):
  Calls Tryz.prog 117 #[.agg cs.toArray] w (Ret fun v w'=>v=.int .i64 (protE nameOK p)∧Below w.heap.size w w'):=by
 obtain⟨A1,c1,A2,c2,A3,c3,A4,c4,A5,c5,A6,c6,A7,c7,a9,aX,aq,ar,au,av,aw,ax,ay,az,aA,h1,h2,h3,W,Z,h6,h7,ag⟩:=h.cells
 have ai:=y.states
 have aj:=y.messages
 have ak:=y.values
 have al:=y.res
 have am:=y.initial
 have an:=y.leader
 have ao:=y.rules
 have aW:=y.name
 have aZ:=hide y
 have aS:=hide W
 have aT:=hide Z
 have aU:=hide h6
 obtain⟨w1,b0,z,a3,ah⟩:=Ae w cs.toArray 27
 have a5:=hide (show C0 w1 w.heap.size cs.toArray p from⟨h.keep (fun _ hp=>z.cell hp) z.size,a3,hT.below z⟩)
 have a6:=hide z
 generalize aB:cs.toArray=pc at*
 clear h1 h2 h3 W Z h6 h7 h y z a3 ah aB hT
 obtain⟨nr,M⟩:∃n,n=p.res.length:=⟨_,rfl⟩
 obtain⟨nm,J⟩:∃n,n=p.messages.length:=⟨_,rfl⟩
 obtain⟨nv,V⟩:∃n,n=p.values.length:=⟨_,rfl⟩
 obtain⟨nl,I⟩:∃n,n=p.leader.length:=⟨_,rfl⟩
 obtain⟨ni,G⟩:∃n,n=p.initial.length:=⟨_,rfl⟩
 obtain⟨ns,O⟩:∃n,n=p.states.length:=⟨_,rfl⟩
 obtain⟨nu,U⟩:∃n,n=p.rules.length:=⟨_,rfl⟩
 have aR:=hide (show nr=p.res.length∧nm=p.messages.length∧nv=p.values.length∧nl=p.leader.length∧ni=p.initial.length∧ns=p.states.length∧nu=p.rules.length from⟨M,J,V,I,G,O,U⟩)
 simp only [←M,←J,←V,←I,←G,←O,←U] at ar au av ax ay az aA ai aj ak al am an ao ag
 clear M J V I G O U
 obtain⟨kt,E⟩:∃n,n=p.topo:=⟨_,rfl⟩
 obtain⟨kf,C⟩:∃n,n=p.fault:=⟨_,rfl⟩
 have aQ:=hide (show kt=p.topo∧kf=p.fault from⟨E,C⟩)
 simp only [←E,←C] at aq aw
 clear E C
 have aY:=hide a9
 clear a9
 have aV:=a5.out.b.cell
 have a8:=hide a7
 clear a7
 go_enter Tryz.func117,Tryz.ntmps117
 go_wp2_with (go_at_call 118; refine Calls.ret (Da p.name _ (by omega) a5.out.tab) ?_; rintro v w2 ⟨rfl,af⟩; rw [a8.out])
 go_ret
 exact⟨by unfold protE; rw [a8.out]; rfl,a6.out.trans (af.mono a6.out.size)⟩
theorem Kt {w:World} {cs:List Value} {p:Am} (h:At w w.heap.size cs p) (C:p.Small) (y:SpOK w):
  Calls Tryz.prog 117 #[.agg cs.toArray] w (Ret fun v w'=>v=.int .i64 (protE nameOK p)∧Below w.heap.size w w'):=by
 cases z:nameOK p.name
 ·exact RE h C y z
 ·by_cases ht:p.topo=1
  ·exact RC h C y z ht
  ·exact RD h C y z ht
end Go.Proofs.YtfcfpoemojjglaaGreatDoor.K
