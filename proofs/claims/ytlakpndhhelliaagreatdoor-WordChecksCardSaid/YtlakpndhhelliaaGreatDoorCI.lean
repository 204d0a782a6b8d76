/-
  Part CI of a proof.
-/
import Derived.Test.YtlakpndhhelliaaGreatDoorPA
import Derived.Test.YtlakpndhhelliaaGreatDoorCG
import Derived.Test.YtlakpndhhelliaaGreatDoorCE
set_option maxHeartbeats 16000000
set_option maxRecDepth 100000
set_option linter.unusedVariables false
set_option linter.unusedSimpArgs false
namespace Go.Proofs.YtlakpndhhelliaaGreatDoor.K
open Go.RowKit
attribute [-go_sem] loadCellsFrom storeCells
structure CK (w:World) (g:Nat) (pc:Array Value) (p:Ao):Prop where
 pr:Ax w w.heap.size pc.toList p
 b:Blk w g 27 pc
 tab:AL w
theorem CK.at {w w':World} {g:Nat} {y:Array Value} {p:Ao} (h:CK w g y p) (f:Below w.heap.size w w'):CK w' g y p:=
 ⟨h.pr.keep (fun _ z=>f.cell z) f.size,h.b.below f,h.tab.below f⟩
theorem Ax.cells {w:World} {B:Nat} {cs:List Value} {p:Ao} (h:Ax w B cs p):∃f J y c2 z M C O E U F V G I,
  cs.toArray.size=10∧cs.toArray[0]?=some (.string p.name)∧cs.toArray[1]?=some (.int .i64 p.topo)∧cs.toArray[2]?=some (.slice f p.states.length J)∧cs.toArray[3]?=some (.slice y p.messages.length c2)∧
  cs.toArray[4]?=some (.slice z p.values.length M)∧cs.toArray[5]?=some (.int .i64 p.fault)∧cs.toArray[6]?=some (.slice C p.res.length O)∧cs.toArray[7]?=some (.slice E p.initial.length U)∧cs.toArray[8]?=some (.slice F p.leader.length V)∧cs.toArray[9]?=some (.slice G p.rules.length I)∧
  Sl w B 1 Bx f p.states∧Sl w B 1 Bx y p.messages∧Sl w B 1 Bx z p.values∧Sl w B 4 En C p.res∧Sl w B 1 Ai E p.initial∧Sl w B 1 Ai F p.leader∧BJ w B 18 (AB w B) G p.rules∧p.rules.length≤I:=by
 obtain⟨f,J,y,c2,z,M,C,O,E,U,F,V,G,I,rfl,W,Z,h3,h4,h5,h6,h7,a7⟩:=h
 exact⟨f,J,y,c2,z,M,C,O,E,U,F,V,G,I,rfl,rfl,rfl,rfl,rfl,rfl,rfl,rfl,rfl,rfl,rfl,W,Z,h3,h4,h5,h6,h7,a7⟩
def Di (p:Ao):Int:=
 orE (Ac (!p.res.all AR) 4)
 (orE (Aa p.initial p.states.length)
 (orE (Ac p.initial.isEmpty 1)
 (orE (Aa p.leader p.states.length)
 (orE (Ah (Bu Ab p) (List.range p.rules.length))
 (Ac (decide (3<(BH p.rules).length)) 4)))))
def BW (p:Ao):Int:=orE (Ah (Bu Ab p) (List.range p.rules.length)) (Ac (decide (3<(BH p.rules).length)) 4)
def Cv (kt kf:Int) (ns nm nv nr nu nl:Nat) (e R:Int):Int:=
 orE (Ac (!(decide (1≤kt)&&decide (kt≤4))||!(decide (0≤kf)&&decide (kf≤3))) 1)
 (orE (Ac (decide (ns=0)) 1)
 (orE (Ac (decide (6<ns)||decide (3<nm)||decide (3<nv)||decide (4<nr)||decide (8<nu)) 4)
 (orE e
 (orE (Ac ((!decide (kt=1)&&(!decide (nm=0)||!decide (nv=0)||!decide (nr=0)||!decide (kf=0)))||(decide (kt=1)&&!decide (nl=0))) 1) R))))
section
variable {kt kf:Int} {ns nm nv nr nu nl:Nat} {e R:Int}
theorem pvA (h:1≤kt∧kt≤4∧0≤kf∧kf≤3):(!(decide (1≤kt)&&decide (kt≤4))||!(decide (0≤kf)&&decide (kf≤3)))=false:=by simp [h]
theorem pv2 (h:kt<1∨4<kt∨kf<0∨3<kf):Cv kt kf ns nm nv nr nu nl e R=1:=by
 have f:(!(decide (1≤kt)&&decide (kt≤4))||!(decide (0≤kf)&&decide (kf≤3)))=true:=by
  simp
  omega
 unfold Cv
 rw [f]
 rfl
theorem pv3 (f:1≤kt∧kt≤4∧0≤kf∧kf≤3) (h:((ns:Int)==0)=true):Cv kt kf ns nm nv nr nu nl e R=1:=by
 unfold Cv
 rw [pvA f,decide_eq_true (show ns=0 by simpa using h)]
 rfl
theorem pvB (h:((ns:Int)==0)=false):decide (ns=0)=false:=by simpa using h
theorem pv4 (f:1≤kt∧kt≤4∧0≤kf∧kf≤3) (y:((ns:Int)==0)=false) (h:6<(ns:Int)∨3<(nm:Int)∨3<(nv:Int)∨4<(nr:Int)∨8<(nu:Int)):Cv kt kf ns nm nv nr nu nl e R=4:=by
 have z:(decide (6<ns)||decide (3<nm)||decide (3<nv)||decide (4<nr)||decide (8<nu))=true:=by
  simp
  omega
 unfold Cv
 rw [pvA f,pvB y,z]
 rfl
theorem pvC (h:(ns:Int)≤6∧(nm:Int)≤3∧(nv:Int)≤3∧(nr:Int)≤4∧(nu:Int)≤8):(decide (6<ns)||decide (3<nm)||decide (3<nv)||decide (4<nr)||decide (8<nu))=false:=by
 simp
 omega
theorem pv5 (f:1≤kt∧kt≤4∧0≤kf∧kf≤3) (y:((ns:Int)==0)=false) (z:(ns:Int)≤6∧(nm:Int)≤3∧(nv:Int)≤3∧(nr:Int)≤4∧(nu:Int)≤8) (h:(e != 0)=true):Cv kt kf ns nm nv nr nu nl e R=e:=by
 unfold Cv
 rw [pvA f,pvB y,pvC z]
 exact Bz (by simpa using h)
theorem pvD (h:(e != 0)=false):e=0:=by simpa using h
theorem pv6 (f:1≤kt∧kt≤4∧0≤kf∧kf≤3) (y:((ns:Int)==0)=false) (z:(ns:Int)≤6∧(nm:Int)≤3∧(nv:Int)≤3∧(nr:Int)≤4∧(nu:Int)≤8) (C:(e != 0)=false) (h:(kt≠1∧(nm≠0∨nv≠0∨nr≠0∨kf≠0))∨(kt=1∧nl≠0)):Cv kt kf ns nm nv nr nu nl e R=1:=by
 have E:((!decide (kt=1)&&(!decide (nm=0)||!decide (nv=0)||!decide (nr=0)||!decide (kf=0)))||(decide (kt=1)&&!decide (nl=0)))=true:=by
  simp
  omega
 unfold Cv
 rw [pvA f,pvB y,pvC z,pvD C,E]
 rfl
theorem pv7 (f:1≤kt∧kt≤4∧0≤kf∧kf≤3) (y:((ns:Int)==0)=false) (z:(ns:Int)≤6∧(nm:Int)≤3∧(nv:Int)≤3∧(nr:Int)≤4∧(nu:Int)≤8) (C:(e != 0)=false) (h:(kt≠1∧nm=0∧nv=0∧nr=0∧kf=0)∨(kt=1∧nl=0)):Cv kt kf ns nm nv nr nu nl e R=R:=by
 have E:((!decide (kt=1)&&(!decide (nm=0)||!decide (nv=0)||!decide (nr=0)||!decide (kf=0)))||(decide (kt=1)&&!decide (nl=0)))=false:=by
  simp
  omega
 unfold Cv
 rw [pvA f,pvB y,pvC z,pvD C,E]
 rfl
end
theorem FZ (p:Ao) (h:Ab p.name=true):At Ab p=Cv p.topo p.fault p.states.length p.messages.length p.values.length p.res.length p.rules.length p.leader.length (CB Ab (AP p)) (Di p):=by
 unfold At Cv Di
 rw [h,Bn,Bn,Bn,Bn,Bn]
 rfl
theorem D7 (n:Nat):((n:Int)==0)=decide (n=0):=by by_cases h:n=0 <;> simp [h]
end Go.Proofs.YtlakpndhhelliaaGreatDoor.K
namespace Go.Proofs.YtlakpndhhelliaaGreatDoor.K
open Go.RowKit
attribute [-go_sem] loadCellsFrom storeCells
theorem N5 {w:World} {cs:List Value} {p:Ao} (h:Ax w w.heap.size cs p) (I:p.Small) (hT:AL w) (aU:Ab p.name=true) (ak:p.topo=1):
    Calls Tryz.prog 22 #[.agg cs.toArray] w (Ret fun v w'=>v=.int .i64 (At Ab p)∧Below w.heap.size w w'):=by
  obtain⟨A1,c1,A2,c2,A3,c3,A4,c4,A5,c5,A6,c6,A7,c7,aV,cK,bB,bC,bD,bE,bF,bG,bH,bI,bJ,E,h2,h3,h4,h5,h6,h7,bM⟩:=h.cells
  have bN:=I.states
  have bO:=I.messages
  have bP:=I.values
  have bQ:=I.res
  have bR:=I.initial
  have bS:=I.leader
  have bT:=I.rules
  have cL:=I.name
  have a6:=hide I
  have bU:=hide h4
  have bV:=hide h5
  have bW:=hide h6
  obtain⟨w1,cM,a7,aZ,bX⟩:=Ag w cs.toArray 27
  have al:=hide (show CK w1 w.heap.size cs.toArray p from⟨h.keep (fun _ W=>a7.cell W) a7.size,aZ,hT.below a7⟩)
  have b0:=hide a7
  generalize bY:cs.toArray=pc at*
  clear E h2 h3 h4 h5 h6 h7 h I a7 aZ bX bY hT
  obtain⟨nr,am⟩:∃n,n=p.res.length:=⟨_,rfl⟩
  obtain⟨nm,an⟩:∃n,n=p.messages.length:=⟨_,rfl⟩
  obtain⟨nv,ao⟩:∃n,n=p.values.length:=⟨_,rfl⟩
  obtain⟨nl,ap⟩:∃n,n=p.leader.length:=⟨_,rfl⟩
  obtain⟨O,aq⟩:∃n,n=p.initial.length:=⟨_,rfl⟩
  obtain⟨ns,ar⟩:∃n,n=p.states.length:=⟨_,rfl⟩
  obtain⟨nu,au⟩:∃n,n=p.rules.length:=⟨_,rfl⟩
  have G:=hide (show nr=p.res.length∧nm=p.messages.length∧nv=p.values.length∧nl=p.leader.length∧O=p.initial.length∧ns=p.states.length∧nu=p.rules.length from⟨am,an,ao,ap,aq,ar,au⟩)
  simp only [←am,←an,←ao,←ap,←aq,←ar,←au] at bC bD bE bG bH bI bJ bN bO bP bQ bR bS bT bM
  clear am an ao ap aq ar au
  obtain⟨kt,av⟩:∃n,n=p.topo:=⟨_,rfl⟩
  obtain⟨kf,aw⟩:∃n,n=p.fault:=⟨_,rfl⟩
  have b1:=hide (show kt=p.topo∧kf=p.fault from⟨av,aw⟩)
  simp only [←av,←aw] at bB bF
  clear av aw
  have a8:=hide aV
  clear aV
  have cO:=al.out.b.cell
  have b2:=hide aU
  clear aU
  have hP:=hide (show At Ab p=Cv kt kf ns nm nv nr nu nl (CB Ab (AP p)) (Di p) from by
    obtain⟨e1,e2,e3,e4,e5,e6,e7⟩:=G.out
    obtain⟨f1,f2⟩:=b1.out
    rw [e1,e2,e3,e4,e6,e7,f1,f2]
    exact FZ p b2.out)
  have cd:∀y,Hid (CK y w.heap.size pc p)→Calls Tryz.prog 46 #[.agg pc] y (Ret fun v w'=>v=.int .i64 (CB Ab (AP p))∧Below y.heap.size y w'):=fun y F=>I8 F.out.pr a6.out F.out.tab
  generalize CB Ab (AP p)=e0 at*
  have az:Hid (kt=1):=by rw [←b1.out.1] at ak; exact ak
  have cQ:(kt==1)=true:=by simp [az.out]
  clear ak
  go_enter Tryz.func22,Tryz.ntmps22
  go_wp2_with (first
    | (go_at_call 23; refine Calls.ret (CG p.name _ (by omega) al.out.tab) ?_; rintro v w2 ⟨rfl,aA⟩; rw [b2.out]; have ad:=hide (al.out.at aA); have cR:=ad.out.b.cell; have cS:=Am ad.out.b a8.out; have aB:=hide (b0.out.trans (aA.mono b0.out.size)); clear aA)
    | (go_at_call 46; refine Calls.ret (cd _ ad) ?_; rintro v w3 ⟨rfl,aC⟩; have b5:=hide (ad.out.at aC); have cT:=b5.out.b.cell; have a9:=hide (aB.out.trans (aC.mono aB.out.size)); clear aC))
  all_goals first
    | (go_ret
       refine⟨congrArg (Value.int .i64) (hP.out.trans ?_).symm,?_⟩
       · first
           | exact pv2 (by omega)
           | exact pv3 (by omega) (by assumption)
           | exact pv4 (by omega) (by assumption) (by omega)
           | exact pv5 (by omega) (by assumption) (by omega) (by assumption)
           | exact pv6 (by omega) (by assumption) (by omega) (by assumption) (by have:=az.out; omega)
       · first
           | exact a9.out
           | exact aB.out)
    | (have hR:=hide (hP.out.trans (pv7 (by omega) (by assumption) (by omega) (by assumption) (by have:=az.out; omega))))
  rename_i z0 z1 z2 z3 z4 z5 z6 z7 z8 z9 z10 z11 zK zQ
  clear z0 z1 z2 z3 z4 z5 z6 z7 z8 z9 z10 z11
  clear hP
  have ce:∀(k:Nat) (y:World),k<nu→Hid (CK y w.heap.size pc p)→Calls Tryz.prog 48 #[.agg pc,.int .i64 (k:Int)] y (Ret fun v w'=>v=.int .i64 (Bu Ab p k)∧Below y.heap.size y w'):=by
    intro k y hk F
    obtain⟨r,hr⟩:∃r,p.rules[k]?=some r:=⟨_,List.getElem?_eq_getElem (by have:=G.out.2.2.2.2.2.2; omega)⟩
    have J:=a6.out.rule r (List.mem_of_getElem? hr)
    have E:=Iv (cs:=pc.toList) F.out.pr hr J.1 (by have:=J.2; omega) F.out.tab
    rw [JQ _ _ _ _ _ (by omega)] at E
    have h2:Bu Ab p k=AW Ab p.topo p.states.length p.messages.length p.values.length ((p.rules.take k).any fun x=>decide (x.name=r.name)) r:=by
      unfold Bu
      rw [hr]
    rw [h2]
    exact E
  have cf:∀y,Below w.heap.size w y→Calls Tryz.prog 24 #[.slice A5 O c5,.int .i64 (ns:Int)] y (Ret fun r w'=>r=.int .i64 (Aa p.initial (ns:Int))∧Below y.heap.size y w'):=fun y F=>by
    rw [G.out.2.2.2.2.1]
    exact Bw (bV.out.keep (fun _ W=>F.cell W) F.size)
  have cg:∀y,Below w.heap.size w y→Calls Tryz.prog 24 #[.slice A6 nl c6,.int .i64 (ns:Int)] y (Ret fun r w'=>r=.int .i64 (Aa p.leader (ns:Int))∧Below y.heap.size y w'):=fun y F=>by
    rw [G.out.2.2.2.1]
    exact Bw (bW.out.keep (fun _ W=>F.cell W) F.size)
  go_loopw [113] (fun Z wr=>∃(k:Nat),Z=.int .i64 (k:Int)∧k≤nr∧Hid (Below w3.heap.size w3 wr)∧Hid ((p.res.take k).all AR=true)) (fun Z _=>nr - (intOf Z).toNat)
  case atStart=>exact⟨0,rfl,Nat.zero_le _,Below.refl _ _,by show _=_; simp⟩
  case round=>
    obtain⟨k,rfl,hk,ae,U⟩:=hrel
    have b7:=hide (b5.out.at ae.out)
    have cU:=b7.out.b.cell
    have aD:=hide (a9.out.trans (ae.out.mono a9.out.size))
    by_cases b8:k<nr
    · obtain⟨b,b9,l,hA,cV,hl,bb⟩:=(bU.out.keep (w':=wr) (B':=w.heap.size) (fun _ W=>aD.out.cell W) (Nat.le_refl _)).at (k:=k) (by have:=G.out.1; omega)
      have cW:(loadCellsFrom ⟨b,b9+k*4,none⟩ 0 4 #[]).run Tryz.prog wr=.ok #[.int .i64 l.c,.int .i64 l.n,.int .i64 l.t,.int .i64 l.f] wr:=by
        have:=run_loadCells_list (P:=Tryz.prog) wr ⟨b,b9+k*4,none⟩ [.int .i64 l.c,.int .i64 l.n,.int .i64 l.t,.int .i64 l.f] (fun j v C=>by
          rw [Addr.add_mid]
          have hj:=AO C
          rw [bb j hj]
          match j,hj,C with
          | 0,_,C=>exact congrArg some (Option.some.inj C)
          | 1,_,C=>exact congrArg some (Option.some.inj C)
          | 2,_,C=>exact congrArg some (Option.some.inj C)
          | 3,_,C=>exact congrArg some (Option.some.inj C))
        simpa [loadCells] using this
      obtain⟨w5,ci,bd,be,cj⟩:=Ag wr #[.int .i64 l.c,.int .i64 l.n,.int .i64 l.t,.int .i64 l.f] 92
      have cX:∀c:Array Value,c.size=4→(storeCells ⟨wr.heap.size,0,none⟩ [.int .i64 l.c,.int .i64 l.n,.int .i64 l.t,.int .i64 l.f] 0).run Tryz.prog (wr.alloc (.cells c 92))=.ok () w5:=fun c hc=>by rw [←ci]; exact Cf wr 92 4 (by kernel_rfl) (rc:=#[.int .i64 l.c,.int .i64 l.n,.int .i64 l.t,.int .i64 l.f]) rfl (by simp [Value.oneCell']) c hc
      have cY:(loadCellsFrom ⟨wr.heap.size,0,none⟩ 0 4 #[]).run Tryz.prog w5=.ok #[.int .i64 l.c,.int .i64 l.n,.int .i64 l.t,.int .i64 l.f] w5:=Am (n:=4) be rfl
      have bf:∀y,Calls Tryz.prog 47 #[.agg #[.int .i64 l.c,.int .i64 l.n,.int .i64 l.t,.int .i64 l.f]] y (Ret fun r w'=>r=.bool (AR l)∧Below y.heap.size y w'):=fun y=>Fr l y
      have af:=hide (ae.out.trans (bd.mono ae.out.size))
      have bg:=hide hl
      subst hA
      clear bb cj be bd hl
      cases C:AR l
      · have a3:=hide (show p.res.all AR=false from by
          rw [List.all_eq_false]
          exact⟨l,List.mem_of_getElem? bg.out,by rw [C]; decide⟩)
        go_wp2_with (go_at_call 47; refine Calls.ret (bf _) ?_; rintro v w6 ⟨rfl,M⟩; rw [C])
        go_ret
        refine⟨congrArg (Value.int .i64) (hR.out.trans ?_).symm,a9.out.trans ((af.out.trans (M.mono af.out.size)).mono a9.out.size)⟩
        unfold Di
        rw [a3.out]
        rfl
      · have a3:=hide (BP (p:=AR) bg.out U.out C)
        go_wp2_with (go_at_call 47; refine Calls.ret (bf _) ?_; rintro v w6 ⟨rfl,M⟩; rw [C]; have cm:=hide (af.out.trans (M.mono af.out.size)); clear M)
        exact⟨⟨k+1,by go_num,by omega,cm.out,a3.out⟩,by simp [intOf]; omega⟩
    · have a3:=hide (show p.res.all AR=true from by
        have E:=G.out.1
        have h2:=U.out
        rwa [List.take_of_length_le (by omega)] at h2)
      have aF:=hide (show At Ab p=orE (Ah id [Aa p.initial (ns:Int),Ac ((O:Int)==0) 1,Aa p.leader (ns:Int)]) (BW p) from by
        rw [hR.out]
        obtain⟨-,-,-,-,e5,e6,-⟩:=G.out
        have hq:((O:Int)==0)=p.initial.isEmpty:=by rw [Bn,e5,D7]
        unfold Di BW
        rw [a3.out,hq,e6]
        simp only [Ah,id_eq,Be,DO,show Ac (!true) 4=0 from rfl,BI])
      obtain⟨e8,bi⟩:∃e,Hid (Ah id [Aa p.initial (ns:Int),Ac ((O:Int)==0) 1,Aa p.leader (ns:Int)]=e):=⟨_,rfl⟩
      rw [bi.out] at aF
      have bj:=hide aF
      clear a3 U aF
      go_wp2_with fail
      have bk:=hide (b7.out.at (Ap wr))
      have cZ:=bk.out.b.cell
      have aJ:=hide (aD.out.trans ((Ap wr).mono aD.out.size))
      refine Reg.cI [0,1,0,7,0,16,48,112,255,0,512,0,4095,8191,16383,32767] [0,1,2,4,5,6,7,9,10,11,3,8,12,13,14,15] ?_
      refine Reg.wI [0,1,2,4,5,6,7,9,10,11] [3,8,12,13,14,15] rfl fun Qf z=>?_
      go_wp2_with fail
      first | refine z _ _ ⟨rfl,?_⟩ | refine⟨rfl,?_⟩
      try clear z
      refine Reg.aI 3 [8,12,13,14,15] [5,10] rfl fun Qf z=>?_
      simp only [gT,gS,gZ]
      go_wp2_with (go_at_call 24; refine Calls.ret (cf _ aJ.out) ?_; rintro v w6 ⟨rfl,M⟩)
      first | refine z _ _ ⟨Reg.same_below (M) [5,10] rfl,?_⟩ | refine⟨Reg.same_below (M) [5,10] rfl,?_⟩
      try clear z
      have aK:=hide (bk.out.at M)
      have d0:=aK.out.b.cell
      have d1:=Am aK.out.b a8.out
      have aL:=hide (aJ.out.trans (M.mono aJ.out.size))
      clear M
      refine Reg.aI 8 [12,13,14,15] [10] rfl fun Qf z=>?_
      simp only [gT,gS,gZ]
      go_wp2_with (go_at_call 27; refine(BZ _ _ _).mono ?_; rintro e w' ⟨rfl,rfl⟩)
      first | refine z _ _ ⟨Reg.same_below (Below.refl _ _) [10] rfl,?_⟩ | refine⟨Reg.same_below (Below.refl _ _) [10] rfl,?_⟩
      try clear z
      refine Reg.aI 12 [13,14,15] [] rfl fun Qf z=>?_
      simp only [gT,gS,gZ]
      go_wp2_with (go_at_call 24; refine Calls.ret (cg _ aL.out) ?_; rintro v w7 ⟨rfl,aM⟩)
      first | refine z _ _ ⟨Reg.nm,?_⟩ | refine⟨Reg.nm,?_⟩
      try clear z
      have aN:=hide (aK.out.at aM)
      have d2:=aN.out.b.cell
      have d3:=Am aN.out.b a8.out
      have bl:=hide (aL.out.trans (aM.mono aL.out.size))
      clear aM
      obtain⟨wz,d4,aO,bn,co⟩:=Ag w7 #[.int .i64 (Aa p.initial (ns:Int)),.int .i64 (Ac ((O:Int)==0) 1),.int .i64 (Aa p.leader (ns:Int))] 33
      have cp:=hide (B0 (l:=[Aa p.initial (ns:Int),Ac ((O:Int)==0) 1,Aa p.leader (ns:Int)]) bn (by simp))
      clear bn co
      have aP:=hide (aN.out.at aO)
      have d5:=aP.out.b.cell
      have d6:=Am aP.out.b a8.out
      have ab:=hide (bl.out.trans (aO.mono bl.out.size))
      clear aO
      refine Reg.wI [13] [14,15] rfl fun Qf z=>?_
      go_wp2_with fail
      first | refine z _ _ ⟨rfl,?_⟩ | refine⟨rfl,?_⟩
      try clear z
      refine Reg.aI 14 [15] [] rfl fun Qf z=>?_
      simp only [gT,gS,gZ]
      go_wp2_with (go_at_call 26; refine(B7 (l:=[Aa p.initial (ns:Int),Ac ((O:Int)==0) 1,Aa p.leader (ns:Int)]) cp.out).mono ?_; rintro e w' ⟨rfl,rfl⟩; rw [bi.out])
      first | refine z _ _ ⟨Reg.nm,?_⟩ | refine⟨Reg.nm,?_⟩
      try clear z
      refine Reg.wI [15] [] rfl fun Qf z=>?_
      go_wp2_with fail
      first | refine z _ _ ⟨rfl,?_⟩ | refine⟨rfl,?_⟩
      try clear z
      first | refine Reg.restI_end ?_ | skip
      by_cases a4:e8=0
      case neg=>
        have cq:(e8 != 0)=true:=by simp [a4]
        have cr:=hide a4
        clear a4
        go_wp2_with fail
        go_ret
        exact⟨congrArg (Value.int .i64) (bj.out.trans (Bz cr.out)).symm,ab.out⟩
      have cq:(e8 != 0)=false:=by simp [a4]
      have bo:=hide (show At Ab p=BW p from by rw [bj.out,a4,BI])
      clear a4
      go_wp2_with fail
      go_loopw [142] (fun Z wr=>∃(k:Nat),Z=.int .i64 (k:Int)∧k≤nu∧Hid (Below wz.heap.size wz wr)∧Hid (Ah (Bu Ab p) (List.range k)=0)) (fun Z _=>nu - (intOf Z).toNat)
      case atStart=>exact⟨0,rfl,Nat.zero_le _,Below.refl _ _,by show _=_; rfl⟩
      case round=>
        obtain⟨k,rfl,hk,a5,U⟩:=hrel
        have ag:=hide (aP.out.at a5.out)
        have d7:=ag.out.b.cell
        have d8:=Am ag.out.b a8.out
        have bp:=hide (ab.out.trans (a5.out.mono ab.out.size))
        by_cases b8:k<nu
        · obtain⟨e9,ai⟩:∃e,Hid (Bu Ab p k=e):=⟨_,rfl⟩
          have aQ:=hide (ce k _ b8 ag)
          rw [ai.out] at aQ
          have F:(List.range p.rules.length)[k]?=some k:=by rw [List.getElem?_range (by have:=G.out.2.2.2.2.2.2; omega)]
          have bq:=hide F
          have br:(List.range p.rules.length).take k=List.range k:=by rw [List.take_range,Nat.min_eq_left (by have:=G.out.2.2.2.2.2.2; omega)]
          have bs:=hide br
          clear F br
          by_cases J:e9=0
          · have hq:(e9 != 0)=false:=by simp [J]
            have ct:=hide (show Ah (Bu Ab p) (List.range (k+1))=0 from by
              have E:=Cq (Bu Ab p) bq.out (by rw [bs.out]; exact U.out)
              rw [List.take_range,Nat.min_eq_left (by have:=G.out.2.2.2.2.2.2; omega)] at E
              rw [E,ai.out,J])
            clear J
            go_wp2_with (go_at_call 48; refine Calls.ret aQ.out ?_; rintro v w9 ⟨rfl,V⟩; have aR:=hide (a5.out.trans (V.mono a5.out.size)); clear V)
            exact⟨⟨k+1,by go_num,by omega,aR.out,ct.out⟩,by simp [intOf]; omega⟩
          · have hq:(e9 != 0)=true:=by simp [J]
            have cu:=hide (show At Ab p=e9 from by
              have E:=Cd (Bu Ab p) bq.out (by rw [bs.out]; exact U.out) (by rw [ai.out]; exact J)
              rw [bo.out]
              unfold BW
              rw [E,ai.out,Bz J])
            clear J
            go_wp2_with (go_at_call 48; refine Calls.ret aQ.out ?_; rintro v w9 ⟨rfl,V⟩; have aR:=hide (a5.out.trans (V.mono a5.out.size)); clear V)
            go_ret
            exact⟨congrArg (Value.int .i64) cu.out.symm,ab.out.trans (aR.out.mono ab.out.size)⟩
        · obtain⟨nt,aS⟩:∃n,n=(BH p.rules).length:=⟨_,rfl⟩
          have cw:=hide (show At Ab p=Ac (decide (3<nt)) 4 from by
            have E:=U.out
            rw [show k=p.rules.length by have:=G.out.2.2.2.2.2.2; omega] at E
            rw [bo.out,aS]
            unfold BW
            rw [E,BI])
          have bu:=hide (HN (cs:=pc.toList) ag.out.pr a6.out)
          rw [←aS] at bu
          have cx:=hide (show decide (3<(nt:Int))=decide (3<nt) from by
            rw [decide_eq_decide]
            omega)
          have d9:nt≤1800:=by
            have E:=Ez p.rules (fun r hr=>(a6.out.rule r hr).1.2.1)
            have h2:=a6.out.rules
            omega
          clear aS U
          go_wp2_with (first
            | (go_at_call 49; refine Calls.ret bu.out ?_; rintro v w9 ⟨bv,V⟩; obtain⟨Av,cv,C⟩:=AV bv; subst C; have cy:=hide (bp.out.trans (V.mono bp.out.size)); clear bv V)
            | (go_at_call 27; refine(BZ _ _ _).mono ?_; rintro e w' ⟨rfl,rfl⟩))
          go_ret
          refine⟨congrArg (Value.int .i64) ?_,cy.out⟩
          rw [cw.out,←cx.out]
end Go.Proofs.YtlakpndhhelliaaGreatDoor.K
namespace Go.Proofs.YtlakpndhhelliaaGreatDoor.K
open Go.RowKit
attribute [-go_sem] loadCellsFrom storeCells
theorem Ko {w:World} {cs:List Value} {p:Ao} (h:Ax w w.heap.size cs p) (E:p.Small) (hT:AL w) (aN:Ab p.name=true) (ae:p.topo≠1):
    Calls Tryz.prog 22 #[.agg cs.toArray] w (Ret fun v w'=>v=.int .i64 (At Ab p)∧Below w.heap.size w w'):=by
  obtain⟨A1,c1,A2,c2,A3,c3,A4,c4,A5,c5,A6,c6,A7,c7,aO,cp,bn,bo,bp,bq,br,bs,bt,bu,bv,z,U,h3,h4,h5,h6,h7,bx⟩:=h.cells
  have bz:=E.states
  have bA:=E.messages
  have bB:=E.values
  have bC:=E.res
  have bD:=E.initial
  have bE:=E.leader
  have bF:=E.rules
  have cq:=E.name
  have Z:=hide E
  have cr:=hide h4
  have bG:=hide h5
  have bH:=hide h6
  obtain⟨w1,ct,a2,aT,bI⟩:=Ag w cs.toArray 27
  have af:=hide (show CK w1 w.heap.size cs.toArray p from⟨h.keep (fun _ hp=>a2.cell hp) a2.size,aT,hT.below a2⟩)
  have aU:=hide a2
  generalize bJ:cs.toArray=pc at*
  clear z U h3 h4 h5 h6 h7 h E a2 aT bI bJ hT
  obtain⟨nr,ag⟩:∃n,n=p.res.length:=⟨_,rfl⟩
  obtain⟨nm,ah⟩:∃n,n=p.messages.length:=⟨_,rfl⟩
  obtain⟨nv,ai⟩:∃n,n=p.values.length:=⟨_,rfl⟩
  obtain⟨nl,aj⟩:∃n,n=p.leader.length:=⟨_,rfl⟩
  obtain⟨I,ak⟩:∃n,n=p.initial.length:=⟨_,rfl⟩
  obtain⟨ns,al⟩:∃n,n=p.states.length:=⟨_,rfl⟩
  obtain⟨nu,am⟩:∃n,n=p.rules.length:=⟨_,rfl⟩
  have F:=hide (show nr=p.res.length∧nm=p.messages.length∧nv=p.values.length∧nl=p.leader.length∧I=p.initial.length∧ns=p.states.length∧nu=p.rules.length from⟨ag,ah,ai,aj,ak,al,am⟩)
  simp only [←ag,←ah,←ai,←aj,←ak,←al,←am] at bo bp bq bs bt bu bv bz bA bB bC bD bE bF bx
  clear ag ah ai aj ak al am
  obtain⟨kt,an⟩:∃n,n=p.topo:=⟨_,rfl⟩
  obtain⟨kf,ao⟩:∃n,n=p.fault:=⟨_,rfl⟩
  have aV:=hide (show kt=p.topo∧kf=p.fault from⟨an,ao⟩)
  simp only [←an,←ao] at bn br
  clear an ao
  have a4:=hide aO
  clear aO
  have cu:=af.out.b.cell
  have aW:=hide aN
  clear aN
  have hP:=hide (show At Ab p=Cv kt kf ns nm nv nr nu nl (CB Ab (AP p)) (Di p) from by
    obtain⟨e1,e2,e3,e4,e5,e6,e7⟩:=F.out
    obtain⟨f1,f2⟩:=aV.out
    rw [e1,e2,e3,e4,e6,e7,f1,f2]
    exact FZ p aW.out)
  have bR:∀f,Hid (CK f w.heap.size pc p)→Calls Tryz.prog 46 #[.agg pc] f (Ret fun v w'=>v=.int .i64 (CB Ab (AP p))∧Below f.heap.size f w'):=fun f C=>I8 C.out.pr Z.out C.out.tab
  generalize CB Ab (AP p)=e0 at*
  have ar:Hid (kt≠1):=by rw [←aV.out.1] at ae; exact ae
  have cw:(kt==1)=false:=by simp [ar.out]
  clear ae
  go_enter Tryz.func22,Tryz.ntmps22
  go_wp2_with (first
    | (go_at_call 23; refine Calls.ret (CG p.name _ (by omega) af.out.tab) ?_; rintro v w2 ⟨rfl,au⟩; rw [aW.out]; have a8:=hide (af.out.at au); have cx:=a8.out.b.cell; have cy:=Am a8.out.b a4.out; have av:=hide (aU.out.trans (au.mono aU.out.size)); clear au)
    | (go_at_call 46; refine Calls.ret (bR _ a8) ?_; rintro v w3 ⟨rfl,aw⟩; have aZ:=hide (a8.out.at aw); have cz:=aZ.out.b.cell; have ax:=hide (av.out.trans (aw.mono av.out.size)); clear aw))
  all_goals first
    | (go_ret
       refine⟨congrArg (Value.int .i64) (hP.out.trans ?_).symm,?_⟩
       · first
           | exact pv2 (by omega)
           | exact pv3 (by omega) (by assumption)
           | exact pv4 (by omega) (by assumption) (by omega)
           | exact pv5 (by omega) (by assumption) (by omega) (by assumption)
           | exact pv6 (by omega) (by assumption) (by omega) (by assumption) (by have:=ar.out; omega)
       · first
           | exact ax.out
           | exact av.out)
    | (have hR:=hide (hP.out.trans (pv7 (by omega) (by assumption) (by omega) (by assumption) (by have:=ar.out; omega))))
  have bT:=hide (show nr=0 by omega)
  rename_i z0 z1 z2 z3 z4 z5 z6 z7 z8 z9 z10 z11 z12 z13 z14 zK zQ
  clear z0 z1 z2 z3 z4 z5 z6 z7 z8 z9 z10 z11 z12 z13 z14
  clear hP
  have bU:∀(k:Nat) (f:World),k<nu→Hid (CK f w.heap.size pc p)→Calls Tryz.prog 48 #[.agg pc,.int .i64 (k:Int)] f (Ret fun v w'=>v=.int .i64 (Bu Ab p k)∧Below f.heap.size f w'):=by
    intro k f hk C
    obtain⟨r,hr⟩:∃r,p.rules[k]?=some r:=⟨_,List.getElem?_eq_getElem (by have:=F.out.2.2.2.2.2.2; omega)⟩
    have G:=Z.out.rule r (List.mem_of_getElem? hr)
    have z:=Iv (cs:=pc.toList) C.out.pr hr G.1 (by have:=G.2; omega) C.out.tab
    rw [JQ _ _ _ _ _ (by omega)] at z
    have U:Bu Ab p k=AW Ab p.topo p.states.length p.messages.length p.values.length ((p.rules.take k).any fun x=>decide (x.name=r.name)) r:=by
      unfold Bu
      rw [hr]
    rw [U]
    exact z
  have bV:∀f,Below w.heap.size w f→Calls Tryz.prog 24 #[.slice A5 I c5,.int .i64 (ns:Int)] f (Ret fun r w'=>r=.int .i64 (Aa p.initial (ns:Int))∧Below f.heap.size f w'):=fun f C=>by
    rw [F.out.2.2.2.2.1]
    exact Bw (bG.out.keep (fun _ hp=>C.cell hp) C.size)
  have bW:∀f,Below w.heap.size w f→Calls Tryz.prog 24 #[.slice A6 nl c6,.int .i64 (ns:Int)] f (Ret fun r w'=>r=.int .i64 (Aa p.leader (ns:Int))∧Below f.heap.size f w'):=fun f C=>by
    rw [F.out.2.2.2.1]
    exact Bw (bH.out.keep (fun _ hp=>C.cell hp) C.size)
  go_loopw [113] (fun M wr=>∃(k:Nat),M=.int .i64 (k:Int)∧k≤0∧Hid (Below w3.heap.size w3 wr)∧Hid ((p.res.take k).all AR=true)) (fun M _=>0 - (intOf M).toNat)
  case atStart=>exact⟨0,rfl,Nat.zero_le _,Below.refl _ _,by show _=_; simp⟩
  case round=>
    obtain⟨k,rfl,hk,b0,O⟩:=hrel
    have b1:=hide (aZ.out.at b0.out)
    have cA:=b1.out.b.cell
    have b2:=hide (ax.out.trans (b0.out.mono ax.out.size))
    by_cases b3:k<0
    · exfalso
      omega
    · have b4:=hide (show p.res.all AR=true from by
        have z:=F.out.1
        have U:=O.out
        have h3:=bT.out
        rwa [List.take_of_length_le (by omega)] at U)
      have ay:=hide (show At Ab p=orE (Ah id [Aa p.initial (ns:Int),Ac ((I:Int)==0) 1,Aa p.leader (ns:Int)]) (BW p) from by
        rw [hR.out]
        obtain⟨-,-,-,-,e5,e6,-⟩:=F.out
        have hq:((I:Int)==0)=p.initial.isEmpty:=by rw [Bn,e5,D7]
        unfold Di BW
        rw [b4.out,hq,e6]
        simp only [Ah,id_eq,Be,DO,show Ac (!true) 4=0 from rfl,BI])
      obtain⟨e8,b5⟩:∃e,Hid (Ah id [Aa p.initial (ns:Int),Ac ((I:Int)==0) 1,Aa p.leader (ns:Int)]=e):=⟨_,rfl⟩
      rw [b5.out] at ay
      have b6:=hide ay
      clear b4 O ay
      go_wp2_with fail
      have b7:=hide (b1.out.at (Ap wr))
      have cB:=b7.out.b.cell
      have aB:=hide (b2.out.trans ((Ap wr).mono b2.out.size))
      refine Reg.cI [0,1,0,7,0,16,48,112,255,0,512,0,4095,8191,16383,32767] [0,1,2,4,5,6,7,9,10,11,3,8,12,13,14,15] ?_
      refine Reg.wI [0,1,2,4,5,6,7,9,10,11] [3,8,12,13,14,15] rfl fun Qf y=>?_
      go_wp2_with fail
      first | refine y _ _ ⟨rfl,?_⟩ | refine⟨rfl,?_⟩
      try clear y
      refine Reg.aI 3 [8,12,13,14,15] [5,10] rfl fun Qf y=>?_
      simp only [gT,gS,gZ]
      go_wp2_with (go_at_call 24; refine Calls.ret (bV _ aB.out) ?_; rintro v w6 ⟨rfl,a6⟩)
      first | refine y _ _ ⟨Reg.same_below (a6) [5,10] rfl,?_⟩ | refine⟨Reg.same_below (a6) [5,10] rfl,?_⟩
      try clear y
      have aC:=hide (b7.out.at a6)
      have cE:=aC.out.b.cell
      have cF:=Am aC.out.b a4.out
      have aD:=hide (aB.out.trans (a6.mono aB.out.size))
      clear a6
      refine Reg.aI 8 [12,13,14,15] [10] rfl fun Qf y=>?_
      simp only [gT,gS,gZ]
      go_wp2_with (go_at_call 27; refine(BZ _ _ _).mono ?_; rintro e w' ⟨rfl,rfl⟩)
      first | refine y _ _ ⟨Reg.same_below (Below.refl _ _) [10] rfl,?_⟩ | refine⟨Reg.same_below (Below.refl _ _) [10] rfl,?_⟩
      try clear y
      refine Reg.aI 12 [13,14,15] [] rfl fun Qf y=>?_
      simp only [gT,gS,gZ]
      go_wp2_with (go_at_call 24; refine Calls.ret (bW _ aD.out) ?_; rintro v w7 ⟨rfl,aE⟩)
      first | refine y _ _ ⟨Reg.nm,?_⟩ | refine⟨Reg.nm,?_⟩
      try clear y
      have aF:=hide (aC.out.at aE)
      have cG:=aF.out.b.cell
      have cH:=Am aF.out.b a4.out
      have b8:=hide (aD.out.trans (aE.mono aD.out.size))
      clear aE
      obtain⟨wz,cJ,aG,ba,bY⟩:=Ag w7 #[.int .i64 (Aa p.initial (ns:Int)),.int .i64 (Ac ((I:Int)==0) 1),.int .i64 (Aa p.leader (ns:Int))] 33
      have bZ:=hide (B0 (l:=[Aa p.initial (ns:Int),Ac ((I:Int)==0) 1,Aa p.leader (ns:Int)]) ba (by simp))
      clear ba bY
      have aH:=hide (aF.out.at aG)
      have cK:=aH.out.b.cell
      have cL:=Am aH.out.b a4.out
      have a7:=hide (b8.out.trans (aG.mono b8.out.size))
      clear aG
      refine Reg.wI [13] [14,15] rfl fun Qf y=>?_
      go_wp2_with fail
      first | refine y _ _ ⟨rfl,?_⟩ | refine⟨rfl,?_⟩
      try clear y
      refine Reg.aI 14 [15] [] rfl fun Qf y=>?_
      simp only [gT,gS,gZ]
      go_wp2_with (go_at_call 26; refine(B7 (l:=[Aa p.initial (ns:Int),Ac ((I:Int)==0) 1,Aa p.leader (ns:Int)]) bZ.out).mono ?_; rintro e w' ⟨rfl,rfl⟩; rw [b5.out])
      first | refine y _ _ ⟨Reg.nm,?_⟩ | refine⟨Reg.nm,?_⟩
      try clear y
      refine Reg.wI [15] [] rfl fun Qf y=>?_
      go_wp2_with fail
      first | refine y _ _ ⟨rfl,?_⟩ | refine⟨rfl,?_⟩
      try clear y
      first | refine Reg.restI_end ?_ | skip
      by_cases V:e8=0
      case neg=>
        have c0:(e8 != 0)=true:=by simp [V]
        have c8:=hide V
        clear V
        go_wp2_with fail
        go_ret
        exact⟨congrArg (Value.int .i64) (b6.out.trans (Bz c8.out)).symm,a7.out⟩
      have c0:(e8 != 0)=false:=by simp [V]
      have bb:=hide (show At Ab p=BW p from by rw [b6.out,V,BI])
      clear V
      go_wp2_with fail
      go_loopw [142] (fun M wr=>∃(k:Nat),M=.int .i64 (k:Int)∧k≤nu∧Hid (Below wz.heap.size wz wr)∧Hid (Ah (Bu Ab p) (List.range k)=0)) (fun M _=>nu - (intOf M).toNat)
      case atStart=>exact⟨0,rfl,Nat.zero_le _,Below.refl _ _,by show _=_; rfl⟩
      case round=>
        obtain⟨k,rfl,hk,W,O⟩:=hrel
        have a9:=hide (aH.out.at W.out)
        have cM:=a9.out.b.cell
        have cO:=Am a9.out.b a4.out
        have bc:=hide (a7.out.trans (W.out.mono a7.out.size))
        by_cases b3:k<nu
        · obtain⟨e9,ab⟩:∃e,Hid (Bu Ab p k=e):=⟨_,rfl⟩
          have aJ:=hide (bU k _ b3 a9)
          rw [ab.out] at aJ
          have C:(List.range p.rules.length)[k]?=some k:=by rw [List.getElem?_range (by have:=F.out.2.2.2.2.2.2; omega)]
          have bd:=hide C
          have be:(List.range p.rules.length).take k=List.range k:=by rw [List.take_range,Nat.min_eq_left (by have:=F.out.2.2.2.2.2.2; omega)]
          have bf:=hide be
          clear C be
          by_cases G:e9=0
          · have hq:(e9 != 0)=false:=by simp [G]
            have c9:=hide (show Ah (Bu Ab p) (List.range (k+1))=0 from by
              have z:=Cq (Bu Ab p) bd.out (by rw [bf.out]; exact O.out)
              rw [List.take_range,Nat.min_eq_left (by have:=F.out.2.2.2.2.2.2; omega)] at z
              rw [z,ab.out,G])
            clear G
            go_wp2_with (go_at_call 48; refine Calls.ret aJ.out ?_; rintro v w9 ⟨rfl,J⟩; have aK:=hide (W.out.trans (J.mono W.out.size)); clear J)
            exact⟨⟨k+1,by go_num,by omega,aK.out,c9.out⟩,by simp [intOf]; omega⟩
          · have hq:(e9 != 0)=true:=by simp [G]
            have ca:=hide (show At Ab p=e9 from by
              have z:=Cd (Bu Ab p) bd.out (by rw [bf.out]; exact O.out) (by rw [ab.out]; exact G)
              rw [bb.out]
              unfold BW
              rw [z,ab.out,Bz G])
            clear G
            go_wp2_with (go_at_call 48; refine Calls.ret aJ.out ?_; rintro v w9 ⟨rfl,J⟩; have aK:=hide (W.out.trans (J.mono W.out.size)); clear J)
            go_ret
            exact⟨congrArg (Value.int .i64) ca.out.symm,a7.out.trans (aK.out.mono a7.out.size)⟩
        · obtain⟨nt,aL⟩:∃n,n=(BH p.rules).length:=⟨_,rfl⟩
          have cb:=hide (show At Ab p=Ac (decide (3<nt)) 4 from by
            have z:=O.out
            rw [show k=p.rules.length by have:=F.out.2.2.2.2.2.2; omega] at z
            rw [bb.out,aL]
            unfold BW
            rw [z,BI])
          have bh:=hide (HN (cs:=pc.toList) a9.out.pr Z.out)
          rw [←aL] at bh
          have cc:=hide (show decide (3<(nt:Int))=decide (3<nt) from by
            rw [decide_eq_decide]
            omega)
          have cQ:nt≤1800:=by
            have z:=Ez p.rules (fun r hr=>(Z.out.rule r hr).1.2.1)
            have U:=Z.out.rules
            omega
          clear aL O
          go_wp2_with (first
            | (go_at_call 49; refine Calls.ret bh.out ?_; rintro v w9 ⟨bi,J⟩; obtain⟨Av,cv,hv⟩:=AV bi; subst hv; have ce:=hide (bc.out.trans (J.mono bc.out.size)); clear bi J)
            | (go_at_call 27; refine(BZ _ _ _).mono ?_; rintro e w' ⟨rfl,rfl⟩))
          go_ret
          refine⟨congrArg (Value.int .i64) ?_,ce.out⟩
          rw [cb.out,←cc.out]
end Go.Proofs.YtlakpndhhelliaaGreatDoor.K
namespace Go.Proofs.YtlakpndhhelliaaGreatDoor.K
open Go.RowKit
attribute [-go_sem] loadCellsFrom storeCells
theorem Nr {w:World} {cs:List Value} {p:Ao} (h:Ax w w.heap.size cs p) (f:p.Small) (U:AL w) (V:Ab p.name=false):
  Calls Tryz.prog 22 #[.agg cs.toArray] w (Ret fun v w'=>v=.int .i64 (At Ab p)∧Below w.heap.size w w'):=by
 obtain⟨A1,c1,A2,c2,A3,c3,A4,c4,A5,c5,A6,c6,A7,c7,W,aP,a8,a9,aa,ab,ad,ae,af,ag,ah,h1,h2,h3,Z,h5,h6,h7,am⟩:=h.cells
 have an:=f.states
 have ao:=f.messages
 have ap:=f.values
 have aq:=f.res
 have ar:=f.initial
 have au:=f.leader
 have av:=f.rules
 have aQ:=f.name
 have aR:=hide f
 have aS:=hide Z
 have aT:=hide h5
 have aU:=hide h6
 obtain⟨w1,aV,y,a4,aw⟩:=Ag w cs.toArray 27
 have a5:=hide (show CK w1 w.heap.size cs.toArray p from⟨h.keep (fun _ hp=>y.cell hp) y.size,a4,U.below y⟩)
 have a6:=hide y
 generalize ay:cs.toArray=pc at*
 clear h1 h2 h3 Z h5 h6 h7 h f y a4 aw ay U
 obtain⟨nr,z⟩:∃n,n=p.res.length:=⟨_,rfl⟩
 obtain⟨nm,C⟩:∃n,n=p.messages.length:=⟨_,rfl⟩
 obtain⟨nv,E⟩:∃n,n=p.values.length:=⟨_,rfl⟩
 obtain⟨nl,F⟩:∃n,n=p.leader.length:=⟨_,rfl⟩
 obtain⟨ni,G⟩:∃n,n=p.initial.length:=⟨_,rfl⟩
 obtain⟨ns,I⟩:∃n,n=p.states.length:=⟨_,rfl⟩
 obtain⟨nu,J⟩:∃n,n=p.rules.length:=⟨_,rfl⟩
 have aW:=hide (show nr=p.res.length∧nm=p.messages.length∧nv=p.values.length∧nl=p.leader.length∧ni=p.initial.length∧ns=p.states.length∧nu=p.rules.length from⟨z,C,E,F,G,I,J⟩)
 simp only [←z,←C,←E,←F,←G,←I,←J] at a9 aa ab ae af ag ah an ao ap aq ar au av am
 clear z C E F G I J
 obtain⟨kt,M⟩:∃n,n=p.topo:=⟨_,rfl⟩
 obtain⟨kf,O⟩:∃n,n=p.fault:=⟨_,rfl⟩
 have aX:=hide (show kt=p.topo∧kf=p.fault from⟨M,O⟩)
 simp only [←M,←O] at a8 ad
 clear M O
 have aY:=hide W
 clear W
 have aZ:=a5.out.b.cell
 have a7:=hide V
 clear V
 go_enter Tryz.func22,Tryz.ntmps22
 go_wp2_with (go_at_call 23; refine Calls.ret (CG p.name _ (by omega) a5.out.tab) ?_; rintro v w2 ⟨rfl,aA⟩; rw [a7.out])
 go_ret
 exact⟨by unfold At; rw [a7.out]; rfl,a6.out.trans (aA.mono a6.out.size)⟩
theorem Dt {w:World} {cs:List Value} {p:Ao} (h:Ax w w.heap.size cs p) (f:p.Small) (y:AL w):
  Calls Tryz.prog 22 #[.agg cs.toArray] w (Ret fun v w'=>v=.int .i64 (At Ab p)∧Below w.heap.size w w'):=by
 cases z:Ab p.name
 ·exact Nr h f y z
 ·by_cases ht:p.topo=1
  ·exact N5 h f y z ht
  ·exact Ko h f y z ht
end Go.Proofs.YtlakpndhhelliaaGreatDoor.K
