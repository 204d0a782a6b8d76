/-
  Part CI of a proof.
-/
import Derived.Test.YtjejejmeddkciaaGreatDoorPA
import Derived.Test.YtjejejmeddkciaaGreatDoorCG
import Derived.Test.YtjejejmeddkciaaGreatDoorCE
set_option maxHeartbeats 16000000
set_option maxRecDepth 100000
set_option linter.unusedVariables false
set_option linter.unusedSimpArgs false
namespace Go.Proofs.YtjejejmeddkciaaGreatDoor.K
open Go.RowKit
attribute [-go_sem] loadCellsFrom storeCells
structure C0 (w:World) (g:Nat) (pc:Array Value) (p:Am):Prop where
 pr:At w w.heap.size pc.toList p
 b:Blk w g 27 pc
 tab:SpOK w
theorem C0.at {w w':World} {g:Nat} {E:Array Value} {p:Am} (h:C0 w g E p) (C:Below w.heap.size w w'):C0 w' g E p:=
 ⟨h.pr.keep (fun _ F=>C.cell F) C.size,h.b.below C,h.tab.below C⟩
theorem At.cells {w:World} {B:Nat} {cs:List Value} {p:Am} (h:At w B cs p):∃C c1 E c2 F c3 G M I O J U A7 c7,
  cs.toArray.size=10/\cs.toArray[0]?=some (.string p.name)/\cs.toArray[1]?=some (.int .i64 p.topo)/\cs.toArray[2]?=some (.slice C p.states.length c1)/\cs.toArray[3]?=some (.slice E p.messages.length c2)/\
  cs.toArray[4]?=some (.slice F p.values.length c3)/\cs.toArray[5]?=some (.int .i64 p.fault)/\cs.toArray[6]?=some (.slice G p.res.length M)/\cs.toArray[7]?=some (.slice I p.initial.length O)/\cs.toArray[8]?=some (.slice J p.leader.length U)/\cs.toArray[9]?=some (.slice A7 p.rules.length c7)/\
  Sl w B 1 BE C p.states/\Sl w B 1 BE E p.messages/\Sl w B 1 BE F p.values/\Sl w B 4 EG G p.res/\Sl w B 1 Ai I p.initial/\Sl w B 1 Ai J p.leader/\BR w B 18 (AW w B) A7 p.rules/\p.rules.length<=c7:=by
 obtain⟨C,c1,E,c2,F,c3,G,M,I,O,J,U,A7,c7,rfl,h1,V,W,Z,h5,h6,h7,a5⟩:=h;exact⟨C,c1,E,c2,F,c3,G,M,I,O,J,U,A7,c7,rfl,rfl,rfl,rfl,rfl,rfl,rfl,rfl,rfl,rfl,rfl,h1,V,W,Z,h5,h6,h7,a5⟩
def DJ (p:Am):Int:=
 orE (Ad (!p.res.all Bg) 4)
 (orE (Aa p.initial p.states.length)
 (orE (Ad p.initial.isEmpty 1)
 (orE (Aa p.leader p.states.length)
 (orE (Aj (BB nameOK p) (List.range p.rules.length))
 (Ad (decide (3<(BO p.rules).length)) 4)))))
def Cc (p:Am):Int:=orE (Aj (BB nameOK p) (List.range p.rules.length)) (Ad (decide (3<(BO p.rules).length)) 4)
def CH (kt kf:Int) (ns nm nv nr nu nl:Nat) (e R:Int):Int:=
 orE (Ad (!(decide (1<=kt)&&decide (kt<=4))||!(decide (0<=kf)&&decide (kf<=3))) 1)
 (orE (Ad (decide (ns=0)) 1)
 (orE (Ad (decide (6<ns)||decide (3<nm)||decide (3<nv)||decide (4<nr)||decide (8<nu)) 4)
 (orE e
 (orE (Ad ((!decide (kt=1)&&(!decide (nm=0)||!decide (nv=0)||!decide (nr=0)||!decide (kf=0)))||(decide (kt=1)&&!decide (nl=0))) 1) R))))
section
variable {kt kf:Int} {ns nm nv nr nu nl:Nat} {e R:Int}
theorem pvA (h:1<=kt/\kt<=4/\0<=kf/\kf<=3):(!(decide (1<=kt)&&decide (kt<=4))||!(decide (0<=kf)&&decide (kf<=3)))=false:=by simp [h]
theorem pv2 (h:kt<1\/4<kt\/kf<0\/3<kf):CH kt kf ns nm nv nr nu nl e R=1:=by
 have h1:(!(decide (1<=kt)&&decide (kt<=4))||!(decide (0<=kf)&&decide (kf<=3)))=true:=by
  simp;omega
 unfold CH;rw [h1];rfl
theorem pv3 (C:1<=kt/\kt<=4/\0<=kf/\kf<=3) (h:((ns:Int)==0)=true):CH kt kf ns nm nv nr nu nl e R=1:=by
 unfold CH;rw [pvA C,decide_eq_true (show ns=0 by simpa using h)];rfl
theorem pvB (h:((ns:Int)==0)=false):decide (ns=0)=false:=by simpa using h
theorem pv4 (C:1<=kt/\kt<=4/\0<=kf/\kf<=3) (E:((ns:Int)==0)=false) (h:6<(ns:Int)\/3<(nm:Int)\/3<(nv:Int)\/4<(nr:Int)\/8<(nu:Int)):CH kt kf ns nm nv nr nu nl e R=4:=by
 have h1:(decide (6<ns)||decide (3<nm)||decide (3<nv)||decide (4<nr)||decide (8<nu))=true:=by
  simp;omega
 unfold CH;rw [pvA C,pvB E,h1];rfl
theorem pvC (h:(ns:Int)<=6/\(nm:Int)<=3/\(nv:Int)<=3/\(nr:Int)<=4/\(nu:Int)<=8):(decide (6<ns)||decide (3<nm)||decide (3<nv)||decide (4<nr)||decide (8<nu))=false:=by
 simp;omega
theorem pv5 (C:1<=kt/\kt<=4/\0<=kf/\kf<=3) (E:((ns:Int)==0)=false) (F:(ns:Int)<=6/\(nm:Int)<=3/\(nv:Int)<=3/\(nr:Int)<=4/\(nu:Int)<=8) (h:(e != 0)=true):CH kt kf ns nm nv nr nu nl e R=e:=by
 unfold CH;rw [pvA C,pvB E,pvC F];exact BF (by simpa using h)
theorem pvD (h:(e != 0)=false):e=0:=by simpa using h
theorem pv6 (C:1<=kt/\kt<=4/\0<=kf/\kf<=3) (E:((ns:Int)==0)=false) (F:(ns:Int)<=6/\(nm:Int)<=3/\(nv:Int)<=3/\(nr:Int)<=4/\(nu:Int)<=8) (G:(e != 0)=false) (h:(kt≠1/\(nm≠0\/nv≠0\/nr≠0\/kf≠0))\/(kt=1/\nl≠0)):CH kt kf ns nm nv nr nu nl e R=1:=by
 have h1:((!decide (kt=1)&&(!decide (nm=0)||!decide (nv=0)||!decide (nr=0)||!decide (kf=0)))||(decide (kt=1)&&!decide (nl=0)))=true:=by
  simp;omega
 unfold CH;rw [pvA C,pvB E,pvC F,pvD G,h1];rfl
theorem pv7 (C:1<=kt/\kt<=4/\0<=kf/\kf<=3) (E:((ns:Int)==0)=false) (F:(ns:Int)<=6/\(nm:Int)<=3/\(nv:Int)<=3/\(nr:Int)<=4/\(nu:Int)<=8) (G:(e != 0)=false) (h:(kt≠1/\nm=0/\nv=0/\nr=0/\kf=0)\/(kt=1/\nl=0)):CH kt kf ns nm nv nr nu nl e R=R:=by
 have h1:((!decide (kt=1)&&(!decide (nm=0)||!decide (nv=0)||!decide (nr=0)||!decide (kf=0)))||(decide (kt=1)&&!decide (nl=0)))=false:=by
  simp;omega
 unfold CH;rw [pvA C,pvB E,pvC F,pvD G,h1];rfl
end
theorem GI (p:Am) (h:nameOK p.name=true):protE nameOK p=CH p.topo p.fault p.states.length p.messages.length p.values.length p.res.length p.rules.length p.leader.length (CU nameOK (Bd p)) (DJ p):=by
 unfold protE CH DJ;rw [h,Bv,Bv,Bv,Bv,Bv];rfl
theorem EF (n:Nat):((n:Int)==0)=decide (n=0):=by by_cases h:n=0 <;> simp [h]
end Go.Proofs.YtjejejmeddkciaaGreatDoor.K
namespace Go.Proofs.YtjejejmeddkciaaGreatDoor.K
open Go.RowKit
attribute [-go_sem] loadCellsFrom storeCells
theorem RC {w:World} {cs:List Value} {p:Am} (h:At w w.heap.size cs p) (M:p.Small) (hT:SpOK w) (bn:nameOK p.name=true) (aF:p.topo=1):
    Calls Tryz.prog 86 #[.agg cs.toArray] w (Ret fun v w'=>v=.int .i64 (protE nameOK p)/\Below w.heap.size w w'):=by
  obtain⟨A1,c1,A2,c2,A3,c3,A4,c4,A5,c5,A6,c6,A7,c7,bq,d7,cj,ck,cm,cn,co,cp,cq,cr,ct,h1,h2,h3,h4,h5,h6,h7,bW⟩:=h.cells;have ca:=M.states;have cb:=M.messages;have cc:=M.values;have cd:=M.res;have ce:=M.initial;have cf:=M.leader;have cg:=M.rules;have d5:=M.name;have ab:=hide M;have bP:=hide h4;have bQ:=hide h5;have bR:=hide h6;obtain⟨w1,d9,a8,aX,bZ⟩:=Ae w cs.toArray 27;have ap:=hide (show C0 w1 w.heap.size cs.toArray p from⟨h.keep (fun _ W=>a8.cell W) a8.size,aX,hT.below a8⟩);have be:=hide a8;generalize cu:cs.toArray=pc at*;clear h1 h2 h3 h4 h5 h6 h7 h M a8 aX bZ cu hT;obtain⟨nr,aM⟩:∃n,n=p.res.length:=⟨_,rfl⟩;obtain⟨nm,aL⟩:∃n,n=p.messages.length:=⟨_,rfl⟩;obtain⟨nv,aQ⟩:∃n,n=p.values.length:=⟨_,rfl⟩;obtain⟨nl,aK⟩:∃n,n=p.leader.length:=⟨_,rfl⟩;obtain⟨V,aJ⟩:∃n,n=p.initial.length:=⟨_,rfl⟩;obtain⟨ns,aN⟩:∃n,n=p.states.length:=⟨_,rfl⟩;obtain⟨nu,aP⟩:∃n,n=p.rules.length:=⟨_,rfl⟩;have I:=hide (show nr=p.res.length/\nm=p.messages.length/\nv=p.values.length/\nl=p.leader.length/\V=p.initial.length/\ns=p.states.length/\nu=p.rules.length from⟨aM,aL,aQ,aK,aJ,aN,aP⟩);simp only [<-aM,<-aL,<-aQ,<-aK,<-aJ,<-aN,<-aP] at ck cm cn cp cq cr ct ca cb cc cd ce cf cg bW;clear aM aL aQ aK aJ aN aP;obtain⟨kt,aH⟩:∃n,n=p.topo:=⟨_,rfl⟩;obtain⟨kf,aG⟩:∃n,n=p.fault:=⟨_,rfl⟩;have b0:=hide (show kt=p.topo/\kf=p.fault from⟨aH,aG⟩);simp only [<-aH,<-aG] at cj co;clear aH aG;have a9:=hide bq;clear bq;have cM:=ap.out.b.cell;have bo:=hide bn;clear bn;have hP:=hide (show protE nameOK p=CH kt kf ns nm nv nr nu nl (CU nameOK (Bd p)) (DJ p) from by
    obtain⟨e1,e2,e3,e4,e5,e6,e7⟩:=I.out;obtain⟨f1,f2⟩:=b0.out;rw [e1,e2,e3,e4,e6,e7,f1,f2];exact GI p bo.out)
  have ch:∀C,Hid (C0 C w.heap.size pc p)->Calls Tryz.prog 140 #[.agg pc] C (Ret fun v w'=>v=.int .i64 (CU nameOK (Bd p))/\Below C.heap.size C w'):=fun C G=>J6 G.out.pr ab.out G.out.tab;generalize CU nameOK (Bd p)=e0 at*;have am:Hid (kt=1):=by rw [<-b0.out.1] at aF;exact aF
  have cW:(kt==1)=true:=by simp [am.out]
  clear aF;go_enter Tryz.func86,Tryz.ntmps86
  go_wp2_with (first
    | (go_at_call 87;refine Calls.ret (Da p.name _ (by omega) ap.out.tab) ?_;rintro v w2 ⟨rfl,az⟩;rw [bo.out];have ae:=hide (ap.out.at az);have cO:=ae.out.b.cell;have cY:=Ah ae.out.b a9.out;have av:=hide (be.out.trans (az.mono be.out.size));clear az)
    | (go_at_call 140;refine Calls.ret (ch _ ae) ?_;rintro v w3 ⟨rfl,aA⟩;have b8:=hide (ae.out.at aA);have cQ:=b8.out.b.cell;have a6:=hide (av.out.trans (aA.mono av.out.size));clear aA))
  all_goals first
    | (go_ret
       refine⟨congrArg (Value.int .i64) (hP.out.trans ?_).symm,?_⟩
       · first
           | exact pv2 (by omega)
           | exact pv3 (by omega) (by assumption)
           | exact pv4 (by omega) (by assumption) (by omega)
           | exact pv5 (by omega) (by assumption) (by omega) (by assumption)
           | exact pv6 (by omega) (by assumption) (by omega) (by assumption) (by have:=am.out;omega)
       · first
           | exact a6.out
           | exact av.out)
    | (have hR:=hide (hP.out.trans (pv7 (by omega) (by assumption) (by omega) (by assumption) (by have:=am.out;omega))))
  rename_i z0 z1 z2 z3 z4 z5 z6 z7 z8 z9 z10 z11 zK zQ;clear z0 z1 z2 z3 z4 z5 z6 z7 z8 z9 z10 z11;clear hP;have cx:∀(k:Nat) (C:World),k<nu->Hid (C0 C w.heap.size pc p)->Calls Tryz.prog 142 #[.agg pc,.int .i64 (k:Int)] C (Ret fun v w'=>v=.int .i64 (BB nameOK p k)/\Below C.heap.size C w'):=by
    intro k C hk G;obtain⟨r,hr⟩:∃r,p.rules[k]?=some r:=⟨_,List.getElem?_eq_getElem (by have:=I.out.2.2.2.2.2.2;omega)⟩;have h0:=ab.out.rule r (List.mem_of_getElem? hr);have h1:=KT (cs:=pc.toList) G.out.pr hr h0.1 (by have:=h0.2;omega) G.out.tab;rw [KU _ _ _ _ _ (by omega)] at h1;have h2:BB nameOK p k=BC nameOK p.topo p.states.length p.messages.length p.values.length ((p.rules.take k).any fun x=>decide (x.name=r.name)) r:=by
      unfold BB;rw [hr]
    rw [h2];exact h1
  have bY:∀C,Below w.heap.size w C->Calls Tryz.prog 88 #[.slice A5 V c5,.int .i64 (ns:Int)] C (Ret fun r w'=>r=.int .i64 (Aa p.initial (ns:Int))/\Below C.heap.size C w'):=fun C G=>by
    rw [I.out.2.2.2.2.1];exact DE (bQ.out.keep (fun _ W=>G.cell W) G.size)
  have c9:∀C,Below w.heap.size w C->Calls Tryz.prog 88 #[.slice A6 nl c6,.int .i64 (ns:Int)] C (Ret fun r w'=>r=.int .i64 (Aa p.leader (ns:Int))/\Below C.heap.size C w'):=fun C G=>by
    rw [I.out.2.2.2.1];exact DE (bR.out.keep (fun _ W=>G.cell W) G.size)
  go_loopw [113] (fun Z wr=>∃(k:Nat),Z=.int .i64 (k:Int)/\k<=nr/\Hid (Below w3.heap.size w3 wr)/\Hid ((p.res.take k).all Bg=true)) (fun Z _=>nr - (intOf Z).toNat)
  case atStart=>exact⟨0,rfl,Nat.zero_le _,Below.refl _ _,by show _=_;simp⟩
  case round=>
    obtain⟨k,rfl,hk,ah,O⟩:=hrel;have b9:=hide (b8.out.at ah.out);have cR:=b9.out.b.cell;have aw:=hide (a6.out.trans (ah.out.mono a6.out.size));by_cases bm:k<nr
    · obtain⟨b,off,l,hA,cL,hl,bg⟩:=(bP.out.keep (w':=wr) (B':=w.heap.size) (fun _ W=>aw.out.cell W) (Nat.le_refl _)).at (k:=k) (by have:=I.out.1;omega)
      have d3:(loadCellsFrom ⟨b,off+k*4,none⟩ 0 4 #[]).run Tryz.prog wr=.ok #[.int .i64 l.c,.int .i64 l.n,.int .i64 l.t,.int .i64 l.f] wr:=by
        have:=run_loadCells_list (P:=Tryz.prog) wr ⟨b,off+k*4,none⟩ [.int .i64 l.c,.int .i64 l.n,.int .i64 l.t,.int .i64 l.f] (fun j v F=>by
          rw [Addr.add_mid];have hj:=AP F;rw [bg j hj]
          match j,hj,F with
          | 0,_,F=>exact congrArg some (Option.some.inj F)
          | 1,_,F=>exact congrArg some (Option.some.inj F)
          | 2,_,F=>exact congrArg some (Option.some.inj F)
          | 3,_,F=>exact congrArg some (Option.some.inj F))
        simpa [loadCells] using this
      obtain⟨w5,cz,bd,aY,c0⟩:=Ae wr #[.int .i64 l.c,.int .i64 l.n,.int .i64 l.t,.int .i64 l.f] 206;have d8:∀c:Array Value,c.size=4->(storeCells ⟨wr.heap.size,0,none⟩ [.int .i64 l.c,.int .i64 l.n,.int .i64 l.t,.int .i64 l.f] 0).run Tryz.prog (wr.alloc (.cells c 206))=.ok () w5:=fun c hc=>by rw [<-cz];exact Dv wr 206 4 (by kernel_rfl) (rc:=#[.int .i64 l.c,.int .i64 l.n,.int .i64 l.t,.int .i64 l.f]) rfl (by simp [Value.oneCell']) c hc
      have cZ:(loadCellsFrom ⟨wr.heap.size,0,none⟩ 0 4 #[]).run Tryz.prog w5=.ok #[.int .i64 l.c,.int .i64 l.n,.int .i64 l.t,.int .i64 l.f] w5:=Ah (n:=4) aY rfl;have bf:∀C,Calls Tryz.prog 141 #[.agg #[.int .i64 l.c,.int .i64 l.n,.int .i64 l.t,.int .i64 l.f]] C (Ret fun r w'=>r=.bool (Bg l)/\Below C.heap.size C w'):=fun C=>FJ l C;have ag:=hide (ah.out.trans (bd.mono ah.out.size));have bl:=hide hl;subst hA;clear bg c0 aY bd hl;cases F:Bg l
      · have a5:=hide (show p.res.all Bg=false from by
          rw [List.all_eq_false];exact⟨l,List.mem_of_getElem? bl.out,by rw [F];decide⟩)
        go_wp2_with (go_at_call 141;refine Calls.ret (bf _) ?_;rintro v w6 ⟨rfl,J⟩;rw [F]);go_ret;refine⟨congrArg (Value.int .i64) (hR.out.trans ?_).symm,a6.out.trans ((ag.out.trans (J.mono ag.out.size)).mono a6.out.size)⟩;unfold DJ;rw [a5.out];rfl
      · have a5:=hide (Cq (p:=Bg) bl.out O.out F)
        go_wp2_with (go_at_call 141;refine Calls.ret (bf _) ?_;rintro v w6 ⟨rfl,J⟩;rw [F];have bU:=hide (ag.out.trans (J.mono ag.out.size));clear J);exact⟨⟨k+1,by go_num,by omega,bU.out,a5.out⟩,by simp [intOf];omega⟩
    · have a5:=hide (show p.res.all Bg=true from by
        have h1:=I.out.1;have h2:=O.out
        rwa [List.take_of_length_le (by omega)] at h2)
      have ao:=hide (show protE nameOK p=orE (Aj id [Aa p.initial (ns:Int),Ad ((V:Int)==0) 1,Aa p.leader (ns:Int)]) (Cc p) from by
        rw [hR.out];obtain⟨-,-,-,-,e5,e6,-⟩:=I.out;have hq:((V:Int)==0)=p.initial.isEmpty:=by rw [Bv,e5,EF]
        unfold DJ Cc;rw [a5.out,hq,e6];simp only [Aj,id_eq,Bk,Ef,show Ad (!true) 4=0 from rfl,AY])
      obtain⟨e8,bh⟩:∃e,Hid (Aj id [Aa p.initial (ns:Int),Ad ((V:Int)==0) 1,Aa p.leader (ns:Int)]=e):=⟨_,rfl⟩;rw [bh.out] at ao;have b5:=hide ao;clear a5 O ao;go_wp2_with fail;have ba:=hide (b9.out.at (Ap wr));have cS:=ba.out.b.cell;have ax:=hide (aw.out.trans ((Ap wr).mono aw.out.size));refine Reg.cI [0,1,0,7,0,16,48,112,255,0,512,0,4095,8191,16383,32767] [0,1,2,4,5,6,7,9,10,11,3,8,12,13,14,15] ?_;refine Reg.wI [0,1,2,4,5,6,7,9,10,11] [3,8,12,13,14,15] rfl fun Qf E=>?_;go_wp2_with fail;first|refine E _ _ ⟨rfl,?_⟩|refine⟨rfl,?_⟩|refine E _ _ ⟨by simp [Reg.fineT,Reg.intOp,Region.wanted,yielded,Reg.intFine,Reg.isInt,Act.eval],?_⟩
      (try clear E);refine Reg.aI 3 [8,12,13,14,15] [5,10] rfl fun Qf E=>?_;simp only [gT,gS,gZ];go_wp2_with (go_at_call 88;refine Calls.ret (bY _ ax.out) ?_;rintro v w6 ⟨rfl,J⟩);first|refine E _ _ ⟨Reg.same_below (J) [5,10] rfl,?_⟩|refine⟨Reg.same_below (J) [5,10] rfl,?_⟩
      (try clear E);have aq:=hide (ba.out.at J);have cT:=aq.out.b.cell;have d0:=Ah aq.out.b a9.out;have ay:=hide (ax.out.trans (J.mono ax.out.size));clear J;refine Reg.aI 8 [12,13,14,15] [10] rfl fun Qf E=>?_;simp only [gT,gS,gZ];go_wp2_with (go_at_call 90;refine(Ce _ _ _).mono ?_;rintro e w' ⟨rfl,rfl⟩);first|refine E _ _ ⟨Reg.same_below (Below.refl _ _) [10] rfl,?_⟩|refine⟨Reg.same_below (Below.refl _ _) [10] rfl,?_⟩
      (try clear E);refine Reg.aI 12 [13,14,15] [] rfl fun Qf E=>?_;simp only [gT,gS,gZ];go_wp2_with (go_at_call 88;refine Calls.ret (c9 _ ay.out) ?_;rintro v w7 ⟨rfl,aB⟩);first|refine E _ _ ⟨Reg.nm,?_⟩|refine⟨Reg.nm,?_⟩
      (try clear E);have ar:=hide (aq.out.at aB);have cU:=ar.out.b.cell;have d1:=Ah ar.out.b a9.out;have bb:=hide (ay.out.trans (aB.mono ay.out.size));clear aB;obtain⟨wz,da,aD,aZ,c8⟩:=Ae w7 #[.int .i64 (Aa p.initial (ns:Int)),.int .i64 (Ad ((V:Int)==0) 1),.int .i64 (Aa p.leader (ns:Int))] 40;have bS:=hide (Ch (l:=[Aa p.initial (ns:Int),Ad ((V:Int)==0) 1,Aa p.leader (ns:Int)]) aZ (by simp));clear aZ c8;have au:=hide (ar.out.at aD);have cX:=au.out.b.cell;have d4:=Ah au.out.b a9.out;have a7:=hide (bb.out.trans (aD.mono bb.out.size));clear aD;refine Reg.wI [13] [14,15] rfl fun Qf E=>?_;go_wp2_with fail;first|refine E _ _ ⟨rfl,?_⟩|refine⟨rfl,?_⟩|refine E _ _ ⟨by simp [Reg.fineT,Reg.intOp,Region.wanted,yielded,Reg.intFine,Reg.isInt,Act.eval],?_⟩
      (try clear E);refine Reg.aI 14 [15] [] rfl fun Qf E=>?_;simp only [gT,gS,gZ];go_wp2_with (go_at_call 89;refine(Ci (l:=[Aa p.initial (ns:Int),Ad ((V:Int)==0) 1,Aa p.leader (ns:Int)]) bS.out).mono ?_;rintro e w' ⟨rfl,rfl⟩;rw [bh.out]);first|refine E _ _ ⟨Reg.nm,?_⟩|refine⟨Reg.nm,?_⟩
      (try clear E);refine Reg.wI [15] [] rfl fun Qf E=>?_;go_wp2_with fail;first|refine E _ _ ⟨rfl,?_⟩|refine⟨rfl,?_⟩|refine E _ _ ⟨by simp [Reg.fineT,Reg.intOp,Region.wanted,yielded,Reg.intFine,Reg.isInt,Act.eval],?_⟩
      (try clear E);first|refine Reg.restI_end ?_|skip
      by_cases a2:e8=0
      case neg=>
        have cw:(e8 != 0)=true:=by simp [a2]
        have bK:=hide a2;clear a2;go_wp2_with fail;go_ret;exact⟨congrArg (Value.int .i64) (b5.out.trans (BF bK.out)).symm,a7.out⟩
      have cw:(e8 != 0)=false:=by simp [a2]
      have b6:=hide (show protE nameOK p=Cc p from by rw [b5.out,a2,AY]);clear a2;go_wp2_with fail;go_loopw [142] (fun Z wr=>∃(k:Nat),Z=.int .i64 (k:Int)/\k<=nu/\Hid (Below wz.heap.size wz wr)/\Hid (Aj (BB nameOK p) (List.range k)=0)) (fun Z _=>nu - (intOf Z).toNat)
      case atStart=>exact⟨0,rfl,Nat.zero_le _,Below.refl _ _,by show _=_;rfl⟩
      case round=>
        obtain⟨k,rfl,hk,a4,O⟩:=hrel;have af:=hide (au.out.at a4.out);have cV:=af.out.b.cell;have d2:=Ah af.out.b a9.out;have bc:=hide (a7.out.trans (a4.out.mono a7.out.size));by_cases bm:k<nu
        · obtain⟨e9,ai⟩:∃e,Hid (BB nameOK p k=e):=⟨_,rfl⟩
          have aE:=hide (cx k _ bm af);rw [ai.out] at aE;have G:(List.range p.rules.length)[k]?=some k:=by rw [List.getElem?_range (by have:=I.out.2.2.2.2.2.2;omega)]
          have bu:=hide G;have bs:(List.range p.rules.length).take k=List.range k:=by rw [List.take_range,Nat.min_eq_left (by have:=I.out.2.2.2.2.2.2;omega)]
          have bt:=hide bs;clear G bs;by_cases h0:e9=0
          · have hq:(e9 != 0)=false:=by simp [h0]
            have ci:=hide (show Aj (BB nameOK p) (List.range (k+1))=0 from by
              have h1:=CD (BB nameOK p) bu.out (by rw [bt.out];exact O.out);rw [List.take_range,Nat.min_eq_left (by have:=I.out.2.2.2.2.2.2;omega)] at h1;rw [h1,ai.out,h0])
            clear h0;go_wp2_with (go_at_call 142;refine Calls.ret aE.out ?_;rintro v w9 ⟨rfl,U⟩;have aC:=hide (a4.out.trans (U.mono a4.out.size));clear U);exact⟨⟨k+1,by go_num,by omega,aC.out,ci.out⟩,by simp [intOf];omega⟩
          · have hq:(e9 != 0)=true:=by simp [h0]
            have cy:=hide (show protE nameOK p=e9 from by
              have h1:=Ct (BB nameOK p) bu.out (by rw [bt.out];exact O.out) (by rw [ai.out];exact h0);rw [b6.out];unfold Cc;rw [h1,ai.out,BF h0])
            clear h0;go_wp2_with (go_at_call 142;refine Calls.ret aE.out ?_;rintro v w9 ⟨rfl,U⟩;have aC:=hide (a4.out.trans (U.mono a4.out.size));clear U);go_ret;exact⟨congrArg (Value.int .i64) cy.out.symm,a7.out.trans (aC.out.mono a7.out.size)⟩
        · obtain⟨nt,aO⟩:∃n,n=(BO p.rules).length:=⟨_,rfl⟩
          have bO:=hide (show protE nameOK p=Ad (decide (3<nt)) 4 from by
            have h1:=O.out;rw [show k=p.rules.length by have:=I.out.2.2.2.2.2.2;omega] at h1;rw [b6.out,aO];unfold Cc;rw [h1,AY])
          have br:=hide (Lz (cs:=pc.toList) af.out.pr ab.out);rw [<-aO] at br;have bX:=hide (show decide (3<(nt:Int))=decide (3<nt) from by
            rw [decide_eq_decide];omega)
          have d6:nt<=1800:=by
            have h1:=FB p.rules (fun r hr=>(ab.out.rule r hr).1.2.1);have h2:=ab.out.rules;omega
          clear aO O
          go_wp2_with (first
            | (go_at_call 143;refine Calls.ret br.out ?_;rintro v w9 ⟨bp,U⟩;obtain⟨Av,cv,F⟩:=AH bp;subst F;have bT:=hide (bc.out.trans (U.mono bc.out.size));clear bp U)
            | (go_at_call 90;refine(Ce _ _ _).mono ?_;rintro e w' ⟨rfl,rfl⟩))
          go_ret;refine⟨congrArg (Value.int .i64) ?_,bT.out⟩;rw [bO.out,<-bX.out]
end Go.Proofs.YtjejejmeddkciaaGreatDoor.K
namespace Go.Proofs.YtjejejmeddkciaaGreatDoor.K
open Go.RowKit
attribute [-go_sem] loadCellsFrom storeCells
theorem RD {w:World} {cs:List Value} {p:Am} (h:At w w.heap.size cs p) (I:p.Small) (hT:SpOK w) (bc:nameOK p.name=true) (aA:p.topo≠1):
    Calls Tryz.prog 86 #[.agg cs.toArray] w (Ret fun v w'=>v=.int .i64 (protE nameOK p)/\Below w.heap.size w w'):=by
  obtain⟨A1,c1,A2,c2,A3,c3,A4,c4,A5,c5,A6,c6,A7,c7,bf,cQ,bX,bY,bZ,c0,c8,c9,ca,cb,cc,h1,W,h3,h4,h5,h6,h7,bH⟩:=h.cells;have bN:=I.states;have bO:=I.messages;have bP:=I.values;have bQ:=I.res;have bR:=I.initial;have bS:=I.leader;have bT:=I.rules;have cM:=I.name;have a8:=hide I;have ct:=hide h4;have bD:=hide h5;have bE:=hide h6;obtain⟨w1,cR,a3,aS,bK⟩:=Ae w cs.toArray 27;have ak:=hide (show C0 w1 w.heap.size cs.toArray p from⟨h.keep (fun _ hp=>a3.cell hp) a3.size,aS,hT.below a3⟩);have b7:=hide a3;generalize cd:cs.toArray=pc at*;clear h1 W h3 h4 h5 h6 h7 h I a3 aS bK cd hT;obtain⟨nr,aG⟩:∃n,n=p.res.length:=⟨_,rfl⟩;obtain⟨nm,aF⟩:∃n,n=p.messages.length:=⟨_,rfl⟩;obtain⟨nv,aL⟩:∃n,n=p.values.length:=⟨_,rfl⟩;obtain⟨nl,aE⟩:∃n,n=p.leader.length:=⟨_,rfl⟩;obtain⟨M,aD⟩:∃n,n=p.initial.length:=⟨_,rfl⟩;obtain⟨ns,aH⟩:∃n,n=p.states.length:=⟨_,rfl⟩;obtain⟨nu,aK⟩:∃n,n=p.rules.length:=⟨_,rfl⟩;have G:=hide (show nr=p.res.length/\nm=p.messages.length/\nv=p.values.length/\nl=p.leader.length/\M=p.initial.length/\ns=p.states.length/\nu=p.rules.length from⟨aG,aF,aL,aE,aD,aH,aK⟩);simp only [<-aG,<-aF,<-aL,<-aE,<-aD,<-aH,<-aK] at bY bZ c0 c9 ca cb cc bN bO bP bQ bR bS bT bH;clear aG aF aL aE aD aH aK;obtain⟨kt,aC⟩:∃n,n=p.topo:=⟨_,rfl⟩;obtain⟨kf,aB⟩:∃n,n=p.fault:=⟨_,rfl⟩;have aU:=hide (show kt=p.topo/\kf=p.fault from⟨aC,aB⟩);simp only [<-aC,<-aB] at bX c8;clear aC aB;have a6:=hide bf;clear bf;have cu:=ak.out.b.cell;have bd:=hide bc;clear bc;have hP:=hide (show protE nameOK p=CH kt kf ns nm nv nr nu nl (CU nameOK (Bd p)) (DJ p) from by
    obtain⟨e1,e2,e3,e4,e5,e6,e7⟩:=G.out;obtain⟨f1,f2⟩:=aU.out;rw [e1,e2,e3,e4,e6,e7,f1,f2];exact GI p bd.out)
  have bU:∀E,Hid (C0 E w.heap.size pc p)->Calls Tryz.prog 140 #[.agg pc] E (Ret fun v w'=>v=.int .i64 (CU nameOK (Bd p))/\Below E.heap.size E w'):=fun E F=>J6 F.out.pr a8.out F.out.tab;generalize CU nameOK (Bd p)=e0 at*;have ah:Hid (kt≠1):=by rw [<-aU.out.1] at aA;exact aA
  have cE:(kt==1)=false:=by simp [ah.out]
  clear aA;go_enter Tryz.func86,Tryz.ntmps86
  go_wp2_with (first
    | (go_at_call 87;refine Calls.ret (Da p.name _ (by omega) ak.out.tab) ?_;rintro v w2 ⟨rfl,au⟩;rw [bd.out];have aa:=hide (ak.out.at au);have cw:=aa.out.b.cell;have cG:=Ah aa.out.b a6.out;have ao:=hide (b7.out.trans (au.mono b7.out.size));clear au)
    | (go_at_call 140;refine Calls.ret (bU _ aa) ?_;rintro v w3 ⟨rfl,av⟩;have aY:=hide (aa.out.at av);have cx:=aY.out.b.cell;have ap:=hide (ao.out.trans (av.mono ao.out.size));clear av))
  all_goals first
    | (go_ret
       refine⟨congrArg (Value.int .i64) (hP.out.trans ?_).symm,?_⟩
       · first
           | exact pv2 (by omega)
           | exact pv3 (by omega) (by assumption)
           | exact pv4 (by omega) (by assumption) (by omega)
           | exact pv5 (by omega) (by assumption) (by omega) (by assumption)
           | exact pv6 (by omega) (by assumption) (by omega) (by assumption) (by have:=ah.out;omega)
       · first
           | exact ap.out
           | exact ao.out)
    | (have hR:=hide (hP.out.trans (pv7 (by omega) (by assumption) (by omega) (by assumption) (by have:=ah.out;omega))))
  have bV:=hide (show nr=0 by omega);rename_i z0 z1 z2 z3 z4 z5 z6 z7 z8 z9 z10 z11 z12 z13 z14 zK zQ;clear z0 z1 z2 z3 z4 z5 z6 z7 z8 z9 z10 z11 z12 z13 z14;clear hP;have cf:∀(k:Nat) (E:World),k<nu->Hid (C0 E w.heap.size pc p)->Calls Tryz.prog 142 #[.agg pc,.int .i64 (k:Int)] E (Ret fun v w'=>v=.int .i64 (BB nameOK p k)/\Below E.heap.size E w'):=by
    intro k E hk F;obtain⟨r,hr⟩:∃r,p.rules[k]?=some r:=⟨_,List.getElem?_eq_getElem (by have:=G.out.2.2.2.2.2.2;omega)⟩;have h0:=a8.out.rule r (List.mem_of_getElem? hr);have h1:=KT (cs:=pc.toList) F.out.pr hr h0.1 (by have:=h0.2;omega) F.out.tab;rw [KU _ _ _ _ _ (by omega)] at h1;have W:BB nameOK p k=BC nameOK p.topo p.states.length p.messages.length p.values.length ((p.rules.take k).any fun x=>decide (x.name=r.name)) r:=by
      unfold BB;rw [hr]
    rw [W];exact h1
  have bJ:∀E,Below w.heap.size w E->Calls Tryz.prog 88 #[.slice A5 M c5,.int .i64 (ns:Int)] E (Ret fun r w'=>r=.int .i64 (Aa p.initial (ns:Int))/\Below E.heap.size E w'):=fun E F=>by
    rw [G.out.2.2.2.2.1];exact DE (bD.out.keep (fun _ hp=>F.cell hp) F.size)
  have bM:∀E,Below w.heap.size w E->Calls Tryz.prog 88 #[.slice A6 nl c6,.int .i64 (ns:Int)] E (Ret fun r w'=>r=.int .i64 (Aa p.leader (ns:Int))/\Below E.heap.size E w'):=fun E F=>by
    rw [G.out.2.2.2.1];exact DE (bE.out.keep (fun _ hp=>F.cell hp) F.size)
  go_loopw [113] (fun U wr=>∃(k:Nat),U=.int .i64 (k:Int)/\k<=0/\Hid (Below w3.heap.size w3 wr)/\Hid ((p.res.take k).all Bg=true)) (fun U _=>0 - (intOf U).toNat)
  case atStart=>exact⟨0,rfl,Nat.zero_le _,Below.refl _ _,by show _=_;simp⟩
  case round=>
    obtain⟨k,rfl,hk,b8,O⟩:=hrel;have aZ:=hide (aY.out.at b8.out);have cy:=aZ.out.b.cell;have b4:=hide (ap.out.trans (b8.out.mono ap.out.size));by_cases bb:k<0
    · exfalso
      omega
    · have bg:=hide (show p.res.all Bg=true from by
        have h1:=G.out.1;have W:=O.out;have h3:=bV.out
        rwa [List.take_of_length_le (by omega)] at W)
      have aj:=hide (show protE nameOK p=orE (Aj id [Aa p.initial (ns:Int),Ad ((M:Int)==0) 1,Aa p.leader (ns:Int)]) (Cc p) from by
        rw [hR.out];obtain⟨-,-,-,-,e5,e6,-⟩:=G.out;have hq:((M:Int)==0)=p.initial.isEmpty:=by rw [Bv,e5,EF]
        unfold DJ Cc;rw [bg.out,hq,e6];simp only [Aj,id_eq,Bk,Ef,show Ad (!true) 4=0 from rfl,AY])
      obtain⟨e8,b9⟩:∃e,Hid (Aj id [Aa p.initial (ns:Int),Ad ((M:Int)==0) 1,Aa p.leader (ns:Int)]=e):=⟨_,rfl⟩;rw [b9.out] at aj;have aV:=hide aj;clear bg O aj;go_wp2_with fail;have b0:=hide (aZ.out.at (Ap wr));have cz:=b0.out.b.cell;have aq:=hide (b4.out.trans ((Ap wr).mono b4.out.size));refine Reg.cI [0,1,0,7,0,16,48,112,255,0,512,0,4095,8191,16383,32767] [0,1,2,4,5,6,7,9,10,11,3,8,12,13,14,15] ?_;refine Reg.wI [0,1,2,4,5,6,7,9,10,11] [3,8,12,13,14,15] rfl fun Qf C=>?_;go_wp2_with fail;first|refine C _ _ ⟨rfl,?_⟩|refine⟨rfl,?_⟩|refine C _ _ ⟨by simp [Reg.fineT,Reg.intOp,Region.wanted,yielded,Reg.intFine,Reg.isInt,Act.eval],?_⟩
      (try clear C);refine Reg.aI 3 [8,12,13,14,15] [5,10] rfl fun Qf C=>?_;simp only [gT,gS,gZ];go_wp2_with (go_at_call 88;refine Calls.ret (bJ _ aq.out) ?_;rintro v w6 ⟨rfl,a4⟩);first|refine C _ _ ⟨Reg.same_below (a4) [5,10] rfl,?_⟩|refine⟨Reg.same_below (a4) [5,10] rfl,?_⟩
      (try clear C);have al:=hide (b0.out.at a4);have cA:=al.out.b.cell;have cH:=Ah al.out.b a6.out;have ar:=hide (aq.out.trans (a4.mono aq.out.size));clear a4;refine Reg.aI 8 [12,13,14,15] [10] rfl fun Qf C=>?_;simp only [gT,gS,gZ];go_wp2_with (go_at_call 90;refine(Ce _ _ _).mono ?_;rintro e w' ⟨rfl,rfl⟩);first|refine C _ _ ⟨Reg.same_below (Below.refl _ _) [10] rfl,?_⟩|refine⟨Reg.same_below (Below.refl _ _) [10] rfl,?_⟩
      (try clear C);refine Reg.aI 12 [13,14,15] [] rfl fun Qf C=>?_;simp only [gT,gS,gZ];go_wp2_with (go_at_call 88;refine Calls.ret (bM _ ar.out) ?_;rintro v w7 ⟨rfl,aw⟩);first|refine C _ _ ⟨Reg.nm,?_⟩|refine⟨Reg.nm,?_⟩
      (try clear C);have am:=hide (al.out.at aw);have cB:=am.out.b.cell;have cJ:=Ah am.out.b a6.out;have b5:=hide (ar.out.trans (aw.mono ar.out.size));clear aw;obtain⟨wz,cS,ay,aT,bL⟩:=Ae w7 #[.int .i64 (Aa p.initial (ns:Int)),.int .i64 (Ad ((M:Int)==0) 1),.int .i64 (Aa p.leader (ns:Int))] 40;have bF:=hide (Ch (l:=[Aa p.initial (ns:Int),Ad ((M:Int)==0) 1,Aa p.leader (ns:Int)]) aT (by simp));clear aT bL;have an:=hide (am.out.at ay);have cF:=an.out.b.cell;have cL:=Ah an.out.b a6.out;have a2:=hide (b5.out.trans (ay.mono b5.out.size));clear ay;refine Reg.wI [13] [14,15] rfl fun Qf C=>?_;go_wp2_with fail;first|refine C _ _ ⟨rfl,?_⟩|refine⟨rfl,?_⟩|refine C _ _ ⟨by simp [Reg.fineT,Reg.intOp,Region.wanted,yielded,Reg.intFine,Reg.isInt,Act.eval],?_⟩
      (try clear C);refine Reg.aI 14 [15] [] rfl fun Qf C=>?_;simp only [gT,gS,gZ];go_wp2_with (go_at_call 89;refine(Ci (l:=[Aa p.initial (ns:Int),Ad ((M:Int)==0) 1,Aa p.leader (ns:Int)]) bF.out).mono ?_;rintro e w' ⟨rfl,rfl⟩;rw [b9.out]);first|refine C _ _ ⟨Reg.nm,?_⟩|refine⟨Reg.nm,?_⟩
      (try clear C);refine Reg.wI [15] [] rfl fun Qf C=>?_;go_wp2_with fail;first|refine C _ _ ⟨rfl,?_⟩|refine⟨rfl,?_⟩|refine C _ _ ⟨by simp [Reg.fineT,Reg.intOp,Region.wanted,yielded,Reg.intFine,Reg.isInt,Act.eval],?_⟩
      (try clear C);first|refine Reg.restI_end ?_|skip
      by_cases V:e8=0
      case neg=>
        have ce:(e8 != 0)=true:=by simp [V]
        have bz:=hide V;clear V;go_wp2_with fail;go_ret;exact⟨congrArg (Value.int .i64) (aV.out.trans (BF bz.out)).symm,a2.out⟩
      have ce:(e8 != 0)=false:=by simp [V]
      have aW:=hide (show protE nameOK p=Cc p from by rw [aV.out,V,AY]);clear V;go_wp2_with fail;go_loopw [142] (fun U wr=>∃(k:Nat),U=.int .i64 (k:Int)/\k<=nu/\Hid (Below wz.heap.size wz wr)/\Hid (Aj (BB nameOK p) (List.range k)=0)) (fun U _=>nu - (intOf U).toNat)
      case atStart=>exact⟨0,rfl,Nat.zero_le _,Below.refl _ _,by show _=_;rfl⟩
      case round=>
        obtain⟨k,rfl,hk,Z,O⟩:=hrel;have ab:=hide (an.out.at Z.out);have cD:=ab.out.b.cell;have cK:=Ah ab.out.b a6.out;have b6:=hide (a2.out.trans (Z.out.mono a2.out.size));by_cases bb:k<nu
        · obtain⟨e9,ad⟩:∃e,Hid (BB nameOK p k=e):=⟨_,rfl⟩
          have az:=hide (cf k _ bb ab);rw [ad.out] at az;have F:(List.range p.rules.length)[k]?=some k:=by rw [List.getElem?_range (by have:=G.out.2.2.2.2.2.2;omega)]
          have bk:=hide F;have bi:(List.range p.rules.length).take k=List.range k:=by rw [List.take_range,Nat.min_eq_left (by have:=G.out.2.2.2.2.2.2;omega)]
          have bj:=hide bi;clear F bi;by_cases h0:e9=0
          · have hq:(e9 != 0)=false:=by simp [h0]
            have bW:=hide (show Aj (BB nameOK p) (List.range (k+1))=0 from by
              have h1:=CD (BB nameOK p) bk.out (by rw [bj.out];exact O.out);rw [List.take_range,Nat.min_eq_left (by have:=G.out.2.2.2.2.2.2;omega)] at h1;rw [h1,ad.out,h0])
            clear h0;go_wp2_with (go_at_call 142;refine Calls.ret az.out ?_;rintro v w9 ⟨rfl,J⟩;have ax:=hide (Z.out.trans (J.mono Z.out.size));clear J);exact⟨⟨k+1,by go_num,by omega,ax.out,bW.out⟩,by simp [intOf];omega⟩
          · have hq:(e9 != 0)=true:=by simp [h0]
            have cg:=hide (show protE nameOK p=e9 from by
              have h1:=Ct (BB nameOK p) bk.out (by rw [bj.out];exact O.out) (by rw [ad.out];exact h0);rw [aW.out];unfold Cc;rw [h1,ad.out,BF h0])
            clear h0;go_wp2_with (go_at_call 142;refine Calls.ret az.out ?_;rintro v w9 ⟨rfl,J⟩;have ax:=hide (Z.out.trans (J.mono Z.out.size));clear J);go_ret;exact⟨congrArg (Value.int .i64) cg.out.symm,a2.out.trans (ax.out.mono a2.out.size)⟩
        · obtain⟨nt,aJ⟩:∃n,n=(BO p.rules).length:=⟨_,rfl⟩
          have bC:=hide (show protE nameOK p=Ad (decide (3<nt)) 4 from by
            have h1:=O.out;rw [show k=p.rules.length by have:=G.out.2.2.2.2.2.2;omega] at h1;rw [aW.out,aJ];unfold Cc;rw [h1,AY])
          have bh:=hide (Lz (cs:=pc.toList) ab.out.pr a8.out);rw [<-aJ] at bh;have bI:=hide (show decide (3<(nt:Int))=decide (3<nt) from by
            rw [decide_eq_decide];omega)
          have cO:nt<=1800:=by
            have h1:=FB p.rules (fun r hr=>(a8.out.rule r hr).1.2.1);have W:=a8.out.rules;omega
          clear aJ O
          go_wp2_with (first
            | (go_at_call 143;refine Calls.ret bh.out ?_;rintro v w9 ⟨be,J⟩;obtain⟨Av,cv,hv⟩:=AH be;subst hv;have bG:=hide (b6.out.trans (J.mono b6.out.size));clear be J)
            | (go_at_call 90;refine(Ce _ _ _).mono ?_;rintro e w' ⟨rfl,rfl⟩))
          go_ret;refine⟨congrArg (Value.int .i64) ?_,bG.out⟩;rw [bC.out,<-bI.out]
end Go.Proofs.YtjejejmeddkciaaGreatDoor.K
namespace Go.Proofs.YtjejejmeddkciaaGreatDoor.K
open Go.RowKit
attribute [-go_sem] loadCellsFrom storeCells
theorem RE {w:World} {cs:List Value} {p:Am} (h:At w w.heap.size cs p) (C:p.Small) (hT:SpOK w) (a8:nameOK p.name=false):
  Calls Tryz.prog 86 #[.agg cs.toArray] w (Ret fun v w'=>v=.int .i64 (protE nameOK p)/\Below w.heap.size w w'):=by
 obtain⟨A1,c1,A2,c2,A3,c3,A4,c4,A5,c5,A6,c6,A7,c7,aa,aV,aq,ar,au,av,aw,ax,ay,az,aA,h1,h2,h3,Z,h5,h6,h7,ag⟩:=h.cells;have ai:=C.states;have aj:=C.messages;have ak:=C.values;have al:=C.res;have am:=C.initial;have an:=C.leader;have ao:=C.rules;have aU:=C.name;have aX:=hide C;have aQ:=hide Z;have aR:=hide h5;have aS:=hide h6;obtain⟨w1,aY,E,a4,ah⟩:=Ae w cs.toArray 27;have a6:=hide (show C0 w1 w.heap.size cs.toArray p from⟨h.keep (fun _ hp=>E.cell hp) E.size,a4,hT.below E⟩);have a7:=hide E;generalize aB:cs.toArray=pc at*;clear h1 h2 h3 Z h5 h6 h7 h C E a4 ah aB hT;obtain⟨nr,O⟩:∃n,n=p.res.length:=⟨_,rfl⟩;obtain⟨nm,M⟩:∃n,n=p.messages.length:=⟨_,rfl⟩;obtain⟨nv,W⟩:∃n,n=p.values.length:=⟨_,rfl⟩;obtain⟨nl,J⟩:∃n,n=p.leader.length:=⟨_,rfl⟩;obtain⟨ni,I⟩:∃n,n=p.initial.length:=⟨_,rfl⟩;obtain⟨ns,U⟩:∃n,n=p.states.length:=⟨_,rfl⟩;obtain⟨nu,V⟩:∃n,n=p.rules.length:=⟨_,rfl⟩;have aP:=hide (show nr=p.res.length/\nm=p.messages.length/\nv=p.values.length/\nl=p.leader.length/\ni=p.initial.length/\ns=p.states.length/\nu=p.rules.length from⟨O,M,W,J,I,U,V⟩);simp only [<-O,<-M,<-W,<-J,<-I,<-U,<-V] at ar au av ax ay az aA ai aj ak al am an ao ag;clear O M W J I U V;obtain⟨kt,G⟩:∃n,n=p.topo:=⟨_,rfl⟩;obtain⟨kf,F⟩:∃n,n=p.fault:=⟨_,rfl⟩;have aO:=hide (show kt=p.topo/\kf=p.fault from⟨G,F⟩);simp only [<-G,<-F] at aq aw;clear G F;have aW:=hide aa;clear aa;have aT:=a6.out.b.cell;have a9:=hide a8;clear a8;go_enter Tryz.func86,Tryz.ntmps86;go_wp2_with (go_at_call 87;refine Calls.ret (Da p.name _ (by omega) a6.out.tab) ?_;rintro v w2 ⟨rfl,af⟩;rw [a9.out]);go_ret;exact⟨by unfold protE;rw [a9.out];rfl,a7.out.trans (af.mono a7.out.size)⟩
theorem Kt {w:World} {cs:List Value} {p:Am} (h:At w w.heap.size cs p) (F:p.Small) (C:SpOK w):
  Calls Tryz.prog 86 #[.agg cs.toArray] w (Ret fun v w'=>v=.int .i64 (protE nameOK p)/\Below w.heap.size w w'):=by
 cases E:nameOK p.name
 ·exact RE h F C E
 ·by_cases ht:p.topo=1
  ·exact RC h F C E ht
  ·exact RD h F C E ht
end Go.Proofs.YtjejejmeddkciaaGreatDoor.K
