/-
  Part CI of a proof.
-/
import Derived.Test.YtfcfpoemojjglaaGreatDoorPA
import Derived.Test.YtfcfpoemojjglaaGreatDoorCG
import Derived.Test.YtfcfpoemojjglaaGreatDoorCE
set_option maxHeartbeats 16000000
set_option maxRecDepth 100000
set_option linter.unusedVariables false
set_option linter.unusedSimpArgs false
namespace Go.Proofs.YtfcfpoemojjglaaGreatDoor.K
open Go.RowKit
attribute [-go_sem] loadCellsFrom storeCells
structure C0 (w:World) (g:Nat) (pc:Array Value) (p:Am):Prop where
 pr:At w w.heap.size pc.toList p
 b:Blk w g 27 pc
 tab:SpOK w
theorem C0.at {w w':World} {g:Nat} {pc:Array Value} {p:Am} (h:C0 w g pc p) (d:Below w.heap.size w w'):C0 w' g pc p:=
 ⟨h.pr.keep (fun _ j=>d.cell j) d.size,h.b.below d,h.tab.below d⟩
theorem At.cells {w:World} {B:Nat} {cs:List Value} {p:Am} (h:At w B cs p):∃A1 c1 A2 c2 A3 c3 d c4 j E l G y C,
  cs.toArray.size=10/\cs.toArray[0]?=some (.string p.name)/\cs.toArray[1]?=some (.int .i64 p.topo)/\cs.toArray[2]?=some (.slice A1 p.states.length c1)/\cs.toArray[3]?=some (.slice A2 p.messages.length c2)/\
  cs.toArray[4]?=some (.slice A3 p.values.length c3)/\cs.toArray[5]?=some (.int .i64 p.fault)/\cs.toArray[6]?=some (.slice d p.res.length c4)/\cs.toArray[7]?=some (.slice j p.initial.length E)/\cs.toArray[8]?=some (.slice l p.leader.length G)/\cs.toArray[9]?=some (.slice y p.rules.length C)/\
  Sl w B 1 BE A1 p.states/\Sl w B 1 BE A2 p.messages/\Sl w B 1 BE A3 p.values/\Sl w B 4 EG d p.res/\Sl w B 1 Ai j p.initial/\Sl w B 1 Ai l p.leader/\BR w B 18 (AW w B) y p.rules/\p.rules.length<=C:=by
 obtain⟨A1,c1,A2,c2,A3,c3,d,c4,j,E,l,G,y,C,rfl,I,J,M,O,U,V,W,Z⟩:=h;exact⟨A1,c1,A2,c2,A3,c3,d,c4,j,E,l,G,y,C,rfl,rfl,rfl,rfl,rfl,rfl,rfl,rfl,rfl,rfl,rfl,I,J,M,O,U,V,W,Z⟩
def DJ (p:Am):Int:=
 orE (Ad (!p.res.all Bg) 4)
 (orE (Aa p.initial p.states.length)
 (orE (Ad p.initial.isEmpty 1)
 (orE (Aa p.leader p.states.length)
 (orE (Aj (BB nameOK p) (List.range p.rules.length))
 (Ad (decide (3<(BO p.rules).length)) 4)))))
def Cc (p:Am):Int:=orE (Aj (BB nameOK p) (List.range p.rules.length)) (Ad (decide (3<(BO p.rules).length)) 4)
def CH (kt kf:Int) (ns nm nv nr nu nl:Nat) (e R:Int):Int:=
 orE (Ad (!(decide (1<=kt)&&decide (kt<=4))||!(decide (0<=kf)&&decide (kf<=3))) 1)
 (orE (Ad (decide (ns=0)) 1)
 (orE (Ad (decide (6<ns)||decide (3<nm)||decide (3<nv)||decide (4<nr)||decide (8<nu)) 4)
 (orE e
 (orE (Ad ((!decide (kt=1)&&(!decide (nm=0)||!decide (nv=0)||!decide (nr=0)||!decide (kf=0)))||(decide (kt=1)&&!decide (nl=0))) 1) R))))
section
variable {kt kf:Int} {ns nm nv nr nu nl:Nat} {e R:Int}
theorem pvA (h:1<=kt/\kt<=4/\0<=kf/\kf<=3):(!(decide (1<=kt)&&decide (kt<=4))||!(decide (0<=kf)&&decide (kf<=3)))=false:=by simp [h]
theorem pv2 (h:kt<1\/4<kt\/kf<0\/3<kf):CH kt kf ns nm nv nr nu nl e R=1:=by
 have d:(!(decide (1<=kt)&&decide (kt<=4))||!(decide (0<=kf)&&decide (kf<=3)))=true:=by
  simp;omega
 unfold CH;rw [d];rfl
theorem pv3 (d:1<=kt/\kt<=4/\0<=kf/\kf<=3) (h:((ns:Int)==0)=true):CH kt kf ns nm nv nr nu nl e R=1:=by
 unfold CH;rw [pvA d,decide_eq_true (show ns=0 by simpa using h)];rfl
theorem pvB (h:((ns:Int)==0)=false):decide (ns=0)=false:=by simpa using h
theorem pv4 (j:1<=kt/\kt<=4/\0<=kf/\kf<=3) (l:((ns:Int)==0)=false) (h:6<(ns:Int)\/3<(nm:Int)\/3<(nv:Int)\/4<(nr:Int)\/8<(nu:Int)):CH kt kf ns nm nv nr nu nl e R=4:=by
 have d:(decide (6<ns)||decide (3<nm)||decide (3<nv)||decide (4<nr)||decide (8<nu))=true:=by
  simp;omega
 unfold CH;rw [pvA j,pvB l,d];rfl
theorem pvC (h:(ns:Int)<=6/\(nm:Int)<=3/\(nv:Int)<=3/\(nr:Int)<=4/\(nu:Int)<=8):(decide (6<ns)||decide (3<nm)||decide (3<nv)||decide (4<nr)||decide (8<nu))=false:=by
 simp;omega
theorem pv5 (d:1<=kt/\kt<=4/\0<=kf/\kf<=3) (j:((ns:Int)==0)=false) (l:(ns:Int)<=6/\(nm:Int)<=3/\(nv:Int)<=3/\(nr:Int)<=4/\(nu:Int)<=8) (h:(e != 0)=true):CH kt kf ns nm nv nr nu nl e R=e:=by
 unfold CH;rw [pvA d,pvB j,pvC l];exact BF (by simpa using h)
theorem pvD (h:(e != 0)=false):e=0:=by simpa using h
theorem pv6 (j:1<=kt/\kt<=4/\0<=kf/\kf<=3) (l:((ns:Int)==0)=false) (y:(ns:Int)<=6/\(nm:Int)<=3/\(nv:Int)<=3/\(nr:Int)<=4/\(nu:Int)<=8) (C:(e != 0)=false) (h:(kt≠1/\(nm≠0\/nv≠0\/nr≠0\/kf≠0))\/(kt=1/\nl≠0)):CH kt kf ns nm nv nr nu nl e R=1:=by
 have d:((!decide (kt=1)&&(!decide (nm=0)||!decide (nv=0)||!decide (nr=0)||!decide (kf=0)))||(decide (kt=1)&&!decide (nl=0)))=true:=by
  simp;omega
 unfold CH;rw [pvA j,pvB l,pvC y,pvD C,d];rfl
theorem pv7 (j:1<=kt/\kt<=4/\0<=kf/\kf<=3) (l:((ns:Int)==0)=false) (y:(ns:Int)<=6/\(nm:Int)<=3/\(nv:Int)<=3/\(nr:Int)<=4/\(nu:Int)<=8) (C:(e != 0)=false) (h:(kt≠1/\nm=0/\nv=0/\nr=0/\kf=0)\/(kt=1/\nl=0)):CH kt kf ns nm nv nr nu nl e R=R:=by
 have d:((!decide (kt=1)&&(!decide (nm=0)||!decide (nv=0)||!decide (nr=0)||!decide (kf=0)))||(decide (kt=1)&&!decide (nl=0)))=false:=by
  simp;omega
 unfold CH;rw [pvA j,pvB l,pvC y,pvD C,d];rfl
end
theorem GI (p:Am) (h:nameOK p.name=true):protE nameOK p=CH p.topo p.fault p.states.length p.messages.length p.values.length p.res.length p.rules.length p.leader.length (CU nameOK (Bd p)) (DJ p):=by
 unfold protE CH DJ;rw [h,Bv,Bv,Bv,Bv,Bv];rfl
theorem EF (n:Nat):((n:Int)==0)=decide (n=0):=by by_cases h:n=0 <;> simp [h]
end Go.Proofs.YtfcfpoemojjglaaGreatDoor.K
namespace Go.Proofs.YtfcfpoemojjglaaGreatDoor.K
open Go.RowKit
attribute [-go_sem] loadCellsFrom storeCells
theorem RC {w:World} {cs:List Value} {p:Am} (h:At w w.heap.size cs p) (M:p.Small) (hT:SpOK w) (bp:nameOK p.name=true) (aF:p.topo=1):
    Calls Tryz.prog 117 #[.agg cs.toArray] w (Ret fun v w'=>v=.int .i64 (protE nameOK p)/\Below w.heap.size w w'):=by
  obtain⟨A1,c1,A2,c2,A3,c3,A4,c4,A5,c5,A6,c6,A7,c7,bs,d8,co,cp,cq,cr,ct,cu,cw,cx,cy,C,h2,h3,h4,h5,h6,h7,c0⟩:=h.cells;have ce:=M.states;have cf:=M.messages;have cg:=M.values;have ch:=M.res;have ci:=M.initial;have cj:=M.leader;have ck:=M.rules;have d6:=M.name;have ab:=hide M;have bT:=hide h4;have bU:=hide h5;have bV:=hide h6;obtain⟨w1,da,a8,aX,ca⟩:=Ae w cs.toArray 27;have ap:=hide (show C0 w1 w.heap.size cs.toArray p from⟨h.keep (fun _ W=>a8.cell W) a8.size,aX,hT.below a8⟩);have bg:=hide a8;generalize cz:cs.toArray=pc at*;clear C h2 h3 h4 h5 h6 h7 h M a8 aX ca cz hT;obtain⟨nr,aM⟩:∃n,n=p.res.length:=⟨_,rfl⟩;obtain⟨nm,aL⟩:∃n,n=p.messages.length:=⟨_,rfl⟩;obtain⟨nv,aQ⟩:∃n,n=p.values.length:=⟨_,rfl⟩;obtain⟨nl,aK⟩:∃n,n=p.leader.length:=⟨_,rfl⟩;obtain⟨V,aJ⟩:∃n,n=p.initial.length:=⟨_,rfl⟩;obtain⟨ns,aN⟩:∃n,n=p.states.length:=⟨_,rfl⟩;obtain⟨nu,aP⟩:∃n,n=p.rules.length:=⟨_,rfl⟩;have G:=hide (show nr=p.res.length/\nm=p.messages.length/\nv=p.values.length/\nl=p.leader.length/\V=p.initial.length/\ns=p.states.length/\nu=p.rules.length from⟨aM,aL,aQ,aK,aJ,aN,aP⟩);simp only [<-aM,<-aL,<-aQ,<-aK,<-aJ,<-aN,<-aP] at cp cq cr cu cw cx cy ce cf cg ch ci cj ck c0;clear aM aL aQ aK aJ aN aP;obtain⟨kt,aH⟩:∃n,n=p.topo:=⟨_,rfl⟩;obtain⟨kf,aG⟩:∃n,n=p.fault:=⟨_,rfl⟩;have b0:=hide (show kt=p.topo/\kf=p.fault from⟨aH,aG⟩);simp only [<-aH,<-aG] at co ct;clear aH aG;have a9:=hide bs;clear bs;have cO:=ap.out.b.cell;have bq:=hide bp;clear bp;have hP:=hide (show protE nameOK p=CH kt kf ns nm nv nr nu nl (CU nameOK (Bd p)) (DJ p) from by
    obtain⟨e1,e2,e3,e4,e5,e6,e7⟩:=G.out;obtain⟨f1,f2⟩:=b0.out;rw [e1,e2,e3,e4,e6,e7,f1,f2];exact GI p bq.out)
  have cm:∀wx,Hid (C0 wx w.heap.size pc p)->Calls Tryz.prog 168 #[.agg pc] wx (Ret fun v w'=>v=.int .i64 (CU nameOK (Bd p))/\Below wx.heap.size wx w'):=fun wx E=>J6 E.out.pr ab.out E.out.tab;generalize CU nameOK (Bd p)=e0 at*;have am:Hid (kt=1):=by rw [<-b0.out.1] at aF; exact aF
  have cX:(kt==1)=true:=by simp [am.out]
  clear aF;go_enter Tryz.func117,Tryz.ntmps117
  go_wp2_with (first
    | (go_at_call 118; refine Calls.ret (Da p.name _ (by omega) ap.out.tab) ?_; rintro v w2 ⟨rfl,az⟩; rw [bq.out]; have ae:=hide (ap.out.at az); have cQ:=ae.out.b.cell; have cZ:=Ah ae.out.b a9.out; have av:=hide (bg.out.trans (az.mono bg.out.size)); clear az)
    | (go_at_call 168; refine Calls.ret (cm _ ae) ?_; rintro v w3 ⟨rfl,aA⟩; have b8:=hide (ae.out.at aA); have cR:=b8.out.b.cell; have a6:=hide (av.out.trans (aA.mono av.out.size)); clear aA))
  all_goals first
    | (go_ret
       refine⟨congrArg (Value.int .i64) (hP.out.trans ?_).symm,?_⟩
       · first
           | exact pv2 (by omega)
           | exact pv3 (by omega) (by assumption)
           | exact pv4 (by omega) (by assumption) (by omega)
           | exact pv5 (by omega) (by assumption) (by omega) (by assumption)
           | exact pv6 (by omega) (by assumption) (by omega) (by assumption) (by have:=am.out; omega)
       · first
           | exact a6.out
           | exact av.out)
    | (have hR:=hide (hP.out.trans (pv7 (by omega) (by assumption) (by omega) (by assumption) (by have:=am.out; omega))))
  rename_i z0 z1 z2 z3 z4 z5 z6 z7 z8 z9 z10 z11 zK zQ;clear z0 z1 z2 z3 z4 z5 z6 z7 z8 z9 z10 z11;clear hP;have cB:∀(k:Nat) (wx:World),k<nu->Hid (C0 wx w.heap.size pc p)->Calls Tryz.prog 170 #[.agg pc,.int .i64 (k:Int)] wx (Ret fun v w'=>v=.int .i64 (BB nameOK p k)/\Below wx.heap.size wx w'):=by
    intro k wx hk E;obtain⟨r,hr⟩:∃r,p.rules[k]?=some r:=⟨_,List.getElem?_eq_getElem (by have:=G.out.2.2.2.2.2.2; omega)⟩;have I:=ab.out.rule r (List.mem_of_getElem? hr);have C:=KT (cs:=pc.toList) E.out.pr hr I.1 (by have:=I.2; omega) E.out.tab;rw [KU _ _ _ _ _ (by omega)] at C;have h2:BB nameOK p k=BC nameOK p.topo p.states.length p.messages.length p.values.length ((p.rules.take k).any fun x=>decide (x.name=r.name)) r:=by
      unfold BB;rw [hr]
    rw [h2];exact C
  have c9:∀wx,Below w.heap.size w wx->Calls Tryz.prog 119 #[.slice A5 V c5,.int .i64 (ns:Int)] wx (Ret fun r w'=>r=.int .i64 (Aa p.initial (ns:Int))/\Below wx.heap.size wx w'):=fun wx E=>by
    rw [G.out.2.2.2.2.1];exact DE (bU.out.keep (fun _ W=>E.cell W) E.size)
  have cd:∀wx,Below w.heap.size w wx->Calls Tryz.prog 119 #[.slice A6 nl c6,.int .i64 (ns:Int)] wx (Ret fun r w'=>r=.int .i64 (Aa p.leader (ns:Int))/\Below wx.heap.size wx w'):=fun wx E=>by
    rw [G.out.2.2.2.1];exact DE (bV.out.keep (fun _ W=>E.cell W) E.size)
  go_loopw [113] (fun Z wr=>∃(k:Nat),Z=.int .i64 (k:Int)/\k<=nr/\Hid (Below w3.heap.size w3 wr)/\Hid ((p.res.take k).all Bg=true)) (fun Z _=>nr - (intOf Z).toNat)
  case atStart=>exact⟨0,rfl,Nat.zero_le _,Below.refl _ _,by show _=_; simp⟩
  case round=>
    obtain⟨k,rfl,hk,ah,O⟩:=hrel;have b9:=hide (b8.out.at ah.out);have cS:=b9.out.b.cell;have aw:=hide (a6.out.trans (ah.out.mono a6.out.size));by_cases bo:k<nr
    · obtain⟨b,bx,l,hA,cM,hl,bi⟩:=(bT.out.keep (w':=wr) (B':=w.heap.size) (fun _ W=>aw.out.cell W) (Nat.le_refl _)).at (k:=k) (by have:=G.out.1; omega)
      have d4:(loadCellsFrom ⟨b,bx+k*4,none⟩ 0 4 #[]).run Tryz.prog wr=.ok #[.int .i64 l.c,.int .i64 l.n,.int .i64 l.t,.int .i64 l.f] wr:=by
        have:=run_loadCells_list (P:=Tryz.prog) wr ⟨b,bx+k*4,none⟩ [.int .i64 l.c,.int .i64 l.n,.int .i64 l.t,.int .i64 l.f] (fun j v y=>by
          rw [Addr.add_mid];have hj:=AP y;rw [bi j hj]
          match j,hj,y with
          | 0,_,y=>exact congrArg some (Option.some.inj y)
          | 1,_,y=>exact congrArg some (Option.some.inj y)
          | 2,_,y=>exact congrArg some (Option.some.inj y)
          | 3,_,y=>exact congrArg some (Option.some.inj y))
        simpa [loadCells] using this
      obtain⟨w5,cE,bf,aY,cb⟩:=Ae wr #[.int .i64 l.c,.int .i64 l.n,.int .i64 l.t,.int .i64 l.f] 202;have d9:∀c:Array Value,c.size=4->(storeCells ⟨wr.heap.size,0,none⟩ [.int .i64 l.c,.int .i64 l.n,.int .i64 l.t,.int .i64 l.f] 0).run Tryz.prog (wr.alloc (.cells c 202))=.ok () w5:=fun c hc=>by rw [<-cE]; exact Dv wr 202 4 (by kernel_rfl) (rc:=#[.int .i64 l.c,.int .i64 l.n,.int .i64 l.t,.int .i64 l.f]) rfl (by simp [Value.oneCell']) c hc
      have d0:(loadCellsFrom ⟨wr.heap.size,0,none⟩ 0 4 #[]).run Tryz.prog w5=.ok #[.int .i64 l.c,.int .i64 l.n,.int .i64 l.t,.int .i64 l.f] w5:=Ah (n:=4) aY rfl;have bh:∀wx,Calls Tryz.prog 169 #[.agg #[.int .i64 l.c,.int .i64 l.n,.int .i64 l.t,.int .i64 l.f]] wx (Ret fun r w'=>r=.bool (Bg l)/\Below wx.heap.size wx w'):=fun wx=>FJ l wx;have ag:=hide (ah.out.trans (bf.mono ah.out.size));have bn:=hide hl;subst hA;clear bi cb aY bf hl;cases y:Bg l
      · have a5:=hide (show p.res.all Bg=false from by
          rw [List.all_eq_false];exact⟨l,List.mem_of_getElem? bn.out,by rw [y]; decide⟩)
        go_wp2_with (go_at_call 169; refine Calls.ret (bh _) ?_; rintro v w6 ⟨rfl,J⟩; rw [y]);go_ret;refine⟨congrArg (Value.int .i64) (hR.out.trans ?_).symm,a6.out.trans ((ag.out.trans (J.mono ag.out.size)).mono a6.out.size)⟩;unfold DJ;rw [a5.out];rfl
      · have a5:=hide (Cq (p:=Bg) bn.out O.out y)
        go_wp2_with (go_at_call 169; refine Calls.ret (bh _) ?_; rintro v w6 ⟨rfl,J⟩; rw [y]; have bY:=hide (ag.out.trans (J.mono ag.out.size)); clear J);exact⟨⟨k+1,by go_num,by omega,bY.out,a5.out⟩,by simp [intOf]; omega⟩
    · have a5:=hide (show p.res.all Bg=true from by
        have C:=G.out.1;have h2:=O.out
        rwa [List.take_of_length_le (by omega)] at h2)
      have ao:=hide (show protE nameOK p=orE (Aj id [Aa p.initial (ns:Int),Ad ((V:Int)==0) 1,Aa p.leader (ns:Int)]) (Cc p) from by
        rw [hR.out];obtain⟨-,-,-,-,e5,e6,-⟩:=G.out;have hq:((V:Int)==0)=p.initial.isEmpty:=by rw [Bv,e5,EF]
        unfold DJ Cc;rw [a5.out,hq,e6];simp only [Aj,id_eq,Bk,Ef,show Ad (!true) 4=0 from rfl,AY])
      obtain⟨e8,bj⟩:∃e,Hid (Aj id [Aa p.initial (ns:Int),Ad ((V:Int)==0) 1,Aa p.leader (ns:Int)]=e):=⟨_,rfl⟩;rw [bj.out] at ao;have b5:=hide ao;clear a5 O ao;go_wp2_with fail;have ba:=hide (b9.out.at (Ap wr));have cT:=ba.out.b.cell;have ax:=hide (aw.out.trans ((Ap wr).mono aw.out.size));refine Reg.cI [0,1,0,7,0,16,48,112,255,0,512,0,4095,8191,16383,32767] [0,1,2,4,5,6,7,9,10,11,3,8,12,13,14,15] ?_;refine Reg.wI [0,1,2,4,5,6,7,9,10,11] [3,8,12,13,14,15] rfl fun Qf d=>?_;go_wp2_with fail;first | refine d _ _ ⟨rfl,?_⟩ | refine⟨rfl,?_⟩ | refine d _ _ ⟨by simp [Reg.fineT,Reg.intOp,Region.wanted,yielded,Reg.intFine,Reg.isInt,Act.eval],?_⟩
      (try clear d);refine Reg.aI 3 [8,12,13,14,15] [5,10] rfl fun Qf d=>?_;simp only [gT,gS,gZ];go_wp2_with (go_at_call 119; refine Calls.ret (c9 _ ax.out) ?_; rintro v w6 ⟨rfl,J⟩);first | refine d _ _ ⟨Reg.same_below (J) [5,10] rfl,?_⟩ | refine⟨Reg.same_below (J) [5,10] rfl,?_⟩
      (try clear d);have aq:=hide (ba.out.at J);have cU:=aq.out.b.cell;have d1:=Ah aq.out.b a9.out;have ay:=hide (ax.out.trans (J.mono ax.out.size));clear J;refine Reg.aI 8 [12,13,14,15] [10] rfl fun Qf d=>?_;simp only [gT,gS,gZ];go_wp2_with (go_at_call 121; refine(Ce _ _ _).mono ?_; rintro e w' ⟨rfl,rfl⟩);first | refine d _ _ ⟨Reg.same_below (Below.refl _ _) [10] rfl,?_⟩ | refine⟨Reg.same_below (Below.refl _ _) [10] rfl,?_⟩
      (try clear d);refine Reg.aI 12 [13,14,15] [] rfl fun Qf d=>?_;simp only [gT,gS,gZ];go_wp2_with (go_at_call 119; refine Calls.ret (cd _ ay.out) ?_; rintro v w7 ⟨rfl,aB⟩);first | refine d _ _ ⟨Reg.nm,?_⟩ | refine⟨Reg.nm,?_⟩
      (try clear d);have ar:=hide (aq.out.at aB);have cV:=ar.out.b.cell;have d2:=Ah ar.out.b a9.out;have bd:=hide (ay.out.trans (aB.mono ay.out.size));clear aB;obtain⟨wz,db,aD,aZ,cc⟩:=Ae w7 #[.int .i64 (Aa p.initial (ns:Int)),.int .i64 (Ad ((V:Int)==0) 1),.int .i64 (Aa p.leader (ns:Int))] 36;have bW:=hide (Ch (l:=[Aa p.initial (ns:Int),Ad ((V:Int)==0) 1,Aa p.leader (ns:Int)]) aZ (by simp));clear aZ cc;have au:=hide (ar.out.at aD);have cY:=au.out.b.cell;have d5:=Ah au.out.b a9.out;have a7:=hide (bd.out.trans (aD.mono bd.out.size));clear aD;refine Reg.wI [13] [14,15] rfl fun Qf d=>?_;go_wp2_with fail;first | refine d _ _ ⟨rfl,?_⟩ | refine⟨rfl,?_⟩ | refine d _ _ ⟨by simp [Reg.fineT,Reg.intOp,Region.wanted,yielded,Reg.intFine,Reg.isInt,Act.eval],?_⟩
      (try clear d);refine Reg.aI 14 [15] [] rfl fun Qf d=>?_;simp only [gT,gS,gZ];go_wp2_with (go_at_call 120; refine(Ci (l:=[Aa p.initial (ns:Int),Ad ((V:Int)==0) 1,Aa p.leader (ns:Int)]) bW.out).mono ?_; rintro e w' ⟨rfl,rfl⟩; rw [bj.out]);first | refine d _ _ ⟨Reg.nm,?_⟩ | refine⟨Reg.nm,?_⟩
      (try clear d);refine Reg.wI [15] [] rfl fun Qf d=>?_;go_wp2_with fail;first | refine d _ _ ⟨rfl,?_⟩ | refine⟨rfl,?_⟩ | refine d _ _ ⟨by simp [Reg.fineT,Reg.intOp,Region.wanted,yielded,Reg.intFine,Reg.isInt,Act.eval],?_⟩
      (try clear d);first | refine Reg.restI_end ?_ | skip
      by_cases a2:e8=0
      case neg=>
        have cA:(e8 != 0)=true:=by simp [a2]
        have bO:=hide a2;clear a2;go_wp2_with fail;go_ret;exact⟨congrArg (Value.int .i64) (b5.out.trans (BF bO.out)).symm,a7.out⟩
      have cA:(e8 != 0)=false:=by simp [a2]
      have b6:=hide (show protE nameOK p=Cc p from by rw [b5.out,a2,AY]);clear a2;go_wp2_with fail;go_loopw [142] (fun Z wr=>∃(k:Nat),Z=.int .i64 (k:Int)/\k<=nu/\Hid (Below wz.heap.size wz wr)/\Hid (Aj (BB nameOK p) (List.range k)=0)) (fun Z _=>nu - (intOf Z).toNat)
      case atStart=>exact⟨0,rfl,Nat.zero_le _,Below.refl _ _,by show _=_; rfl⟩
      case round=>
        obtain⟨k,rfl,hk,a4,O⟩:=hrel;have af:=hide (au.out.at a4.out);have cW:=af.out.b.cell;have d3:=Ah af.out.b a9.out;have be:=hide (a7.out.trans (a4.out.mono a7.out.size));by_cases bo:k<nu
        · obtain⟨e9,ai⟩:∃e,Hid (BB nameOK p k=e):=⟨_,rfl⟩
          have aE:=hide (cB k _ bo af);rw [ai.out] at aE;have E:(List.range p.rules.length)[k]?=some k:=by rw [List.getElem?_range (by have:=G.out.2.2.2.2.2.2; omega)]
          have bw:=hide E;have bu:(List.range p.rules.length).take k=List.range k:=by rw [List.take_range,Nat.min_eq_left (by have:=G.out.2.2.2.2.2.2; omega)]
          have bv:=hide bu;clear E bu;by_cases I:e9=0
          · have hq:(e9 != 0)=false:=by simp [I]
            have cn:=hide (show Aj (BB nameOK p) (List.range (k+1))=0 from by
              have C:=CD (BB nameOK p) bw.out (by rw [bv.out]; exact O.out);rw [List.take_range,Nat.min_eq_left (by have:=G.out.2.2.2.2.2.2; omega)] at C;rw [C,ai.out,I])
            clear I;go_wp2_with (go_at_call 170; refine Calls.ret aE.out ?_; rintro v w9 ⟨rfl,U⟩; have aC:=hide (a4.out.trans (U.mono a4.out.size)); clear U);exact⟨⟨k+1,by go_num,by omega,aC.out,cn.out⟩,by simp [intOf]; omega⟩
          · have hq:(e9 != 0)=true:=by simp [I]
            have cD:=hide (show protE nameOK p=e9 from by
              have C:=Ct (BB nameOK p) bw.out (by rw [bv.out]; exact O.out) (by rw [ai.out]; exact I);rw [b6.out];unfold Cc;rw [C,ai.out,BF I])
            clear I;go_wp2_with (go_at_call 170; refine Calls.ret aE.out ?_; rintro v w9 ⟨rfl,U⟩; have aC:=hide (a4.out.trans (U.mono a4.out.size)); clear U);go_ret;exact⟨congrArg (Value.int .i64) cD.out.symm,a7.out.trans (aC.out.mono a7.out.size)⟩
        · obtain⟨nt,aO⟩:∃n,n=(BO p.rules).length:=⟨_,rfl⟩
          have bS:=hide (show protE nameOK p=Ad (decide (3<nt)) 4 from by
            have C:=O.out;rw [show k=p.rules.length by have:=G.out.2.2.2.2.2.2; omega] at C;rw [b6.out,aO];unfold Cc;rw [C,AY])
          have bt:=hide (Lz (cs:=pc.toList) af.out.pr ab.out);rw [<-aO] at bt;have c8:=hide (show decide (3<(nt:Int))=decide (3<nt) from by
            rw [decide_eq_decide];omega)
          have d7:nt<=1800:=by
            have C:=FB p.rules (fun r hr=>(ab.out.rule r hr).1.2.1);have h2:=ab.out.rules;omega
          clear aO O
          go_wp2_with (first
            | (go_at_call 171; refine Calls.ret bt.out ?_; rintro v w9 ⟨br,U⟩; obtain⟨Av,cv,y⟩:=AH br; subst y; have bX:=hide (be.out.trans (U.mono be.out.size)); clear br U)
            | (go_at_call 121; refine(Ce _ _ _).mono ?_; rintro e w' ⟨rfl,rfl⟩))
          go_ret;refine⟨congrArg (Value.int .i64) ?_,bX.out⟩;rw [bS.out,<-c8.out]
end Go.Proofs.YtfcfpoemojjglaaGreatDoor.K
namespace Go.Proofs.YtfcfpoemojjglaaGreatDoor.K
open Go.RowKit
attribute [-go_sem] loadCellsFrom storeCells
theorem RD {w:World} {cs:List Value} {p:Am} (h:At w w.heap.size cs p) (G:p.Small) (hT:SpOK w) (bd:nameOK p.name=true) (az:p.topo≠1):
    Calls Tryz.prog 117 #[.agg cs.toArray] w (Ret fun v w'=>v=.int .i64 (protE nameOK p)/\Below w.heap.size w w'):=by
  obtain⟨A1,c1,A2,c2,A3,c3,A4,c4,A5,c5,A6,c6,A7,c7,bg,cO,bZ,c0,c8,c9,ca,cb,cc,cd,ce,j,V,h3,h4,h5,h6,h7,bJ⟩:=h.cells;have bP:=G.states;have bQ:=G.messages;have bR:=G.values;have bS:=G.res;have bT:=G.initial;have bU:=G.leader;have bV:=G.rules;have cL:=G.name;have a7:=hide G;have cr:=hide h4;have bF:=hide h5;have bG:=hide h6;obtain⟨w1,cQ,a2,aR,bM⟩:=Ae w cs.toArray 27;have aj:=hide (show C0 w1 w.heap.size cs.toArray p from⟨h.keep (fun _ hp=>a2.cell hp) a2.size,aR,hT.below a2⟩);have b6:=hide a2;generalize cf:cs.toArray=pc at*;clear j V h3 h4 h5 h6 h7 h G a2 aR bM cf hT;obtain⟨nr,aF⟩:∃n,n=p.res.length:=⟨_,rfl⟩;obtain⟨nm,aE⟩:∃n,n=p.messages.length:=⟨_,rfl⟩;obtain⟨nv,aK⟩:∃n,n=p.values.length:=⟨_,rfl⟩;obtain⟨nl,aD⟩:∃n,n=p.leader.length:=⟨_,rfl⟩;obtain⟨J,aC⟩:∃n,n=p.initial.length:=⟨_,rfl⟩;obtain⟨ns,aG⟩:∃n,n=p.states.length:=⟨_,rfl⟩;obtain⟨nu,aJ⟩:∃n,n=p.rules.length:=⟨_,rfl⟩;have E:=hide (show nr=p.res.length/\nm=p.messages.length/\nv=p.values.length/\nl=p.leader.length/\J=p.initial.length/\ns=p.states.length/\nu=p.rules.length from⟨aF,aE,aK,aD,aC,aG,aJ⟩);simp only [<-aF,<-aE,<-aK,<-aD,<-aC,<-aG,<-aJ] at c0 c8 c9 cb cc cd ce bP bQ bR bS bT bU bV bJ;clear aF aE aK aD aC aG aJ;obtain⟨kt,aB⟩:∃n,n=p.topo:=⟨_,rfl⟩;obtain⟨kf,aA⟩:∃n,n=p.fault:=⟨_,rfl⟩;have aT:=hide (show kt=p.topo/\kf=p.fault from⟨aB,aA⟩);simp only [<-aB,<-aA] at bZ ca;clear aB aA;have a5:=hide bg;clear bg;have ct:=aj.out.b.cell;have be:=hide bd;clear bd;have hP:=hide (show protE nameOK p=CH kt kf ns nm nv nr nu nl (CU nameOK (Bd p)) (DJ p) from by
    obtain⟨e1,e2,e3,e4,e5,e6,e7⟩:=E.out;obtain⟨f1,f2⟩:=aT.out;rw [e1,e2,e3,e4,e6,e7,f1,f2];exact GI p be.out)
  have bW:∀wx,Hid (C0 wx w.heap.size pc p)->Calls Tryz.prog 168 #[.agg pc] wx (Ret fun v w'=>v=.int .i64 (CU nameOK (Bd p))/\Below wx.heap.size wx w'):=fun wx y=>J6 y.out.pr a7.out y.out.tab;generalize CU nameOK (Bd p)=e0 at*;have ag:Hid (kt≠1):=by rw [<-aT.out.1] at az; exact az
  have cD:(kt==1)=false:=by simp [ag.out]
  clear az;go_enter Tryz.func117,Tryz.ntmps117
  go_wp2_with (first
    | (go_at_call 118; refine Calls.ret (Da p.name _ (by omega) aj.out.tab) ?_; rintro v w2 ⟨rfl,ar⟩; rw [be.out]; have a9:=hide (aj.out.at ar); have cu:=a9.out.b.cell; have cF:=Ah a9.out.b a5.out; have an:=hide (b6.out.trans (ar.mono b6.out.size)); clear ar)
    | (go_at_call 168; refine Calls.ret (bW _ a9) ?_; rintro v w3 ⟨rfl,au⟩; have aX:=hide (a9.out.at au); have cw:=aX.out.b.cell; have ao:=hide (an.out.trans (au.mono an.out.size)); clear au))
  all_goals first
    | (go_ret
       refine⟨congrArg (Value.int .i64) (hP.out.trans ?_).symm,?_⟩
       · first
           | exact pv2 (by omega)
           | exact pv3 (by omega) (by assumption)
           | exact pv4 (by omega) (by assumption) (by omega)
           | exact pv5 (by omega) (by assumption) (by omega) (by assumption)
           | exact pv6 (by omega) (by assumption) (by omega) (by assumption) (by have:=ag.out; omega)
       · first
           | exact ao.out
           | exact an.out)
    | (have hR:=hide (hP.out.trans (pv7 (by omega) (by assumption) (by omega) (by assumption) (by have:=ag.out; omega))))
  have bX:=hide (show nr=0 by omega);rename_i z0 z1 z2 z3 z4 z5 z6 z7 z8 z9 z10 z11 z12 z13 z14 zK zQ;clear z0 z1 z2 z3 z4 z5 z6 z7 z8 z9 z10 z11 z12 z13 z14;clear hP;have ch:∀(k:Nat) (wx:World),k<nu->Hid (C0 wx w.heap.size pc p)->Calls Tryz.prog 170 #[.agg pc,.int .i64 (k:Int)] wx (Ret fun v w'=>v=.int .i64 (BB nameOK p k)/\Below wx.heap.size wx w'):=by
    intro k wx hk y;obtain⟨r,hr⟩:∃r,p.rules[k]?=some r:=⟨_,List.getElem?_eq_getElem (by have:=E.out.2.2.2.2.2.2; omega)⟩;have C:=a7.out.rule r (List.mem_of_getElem? hr);have j:=KT (cs:=pc.toList) y.out.pr hr C.1 (by have:=C.2; omega) y.out.tab;rw [KU _ _ _ _ _ (by omega)] at j;have V:BB nameOK p k=BC nameOK p.topo p.states.length p.messages.length p.values.length ((p.rules.take k).any fun x=>decide (x.name=r.name)) r:=by
      unfold BB;rw [hr]
    rw [V];exact j
  have bL:∀wx,Below w.heap.size w wx->Calls Tryz.prog 119 #[.slice A5 J c5,.int .i64 (ns:Int)] wx (Ret fun r w'=>r=.int .i64 (Aa p.initial (ns:Int))/\Below wx.heap.size wx w'):=fun wx y=>by
    rw [E.out.2.2.2.2.1];exact DE (bF.out.keep (fun _ hp=>y.cell hp) y.size)
  have bO:∀wx,Below w.heap.size w wx->Calls Tryz.prog 119 #[.slice A6 nl c6,.int .i64 (ns:Int)] wx (Ret fun r w'=>r=.int .i64 (Aa p.leader (ns:Int))/\Below wx.heap.size wx w'):=fun wx y=>by
    rw [E.out.2.2.2.1];exact DE (bG.out.keep (fun _ hp=>y.cell hp) y.size)
  go_loopw [113] (fun O wr=>∃(k:Nat),O=.int .i64 (k:Int)/\k<=0/\Hid (Below w3.heap.size w3 wr)/\Hid ((p.res.take k).all Bg=true)) (fun O _=>0 - (intOf O).toNat)
  case atStart=>exact⟨0,rfl,Nat.zero_le _,Below.refl _ _,by show _=_; simp⟩
  case round=>
    obtain⟨k,rfl,hk,b7,M⟩:=hrel;have aY:=hide (aX.out.at b7.out);have cx:=aY.out.b.cell;have b0:=hide (ao.out.trans (b7.out.mono ao.out.size));by_cases ba:k<0
    · exfalso
      omega
    · have bh:=hide (show p.res.all Bg=true from by
        have j:=E.out.1;have V:=M.out;have h3:=bX.out
        rwa [List.take_of_length_le (by omega)] at V)
      have ai:=hide (show protE nameOK p=orE (Aj id [Aa p.initial (ns:Int),Ad ((J:Int)==0) 1,Aa p.leader (ns:Int)]) (Cc p) from by
        rw [hR.out];obtain⟨-,-,-,-,e5,e6,-⟩:=E.out;have hq:((J:Int)==0)=p.initial.isEmpty:=by rw [Bv,e5,EF]
        unfold DJ Cc;rw [bh.out,hq,e6];simp only [Aj,id_eq,Bk,Ef,show Ad (!true) 4=0 from rfl,AY])
      obtain⟨e8,b8⟩:∃e,Hid (Aj id [Aa p.initial (ns:Int),Ad ((J:Int)==0) 1,Aa p.leader (ns:Int)]=e):=⟨_,rfl⟩;rw [b8.out] at ai;have aU:=hide ai;clear bh M ai;go_wp2_with fail;have aZ:=hide (aY.out.at (Ap wr));have cy:=aZ.out.b.cell;have ap:=hide (b0.out.trans ((Ap wr).mono b0.out.size));refine Reg.cI [0,1,0,7,0,16,48,112,255,0,512,0,4095,8191,16383,32767] [0,1,2,4,5,6,7,9,10,11,3,8,12,13,14,15] ?_;refine Reg.wI [0,1,2,4,5,6,7,9,10,11] [3,8,12,13,14,15] rfl fun Qf d=>?_;go_wp2_with fail;first | refine d _ _ ⟨rfl,?_⟩ | refine⟨rfl,?_⟩ | refine d _ _ ⟨by simp [Reg.fineT,Reg.intOp,Region.wanted,yielded,Reg.intFine,Reg.isInt,Act.eval],?_⟩
      (try clear d);refine Reg.aI 3 [8,12,13,14,15] [5,10] rfl fun Qf d=>?_;simp only [gT,gS,gZ];go_wp2_with (go_at_call 119; refine Calls.ret (bL _ ap.out) ?_; rintro v w6 ⟨rfl,a3⟩);first | refine d _ _ ⟨Reg.same_below (a3) [5,10] rfl,?_⟩ | refine⟨Reg.same_below (a3) [5,10] rfl,?_⟩
      (try clear d);have ak:=hide (aZ.out.at a3);have cz:=ak.out.b.cell;have cG:=Ah ak.out.b a5.out;have aq:=hide (ap.out.trans (a3.mono ap.out.size));clear a3;refine Reg.aI 8 [12,13,14,15] [10] rfl fun Qf d=>?_;simp only [gT,gS,gZ];go_wp2_with (go_at_call 121; refine(Ce _ _ _).mono ?_; rintro e w' ⟨rfl,rfl⟩);first | refine d _ _ ⟨Reg.same_below (Below.refl _ _) [10] rfl,?_⟩ | refine⟨Reg.same_below (Below.refl _ _) [10] rfl,?_⟩
      (try clear d);refine Reg.aI 12 [13,14,15] [] rfl fun Qf d=>?_;simp only [gT,gS,gZ];go_wp2_with (go_at_call 119; refine Calls.ret (bO _ aq.out) ?_; rintro v w7 ⟨rfl,av⟩);first | refine d _ _ ⟨Reg.nm,?_⟩ | refine⟨Reg.nm,?_⟩
      (try clear d);have al:=hide (ak.out.at av);have cA:=al.out.b.cell;have cH:=Ah al.out.b a5.out;have b4:=hide (aq.out.trans (av.mono aq.out.size));clear av;obtain⟨wz,cR,ax,aS,bN⟩:=Ae w7 #[.int .i64 (Aa p.initial (ns:Int)),.int .i64 (Ad ((J:Int)==0) 1),.int .i64 (Aa p.leader (ns:Int))] 36;have bH:=hide (Ch (l:=[Aa p.initial (ns:Int),Ad ((J:Int)==0) 1,Aa p.leader (ns:Int)]) aS (by simp));clear aS bN;have am:=hide (al.out.at ax);have cE:=am.out.b.cell;have cK:=Ah am.out.b a5.out;have Z:=hide (b4.out.trans (ax.mono b4.out.size));clear ax;refine Reg.wI [13] [14,15] rfl fun Qf d=>?_;go_wp2_with fail;first | refine d _ _ ⟨rfl,?_⟩ | refine⟨rfl,?_⟩ | refine d _ _ ⟨by simp [Reg.fineT,Reg.intOp,Region.wanted,yielded,Reg.intFine,Reg.isInt,Act.eval],?_⟩
      (try clear d);refine Reg.aI 14 [15] [] rfl fun Qf d=>?_;simp only [gT,gS,gZ];go_wp2_with (go_at_call 120; refine(Ci (l:=[Aa p.initial (ns:Int),Ad ((J:Int)==0) 1,Aa p.leader (ns:Int)]) bH.out).mono ?_; rintro e w' ⟨rfl,rfl⟩; rw [b8.out]);first | refine d _ _ ⟨Reg.nm,?_⟩ | refine⟨Reg.nm,?_⟩
      (try clear d);refine Reg.wI [15] [] rfl fun Qf d=>?_;go_wp2_with fail;first | refine d _ _ ⟨rfl,?_⟩ | refine⟨rfl,?_⟩ | refine d _ _ ⟨by simp [Reg.fineT,Reg.intOp,Region.wanted,yielded,Reg.intFine,Reg.isInt,Act.eval],?_⟩
      (try clear d);first | refine Reg.restI_end ?_ | skip
      by_cases U:e8=0
      case neg=>
        have cg:(e8 != 0)=true:=by simp [U]
        have bB:=hide U;clear U;go_wp2_with fail;go_ret;exact⟨congrArg (Value.int .i64) (aU.out.trans (BF bB.out)).symm,Z.out⟩
      have cg:(e8 != 0)=false:=by simp [U]
      have aV:=hide (show protE nameOK p=Cc p from by rw [aU.out,U,AY]);clear U;go_wp2_with fail;go_loopw [142] (fun O wr=>∃(k:Nat),O=.int .i64 (k:Int)/\k<=nu/\Hid (Below wz.heap.size wz wr)/\Hid (Aj (BB nameOK p) (List.range k)=0)) (fun O _=>nu - (intOf O).toNat)
      case atStart=>exact⟨0,rfl,Nat.zero_le _,Below.refl _ _,by show _=_; rfl⟩
      case round=>
        obtain⟨k,rfl,hk,W,M⟩:=hrel;have aa:=hide (am.out.at W.out);have cB:=aa.out.b.cell;have cJ:=Ah aa.out.b a5.out;have b5:=hide (Z.out.trans (W.out.mono Z.out.size));by_cases ba:k<nu
        · obtain⟨e9,ab⟩:∃e,Hid (BB nameOK p k=e):=⟨_,rfl⟩
          have ay:=hide (ch k _ ba aa);rw [ab.out] at ay;have y:(List.range p.rules.length)[k]?=some k:=by rw [List.getElem?_range (by have:=E.out.2.2.2.2.2.2; omega)]
          have bl:=hide y;have bj:(List.range p.rules.length).take k=List.range k:=by rw [List.take_range,Nat.min_eq_left (by have:=E.out.2.2.2.2.2.2; omega)]
          have bk:=hide bj;clear y bj;by_cases C:e9=0
          · have hq:(e9 != 0)=false:=by simp [C]
            have bY:=hide (show Aj (BB nameOK p) (List.range (k+1))=0 from by
              have j:=CD (BB nameOK p) bl.out (by rw [bk.out]; exact M.out);rw [List.take_range,Nat.min_eq_left (by have:=E.out.2.2.2.2.2.2; omega)] at j;rw [j,ab.out,C])
            clear C;go_wp2_with (go_at_call 170; refine Calls.ret ay.out ?_; rintro v w9 ⟨rfl,I⟩; have aw:=hide (W.out.trans (I.mono W.out.size)); clear I);exact⟨⟨k+1,by go_num,by omega,aw.out,bY.out⟩,by simp [intOf]; omega⟩
          · have hq:(e9 != 0)=true:=by simp [C]
            have ci:=hide (show protE nameOK p=e9 from by
              have j:=Ct (BB nameOK p) bl.out (by rw [bk.out]; exact M.out) (by rw [ab.out]; exact C);rw [aV.out];unfold Cc;rw [j,ab.out,BF C])
            clear C;go_wp2_with (go_at_call 170; refine Calls.ret ay.out ?_; rintro v w9 ⟨rfl,I⟩; have aw:=hide (W.out.trans (I.mono W.out.size)); clear I);go_ret;exact⟨congrArg (Value.int .i64) ci.out.symm,Z.out.trans (aw.out.mono Z.out.size)⟩
        · obtain⟨nt,aH⟩:∃n,n=(BO p.rules).length:=⟨_,rfl⟩
          have bE:=hide (show protE nameOK p=Ad (decide (3<nt)) 4 from by
            have j:=M.out;rw [show k=p.rules.length by have:=E.out.2.2.2.2.2.2; omega] at j;rw [aV.out,aH];unfold Cc;rw [j,AY])
          have bi:=hide (Lz (cs:=pc.toList) aa.out.pr a7.out);rw [<-aH] at bi;have bK:=hide (show decide (3<(nt:Int))=decide (3<nt) from by
            rw [decide_eq_decide];omega)
          have cM:nt<=1800:=by
            have j:=FB p.rules (fun r hr=>(a7.out.rule r hr).1.2.1);have V:=a7.out.rules;omega
          clear aH M
          go_wp2_with (first
            | (go_at_call 171; refine Calls.ret bi.out ?_; rintro v w9 ⟨bf,I⟩; obtain⟨Av,cv,hv⟩:=AH bf; subst hv; have bI:=hide (b5.out.trans (I.mono b5.out.size)); clear bf I)
            | (go_at_call 121; refine(Ce _ _ _).mono ?_; rintro e w' ⟨rfl,rfl⟩))
          go_ret;refine⟨congrArg (Value.int .i64) ?_,bI.out⟩;rw [bE.out,<-bK.out]
end Go.Proofs.YtfcfpoemojjglaaGreatDoor.K
namespace Go.Proofs.YtfcfpoemojjglaaGreatDoor.K
open Go.RowKit
attribute [-go_sem] loadCellsFrom storeCells
theorem RE {w:World} {cs:List Value} {p:Am} (h:At w w.heap.size cs p) (d:p.Small) (hT:SpOK w) (a5:nameOK p.name=false):
  Calls Tryz.prog 117 #[.agg cs.toArray] w (Ret fun v w'=>v=.int .i64 (protE nameOK p)/\Below w.heap.size w w'):=by
 obtain⟨A1,c1,A2,c2,A3,c3,A4,c4,A5,c5,A6,c6,A7,c7,a7,aQ,ao,ap,aq,ar,au,av,aw,ax,ay,h1,h2,h3,U,V,W,h7,ae⟩:=h.cells;have ag:=d.states;have ah:=d.messages;have ai:=d.values;have aj:=d.res;have ak:=d.initial;have al:=d.leader;have am:=d.rules;have aP:=d.name;have aS:=hide d;have aL:=hide U;have aM:=hide V;have aN:=hide W;obtain⟨w1,aT,j,Z,af⟩:=Ae w cs.toArray 27;have a3:=hide (show C0 w1 w.heap.size cs.toArray p from⟨h.keep (fun _ hp=>j.cell hp) j.size,Z,hT.below j⟩);have a4:=hide j;generalize az:cs.toArray=pc at*;clear h1 h2 h3 U V W h7 h d j Z af az hT;obtain⟨nr,I⟩:∃n,n=p.res.length:=⟨_,rfl⟩;obtain⟨nm,G⟩:∃n,n=p.messages.length:=⟨_,rfl⟩;obtain⟨nv,O⟩:∃n,n=p.values.length:=⟨_,rfl⟩;obtain⟨nl,E⟩:∃n,n=p.leader.length:=⟨_,rfl⟩;obtain⟨ni,C⟩:∃n,n=p.initial.length:=⟨_,rfl⟩;obtain⟨ns,J⟩:∃n,n=p.states.length:=⟨_,rfl⟩;obtain⟨nu,M⟩:∃n,n=p.rules.length:=⟨_,rfl⟩;have aK:=hide (show nr=p.res.length/\nm=p.messages.length/\nv=p.values.length/\nl=p.leader.length/\ni=p.initial.length/\ns=p.states.length/\nu=p.rules.length from⟨I,G,O,E,C,J,M⟩);simp only [<-I,<-G,<-O,<-E,<-C,<-J,<-M] at ap aq ar av aw ax ay ag ah ai aj ak al am ae;clear I G O E C J M;obtain⟨kt,y⟩:∃n,n=p.topo:=⟨_,rfl⟩;obtain⟨kf,l⟩:∃n,n=p.fault:=⟨_,rfl⟩;have aJ:=hide (show kt=p.topo/\kf=p.fault from⟨y,l⟩);simp only [<-y,<-l] at ao au;clear y l;have aR:=hide a7;clear a7;have aO:=a3.out.b.cell;have a6:=hide a5;clear a5;go_enter Tryz.func117,Tryz.ntmps117;go_wp2_with (go_at_call 118; refine Calls.ret (Da p.name _ (by omega) a3.out.tab) ?_; rintro v w2 ⟨rfl,ad⟩; rw [a6.out]);go_ret;exact⟨by unfold protE; rw [a6.out]; rfl,a4.out.trans (ad.mono a4.out.size)⟩
theorem Kt {w:World} {cs:List Value} {p:Am} (h:At w w.heap.size cs p) (l:p.Small) (d:SpOK w):
  Calls Tryz.prog 117 #[.agg cs.toArray] w (Ret fun v w'=>v=.int .i64 (protE nameOK p)/\Below w.heap.size w w'):=by
 cases j:nameOK p.name
 ·exact RE h l d j
 ·by_cases ht:p.topo=1
  ·exact RC h l d j ht
  ·exact RD h l d j ht
end Go.Proofs.YtfcfpoemojjglaaGreatDoor.K
