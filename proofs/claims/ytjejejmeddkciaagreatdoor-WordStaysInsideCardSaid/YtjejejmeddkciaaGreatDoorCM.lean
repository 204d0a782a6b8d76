/-
  Part CM of a proof.
-/
import Derived.Test.YtjejejmeddkciaaGreatDoorPA
import Derived.Test.YtjejejmeddkciaaGreatDoorCJ
import Derived.Test.YtjejejmeddkciaaGreatDoorCI
set_option maxHeartbeats 16000000
set_option maxRecDepth 100000
set_option linter.unusedVariables false
set_option linter.unusedSimpArgs false
namespace Go.Proofs.YtjejejmeddkciaaGreatDoor.K
open Go.RowKit
attribute [-go_sem] loadCellsFrom storeCells
theorem SF {w:World} {cs:List Value} {p:Am} {r:Az} {i:Nat} (h:At w w.heap.size cs p) (hr:p.rules[i]?=some r) (hs:r.Small) (eQ:r.name.size<=500) (bc:p.Small) (hT:SpOK w) (e3:Hid (((p.rules.take i).any fun x=>decide (x.name=r.name))=false)) (cK:Hid (nameOK r.name=true)) (cJ:Hid (inC r.kind 1 5=true)) (bo:(decide (r.kind<=3) != (p.topo==1))=false) (cb:Hid (B9 p.topo r=false)) (ax:r.kind=1):
  Calls Tryz.prog 164 #[.agg cs.toArray,.int .i64 (i:Int)] w (Ret fun v w'=>v=.int .i64 (BC nameOK p.topo (p.states.length:Int) (p.messages.length:Int) (p.values.length:Int) false r)/\Below w.heap.size w w'):=by
 obtain⟨A1,c1,A2,c2,A3,c3,A4,c4,A5,c5,A6,c6,A7,c7,cL,eR,eS,c9,dL,dM,eT,eU,eV,eW,eX,-,-,-,-,-,-,h7,dx⟩:=h.cells;have dz:=AP hr;have dH:=bc.states;have dI:=bc.messages;have dJ:=bc.values;have eP:=bc.rules;have dj:=hide h7;obtain⟨w1,fq,bk,cf,dB⟩:=Ae w cs.toArray 27;have aW:=bk.trans ((Ap w1).mono bk.size);have bf:Blk w1.drew w.heap.size 27 cs.toArray:=cf;obtain⟨b,off,rc,hA,er,hC,dy,dF⟩:=Du (h7.keep (w':=w1.drew) (B':=w.heap.size) (R':=AW w1.drew w.heap.size) (fun _ M=>aW.cell M) (fun _ _ h=>h.keep (fun _ M=>aW.cell M) (Nat.le_refl _)) (Nat.le_refl _)) hr;obtain⟨w2,e4,bl,cg,dC⟩:=Ae w1.drew rc 109;have ch:Blk w2 w1.heap.size 109 rc:=cg;have ca:=Dv w1.drew 109 18 (by kernel_rfl) hC.size hC.one;rw [e4] at ca;have e0:∀c:Array Value,c.size=18->(storeCells ⟨w1.heap.size,0,none⟩ rc.toList 0).run Tryz.prog (w1.alloc (.cells c 109)).drew=.ok () w2:=ca;clear ca;have bJ:=bf.below bl;have aV:=hide (aW.trans (bl.mono aW.size));have bM:=hide (show Cp w2 w.heap.size w1.heap.size cs.toArray rc p r from⟨h.keep (fun _ M=>aV.out.cell M) aV.out.size,hC.is.keep (fun _ M=>bl.cell (by show _<w1.heap.size;have:=bk.size;omega)) aV.out.size,bJ,ch,hT.below aV.out⟩);have cM:=hC.is.cells;simp only [Array.toArray_toList] at cM;obtain⟨E1,f1,E2,f2,E3,f3,E4,f4,E5,f5,E6,f6,E7,f7,E8,f8,⟨cO,eY,eZ,fh,fi,fj,fk,fl,dP,fm,fn,f0,f9,fb,fc,fd,fe,ff,fg⟩,⟨cm,cn,co,cp,cq,cr,ct,cu⟩⟩:=cM;have aq:∀{D:Type} {sz:Nat} {enc:D->Nat->Value} {A:Option Addr} {ds:List D},Sl w1.drew w.heap.size sz enc A ds->Sl w w.heap.size sz enc A ds:=fun h=>h.keep (fun _ M=>(aW.cell M).symm) (Nat.le_refl _);have eq:=hide (aq cm);have dk:=hide (aq cn);have dl:=hide (aq co);have dm:=hide (aq cp);have dn:=hide (aq cq);have dp:=hide (aq cr);have dq:=hide (aq ct);have dr:=hide (aq cu);have et:=bf.cell;have dh:=hide bf;have dg:=hide bJ;generalize dN:cs.toArray=pc at*;have dO:=hide cL;obtain⟨dS,cQ,dT,dU,dV,dW,dX,dY⟩:=hs;have dZ:=hide (show r.Small from⟨dS,cQ,dT,dU,dV,dW,dX,dY⟩);have fo:=hide hr;have eG:=dx;have dK:=hide (show i<p.rules.length from dz);obtain⟨ns,bZ⟩:∃n,n=p.states.length:=⟨_,rfl⟩;obtain⟨nm,bY⟩:∃n,n=p.messages.length:=⟨_,rfl⟩;obtain⟨nv,c0⟩:∃n,n=p.values.length:=⟨_,rfl⟩;have ep:=hide (show ns=p.states.length/\nm=p.messages.length/\nv=p.values.length from⟨bZ,bY,c0⟩);rw [<-bZ] at c9 dH ⊢;rw [<-bY] at dL dI ⊢;rw [<-c0] at dM dJ ⊢;obtain⟨EV,ck⟩:∃e,Hid (BC nameOK p.topo (ns:Int) (nm:Int) (nv:Int) false r=e):=⟨_,rfl⟩;rw [ck.out];subst hA;clear dy hC dB dC bk bl aW cf cg ch bf bJ cL dN hr h h7 bZ bY c0 hT bc cm cn co cp cq cr ct cu aq;have di:=hide (show KOK nameOK p.topo r from⟨cK.out,cJ.out,bo,cb.out⟩);have dt:=hide (DF cb.out);have cG:∀E,Below w.heap.size w E->Calls Tryz.prog 137 #[.slice E3 r.ex.length f3,.int .i64 (ns:Int)] E (Ret fun v w'=>v=.int .i64 (Aa r.ex (ns:Int))/\Below E.heap.size E w'):=fun E Z=>B0 (by omega) (dl.out.keep (fun _ M=>Z.cell M) Z.size);have bb:∀E,Below w.heap.size w E->Calls Tryz.prog 137 #[.slice E4 r.fa.length f4,.int .i64 (ns:Int)] E (Ret fun v w'=>v=.int .i64 (Aa r.fa (ns:Int))/\Below E.heap.size E w'):=fun E Z=>B0 (by omega) (dm.out.keep (fun _ M=>Z.cell M) Z.size);have ay:∀E,Below w.heap.size w E->Calls Tryz.prog 137 #[.slice E5 r.send.length f5,.int .i64 (nm:Int)] E (Ret fun v w'=>v=.int .i64 (Aa r.send (nm:Int))/\Below E.heap.size E w'):=fun E Z=>B0 (by omega) (dn.out.keep (fun _ M=>Z.cell M) Z.size);have bu:∀E,Below w.heap.size w E->Calls Tryz.prog 137 #[.slice E6 r.left.length f6,.int .i64 (ns:Int)] E (Ret fun v w'=>v=.int .i64 (Aa r.left (ns:Int))/\Below E.heap.size E w'):=fun E Z=>B0 (by omega) (dp.out.keep (fun _ M=>Z.cell M) Z.size);have bC:∀E,Below w.heap.size w E->Calls Tryz.prog 137 #[.slice E7 r.right.length f7,.int .i64 (ns:Int)] E (Ret fun v w'=>v=.int .i64 (Aa r.right (ns:Int))/\Below E.heap.size E w'):=fun E Z=>B0 (by omega) (dq.out.keep (fun _ M=>Z.cell M) Z.size);have bz:∀E,Below w.heap.size w E->Calls Tryz.prog 137 #[.slice E8 r.parent.length f8,.int .i64 (ns:Int)] E (Ret fun v w'=>v=.int .i64 (Aa r.parent (ns:Int))/\Below E.heap.size E w'):=fun E Z=>B0 (by omega) (dr.out.keep (fun _ M=>Z.cell M) Z.size);have eH:decide (r.kind<=3)=(p.topo==1):=by cases h1:decide (r.kind<=3) <;> cases h2:(p.topo==1) <;> simp [h1,h2] at bo ⊢
 have eI:=hide bo;clear bo;go_enter Tryz.func164,Tryz.ntmps164;go_wp2_with fail;refine Reg.cI [0,1,0,7,15,0,32,96,0,287,1023] [0,1,2,3,4,5,6,7,8,9,10] ?_;refine Reg.wI [0,1,2,3,4,5,6,7,8] [9,10] rfl fun Qf ao=>?_;go_wp2_with fail;first|refine ao _ _ ⟨rfl,?_⟩|refine⟨rfl,?_⟩|refine ao _ _ ⟨by simp [Reg.fineT,Reg.intOp,Region.wanted,yielded,Reg.intFine,Reg.isInt,Act.eval],?_⟩
 (try clear ao);refine Reg.aI 9 [10] [6] rfl fun Qf ao=>?_;simp only [gT,gS,gZ];go_wp2_with fail;first|refine ao _ _ ⟨?_,?_⟩|refine⟨?_,?_⟩
 ·intro z hz q hq;simp only [List.mem_cons,List.not_mem_nil,or_false] at hz;subst hz;injection hq with hq
  subst hq;exact Reg.same_load1 rfl rfl (((dh.out.kept ((Ac.refl _ (fun _=>False)).alloc _) id).cell 2).trans c9) ((dg.out.cell 2).trans c9) Tryz.underlying22 rfl
 (try clear ao);refine Reg.wI [10] [] rfl fun Qf ao=>?_;go_wp2_with fail;first|refine ao _ _ ⟨rfl,?_⟩|refine⟨rfl,?_⟩|refine ao _ _ ⟨by simp [Reg.fineT,Reg.intOp,Region.wanted,yielded,Reg.intFine,Reg.isInt,Act.eval],?_⟩
 (try clear ao);first|refine Reg.restI_end ?_|skip
 have dQ:=hide cO;clear cO e0 dF;have eu:=bM.out.b2.cell;have eA:=bM.out.b5.cell;go_wp2_with fail;go_wp2_with (go_at_call 136;refine Calls.ret (Cm r.name _ (by omega)) ?_;rintro v w3 ⟨rfl,bP⟩;rw [cK.out];have bN:=hide (bM.out.at bP);have ev:=bN.out.b2.cell;have eB:=bN.out.b5.cell;have cz:=hide (aV.out.trans (bP.mono aV.out.size));clear bP);go_loopw [7] (fun ii wr=>∃(k:Nat),ii=.int .i64 (k:Int)/\k<=i/\Hid (Below w3.heap.size w3 wr)/\Hid ((p.rules.take k).all (fun x=>!decide (x.name=r.name))=true)) (fun ii _=>i - (intOf ii).toNat)
 case atStart=>exact⟨0,rfl,Nat.zero_le _,Below.refl _ _,by show _=_;simp⟩
 case round=>
  obtain⟨k,rfl,hk,bm,hE⟩:=hrel;have aG:=hide (bN.out.at bm.out);have ew:=aG.out.b2.cell;have eC:=aG.out.b5.cell;have bi:=hide (cz.out.trans (bm.out.mono cz.out.size));by_cases dG:k<i
  ·obtain⟨x,Z⟩:∃x,p.rules[k]?=some x:=⟨_,List.getElem?_eq_getElem (by have:=dK.out;omega)⟩;obtain⟨b',fs,xc,ce,es,ci,cF,-⟩:=Du (dj.out.keep (w':=wr) (B':=w.heap.size) (R':=AW wr w.heap.size) (fun _ M=>bi.out.cell M) (fun _ _ h=>h.keep (fun _ M=>bi.out.cell M) (Nat.le_refl _)) (Nat.le_refl _)) Z;have e1:=Option.some.inj ce;injection e1 with e1 e2 _
   subst e1 e2;have be:=ci.is.cells;simp only [Array.toArray_toList] at be;obtain⟨-,-,-,-,-,-,-,-,-,-,-,-,-,-,-,-,⟨-,be,-⟩,-⟩:=be;have e6:=cF 0 _ be;simp only [Nat.add_zero] at e6;have cR:=hide Z;clear cF ci Z be ce;by_cases bg:x.name=r.name
   ·exfalso;have h1:=e3.out;rw [List.any_eq_false] at h1;refine h1 x (List.mem_of_getElem? (i:=k) ?_) (decide_eq_true bg);rw [List.getElem?_take,if_pos dG];exact cR.out
   ·have hq:(x.name.toList==r.name.toList)=false:=by rw [DM];exact decide_eq_false bg
    have c8:=hide (Cq (p:=fun x:Az=>!decide (x.name=r.name)) cR.out hE.out (by simp [bg]));have dv:=hide (bm.out.trans ((Ap wr).mono bm.out.size));clear bg;go_wp2_with fail;refine Reg.cP [0,1,0,7,15,31,0,64,255] ?_;go_wp2_with fail;exact⟨⟨k+1,by go_num,by omega,dv.out,c8.out⟩,by simp [intOf];omega⟩
  ·clear hE;have bL:=hide (ck.out.symm.trans (Se di.out ax));have q1:(r.kind==1)=true:=by rw [ax];rfl
   have q2:(r.kind==2)=false:=by rw [ax];rfl
   have q3:(r.kind==3)=false:=by rw [ax];rfl
   have q4:(r.kind==4)=false:=by rw [ax];rfl
   have q5:(r.kind==5)=false:=by rw [ax];rfl
   have fu:(r.kind==2||r.kind==5)=false:=by rw [q2,q5];rfl
   have dE:=hide ax;clear ax;have ah:=hide (show r.left=[]/\r.right=[]/\r.parent=[] from dt.out.l (by rw [dE.out];decide));have eK:=Ah aG.out.b2 dO.out;have eL:=Ah aG.out.b5 dQ.out
   go_wp2_with (first
    | (go_at_call 138;refine(Aq _ _ _ _).mono ?_;rintro e w' ⟨rfl,rfl⟩;rw [cJ.out])
    | (go_at_call 188;refine Calls.ret (FD aG.out.pr aG.out.ru dZ.out) ?_;rintro v w5 ⟨rfl,bQ⟩;rw [cb.out];have bO:=hide (aG.out.at bQ);have ey:=bO.out.b2.cell;have eD:=bO.out.b5.cell;have bj:=hide (bi.out.trans (bQ.mono bi.out.size));clear bQ))
   obtain⟨ng,bX⟩:∃n,n=r.guards.length:=⟨_,rfl⟩;rw [<-bX] at dP cQ;have bx:=hide bX;clear bX;cases br:inC r.fr 0 ((ns:Int) - 1)
   case false=>
    have aQ:=hide br;clear br;refine(Aq _ _ _ _).mono ?_;rintro e w' ⟨rfl,rfl⟩;rw [aQ.out];go_wp2_with fail;go_ret;exact⟨congrArg (Value.int .i64) (bL.out.trans (by rw [show inN r.fr (ns:Int)=false from aQ.out];rfl)).symm,bj.out⟩
   have aQ:=hide br;clear br;refine(Aq _ _ _ _).mono ?_;rintro e w' ⟨rfl,rfl⟩;rw [aQ.out];go_wp2_with fail;cases bD:inC r.to 0 ((ns:Int) - 1)
   case false=>
    have b6:=hide bD;clear bD;refine(Aq _ _ _ _).mono ?_;rintro e w' ⟨rfl,rfl⟩;rw [b6.out];go_wp2_with fail;go_ret;exact⟨congrArg (Value.int .i64) (bL.out.trans (by rw [show inN r.fr (ns:Int)=true from aQ.out,show inN r.to (ns:Int)=false from b6.out];rfl)).symm,bj.out⟩
   have b6:=hide bD;clear bD;refine(Aq _ _ _ _).mono ?_;rintro e w' ⟨rfl,rfl⟩;rw [b6.out];go_wp2_with fail;have bh:=hide (show EV=orE (Aj (B7 (nm:Int)) r.guards) (orE (Ad (decide (2<r.guards.length)) 4) (orE (Aa r.ex (ns:Int)) (orE (Aa r.fa (ns:Int)) (orE (Ad (!AO r.rd (nv:Int)||!AO r.wr (nv:Int)) 5) (Aa r.send (nm:Int)))))) from bL.out.trans (by rw [show inN r.fr (ns:Int)=true from aQ.out,show inN r.to (ns:Int)=true from b6.out];rfl));go_loopw [10] (fun ii wr=>∃(k:Nat),ii=.int .i64 (k:Int)/\k<=ng/\Hid (Below w5.heap.size w5 wr)/\Hid (Aj (B7 (nm:Int)) (r.guards.take k)=0)) (fun ii _=>ng - (intOf ii).toNat)
   case atStart=>exact⟨0,rfl,Nat.zero_le _,Below.refl _ _,by show _=_;rfl⟩
   case round=>
    obtain⟨k,rfl,hk,bn,aU⟩:=hrel;have b8:=hide (bO.out.at bn.out);have ez:=b8.out.b2.cell;have eE:=b8.out.b5.cell;have ap:=hide (bj.out.trans (bn.out.mono bj.out.size));by_cases eO:k<ng
    ·obtain⟨b2,cT,g,df,aq,hg,cE⟩:=(dk.out.keep (w':=wr) (B':=w.heap.size) (fun _ M=>ap.out.cell M) (Nat.le_refl _)).at (k:=k) (by have:=bx.out;omega);have eN:(loadCellsFrom ⟨b2,cT+k*6,none⟩ 0 6 #[]).run Tryz.prog wr=.ok #[.int .i64 g.msg,.int .i64 g.coef,.int .i64 g.bound.c,.int .i64 g.bound.n,.int .i64 g.bound.t,.int .i64 g.bound.f] wr:=by
      have:=run_loadCells_list (P:=Tryz.prog) wr ⟨b2,cT+k*6,none⟩ (C4 g) (fun k v U=>by
       rw [Addr.add_mid];have hk:=AP U;rw [cE k hk]
       match k,hk,U with
       | 0,_,U=>exact congrArg some (Option.some.inj U)
       | 1,_,U=>exact congrArg some (Option.some.inj U)
       | 2,_,U=>exact congrArg some (Option.some.inj U)
       | 3,_,U=>exact congrArg some (Option.some.inj U)
       | 4,_,U=>exact congrArg some (Option.some.inj U)
       | 5,_,U=>exact congrArg some (Option.some.inj U))
      simpa [loadCells,C4] using this
     obtain⟨w7,e5,ag,bK,dD⟩:=Ae wr #[.int .i64 g.msg,.int .i64 g.coef,.int .i64 g.bound.c,.int .i64 g.bound.n,.int .i64 g.bound.t,.int .i64 g.bound.f] 208;have fp:∀c:Array Value,c.size=6->(storeCells ⟨wr.heap.size,0,none⟩ [.int .i64 g.msg,.int .i64 g.coef,.int .i64 g.bound.c,.int .i64 g.bound.n,.int .i64 g.bound.t,.int .i64 g.bound.f] 0).run Tryz.prog (wr.alloc (.cells c 208))=.ok () w7:=fun c hc=>by rw [<-e5];exact Dv wr 208 6 (by kernel_rfl) (rc:=#[.int .i64 g.msg,.int .i64 g.coef,.int .i64 g.bound.c,.int .i64 g.bound.n,.int .i64 g.bound.t,.int .i64 g.bound.f]) rfl (by simp [Value.oneCell']) c hc
     have eF:=bK.cell;have eM:(loadCellsFrom ⟨wr.heap.size,2,none⟩ 0 4 #[]).run Tryz.prog w7=.ok #[.int .i64 g.bound.c,.int .i64 g.bound.n,.int .i64 g.bound.t,.int .i64 g.bound.f] w7:=by
      have:=run_loadCells_list (P:=Tryz.prog) w7 ⟨wr.heap.size,2,none⟩ [.int .i64 g.bound.c,.int .i64 g.bound.n,.int .i64 g.bound.t,.int .i64 g.bound.f] (fun j v U=>by
       rw [Addr.add_mid,bK.cell];have hj:=AP U
       match j,hj,U with
       | 0,_,U=>exact congrArg some (Option.some.inj U)
       | 1,_,U=>exact congrArg some (Option.some.inj U)
       | 2,_,U=>exact congrArg some (Option.some.inj U)
       | 3,_,U=>exact congrArg some (Option.some.inj U))
      simpa [loadCells] using this
     have bs:=hide hg;have ab:=hide (b8.out.at ag);have cB:=ab.out.b2.cell;have cD:=ab.out.b5.cell;have W:=hide (ap.out.trans (ag.mono ap.out.size));have cA:=hide (bn.out.trans (ag.mono bn.out.size));clear ag;subst df;clear cE hg dD bK;go_wp2_with fail;cases bw:inC g.msg 0 ((nm:Int) - 1)
     case false=>
      have az:=hide bw;clear bw;have bd:=hide (show Aj (B7 (nm:Int)) r.guards=5 from by
       have h1:B7 (nm:Int) g=5:=by
        unfold B7;rw [C5,az.out];rfl
       rw [Ct (B7 (nm:Int)) bs.out aU.out (by rw [h1];decide),h1])
      refine(Aq _ _ _ _).mono ?_;rintro e w' ⟨rfl,rfl⟩;rw [az.out];go_wp2_with fail;go_ret;exact⟨congrArg (Value.int .i64) (bh.out.trans (by rw [bd.out];rfl)).symm,W.out⟩
     have az:=hide bw;clear bw;refine(Aq _ _ _ _).mono ?_;rintro e w' ⟨rfl,rfl⟩;rw [az.out];go_wp2_with fail;cases bp:inC g.coef 1 100
     case false=>
      have aP:=hide bp;clear bp;have bd:=hide (show Aj (B7 (nm:Int)) r.guards=1 from by
       have h1:B7 (nm:Int) g=1:=by
        unfold B7;rw [C5,az.out,show(decide (1<=g.coef)&&decide (g.coef<=100))=false from aP.out];rfl
       rw [Ct (B7 (nm:Int)) bs.out aU.out (by rw [h1];decide),h1])
      refine(Aq _ _ _ _).mono ?_;rintro e w' ⟨rfl,rfl⟩;rw [aP.out];go_wp2_with fail;go_ret;exact⟨congrArg (Value.int .i64) (bh.out.trans (by rw [bd.out];rfl)).symm,W.out⟩
     have aP:=hide bp;clear bp;refine(Aq _ _ _ _).mono ?_;rintro e w' ⟨rfl,rfl⟩;rw [aP.out];go_wp2_with fail;cases bv:Bg g.bound
     case false=>
      have b4:=hide bv;clear bv;have bd:=hide (show Aj (B7 (nm:Int)) r.guards=4 from by
       have h1:B7 (nm:Int) g=4:=by
        unfold B7;rw [C5,az.out,show(decide (1<=g.coef)&&decide (g.coef<=100))=true from aP.out,b4.out];rfl
       rw [Ct (B7 (nm:Int)) bs.out aU.out (by rw [h1];decide),h1])
      refine Calls.ret (Gv g.bound _) ?_;rintro v w8 ⟨rfl,J⟩;rw [b4.out];have O:=hide (ab.out.at J);have b9:=O.out.b2.cell;have ba:=O.out.b5.cell;have C:=hide (W.out.trans (J.mono W.out.size));clear J;go_wp2_with fail;go_ret;exact⟨congrArg (Value.int .i64) (bh.out.trans (by rw [bd.out];rfl)).symm,C.out⟩
     have b4:=hide bv;clear bv;have c8:=hide (show Aj (B7 (nm:Int)) (r.guards.take (k+1))=0 from by
      rw [CD (B7 (nm:Int)) bs.out aU.out];unfold B7;rw [C5,az.out,show(decide (1<=g.coef)&&decide (g.coef<=100))=true from aP.out,b4.out];rfl)
     refine Calls.ret (Gv g.bound _) ?_;rintro v w8 ⟨rfl,J⟩;rw [b4.out];have du:=hide (cA.out.trans (J.mono cA.out.size));clear J;go_wp2_with fail;exact⟨⟨k+1,by go_num,by omega,du.out,c8.out⟩,by simp [intOf];omega⟩
    ·have cw:=hide (show EV=orE (Ad (decide (2<r.guards.length)) 4) (orE (Aa r.ex (ns:Int)) (orE (Aa r.fa (ns:Int)) (orE (Ad (!AO r.rd (nv:Int)||!AO r.wr (nv:Int)) 5) (Aa r.send (nm:Int))))) from bh.out.trans (by
      have h1:=aU.out;rw [List.take_of_length_le (by have:=bx.out;omega)] at h1;rw [h1];rfl))
     clear aU;by_cases eJ:2<ng
     case pos=>
      have Q2:(2:Int)<(ng:Int):=by omega
      go_wp2_with fail;go_ret;exact⟨congrArg (Value.int .i64) (cw.out.trans (by rw [decide_eq_true (show 2<r.guards.length by have:=bx.out;omega)];rfl)).symm,ap.out⟩
     have Q2:¬(2:Int)<(ng:Int):=by omega
     have cx:=hide (show EV=orE (Aa r.ex (ns:Int)) (orE (Aa r.fa (ns:Int)) (orE (Ad (!AO r.rd (nv:Int)||!AO r.wr (nv:Int)) 5) (Aa r.send (nm:Int)))) from cw.out.trans (by rw [decide_eq_false (show ¬2<r.guards.length by have:=bx.out;omega)];rfl));go_wp2_with fail;obtain⟨bG,bq⟩:∃e,Hid (Aa r.ex (ns:Int)=e):=⟨_,rfl⟩;by_cases aS:bG=0
     case neg=>
      have e9:(bG != 0)=true:=by simp [aS]
      have H0:=hide aS;clear aS;refine Calls.ret (cG _ ap.out) ?_;rintro v w7 ⟨rfl,ag⟩;rw [bq.out];have ab:=hide (b8.out.at ag);have cB:=ab.out.b2.cell;have cD:=ab.out.b5.cell;have W:=hide (ap.out.trans (ag.mono ap.out.size));clear ag;go_wp2_with fail;go_ret;exact⟨congrArg (Value.int .i64) (cx.out.trans (by rw [bq.out];exact BF H0.out)).symm,W.out⟩
     have e9:(bG != 0)=false:=by simp [aS]
     have d2:=hide aS;clear aS;have cy:=hide (show EV=orE (Aa r.fa (ns:Int)) (orE (Ad (!AO r.rd (nv:Int)||!AO r.wr (nv:Int)) 5) (Aa r.send (nm:Int))) from cx.out.trans (by rw [bq.out,d2.out];rfl));refine Calls.ret (cG _ ap.out) ?_;rintro v w7 ⟨rfl,ag⟩;rw [bq.out];have ab:=hide (b8.out.at ag);have cB:=ab.out.b2.cell;have cD:=ab.out.b5.cell;have W:=hide (ap.out.trans (ag.mono ap.out.size));clear ag;go_wp2_with fail;obtain⟨bH,aL⟩:∃e,Hid (Aa r.fa (ns:Int)=e):=⟨_,rfl⟩;by_cases aT:bH=0
     case neg=>
      have ea:(bH != 0)=true:=by simp [aT]
      have H0:=hide aT;clear aT;refine Calls.ret (bb _ W.out) ?_;rintro v w8 ⟨rfl,J⟩;rw [aL.out];have O:=hide (ab.out.at J);have b9:=O.out.b2.cell;have ba:=O.out.b5.cell;have C:=hide (W.out.trans (J.mono W.out.size));clear J;go_wp2_with fail;go_ret;exact⟨congrArg (Value.int .i64) (cy.out.trans (by rw [aL.out];exact BF H0.out)).symm,C.out⟩
     have ea:(bH != 0)=false:=by simp [aT]
     have d3:=hide aT;clear aT;have aw:=hide (show EV=orE (Ad (!AO r.rd (nv:Int)||!AO r.wr (nv:Int)) 5) (Aa r.send (nm:Int)) from cy.out.trans (by rw [aL.out,d3.out];rfl));by_cases aX:r.rd= -1
     case pos=>
      have d5:(r.rd != -1)=false:=by simp [aX]
      have aR:=hide aX;clear aX;have V1:=hide (show AO r.rd (nv:Int)=true from by rw [aR.out];exact DW (by omega));by_cases ae:r.wr= -1
      case pos=>
       have bE:(r.wr != -1)=false:=by simp [ae]
       have ar:=hide ae;clear ae;have V2:=hide (show AO r.wr (nv:Int)=true from by rw [ar.out];exact DW (by omega));refine Calls.ret (bb _ W.out) ?_;rintro v w8 ⟨rfl,J⟩;rw [aL.out];have O:=hide (ab.out.at J);have b9:=O.out.b2.cell;have ba:=O.out.b5.cell;have C:=hide (W.out.trans (J.mono W.out.size));clear J;go_wp2_with fail;have am:=hide (show EV=Aa r.send (nm:Int) from aw.out.trans (by rw [V1.out,V2.out];rfl));obtain⟨a3,a2⟩:∃e,Hid (Aa r.send (nm:Int)=e):=⟨_,rfl⟩;by_cases G:a3=0
       case neg=>
        have aN:(a3 != 0)=true:=by simp [G]
        have H0:=hide G;clear G;refine Calls.ret (ay _ C.out) ?_;rintro v w9 ⟨rfl,F⟩;rw [a2.out];have I:=hide (O.out.at F);have aJ:=I.out.b2.cell;have aK:=I.out.b5.cell;have V:=hide (C.out.trans (F.mono C.out.size));clear F;go_wp2_with fail;go_ret;exact⟨congrArg (Value.int .i64) (am.out.trans (by rw [a2.out])).symm,V.out⟩
       have aN:(a3 != 0)=false:=by simp [G]
       have aB:=hide G;clear G;have aF:=hide (show EV=0 from am.out.trans (by rw [a2.out,aB.out]));refine Calls.ret (ay _ C.out) ?_;rintro v w9 ⟨rfl,F⟩;rw [a2.out];have I:=hide (O.out.at F);have aJ:=I.out.b2.cell;have aK:=I.out.b5.cell;have V:=hide (C.out.trans (F.mono C.out.size));clear F;go_wp2_with fail;have aC:=hide (show Aa r.left (ns:Int)=0 from by rw [ah.out.1];rfl);refine Calls.ret (bu _ V.out) ?_;rintro v wa ⟨rfl,a8⟩;rw [aC.out];have a4:=hide (I.out.at a8);have bR:=a4.out.b2.cell;have bU:=a4.out.b5.cell;have a6:=hide (V.out.trans (a8.mono V.out.size));clear a8;go_wp2_with fail;have aE:=hide (show Aa r.right (ns:Int)=0 from by rw [ah.out.2.1];rfl);refine Calls.ret (bC _ a6.out) ?_;rintro v wb ⟨rfl,a9⟩;rw [aE.out];have a5:=hide (a4.out.at a9);have bS:=a5.out.b2.cell;have bV:=a5.out.b5.cell;have a7:=hide (a6.out.trans (a9.mono a6.out.size));clear a9;go_wp2_with fail;have aD:=hide (show Aa r.parent (ns:Int)=0 from by rw [ah.out.2.2];rfl);refine Calls.ret (bz _ a7.out) ?_;rintro v wc ⟨rfl,aa⟩;rw [aD.out];have an:=hide (a5.out.at aa);have bT:=an.out.b2.cell;have bW:=an.out.b5.cell;have aH:=hide (a7.out.trans (aa.mono a7.out.size));clear aa;go_wp2_with fail;go_ret;exact⟨congrArg (Value.int .i64) (aF.out).symm,aH.out⟩
      have bE:(r.wr != -1)=true:=by simp [ae]
      have ar:=hide ae;clear ae;refine Calls.ret (bb _ W.out) ?_;rintro v w8 ⟨rfl,J⟩;rw [aL.out];have O:=hide (ab.out.at J);have b9:=O.out.b2.cell;have ba:=O.out.b5.cell;have C:=hide (W.out.trans (J.mono W.out.size));clear J;go_wp2_with fail;cases av:inC r.wr 0 ((nv:Int) - 1)
      case false=>
       have ak:=hide av;clear av;have V2:=hide (show AO r.wr (nv:Int)=false from(Cd ar.out).trans ak.out);refine(Aq _ _ _ _).mono ?_;rintro e w' ⟨rfl,rfl⟩;rw [ak.out];go_wp2_with fail;go_ret;exact⟨congrArg (Value.int .i64) (aw.out.trans (by rw [V1.out,V2.out];rfl)).symm,C.out⟩
      have ak:=hide av;clear av;have V2:=hide (show AO r.wr (nv:Int)=true from(Cd ar.out).trans ak.out);refine(Aq _ _ _ _).mono ?_;rintro e w' ⟨rfl,rfl⟩;rw [ak.out];go_wp2_with fail;have am:=hide (show EV=Aa r.send (nm:Int) from aw.out.trans (by rw [V1.out,V2.out];rfl));obtain⟨a3,a2⟩:∃e,Hid (Aa r.send (nm:Int)=e):=⟨_,rfl⟩;by_cases G:a3=0
      case neg=>
       have aN:(a3 != 0)=true:=by simp [G]
       have H0:=hide G;clear G;refine Calls.ret (ay _ C.out) ?_;rintro v w9 ⟨rfl,F⟩;rw [a2.out];have I:=hide (O.out.at F);have aJ:=I.out.b2.cell;have aK:=I.out.b5.cell;have V:=hide (C.out.trans (F.mono C.out.size));clear F;go_wp2_with fail;go_ret;exact⟨congrArg (Value.int .i64) (am.out.trans (by rw [a2.out])).symm,V.out⟩
      have aN:(a3 != 0)=false:=by simp [G]
      have aB:=hide G;clear G;have aF:=hide (show EV=0 from am.out.trans (by rw [a2.out,aB.out]));refine Calls.ret (ay _ C.out) ?_;rintro v w9 ⟨rfl,F⟩;rw [a2.out];have I:=hide (O.out.at F);have aJ:=I.out.b2.cell;have aK:=I.out.b5.cell;have V:=hide (C.out.trans (F.mono C.out.size));clear F;go_wp2_with fail;have aC:=hide (show Aa r.left (ns:Int)=0 from by rw [ah.out.1];rfl);refine Calls.ret (bu _ V.out) ?_;rintro v wa ⟨rfl,a8⟩;rw [aC.out];have a4:=hide (I.out.at a8);have bR:=a4.out.b2.cell;have bU:=a4.out.b5.cell;have a6:=hide (V.out.trans (a8.mono V.out.size));clear a8;go_wp2_with fail;have aE:=hide (show Aa r.right (ns:Int)=0 from by rw [ah.out.2.1];rfl);refine Calls.ret (bC _ a6.out) ?_;rintro v wb ⟨rfl,a9⟩;rw [aE.out];have a5:=hide (a4.out.at a9);have bS:=a5.out.b2.cell;have bV:=a5.out.b5.cell;have a7:=hide (a6.out.trans (a9.mono a6.out.size));clear a9;go_wp2_with fail;have aD:=hide (show Aa r.parent (ns:Int)=0 from by rw [ah.out.2.2];rfl);refine Calls.ret (bz _ a7.out) ?_;rintro v wc ⟨rfl,aa⟩;rw [aD.out];have an:=hide (a5.out.at aa);have bT:=an.out.b2.cell;have bW:=an.out.b5.cell;have aH:=hide (a7.out.trans (aa.mono a7.out.size));clear aa;go_wp2_with fail;go_ret;exact⟨congrArg (Value.int .i64) (aF.out).symm,aH.out⟩
     have d5:(r.rd != -1)=true:=by simp [aX]
     have aR:=hide aX;clear aX;by_cases ae:r.wr= -1
     case pos=>
      have bE:(r.wr != -1)=false:=by simp [ae]
      have ar:=hide ae;clear ae;have V2:=hide (show AO r.wr (nv:Int)=true from by rw [ar.out];exact DW (by omega));refine Calls.ret (bb _ W.out) ?_;rintro v w8 ⟨rfl,J⟩;rw [aL.out];have O:=hide (ab.out.at J);have b9:=O.out.b2.cell;have ba:=O.out.b5.cell;have C:=hide (W.out.trans (J.mono W.out.size));clear J;go_wp2_with fail;cases au:inC r.rd 0 ((nv:Int) - 1)
      case false=>
       have aj:=hide au;clear au;have V1:=hide (show AO r.rd (nv:Int)=false from(Cd aR.out).trans aj.out);refine(Aq _ _ _ _).mono ?_;rintro e w' ⟨rfl,rfl⟩;rw [aj.out];go_wp2_with fail;go_ret;exact⟨congrArg (Value.int .i64) (aw.out.trans (by rw [V1.out];rfl)).symm,C.out⟩
      have aj:=hide au;clear au;have V1:=hide (show AO r.rd (nv:Int)=true from(Cd aR.out).trans aj.out);refine(Aq _ _ _ _).mono ?_;rintro e w' ⟨rfl,rfl⟩;rw [aj.out];go_wp2_with fail;have am:=hide (show EV=Aa r.send (nm:Int) from aw.out.trans (by rw [V1.out,V2.out];rfl));obtain⟨a3,a2⟩:∃e,Hid (Aa r.send (nm:Int)=e):=⟨_,rfl⟩;by_cases G:a3=0
      case neg=>
       have aN:(a3 != 0)=true:=by simp [G]
       have H0:=hide G;clear G;refine Calls.ret (ay _ C.out) ?_;rintro v w9 ⟨rfl,F⟩;rw [a2.out];have I:=hide (O.out.at F);have aJ:=I.out.b2.cell;have aK:=I.out.b5.cell;have V:=hide (C.out.trans (F.mono C.out.size));clear F;go_wp2_with fail;go_ret;exact⟨congrArg (Value.int .i64) (am.out.trans (by rw [a2.out])).symm,V.out⟩
      have aN:(a3 != 0)=false:=by simp [G]
      have aB:=hide G;clear G;have aF:=hide (show EV=0 from am.out.trans (by rw [a2.out,aB.out]));refine Calls.ret (ay _ C.out) ?_;rintro v w9 ⟨rfl,F⟩;rw [a2.out];have I:=hide (O.out.at F);have aJ:=I.out.b2.cell;have aK:=I.out.b5.cell;have V:=hide (C.out.trans (F.mono C.out.size));clear F;go_wp2_with fail;have aC:=hide (show Aa r.left (ns:Int)=0 from by rw [ah.out.1];rfl);refine Calls.ret (bu _ V.out) ?_;rintro v wa ⟨rfl,a8⟩;rw [aC.out];have a4:=hide (I.out.at a8);have bR:=a4.out.b2.cell;have bU:=a4.out.b5.cell;have a6:=hide (V.out.trans (a8.mono V.out.size));clear a8;go_wp2_with fail;have aE:=hide (show Aa r.right (ns:Int)=0 from by rw [ah.out.2.1];rfl);refine Calls.ret (bC _ a6.out) ?_;rintro v wb ⟨rfl,a9⟩;rw [aE.out];have a5:=hide (a4.out.at a9);have bS:=a5.out.b2.cell;have bV:=a5.out.b5.cell;have a7:=hide (a6.out.trans (a9.mono a6.out.size));clear a9;go_wp2_with fail;have aD:=hide (show Aa r.parent (ns:Int)=0 from by rw [ah.out.2.2];rfl);refine Calls.ret (bz _ a7.out) ?_;rintro v wc ⟨rfl,aa⟩;rw [aD.out];have an:=hide (a5.out.at aa);have bT:=an.out.b2.cell;have bW:=an.out.b5.cell;have aH:=hide (a7.out.trans (aa.mono a7.out.size));clear aa;go_wp2_with fail;go_ret;exact⟨congrArg (Value.int .i64) (aF.out).symm,aH.out⟩
     have bE:(r.wr != -1)=true:=by simp [ae]
     have ar:=hide ae;clear ae;refine Calls.ret (bb _ W.out) ?_;rintro v w8 ⟨rfl,J⟩;rw [aL.out];have O:=hide (ab.out.at J);have b9:=O.out.b2.cell;have ba:=O.out.b5.cell;have C:=hide (W.out.trans (J.mono W.out.size));clear J;go_wp2_with fail;cases au:inC r.rd 0 ((nv:Int) - 1)
     case false=>
      have aj:=hide au;clear au;have V1:=hide (show AO r.rd (nv:Int)=false from(Cd aR.out).trans aj.out);refine(Aq _ _ _ _).mono ?_;rintro e w' ⟨rfl,rfl⟩;rw [aj.out];go_wp2_with fail;go_ret;exact⟨congrArg (Value.int .i64) (aw.out.trans (by rw [V1.out];rfl)).symm,C.out⟩
     have aj:=hide au;clear au;have V1:=hide (show AO r.rd (nv:Int)=true from(Cd aR.out).trans aj.out);refine(Aq _ _ _ _).mono ?_;rintro e w' ⟨rfl,rfl⟩;rw [aj.out];go_wp2_with fail;cases av:inC r.wr 0 ((nv:Int) - 1)
     case false=>
      have ak:=hide av;clear av;have V2:=hide (show AO r.wr (nv:Int)=false from(Cd ar.out).trans ak.out);refine(Aq _ _ _ _).mono ?_;rintro e w' ⟨rfl,rfl⟩;rw [ak.out];go_wp2_with fail;go_ret;exact⟨congrArg (Value.int .i64) (aw.out.trans (by rw [V1.out,V2.out];rfl)).symm,C.out⟩
     have ak:=hide av;clear av;have V2:=hide (show AO r.wr (nv:Int)=true from(Cd ar.out).trans ak.out);refine(Aq _ _ _ _).mono ?_;rintro e w' ⟨rfl,rfl⟩;rw [ak.out];go_wp2_with fail;have am:=hide (show EV=Aa r.send (nm:Int) from aw.out.trans (by rw [V1.out,V2.out];rfl));obtain⟨a3,a2⟩:∃e,Hid (Aa r.send (nm:Int)=e):=⟨_,rfl⟩;by_cases G:a3=0
     case neg=>
      have aN:(a3 != 0)=true:=by simp [G]
      have H0:=hide G;clear G;refine Calls.ret (ay _ C.out) ?_;rintro v w9 ⟨rfl,F⟩;rw [a2.out];have I:=hide (O.out.at F);have aJ:=I.out.b2.cell;have aK:=I.out.b5.cell;have V:=hide (C.out.trans (F.mono C.out.size));clear F;go_wp2_with fail;go_ret;exact⟨congrArg (Value.int .i64) (am.out.trans (by rw [a2.out])).symm,V.out⟩
     have aN:(a3 != 0)=false:=by simp [G]
     have aB:=hide G;clear G;have aF:=hide (show EV=0 from am.out.trans (by rw [a2.out,aB.out]));refine Calls.ret (ay _ C.out) ?_;rintro v w9 ⟨rfl,F⟩;rw [a2.out];have I:=hide (O.out.at F);have aJ:=I.out.b2.cell;have aK:=I.out.b5.cell;have V:=hide (C.out.trans (F.mono C.out.size));clear F;go_wp2_with fail;have aC:=hide (show Aa r.left (ns:Int)=0 from by rw [ah.out.1];rfl);refine Calls.ret (bu _ V.out) ?_;rintro v wa ⟨rfl,a8⟩;rw [aC.out];have a4:=hide (I.out.at a8);have bR:=a4.out.b2.cell;have bU:=a4.out.b5.cell;have a6:=hide (V.out.trans (a8.mono V.out.size));clear a8;go_wp2_with fail;have aE:=hide (show Aa r.right (ns:Int)=0 from by rw [ah.out.2.1];rfl);refine Calls.ret (bC _ a6.out) ?_;rintro v wb ⟨rfl,a9⟩;rw [aE.out];have a5:=hide (a4.out.at a9);have bS:=a5.out.b2.cell;have bV:=a5.out.b5.cell;have a7:=hide (a6.out.trans (a9.mono a6.out.size));clear a9;go_wp2_with fail;have aD:=hide (show Aa r.parent (ns:Int)=0 from by rw [ah.out.2.2];rfl);refine Calls.ret (bz _ a7.out) ?_;rintro v wc ⟨rfl,aa⟩;rw [aD.out];have an:=hide (a5.out.at aa);have bT:=an.out.b2.cell;have bW:=an.out.b5.cell;have aH:=hide (a7.out.trans (aa.mono a7.out.size));clear aa;go_wp2_with fail;go_ret;exact⟨congrArg (Value.int .i64) (aF.out).symm,aH.out⟩
end Go.Proofs.YtjejejmeddkciaaGreatDoor.K
