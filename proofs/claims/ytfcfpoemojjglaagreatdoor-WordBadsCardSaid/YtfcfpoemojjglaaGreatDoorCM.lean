/-
  Part CM of a proof.
-/
import Derived.Test.YtfcfpoemojjglaaGreatDoorPA
import Derived.Test.YtfcfpoemojjglaaGreatDoorCJ
import Derived.Test.YtfcfpoemojjglaaGreatDoorCI
set_option maxHeartbeats 16000000
set_option maxRecDepth 100000
set_option linter.unusedVariables false
set_option linter.unusedSimpArgs false
namespace Go.Proofs.YtfcfpoemojjglaaGreatDoor.K
open Go.RowKit
attribute [-go_sem] loadCellsFrom storeCells
theorem SF {w:World} {cs:List Value} {p:Am} {r:Az} {i:Nat} (h:At w w.heap.size cs p) (hr:p.rules[i]?=some r) (hs:r.Small) (eR:r.name.size<=500) (ba:p.Small) (hT:SpOK w) (e4:Hid (((p.rules.take i).any fun x=>decide (x.name=r.name))=false)) (cL:Hid (nameOK r.name=true)) (cK:Hid (inC r.kind 1 5=true)) (bo:(decide (r.kind<=3) != (p.topo==1))=false) (cb:Hid (B9 p.topo r=false)) (av:r.kind=1):
  Calls Tryz.prog 138 #[.agg cs.toArray,.int .i64 (i:Int)] w (Ret fun v w'=>v=.int .i64 (BC nameOK p.topo (p.states.length:Int) (p.messages.length:Int) (p.values.length:Int) false r)/\Below w.heap.size w w'):=by
 obtain⟨A1,c1,A2,c2,A3,c3,A4,c4,A5,c5,A6,c6,A7,c7,cM,eS,eT,c9,dM,dN,eU,eV,eW,eX,eY,-,-,-,-,-,-,h7,dy⟩:=h.cells;have dA:=AP hr;have dI:=ba.states;have dJ:=ba.messages;have dK:=ba.values;have eQ:=ba.rules;have dk:=hide h7;obtain⟨w1,fs,bk,cg,dC⟩:=Ae w cs.toArray 27;have aU:=bk.trans ((Ap w1).mono bk.size);have bf:Blk w1.drew w.heap.size 27 cs.toArray:=cg;obtain⟨b,ft,rc,hA,eq,hC,dz,dG⟩:=Du (h7.keep (w':=w1.drew) (B':=w.heap.size) (R':=AW w1.drew w.heap.size) (fun _ I=>aU.cell I) (fun _ _ h=>h.keep (fun _ I=>aU.cell I) (Nat.le_refl _)) (Nat.le_refl _)) hr;obtain⟨w2,e5,bl,ch,dD⟩:=Ae w1.drew rc 99;have ci:Blk w2 w1.heap.size 99 rc:=ch;have ca:=Dv w1.drew 99 18 (by kernel_rfl) hC.size hC.one;rw [e5] at ca;have e3:∀c:Array Value,c.size=18->(storeCells ⟨w1.heap.size,0,none⟩ rc.toList 0).run Tryz.prog (w1.alloc (.cells c 99)).drew=.ok () w2:=ca;clear ca;have bJ:=bf.below bl;have aT:=hide (aU.trans (bl.mono aU.size));have bM:=hide (show Cp w2 w.heap.size w1.heap.size cs.toArray rc p r from⟨h.keep (fun _ I=>aT.out.cell I) aT.out.size,hC.is.keep (fun _ I=>bl.cell (by show _<w1.heap.size;have:=bk.size;omega)) aT.out.size,bJ,ci,hT.below aT.out⟩);have cO:=hC.is.cells;simp only [Array.toArray_toList] at cO;obtain⟨E1,f1,E2,f2,E3,f3,E4,f4,E5,f5,E6,f6,E7,f7,E8,f8,⟨cQ,eZ,f0,fi,fj,fk,fl,fm,dQ,fn,fo,f9,fb,fc,fd,fe,ff,fg,fh⟩,⟨cn,co,cp,cq,cr,ct,cu,cv⟩⟩:=cO;have ao:∀{D:Type} {sz:Nat} {enc:D->Nat->Value} {A:Option Addr} {ds:List D},Sl w1.drew w.heap.size sz enc A ds->Sl w w.heap.size sz enc A ds:=fun h=>h.keep (fun _ I=>(aU.cell I).symm) (Nat.le_refl _);have ep:=hide (ao cn);have dl:=hide (ao co);have dm:=hide (ao cp);have dn:=hide (ao cq);have dp:=hide (ao cr);have dq:=hide (ao ct);have dr:=hide (ao cu);have dt:=hide (ao cv);have et:=bf.cell;have di:=hide bf;have dh:=hide bJ;generalize dO:cs.toArray=pc at*;have dP:=hide cM;obtain⟨dT,cR,dU,dV,dW,dX,dY,dZ⟩:=hs;have e0:=hide (show r.Small from⟨dT,cR,dU,dV,dW,dX,dY,dZ⟩);have fp:=hide hr;have eH:=dy;have dL:=hide (show i<p.rules.length from dA);obtain⟨ns,bZ⟩:∃n,n=p.states.length:=⟨_,rfl⟩;obtain⟨nm,bY⟩:∃n,n=p.messages.length:=⟨_,rfl⟩;obtain⟨nv,c0⟩:∃n,n=p.values.length:=⟨_,rfl⟩;have eo:=hide (show ns=p.states.length/\nm=p.messages.length/\nv=p.values.length from⟨bZ,bY,c0⟩);rw [<-bZ] at c9 dI ⊢;rw [<-bY] at dM dJ ⊢;rw [<-c0] at dN dK ⊢;obtain⟨EV,cm⟩:∃e,Hid (BC nameOK p.topo (ns:Int) (nm:Int) (nv:Int) false r=e):=⟨_,rfl⟩;rw [cm.out];subst hA;clear dz hC dC dD bk bl aU cg ch ci bf bJ cM dO hr h h7 bZ bY c0 hT ba cn co cp cq cr ct cu cv ao;have dj:=hide (show KOK nameOK p.topo r from⟨cL.out,cK.out,bo,cb.out⟩);have du:=hide (DF cb.out);have cH:∀wx,Below w.heap.size w wx->Calls Tryz.prog 97 #[.slice E3 r.ex.length f3,.int .i64 (ns:Int)] wx (Ret fun v w'=>v=.int .i64 (Aa r.ex (ns:Int))/\Below wx.heap.size wx w'):=fun wx V=>B0 (by omega) (dm.out.keep (fun _ I=>V.cell I) V.size);have b9:∀wx,Below w.heap.size w wx->Calls Tryz.prog 97 #[.slice E4 r.fa.length f4,.int .i64 (ns:Int)] wx (Ret fun v w'=>v=.int .i64 (Aa r.fa (ns:Int))/\Below wx.heap.size wx w'):=fun wx V=>B0 (by omega) (dn.out.keep (fun _ I=>V.cell I) V.size);have aw:∀wx,Below w.heap.size w wx->Calls Tryz.prog 97 #[.slice E5 r.send.length f5,.int .i64 (nm:Int)] wx (Ret fun v w'=>v=.int .i64 (Aa r.send (nm:Int))/\Below wx.heap.size wx w'):=fun wx V=>B0 (by omega) (dp.out.keep (fun _ I=>V.cell I) V.size);have bu:∀wx,Below w.heap.size w wx->Calls Tryz.prog 97 #[.slice E6 r.left.length f6,.int .i64 (ns:Int)] wx (Ret fun v w'=>v=.int .i64 (Aa r.left (ns:Int))/\Below wx.heap.size wx w'):=fun wx V=>B0 (by omega) (dq.out.keep (fun _ I=>V.cell I) V.size);have bC:∀wx,Below w.heap.size w wx->Calls Tryz.prog 97 #[.slice E7 r.right.length f7,.int .i64 (ns:Int)] wx (Ret fun v w'=>v=.int .i64 (Aa r.right (ns:Int))/\Below wx.heap.size wx w'):=fun wx V=>B0 (by omega) (dr.out.keep (fun _ I=>V.cell I) V.size);have bz:∀wx,Below w.heap.size w wx->Calls Tryz.prog 97 #[.slice E8 r.parent.length f8,.int .i64 (ns:Int)] wx (Ret fun v w'=>v=.int .i64 (Aa r.parent (ns:Int))/\Below wx.heap.size wx w'):=fun wx V=>B0 (by omega) (dt.out.keep (fun _ I=>V.cell I) V.size);have eI:decide (r.kind<=3)=(p.topo==1):=by cases Z:decide (r.kind<=3) <;> cases h2:(p.topo==1) <;> simp [Z,h2] at bo ⊢
 have eJ:=hide bo;clear bo;go_enter Tryz.func138,Tryz.ntmps138;go_wp2_with fail;refine Reg.cI [0,1,0,7,15,0,32,96,0,287,1023] [0,1,2,3,4,5,6,7,8,9,10] ?_;refine Reg.wI [0,1,2,3,4,5,6,7,8] [9,10] rfl fun Qf am=>?_;go_wp2_with fail;first|refine am _ _ ⟨rfl,?_⟩|refine⟨rfl,?_⟩|refine am _ _ ⟨by simp [Reg.fineT,Reg.intOp,Region.wanted,yielded,Reg.intFine,Reg.isInt,Act.eval],?_⟩
 (try clear am);refine Reg.aI 9 [10] [6] rfl fun Qf am=>?_;simp only [gT,gS,gZ];go_wp2_with fail;first|refine am _ _ ⟨?_,?_⟩|refine⟨?_,?_⟩
 ·intro z hz q hq;simp only [List.mem_cons,List.not_mem_nil,or_false] at hz;subst hz;injection hq with hq
  subst hq;exact Reg.same_load1 rfl rfl (((di.out.kept ((Ac.refl _ (fun _=>False)).alloc _) id).cell 2).trans c9) ((dh.out.cell 2).trans c9) Tryz.underlying22 rfl
 (try clear am);refine Reg.wI [10] [] rfl fun Qf am=>?_;go_wp2_with fail;first|refine am _ _ ⟨rfl,?_⟩|refine⟨rfl,?_⟩|refine am _ _ ⟨by simp [Reg.fineT,Reg.intOp,Region.wanted,yielded,Reg.intFine,Reg.isInt,Act.eval],?_⟩
 (try clear am);first|refine Reg.restI_end ?_|skip
 have dR:=hide cQ;clear cQ e3 dG;have eu:=bM.out.b2.cell;have eA:=bM.out.b5.cell;go_wp2_with fail;go_wp2_with (go_at_call 96;refine Calls.ret (Cm r.name _ (by omega)) ?_;rintro v w3 ⟨rfl,bP⟩;rw [cL.out];have bN:=hide (bM.out.at bP);have ev:=bN.out.b2.cell;have eB:=bN.out.b5.cell;have cA:=hide (aT.out.trans (bP.mono aT.out.size));clear bP);go_loopw [7] (fun ii wr=>∃(k:Nat),ii=.int .i64 (k:Int)/\k<=i/\Hid (Below w3.heap.size w3 wr)/\Hid ((p.rules.take k).all (fun x=>!decide (x.name=r.name))=true)) (fun ii _=>i - (intOf ii).toNat)
 case atStart=>exact⟨0,rfl,Nat.zero_le _,Below.refl _ _,by show _=_;simp⟩
 case round=>
  obtain⟨k,rfl,hk,bm,hE⟩:=hrel;have aE:=hide (bN.out.at bm.out);have ew:=aE.out.b2.cell;have eD:=aE.out.b5.cell;have bi:=hide (cA.out.trans (bm.out.mono cA.out.size));by_cases dH:k<i
  ·obtain⟨x,V⟩:∃x,p.rules[k]?=some x:=⟨_,List.getElem?_eq_getElem (by have:=dL.out;omega)⟩;obtain⟨b',fu,xc,cf,er,cj,cG,-⟩:=Du (dk.out.keep (w':=wr) (B':=w.heap.size) (R':=AW wr w.heap.size) (fun _ I=>bi.out.cell I) (fun _ _ h=>h.keep (fun _ I=>bi.out.cell I) (Nat.le_refl _)) (Nat.le_refl _)) V;have e1:=Option.some.inj cf;injection e1 with e1 e2 _
   subst e1 e2;have be:=cj.is.cells;simp only [Array.toArray_toList] at be;obtain⟨-,-,-,-,-,-,-,-,-,-,-,-,-,-,-,-,⟨-,be,-⟩,-⟩:=be;have e7:=cG 0 _ be;simp only [Nat.add_zero] at e7;have cS:=hide V;clear cG cj V be cf;by_cases bg:x.name=r.name
   ·exfalso;have Z:=e4.out;rw [List.any_eq_false] at Z;refine Z x (List.mem_of_getElem? (i:=k) ?_) (decide_eq_true bg);rw [List.getElem?_take,if_pos dH];exact cS.out
   ·have hq:(x.name.toList==r.name.toList)=false:=by rw [DM];exact decide_eq_false bg
    have c8:=hide (Cq (p:=fun x:Az=>!decide (x.name=r.name)) cS.out hE.out (by simp [bg]));have dw:=hide (bm.out.trans ((Ap wr).mono bm.out.size));clear bg;go_wp2_with fail;refine Reg.cP [0,1,0,7,15,31,0,64,255] ?_;go_wp2_with fail;exact⟨⟨k+1,by go_num,by omega,dw.out,c8.out⟩,by simp [intOf];omega⟩
  ·clear hE;have bL:=hide (cm.out.symm.trans (Se dj.out av));have q1:(r.kind==1)=true:=by rw [av];rfl
   have q2:(r.kind==2)=false:=by rw [av];rfl
   have q3:(r.kind==3)=false:=by rw [av];rfl
   have q4:(r.kind==4)=false:=by rw [av];rfl
   have q5:(r.kind==5)=false:=by rw [av];rfl
   have fw:(r.kind==2||r.kind==5)=false:=by rw [q2,q5];rfl
   have dF:=hide av;clear av;have ag:=hide (show r.left=[]/\r.right=[]/\r.parent=[] from du.out.l (by rw [dF.out];decide));have eL:=Ah aE.out.b2 dP.out;have eM:=Ah aE.out.b5 dR.out
   go_wp2_with (first
    | (go_at_call 98;refine(Aq _ _ _ _).mono ?_;rintro e w' ⟨rfl,rfl⟩;rw [cK.out])
    | (go_at_call 192;refine Calls.ret (FD aE.out.pr aE.out.ru e0.out) ?_;rintro v w5 ⟨rfl,bQ⟩;rw [cb.out];have bO:=hide (aE.out.at bQ);have ey:=bO.out.b2.cell;have eE:=bO.out.b5.cell;have bj:=hide (bi.out.trans (bQ.mono bi.out.size));clear bQ))
   obtain⟨ng,bX⟩:∃n,n=r.guards.length:=⟨_,rfl⟩;rw [<-bX] at dQ cR;have bx:=hide bX;clear bX;cases br:inC r.fr 0 ((ns:Int) - 1)
   case false=>
    have aO:=hide br;clear br;refine(Aq _ _ _ _).mono ?_;rintro e w' ⟨rfl,rfl⟩;rw [aO.out];go_wp2_with fail;go_ret;exact⟨congrArg (Value.int .i64) (bL.out.trans (by rw [show inN r.fr (ns:Int)=false from aO.out];rfl)).symm,bj.out⟩
   have aO:=hide br;clear br;refine(Aq _ _ _ _).mono ?_;rintro e w' ⟨rfl,rfl⟩;rw [aO.out];go_wp2_with fail;cases bD:inC r.to 0 ((ns:Int) - 1)
   case false=>
    have b0:=hide bD;clear bD;refine(Aq _ _ _ _).mono ?_;rintro e w' ⟨rfl,rfl⟩;rw [b0.out];go_wp2_with fail;go_ret;exact⟨congrArg (Value.int .i64) (bL.out.trans (by rw [show inN r.fr (ns:Int)=true from aO.out,show inN r.to (ns:Int)=false from b0.out];rfl)).symm,bj.out⟩
   have b0:=hide bD;clear bD;refine(Aq _ _ _ _).mono ?_;rintro e w' ⟨rfl,rfl⟩;rw [b0.out];go_wp2_with fail;have bh:=hide (show EV=orE (Aj (B7 (nm:Int)) r.guards) (orE (Ad (decide (2<r.guards.length)) 4) (orE (Aa r.ex (ns:Int)) (orE (Aa r.fa (ns:Int)) (orE (Ad (!AO r.rd (nv:Int)||!AO r.wr (nv:Int)) 5) (Aa r.send (nm:Int)))))) from bL.out.trans (by rw [show inN r.fr (ns:Int)=true from aO.out,show inN r.to (ns:Int)=true from b0.out];rfl));go_loopw [10] (fun ii wr=>∃(k:Nat),ii=.int .i64 (k:Int)/\k<=ng/\Hid (Below w5.heap.size w5 wr)/\Hid (Aj (B7 (nm:Int)) (r.guards.take k)=0)) (fun ii _=>ng - (intOf ii).toNat)
   case atStart=>exact⟨0,rfl,Nat.zero_le _,Below.refl _ _,by show _=_;rfl⟩
   case round=>
    obtain⟨k,rfl,hk,bn,aS⟩:=hrel;have b6:=hide (bO.out.at bn.out);have ez:=b6.out.b2.cell;have eF:=b6.out.b5.cell;have an:=hide (bj.out.trans (bn.out.mono bj.out.size));by_cases eP:k<ng
    ·obtain⟨b2,cU,g,dg,ao,hg,cF⟩:=(dl.out.keep (w':=wr) (B':=w.heap.size) (fun _ I=>an.out.cell I) (Nat.le_refl _)).at (k:=k) (by have:=bx.out;omega);have eO:(loadCellsFrom ⟨b2,cU+k*6,none⟩ 0 6 #[]).run Tryz.prog wr=.ok #[.int .i64 g.msg,.int .i64 g.coef,.int .i64 g.bound.c,.int .i64 g.bound.n,.int .i64 g.bound.t,.int .i64 g.bound.f] wr:=by
      have:=run_loadCells_list (P:=Tryz.prog) wr ⟨b2,cU+k*6,none⟩ (C4 g) (fun k v M=>by
       rw [Addr.add_mid];have hk:=AP M;rw [cF k hk]
       match k,hk,M with
       | 0,_,M=>exact congrArg some (Option.some.inj M)
       | 1,_,M=>exact congrArg some (Option.some.inj M)
       | 2,_,M=>exact congrArg some (Option.some.inj M)
       | 3,_,M=>exact congrArg some (Option.some.inj M)
       | 4,_,M=>exact congrArg some (Option.some.inj M)
       | 5,_,M=>exact congrArg some (Option.some.inj M))
      simpa [loadCells,C4] using this
     obtain⟨w7,e6,af,bK,dE⟩:=Ae wr #[.int .i64 g.msg,.int .i64 g.coef,.int .i64 g.bound.c,.int .i64 g.bound.n,.int .i64 g.bound.t,.int .i64 g.bound.f] 217;have fq:∀c:Array Value,c.size=6->(storeCells ⟨wr.heap.size,0,none⟩ [.int .i64 g.msg,.int .i64 g.coef,.int .i64 g.bound.c,.int .i64 g.bound.n,.int .i64 g.bound.t,.int .i64 g.bound.f] 0).run Tryz.prog (wr.alloc (.cells c 217))=.ok () w7:=fun c hc=>by rw [<-e6];exact Dv wr 217 6 (by kernel_rfl) (rc:=#[.int .i64 g.msg,.int .i64 g.coef,.int .i64 g.bound.c,.int .i64 g.bound.n,.int .i64 g.bound.t,.int .i64 g.bound.f]) rfl (by simp [Value.oneCell']) c hc
     have eG:=bK.cell;have eN:(loadCellsFrom ⟨wr.heap.size,2,none⟩ 0 4 #[]).run Tryz.prog w7=.ok #[.int .i64 g.bound.c,.int .i64 g.bound.n,.int .i64 g.bound.t,.int .i64 g.bound.f] w7:=by
      have:=run_loadCells_list (P:=Tryz.prog) w7 ⟨wr.heap.size,2,none⟩ [.int .i64 g.bound.c,.int .i64 g.bound.n,.int .i64 g.bound.t,.int .i64 g.bound.f] (fun j v M=>by
       rw [Addr.add_mid,bK.cell];have hj:=AP M
       match j,hj,M with
       | 0,_,M=>exact congrArg some (Option.some.inj M)
       | 1,_,M=>exact congrArg some (Option.some.inj M)
       | 2,_,M=>exact congrArg some (Option.some.inj M)
       | 3,_,M=>exact congrArg some (Option.some.inj M))
      simpa [loadCells] using this
     have bs:=hide hg;have aa:=hide (b6.out.at af);have cD:=aa.out.b2.cell;have cE:=aa.out.b5.cell;have U:=hide (an.out.trans (af.mono an.out.size));have cB:=hide (bn.out.trans (af.mono bn.out.size));clear af;subst dg;clear cF hg dE bK;go_wp2_with fail;cases bw:inC g.msg 0 ((nm:Int) - 1)
     case false=>
      have ax:=hide bw;clear bw;have bd:=hide (show Aj (B7 (nm:Int)) r.guards=5 from by
       have Z:B7 (nm:Int) g=5:=by
        unfold B7;rw [C5,ax.out];rfl
       rw [Ct (B7 (nm:Int)) bs.out aS.out (by rw [Z];decide),Z])
      refine(Aq _ _ _ _).mono ?_;rintro e w' ⟨rfl,rfl⟩;rw [ax.out];go_wp2_with fail;go_ret;exact⟨congrArg (Value.int .i64) (bh.out.trans (by rw [bd.out];rfl)).symm,U.out⟩
     have ax:=hide bw;clear bw;refine(Aq _ _ _ _).mono ?_;rintro e w' ⟨rfl,rfl⟩;rw [ax.out];go_wp2_with fail;cases bp:inC g.coef 1 100
     case false=>
      have aN:=hide bp;clear bp;have bd:=hide (show Aj (B7 (nm:Int)) r.guards=1 from by
       have Z:B7 (nm:Int) g=1:=by
        unfold B7;rw [C5,ax.out,show(decide (1<=g.coef)&&decide (g.coef<=100))=false from aN.out];rfl
       rw [Ct (B7 (nm:Int)) bs.out aS.out (by rw [Z];decide),Z])
      refine(Aq _ _ _ _).mono ?_;rintro e w' ⟨rfl,rfl⟩;rw [aN.out];go_wp2_with fail;go_ret;exact⟨congrArg (Value.int .i64) (bh.out.trans (by rw [bd.out];rfl)).symm,U.out⟩
     have aN:=hide bp;clear bp;refine(Aq _ _ _ _).mono ?_;rintro e w' ⟨rfl,rfl⟩;rw [aN.out];go_wp2_with fail;cases bv:Bg g.bound
     case false=>
      have aZ:=hide bv;clear bv;have bd:=hide (show Aj (B7 (nm:Int)) r.guards=4 from by
       have Z:B7 (nm:Int) g=4:=by
        unfold B7;rw [C5,ax.out,show(decide (1<=g.coef)&&decide (g.coef<=100))=true from aN.out,aZ.out];rfl
       rw [Ct (B7 (nm:Int)) bs.out aS.out (by rw [Z];decide),Z])
      refine Calls.ret (Gv g.bound _) ?_;rintro v w8 ⟨rfl,G⟩;rw [aZ.out];have J:=hide (aa.out.at G);have b7:=J.out.b2.cell;have b8:=J.out.b5.cell;have d:=hide (U.out.trans (G.mono U.out.size));clear G;go_wp2_with fail;go_ret;exact⟨congrArg (Value.int .i64) (bh.out.trans (by rw [bd.out];rfl)).symm,d.out⟩
     have aZ:=hide bv;clear bv;have c8:=hide (show Aj (B7 (nm:Int)) (r.guards.take (k+1))=0 from by
      rw [CD (B7 (nm:Int)) bs.out aS.out];unfold B7;rw [C5,ax.out,show(decide (1<=g.coef)&&decide (g.coef<=100))=true from aN.out,aZ.out];rfl)
     refine Calls.ret (Gv g.bound _) ?_;rintro v w8 ⟨rfl,G⟩;rw [aZ.out];have dv:=hide (cB.out.trans (G.mono cB.out.size));clear G;go_wp2_with fail;exact⟨⟨k+1,by go_num,by omega,dv.out,c8.out⟩,by simp [intOf];omega⟩
    ·have cx:=hide (show EV=orE (Ad (decide (2<r.guards.length)) 4) (orE (Aa r.ex (ns:Int)) (orE (Aa r.fa (ns:Int)) (orE (Ad (!AO r.rd (nv:Int)||!AO r.wr (nv:Int)) 5) (Aa r.send (nm:Int))))) from bh.out.trans (by
      have Z:=aS.out;rw [List.take_of_length_le (by have:=bx.out;omega)] at Z;rw [Z];rfl))
     clear aS;by_cases eK:2<ng
     case pos=>
      have Q2:(2:Int)<(ng:Int):=by omega
      go_wp2_with fail;go_ret;exact⟨congrArg (Value.int .i64) (cx.out.trans (by rw [decide_eq_true (show 2<r.guards.length by have:=bx.out;omega)];rfl)).symm,an.out⟩
     have Q2:¬(2:Int)<(ng:Int):=by omega
     have cy:=hide (show EV=orE (Aa r.ex (ns:Int)) (orE (Aa r.fa (ns:Int)) (orE (Ad (!AO r.rd (nv:Int)||!AO r.wr (nv:Int)) 5) (Aa r.send (nm:Int)))) from cx.out.trans (by rw [decide_eq_false (show ¬2<r.guards.length by have:=bx.out;omega)];rfl));go_wp2_with fail;obtain⟨bG,bq⟩:∃e,Hid (Aa r.ex (ns:Int)=e):=⟨_,rfl⟩;by_cases aQ:bG=0
     case neg=>
      have ea:(bG != 0)=true:=by simp [aQ]
      have H0:=hide aQ;clear aQ;refine Calls.ret (cH _ an.out) ?_;rintro v w7 ⟨rfl,af⟩;rw [bq.out];have aa:=hide (b6.out.at af);have cD:=aa.out.b2.cell;have cE:=aa.out.b5.cell;have U:=hide (an.out.trans (af.mono an.out.size));clear af;go_wp2_with fail;go_ret;exact⟨congrArg (Value.int .i64) (cy.out.trans (by rw [bq.out];exact BF H0.out)).symm,U.out⟩
     have ea:(bG != 0)=false:=by simp [aQ]
     have d3:=hide aQ;clear aQ;have cz:=hide (show EV=orE (Aa r.fa (ns:Int)) (orE (Ad (!AO r.rd (nv:Int)||!AO r.wr (nv:Int)) 5) (Aa r.send (nm:Int))) from cy.out.trans (by rw [bq.out,d3.out];rfl));refine Calls.ret (cH _ an.out) ?_;rintro v w7 ⟨rfl,af⟩;rw [bq.out];have aa:=hide (b6.out.at af);have cD:=aa.out.b2.cell;have cE:=aa.out.b5.cell;have U:=hide (an.out.trans (af.mono an.out.size));clear af;go_wp2_with fail;obtain⟨bH,aJ⟩:∃e,Hid (Aa r.fa (ns:Int)=e):=⟨_,rfl⟩;by_cases aR:bH=0
     case neg=>
      have eb:(bH != 0)=true:=by simp [aR]
      have H0:=hide aR;clear aR;refine Calls.ret (b9 _ U.out) ?_;rintro v w8 ⟨rfl,G⟩;rw [aJ.out];have J:=hide (aa.out.at G);have b7:=J.out.b2.cell;have b8:=J.out.b5.cell;have d:=hide (U.out.trans (G.mono U.out.size));clear G;go_wp2_with fail;go_ret;exact⟨congrArg (Value.int .i64) (cz.out.trans (by rw [aJ.out];exact BF H0.out)).symm,d.out⟩
     have eb:(bH != 0)=false:=by simp [aR]
     have d4:=hide aR;clear aR;have au:=hide (show EV=orE (Ad (!AO r.rd (nv:Int)||!AO r.wr (nv:Int)) 5) (Aa r.send (nm:Int)) from cz.out.trans (by rw [aJ.out,d4.out];rfl));by_cases aV:r.rd= -1
     case pos=>
      have d6:(r.rd != -1)=false:=by simp [aV]
      have aP:=hide aV;clear aV;have V1:=hide (show AO r.rd (nv:Int)=true from by rw [aP.out];exact DW (by omega));by_cases ad:r.wr= -1
      case pos=>
       have bE:(r.wr != -1)=false:=by simp [ad]
       have ap:=hide ad;clear ad;have V2:=hide (show AO r.wr (nv:Int)=true from by rw [ap.out];exact DW (by omega));refine Calls.ret (b9 _ U.out) ?_;rintro v w8 ⟨rfl,G⟩;rw [aJ.out];have J:=hide (aa.out.at G);have b7:=J.out.b2.cell;have b8:=J.out.b5.cell;have d:=hide (U.out.trans (G.mono U.out.size));clear G;go_wp2_with fail;have ak:=hide (show EV=Aa r.send (nm:Int) from au.out.trans (by rw [V1.out,V2.out];rfl));obtain⟨a2,W⟩:∃e,Hid (Aa r.send (nm:Int)=e):=⟨_,rfl⟩;by_cases C:a2=0
       case neg=>
        have aL:(a2 != 0)=true:=by simp [C]
        have H0:=hide C;clear C;refine Calls.ret (aw _ d.out) ?_;rintro v w9 ⟨rfl,y⟩;rw [W.out];have E:=hide (J.out.at y);have aG:=E.out.b2.cell;have aH:=E.out.b5.cell;have O:=hide (d.out.trans (y.mono d.out.size));clear y;go_wp2_with fail;go_ret;exact⟨congrArg (Value.int .i64) (ak.out.trans (by rw [W.out])).symm,O.out⟩
       have aL:(a2 != 0)=false:=by simp [C]
       have az:=hide C;clear C;have aD:=hide (show EV=0 from ak.out.trans (by rw [W.out,az.out]));refine Calls.ret (aw _ d.out) ?_;rintro v w9 ⟨rfl,y⟩;rw [W.out];have E:=hide (J.out.at y);have aG:=E.out.b2.cell;have aH:=E.out.b5.cell;have O:=hide (d.out.trans (y.mono d.out.size));clear y;go_wp2_with fail;have aA:=hide (show Aa r.left (ns:Int)=0 from by rw [ag.out.1];rfl);refine Calls.ret (bu _ O.out) ?_;rintro v wa ⟨rfl,a7⟩;rw [aA.out];have a3:=hide (E.out.at a7);have bR:=a3.out.b2.cell;have bU:=a3.out.b5.cell;have a5:=hide (O.out.trans (a7.mono O.out.size));clear a7;go_wp2_with fail;have aC:=hide (show Aa r.right (ns:Int)=0 from by rw [ag.out.2.1];rfl);refine Calls.ret (bC _ a5.out) ?_;rintro v wb ⟨rfl,a8⟩;rw [aC.out];have a4:=hide (a3.out.at a8);have bS:=a4.out.b2.cell;have bV:=a4.out.b5.cell;have a6:=hide (a5.out.trans (a8.mono a5.out.size));clear a8;go_wp2_with fail;have aB:=hide (show Aa r.parent (ns:Int)=0 from by rw [ag.out.2.2];rfl);refine Calls.ret (bz _ a6.out) ?_;rintro v wc ⟨rfl,a9⟩;rw [aB.out];have al:=hide (a4.out.at a9);have bT:=al.out.b2.cell;have bW:=al.out.b5.cell;have aF:=hide (a6.out.trans (a9.mono a6.out.size));clear a9;go_wp2_with fail;go_ret;exact⟨congrArg (Value.int .i64) (aD.out).symm,aF.out⟩
      have bE:(r.wr != -1)=true:=by simp [ad]
      have ap:=hide ad;clear ad;refine Calls.ret (b9 _ U.out) ?_;rintro v w8 ⟨rfl,G⟩;rw [aJ.out];have J:=hide (aa.out.at G);have b7:=J.out.b2.cell;have b8:=J.out.b5.cell;have d:=hide (U.out.trans (G.mono U.out.size));clear G;go_wp2_with fail;cases ar:inC r.wr 0 ((nv:Int) - 1)
      case false=>
       have ai:=hide ar;clear ar;have V2:=hide (show AO r.wr (nv:Int)=false from(Cd ap.out).trans ai.out);refine(Aq _ _ _ _).mono ?_;rintro e w' ⟨rfl,rfl⟩;rw [ai.out];go_wp2_with fail;go_ret;exact⟨congrArg (Value.int .i64) (au.out.trans (by rw [V1.out,V2.out];rfl)).symm,d.out⟩
      have ai:=hide ar;clear ar;have V2:=hide (show AO r.wr (nv:Int)=true from(Cd ap.out).trans ai.out);refine(Aq _ _ _ _).mono ?_;rintro e w' ⟨rfl,rfl⟩;rw [ai.out];go_wp2_with fail;have ak:=hide (show EV=Aa r.send (nm:Int) from au.out.trans (by rw [V1.out,V2.out];rfl));obtain⟨a2,W⟩:∃e,Hid (Aa r.send (nm:Int)=e):=⟨_,rfl⟩;by_cases C:a2=0
      case neg=>
       have aL:(a2 != 0)=true:=by simp [C]
       have H0:=hide C;clear C;refine Calls.ret (aw _ d.out) ?_;rintro v w9 ⟨rfl,y⟩;rw [W.out];have E:=hide (J.out.at y);have aG:=E.out.b2.cell;have aH:=E.out.b5.cell;have O:=hide (d.out.trans (y.mono d.out.size));clear y;go_wp2_with fail;go_ret;exact⟨congrArg (Value.int .i64) (ak.out.trans (by rw [W.out])).symm,O.out⟩
      have aL:(a2 != 0)=false:=by simp [C]
      have az:=hide C;clear C;have aD:=hide (show EV=0 from ak.out.trans (by rw [W.out,az.out]));refine Calls.ret (aw _ d.out) ?_;rintro v w9 ⟨rfl,y⟩;rw [W.out];have E:=hide (J.out.at y);have aG:=E.out.b2.cell;have aH:=E.out.b5.cell;have O:=hide (d.out.trans (y.mono d.out.size));clear y;go_wp2_with fail;have aA:=hide (show Aa r.left (ns:Int)=0 from by rw [ag.out.1];rfl);refine Calls.ret (bu _ O.out) ?_;rintro v wa ⟨rfl,a7⟩;rw [aA.out];have a3:=hide (E.out.at a7);have bR:=a3.out.b2.cell;have bU:=a3.out.b5.cell;have a5:=hide (O.out.trans (a7.mono O.out.size));clear a7;go_wp2_with fail;have aC:=hide (show Aa r.right (ns:Int)=0 from by rw [ag.out.2.1];rfl);refine Calls.ret (bC _ a5.out) ?_;rintro v wb ⟨rfl,a8⟩;rw [aC.out];have a4:=hide (a3.out.at a8);have bS:=a4.out.b2.cell;have bV:=a4.out.b5.cell;have a6:=hide (a5.out.trans (a8.mono a5.out.size));clear a8;go_wp2_with fail;have aB:=hide (show Aa r.parent (ns:Int)=0 from by rw [ag.out.2.2];rfl);refine Calls.ret (bz _ a6.out) ?_;rintro v wc ⟨rfl,a9⟩;rw [aB.out];have al:=hide (a4.out.at a9);have bT:=al.out.b2.cell;have bW:=al.out.b5.cell;have aF:=hide (a6.out.trans (a9.mono a6.out.size));clear a9;go_wp2_with fail;go_ret;exact⟨congrArg (Value.int .i64) (aD.out).symm,aF.out⟩
     have d6:(r.rd != -1)=true:=by simp [aV]
     have aP:=hide aV;clear aV;by_cases ad:r.wr= -1
     case pos=>
      have bE:(r.wr != -1)=false:=by simp [ad]
      have ap:=hide ad;clear ad;have V2:=hide (show AO r.wr (nv:Int)=true from by rw [ap.out];exact DW (by omega));refine Calls.ret (b9 _ U.out) ?_;rintro v w8 ⟨rfl,G⟩;rw [aJ.out];have J:=hide (aa.out.at G);have b7:=J.out.b2.cell;have b8:=J.out.b5.cell;have d:=hide (U.out.trans (G.mono U.out.size));clear G;go_wp2_with fail;cases aq:inC r.rd 0 ((nv:Int) - 1)
      case false=>
       have ah:=hide aq;clear aq;have V1:=hide (show AO r.rd (nv:Int)=false from(Cd aP.out).trans ah.out);refine(Aq _ _ _ _).mono ?_;rintro e w' ⟨rfl,rfl⟩;rw [ah.out];go_wp2_with fail;go_ret;exact⟨congrArg (Value.int .i64) (au.out.trans (by rw [V1.out];rfl)).symm,d.out⟩
      have ah:=hide aq;clear aq;have V1:=hide (show AO r.rd (nv:Int)=true from(Cd aP.out).trans ah.out);refine(Aq _ _ _ _).mono ?_;rintro e w' ⟨rfl,rfl⟩;rw [ah.out];go_wp2_with fail;have ak:=hide (show EV=Aa r.send (nm:Int) from au.out.trans (by rw [V1.out,V2.out];rfl));obtain⟨a2,W⟩:∃e,Hid (Aa r.send (nm:Int)=e):=⟨_,rfl⟩;by_cases C:a2=0
      case neg=>
       have aL:(a2 != 0)=true:=by simp [C]
       have H0:=hide C;clear C;refine Calls.ret (aw _ d.out) ?_;rintro v w9 ⟨rfl,y⟩;rw [W.out];have E:=hide (J.out.at y);have aG:=E.out.b2.cell;have aH:=E.out.b5.cell;have O:=hide (d.out.trans (y.mono d.out.size));clear y;go_wp2_with fail;go_ret;exact⟨congrArg (Value.int .i64) (ak.out.trans (by rw [W.out])).symm,O.out⟩
      have aL:(a2 != 0)=false:=by simp [C]
      have az:=hide C;clear C;have aD:=hide (show EV=0 from ak.out.trans (by rw [W.out,az.out]));refine Calls.ret (aw _ d.out) ?_;rintro v w9 ⟨rfl,y⟩;rw [W.out];have E:=hide (J.out.at y);have aG:=E.out.b2.cell;have aH:=E.out.b5.cell;have O:=hide (d.out.trans (y.mono d.out.size));clear y;go_wp2_with fail;have aA:=hide (show Aa r.left (ns:Int)=0 from by rw [ag.out.1];rfl);refine Calls.ret (bu _ O.out) ?_;rintro v wa ⟨rfl,a7⟩;rw [aA.out];have a3:=hide (E.out.at a7);have bR:=a3.out.b2.cell;have bU:=a3.out.b5.cell;have a5:=hide (O.out.trans (a7.mono O.out.size));clear a7;go_wp2_with fail;have aC:=hide (show Aa r.right (ns:Int)=0 from by rw [ag.out.2.1];rfl);refine Calls.ret (bC _ a5.out) ?_;rintro v wb ⟨rfl,a8⟩;rw [aC.out];have a4:=hide (a3.out.at a8);have bS:=a4.out.b2.cell;have bV:=a4.out.b5.cell;have a6:=hide (a5.out.trans (a8.mono a5.out.size));clear a8;go_wp2_with fail;have aB:=hide (show Aa r.parent (ns:Int)=0 from by rw [ag.out.2.2];rfl);refine Calls.ret (bz _ a6.out) ?_;rintro v wc ⟨rfl,a9⟩;rw [aB.out];have al:=hide (a4.out.at a9);have bT:=al.out.b2.cell;have bW:=al.out.b5.cell;have aF:=hide (a6.out.trans (a9.mono a6.out.size));clear a9;go_wp2_with fail;go_ret;exact⟨congrArg (Value.int .i64) (aD.out).symm,aF.out⟩
     have bE:(r.wr != -1)=true:=by simp [ad]
     have ap:=hide ad;clear ad;refine Calls.ret (b9 _ U.out) ?_;rintro v w8 ⟨rfl,G⟩;rw [aJ.out];have J:=hide (aa.out.at G);have b7:=J.out.b2.cell;have b8:=J.out.b5.cell;have d:=hide (U.out.trans (G.mono U.out.size));clear G;go_wp2_with fail;cases aq:inC r.rd 0 ((nv:Int) - 1)
     case false=>
      have ah:=hide aq;clear aq;have V1:=hide (show AO r.rd (nv:Int)=false from(Cd aP.out).trans ah.out);refine(Aq _ _ _ _).mono ?_;rintro e w' ⟨rfl,rfl⟩;rw [ah.out];go_wp2_with fail;go_ret;exact⟨congrArg (Value.int .i64) (au.out.trans (by rw [V1.out];rfl)).symm,d.out⟩
     have ah:=hide aq;clear aq;have V1:=hide (show AO r.rd (nv:Int)=true from(Cd aP.out).trans ah.out);refine(Aq _ _ _ _).mono ?_;rintro e w' ⟨rfl,rfl⟩;rw [ah.out];go_wp2_with fail;cases ar:inC r.wr 0 ((nv:Int) - 1)
     case false=>
      have ai:=hide ar;clear ar;have V2:=hide (show AO r.wr (nv:Int)=false from(Cd ap.out).trans ai.out);refine(Aq _ _ _ _).mono ?_;rintro e w' ⟨rfl,rfl⟩;rw [ai.out];go_wp2_with fail;go_ret;exact⟨congrArg (Value.int .i64) (au.out.trans (by rw [V1.out,V2.out];rfl)).symm,d.out⟩
     have ai:=hide ar;clear ar;have V2:=hide (show AO r.wr (nv:Int)=true from(Cd ap.out).trans ai.out);refine(Aq _ _ _ _).mono ?_;rintro e w' ⟨rfl,rfl⟩;rw [ai.out];go_wp2_with fail;have ak:=hide (show EV=Aa r.send (nm:Int) from au.out.trans (by rw [V1.out,V2.out];rfl));obtain⟨a2,W⟩:∃e,Hid (Aa r.send (nm:Int)=e):=⟨_,rfl⟩;by_cases C:a2=0
     case neg=>
      have aL:(a2 != 0)=true:=by simp [C]
      have H0:=hide C;clear C;refine Calls.ret (aw _ d.out) ?_;rintro v w9 ⟨rfl,y⟩;rw [W.out];have E:=hide (J.out.at y);have aG:=E.out.b2.cell;have aH:=E.out.b5.cell;have O:=hide (d.out.trans (y.mono d.out.size));clear y;go_wp2_with fail;go_ret;exact⟨congrArg (Value.int .i64) (ak.out.trans (by rw [W.out])).symm,O.out⟩
     have aL:(a2 != 0)=false:=by simp [C]
     have az:=hide C;clear C;have aD:=hide (show EV=0 from ak.out.trans (by rw [W.out,az.out]));refine Calls.ret (aw _ d.out) ?_;rintro v w9 ⟨rfl,y⟩;rw [W.out];have E:=hide (J.out.at y);have aG:=E.out.b2.cell;have aH:=E.out.b5.cell;have O:=hide (d.out.trans (y.mono d.out.size));clear y;go_wp2_with fail;have aA:=hide (show Aa r.left (ns:Int)=0 from by rw [ag.out.1];rfl);refine Calls.ret (bu _ O.out) ?_;rintro v wa ⟨rfl,a7⟩;rw [aA.out];have a3:=hide (E.out.at a7);have bR:=a3.out.b2.cell;have bU:=a3.out.b5.cell;have a5:=hide (O.out.trans (a7.mono O.out.size));clear a7;go_wp2_with fail;have aC:=hide (show Aa r.right (ns:Int)=0 from by rw [ag.out.2.1];rfl);refine Calls.ret (bC _ a5.out) ?_;rintro v wb ⟨rfl,a8⟩;rw [aC.out];have a4:=hide (a3.out.at a8);have bS:=a4.out.b2.cell;have bV:=a4.out.b5.cell;have a6:=hide (a5.out.trans (a8.mono a5.out.size));clear a8;go_wp2_with fail;have aB:=hide (show Aa r.parent (ns:Int)=0 from by rw [ag.out.2.2];rfl);refine Calls.ret (bz _ a6.out) ?_;rintro v wc ⟨rfl,a9⟩;rw [aB.out];have al:=hide (a4.out.at a9);have bT:=al.out.b2.cell;have bW:=al.out.b5.cell;have aF:=hide (a6.out.trans (a9.mono a6.out.size));clear a9;go_wp2_with fail;go_ret;exact⟨congrArg (Value.int .i64) (aD.out).symm,aF.out⟩
end Go.Proofs.YtfcfpoemojjglaaGreatDoor.K
