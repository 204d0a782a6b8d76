/-
  Part CQ of a proof.
-/
import Derived.Test.YtjejejmeddkciaaGreatDoorPA
import Derived.Test.YtjejejmeddkciaaGreatDoorCN
import Derived.Test.YtjejejmeddkciaaGreatDoorCJ
import Derived.Test.YtjejejmeddkciaaGreatDoorCI
set_option maxHeartbeats 16000000
set_option maxRecDepth 100000
set_option linter.unusedVariables false
set_option linter.unusedSimpArgs false
namespace Go.Proofs.YtjejejmeddkciaaGreatDoor.K
open Go.RowKit
attribute [-go_sem] loadCellsFrom storeCells
theorem RT {w:World} {cs:List Value} {p:Am} (h:At w w.heap.size cs p) (a7:p.Small) (hT:SpOK w) (bt:p.topo=1):
  Calls Tryz.prog 123 #[.agg cs.toArray] w (Ret fun v w'=>v=.int .i64 (protE nameOK p)/\Below w.heap.size w w'):=by
 obtain⟨A1,c1,A2,c2,A3,c3,A4,c4,A5,c5,A6,c6,A7,c7,cF,eI,dJ,dK,bL,aK,dL,dM,dN,dO,dP,h1,h2,h3,h4,h5,h6,h7,dw⟩:=h.cells;have dB:=a7.states;have dC:=a7.messages;have dD:=a7.values;have dE:=a7.res;have dF:=a7.initial;have dG:=a7.leader;have dH:=a7.rules;have eG:=a7.name;have I:=hide a7;have dh:=hide h1;have di:=hide h2;have dj:=hide h3;have ek:=hide h7;have dk:=hide h4;have dl:=hide h5;have dm:=hide h6;obtain⟨w1,eM,aD,aT,dx⟩:=Ae w cs.toArray 27;have cj:=hide (show C0 w1 w.heap.size cs.toArray p from⟨h.keep (fun _ O=>aD.cell O) aD.size,aT,hT.below aD⟩);have dt:=hide aD;generalize dQ:cs.toArray=pc at*;clear h1 h2 h3 h4 h5 h6 h7 h a7 aD aT dx dQ hT;obtain⟨nr,bD⟩:∃n,n=p.res.length:=⟨_,rfl⟩;obtain⟨nm,bC⟩:∃n,n=p.messages.length:=⟨_,rfl⟩;obtain⟨nv,bH⟩:∃n,n=p.values.length:=⟨_,rfl⟩;obtain⟨nl,bB⟩:∃n,n=p.leader.length:=⟨_,rfl⟩;obtain⟨ni,bA⟩:∃n,n=p.initial.length:=⟨_,rfl⟩;obtain⟨ns,bE⟩:∃n,n=p.states.length:=⟨_,rfl⟩;obtain⟨nu,bG⟩:∃n,n=p.rules.length:=⟨_,rfl⟩;have U:=hide (show nr=p.res.length/\nm=p.messages.length/\nv=p.values.length/\nl=p.leader.length/\ni=p.initial.length/\ns=p.states.length/\nu=p.rules.length from⟨bD,bC,bH,bB,bA,bE,bG⟩);simp only [<-bD,<-bC,<-bH,<-bB,<-bA,<-bE,<-bG] at dK bL aK dM dN dO dP dB dC dD dE dF dG dH dw;clear bD bC bH bB bA bE bG;obtain⟨kt,bw⟩:∃n,n=p.topo:=⟨_,rfl⟩;obtain⟨kf,bv⟩:∃n,n=p.fault:=⟨_,rfl⟩;have ca:=hide (show kt=p.topo/\kf=p.fault from⟨bw,bv⟩);simp only [<-bw,<-bv] at dJ dL;clear bw bv;have av:=hide cF;clear cF;have en:=cj.out.b.cell;have aW:Hid (kt=1):=by rw [<-ca.out.1] at bt;exact bt
 have eJ:(kt==1)=true:=by simp [aW.out]
 have eK:(kt != 1)=false:=by simp [aW.out]
 clear bt;have aY:=dt;obtain⟨e0,b5⟩:∃e,Hid (CU nameOK (Bd p)=e):=⟨_,rfl⟩;cases ba:nameOK p.name
 case false=>
  have Z:=hide ba;clear ba;go_enter Tryz.func123,Tryz.ntmps123;go_wp2_with fail;refine Calls.ret (Cm p.name _ (by omega)) ?_;rintro v w2 ⟨rfl,ao⟩;rw [Z.out];have G:=hide (aY.out.trans (ao.mono aY.out.size));clear ao;go_wp2_with fail;go_ret;exact⟨by unfold protE;rw [Z.out];rfl,G.out⟩
 have Z:=hide ba;clear ba;have V:=hide (show protE nameOK p=CH kt kf ns nm nv nr nu nl e0 (DJ p) from by
  obtain⟨e1,e2,e3,e4,e5,e6,e7⟩:=U.out;obtain⟨f1,f2⟩:=ca.out;rw [e1,e2,e3,e4,e6,e7,f1,f2,<-b5.out];exact GI p Z.out)
 have bu:∀J,Below w.heap.size w J->Calls Tryz.prog 137 #[.slice A5 ni c5,.int .i64 (ns:Int)] J (Ret fun r w'=>r=.int .i64 (Aa p.initial (ns:Int))/\Below J.heap.size J w'):=fun J hx=>by
  rw [U.out.2.2.2.2.1];exact B0 (by omega) (dl.out.keep (fun _ O=>hx.cell O) hx.size)
 have cB:∀J,Below w.heap.size w J->Calls Tryz.prog 137 #[.slice A6 nl c6,.int .i64 (ns:Int)] J (Ret fun r w'=>r=.int .i64 (Aa p.leader (ns:Int))/\Below J.heap.size J w'):=fun J hx=>by
  rw [U.out.2.2.2.1];exact B0 (by omega) (dm.out.keep (fun _ O=>hx.cell O) hx.size)
 go_enter Tryz.func123,Tryz.ntmps123;go_wp2_with fail;refine Calls.ret (Cm p.name _ (by omega)) ?_;rintro v w2 ⟨rfl,ao⟩;rw [Z.out];have ak:=hide (cj.out.at ao);have eo:=ak.out.b.cell;have eA:=Ah ak.out.b av.out;have G:=hide (aY.out.trans (ao.mono aY.out.size));clear ao;go_wp2_with fail;cases bc:inC kt 1 4
 case false=>
  have ax:=hide bc;clear bc;refine(Aq _ _ _ _).mono ?_;rintro e w' ⟨rfl,rfl⟩;rw [ax.out];go_wp2_with fail;go_ret;exact⟨congrArg (Value.int .i64) (V.out.trans (pv2 (by have h1:=ax.out;simp [inC] at h1;omega))).symm,G.out⟩
 have ax:=hide bc;clear bc;refine(Aq _ _ _ _).mono ?_;rintro e w' ⟨rfl,rfl⟩;rw [ax.out];go_wp2_with fail;cases b8:inC kf 0 3
 case false=>
  have a2:=hide b8;clear b8;refine(Aq _ _ _ _).mono ?_;rintro e w' ⟨rfl,rfl⟩;rw [a2.out];go_wp2_with fail;go_ret;exact⟨congrArg (Value.int .i64) (V.out.trans (pv2 (by have h1:=a2.out;simp [inC] at h1;omega))).symm,G.out⟩
 have a2:=hide b8;clear b8;have H2:=hide (show 1<=kt/\kt<=4/\0<=kf/\kf<=3 from by
  have h1:=ax.out;have h2:=a2.out;simp [inC] at h1 h2;omega)
 cases ab:((ns:Int)==0)
 case true=>
  refine(Aq _ _ _ _).mono ?_;rintro e w' ⟨rfl,rfl⟩;rw [a2.out];go_wp2_with fail;go_ret;exact⟨congrArg (Value.int .i64) (V.out.trans (pv3 H2.out ab)).symm,G.out⟩
 by_cases db:6<(ns:Int)
 case pos=>
  refine(Aq _ _ _ _).mono ?_;rintro e w' ⟨rfl,rfl⟩;rw [a2.out];go_wp2_with fail;go_ret;exact⟨congrArg (Value.int .i64) (V.out.trans (pv4 H2.out ab (by omega))).symm,G.out⟩
 by_cases aT:3<(nm:Int)
 case pos=>
  refine(Aq _ _ _ _).mono ?_;rintro e w' ⟨rfl,rfl⟩;rw [a2.out];go_wp2_with fail;go_ret;exact⟨congrArg (Value.int .i64) (V.out.trans (pv4 H2.out ab (by omega))).symm,G.out⟩
 by_cases dc:3<(nv:Int)
 case pos=>
  refine(Aq _ _ _ _).mono ?_;rintro e w' ⟨rfl,rfl⟩;rw [a2.out];go_wp2_with fail;go_ret;exact⟨congrArg (Value.int .i64) (V.out.trans (pv4 H2.out ab (by omega))).symm,G.out⟩
 by_cases aU:4<(nr:Int)
 case pos=>
  refine(Aq _ _ _ _).mono ?_;rintro e w' ⟨rfl,rfl⟩;rw [a2.out];go_wp2_with fail;go_ret;exact⟨congrArg (Value.int .i64) (V.out.trans (pv4 H2.out ab (by omega))).symm,G.out⟩
 by_cases de:8<(nu:Int)
 case pos=>
  refine(Aq _ _ _ _).mono ?_;rintro e w' ⟨rfl,rfl⟩;rw [a2.out];go_wp2_with fail;go_ret;exact⟨congrArg (Value.int .i64) (V.out.trans (pv4 H2.out ab (by omega))).symm,G.out⟩
 refine(Aq _ _ _ _).mono ?_;rintro e w' ⟨rfl,rfl⟩;rw [a2.out];go_wp2_with fail;have H3:=hide ab;have H4:=hide (show(ns:Int)<=6/\(nm:Int)<=3/\(nv:Int)<=3/\(nr:Int)<=4/\(nu:Int)<=8 from by omega);clear ab db aT dc aU de;rename_i z1 zK za;clear z1;obtain⟨w3,eN,bq,aU,dy⟩:=Ae w2 #[] 9;have aE:=hide (show Below w2.heap.size w2 w3.drew from bq.trans ((Ap w3).mono bq.size));have bk:=hide (show World.ownsRow w3.drew w2.heap.size 9 1 (.slice (some ⟨w2.heap.size,0,none⟩) 0 0) 0 [] from⟨by simp,.inr ⟨w2.heap.size,0,#[],rfl,Nat.le_refl _,aU,Nat.le_refl _,by unfold maxLen;omega,by simp,by simp⟩⟩);have bn:=hide (ak.out.at aE.out);have ep:=bn.out.b.cell;have dn:=hide (G.out.trans (aE.out.mono G.out.size));clear bq aU dy;refine Reg.cI [0,0,2,7,0,16,63,0,128,511,1023] [1,2,4,5,7,8,0,3,6,9,10] ?_;refine Reg.wI [1,2,4,5,7,8,0] [3,6,9,10] rfl fun Qf C=>?_;go_wp2_with fail;first|refine C _ _ ⟨rfl,?_⟩|refine⟨rfl,?_⟩|refine C _ _ ⟨by simp [Reg.fineT,Reg.intOp,Region.wanted,yielded,Reg.intFine,Reg.isInt,Act.eval],?_⟩
 (try clear C);refine Reg.aI 3 [6,9,10] [5,8] rfl fun Qf C=>?_;simp only [gT,gS,gZ];go_wp2_with (at_builtin;refine Ei (w:=w3.drew) EW rfl _ _ rfl w2.heap.size _ _ _ rfl bk.out (l:=p.states) (dh.out.keep (w':=w3.drew) (B':=w.heap.size) (fun _ O=>dn.out.cell O) (Nat.le_refl _)) (by rw [<-U.out.2.2.2.2.2.1];rfl) (fun d=>rfl) (by have:=I.out.states;have:=I.out.messages;have:=I.out.values;omega) aE.out.size ?_;intro v4 w4 bJ cw);have aF:=hide (aE.out.trans (cw.below aE.out.size fun b' co e=>by have:=(bk.out.lt b' e).1;omega));have bl:=hide bJ;have aX:=hide (ak.out.at aF.out);have eq:=aX.out.b.cell;have dp:=hide (G.out.trans (aF.out.mono G.out.size));obtain⟨ec,eg,dU⟩:=AH bJ;subst dU;clear cw bJ;first|refine C _ _ ⟨?_,?_⟩|refine⟨?_,?_⟩
 ·exact⟨Reg.same_load1 rfl rfl ((bn.out.b.cell 3).trans bL) ((aX.out.b.cell 3).trans bL) Tryz.underlying22 rfl,Reg.same_load1 rfl rfl ((bn.out.b.cell 4).trans aK) ((aX.out.b.cell 4).trans aK) Tryz.underlying22 rfl⟩
 (try clear C);refine Reg.aI 6 [9,10] [8] rfl fun Qf C=>?_;simp only [gT,gS,gZ];go_wp2_with (at_builtin;refine Ei (w:=w4) EW rfl _ _ rfl w2.heap.size _ _ _ rfl bl.out (l:=p.messages) (di.out.keep (w':=w4) (B':=w.heap.size) (fun _ O=>dp.out.cell O) (Nat.le_refl _)) (by rw [<-U.out.2.1];rfl) (fun d=>rfl) (by have:=I.out.states;have:=I.out.messages;have:=I.out.values;omega) aF.out.size ?_;intro v5 w5 bK cx);have aG:=hide (aF.out.trans (cx.below aF.out.size fun b' co e=>by have:=(bl.out.lt b' e).1;omega));have bm:=hide bK;have ck:=hide (ak.out.at aG.out);have er:=ck.out.b.cell;have dq:=hide (G.out.trans (aG.out.mono G.out.size));obtain⟨ed,eh,dV⟩:=AH bK;subst dV;clear cx bK;first|refine C _ _ ⟨?_,?_⟩|refine⟨?_,?_⟩
 ·exact Reg.same_load1 rfl rfl ((aX.out.b.cell 4).trans aK) ((ck.out.b.cell 4).trans aK) Tryz.underlying22 rfl
 (try clear C);refine Reg.aI 9 [10] [] rfl fun Qf C=>?_;simp only [gT,gS,gZ];go_wp2_with (at_builtin;refine Ei (w:=w5) EW rfl _ _ rfl w2.heap.size _ _ _ rfl bm.out (l:=p.values) (dj.out.keep (w':=w5) (B':=w.heap.size) (fun _ O=>dq.out.cell O) (Nat.le_refl _)) (by rw [<-U.out.2.2.1];rfl) (fun d=>rfl) (by have:=I.out.states;have:=I.out.messages;have:=I.out.values;omega) aG.out.size ?_;intro v6 w6 au cy);have cp:=hide (aG.out.trans (cy.below aG.out.size fun b' co e=>by have:=(bm.out.lt b' e).1;omega));have dg:=hide au;have cm:=hide (ak.out.at cp.out);have es:=cm.out.b.cell;have am:=hide (G.out.trans (cp.out.mono G.out.size));obtain⟨ee,bT,dW⟩:=AH au;subst dW;clear cy;first|refine C _ _ ⟨Reg.nm,?_⟩|skip
 (try clear C);refine Reg.wI [10] [] rfl fun Qf C=>?_;go_wp2_with fail;first|refine C _ _ ⟨rfl,?_⟩|refine⟨rfl,?_⟩|refine C _ _ ⟨by simp [Reg.fineT,Reg.intOp,Region.wanted,yielded,Reg.intFine,Reg.isInt,Act.eval],?_⟩
 (try clear C);first|refine Reg.restI_end ?_|skip
 have cE:0+p.states.length+p.messages.length+p.values.length=(Bd p).length:=by simp only [Bd,List.length_append];omega
 have cK:[]++p.states.map (BE · 0)++p.messages.map (BE · 0)++p.values.map (BE · 0)=DV (Bd p):=by simp [DV,Bd]
 rw [cE,cK] at au;rw [show p.states.length+p.messages.length+p.values.length=(Bd p).length by simp only [Bd,List.length_append]];have eD:(Bd p).length<=180:=by
  have:=I.out.states;have:=I.out.messages;have:=I.out.values;omega
 have ch:=hide (HS au (by omega)).2;have ew:=HP au;have dI:=hide I.out.names;have cD:=hide (show CU nameOK (Bd p)=Aj (nmE (Bd p)) (List.range (Bd p).length) from rfl);rw [b5.out] at cD;have c9:=hide (show CU nameOK (Bd p)=e0 from b5.out);clear au cE cK bk bl bm dg b5;generalize Bd p=L at*;go_wp2_with fail;go_loopw [4] (fun ii wr=>∃(k:Nat),ii=.int .i64 (k:Int)/\k<=L.length/\Hid (Aj (nmE L) (List.range k)=0)/\Hid (Below w6.heap.size w6 wr)) (fun ii _=>L.length - (intOf ii).toNat)
 case atStart=>exact⟨0,rfl,Nat.zero_le _,by show _=_;rfl,Below.refl _ _⟩
 case round=>
  obtain⟨k,rfl,hk,hE,a9⟩:=hrel;by_cases b9:k<L.length
  ·obtain⟨b,off,s,hA,b0,bM,hc⟩:=ch.out.at b9;have d0:=hc 0 (by omega);simp only [Nat.add_zero,Nat.mul_one,BE] at d0;have d1:=(a9.out.cell (p:=⟨b,off+k,none⟩) b0).trans d0;have eL:=dI.out s (List.mem_of_getElem? bM);have bN:=hide bM;subst hA;clear hc bM;cases bb:nameOK s with
   | false=>
    have Z:=hide bb;clear bb;have aL:=hide (show e0=2 from c9.out.symm.trans (Fl b9 hE.out bN.out (.inl Z.out)));go_wp2_with fail;refine Reg.cI [0,0,3,7,15,31,63,127,127,511,127,127,3199,7295,16383,32767] [0,1,2,3,4,5,6,7,8,10,11,12,13,9,14,15] ?_;refine Reg.wI [0,1,2,3] [4,5,6,7,8,10,11,12,13,9,14,15] rfl fun Qf C=>?_;go_wp2_with fail;first|refine C _ _ ⟨rfl,?_⟩|refine⟨rfl,?_⟩|refine C _ _ ⟨by simp [Reg.fineT,Reg.intOp,Region.wanted,yielded,Reg.intFine,Reg.isInt,Act.eval],?_⟩
    (try clear C);refine Reg.aI 4 [5,6,7,8,10,11,12,13,9,14,15] [] rfl fun Qf C=>?_;simp only [gT,gS,gZ];go_wp2_with (go_at_call 136;refine Calls.ret (Cm s _ (by omega)) ?_;rintro v w8 ⟨rfl,aa⟩;rw [Z.out];have a6:=hide (a9.out.trans (((Ap wr).trans aa).mono a9.out.size));have d8:=(a6.out.cell (p:=⟨b,off+k,none⟩) b0).trans d0);first|refine C _ _ ⟨Reg.nm,?_⟩|refine⟨Reg.nm,?_⟩
    (try clear C);clear aa;refine Reg.wI [5,6,7,8,10,11,12,13] [9,14,15] rfl fun Qf C=>?_;go_wp2_with fail;first|refine C _ _ ⟨rfl,?_⟩|refine⟨rfl,?_⟩|refine C _ _ ⟨by simp [Reg.fineT,Reg.intOp,Region.wanted,yielded,Reg.intFine,Reg.isInt,Act.eval],?_⟩
    (try clear C);refine Reg.aI 9 [14,15] [13] rfl fun Qf C=>?_;simp only [gT,gS,gZ];go_wp2_with fail;first|refine C _ _ ⟨Reg.same_below (Below.refl _ _) [13] rfl,?_⟩|refine⟨Reg.same_below (Below.refl _ _) [13] rfl,?_⟩
    (try clear C);refine Reg.aI 14 [15] [] rfl fun Qf C=>?_;simp only [gT,gS,gZ];go_wp2_with fail;first|refine C _ _ ⟨Reg.nm,?_⟩|refine⟨Reg.nm,?_⟩
    (try clear C);refine Reg.wI [15] [] rfl fun Qf C=>?_;go_wp2_with fail;first|refine C _ _ ⟨rfl,?_⟩|refine⟨rfl,?_⟩|refine C _ _ ⟨by simp [Reg.fineT,Reg.intOp,Region.wanted,yielded,Reg.intFine,Reg.isInt,Act.eval],?_⟩
    (try clear C);first|refine Reg.restI_end ?_|skip
    go_wp2_with fail;go_ret;exact⟨congrArg (Value.int .i64) (V.out.trans (by rw [aL.out];exact pv5 H2.out H3.out H4.out rfl)).symm,am.out.trans (a6.out.mono am.out.size)⟩
   | true=>
    have Z:=hide bb;clear bb;have cG:(L.take k).length=k:=by rw [List.length_take];omega
    have dT:=hide cG;clear cG;have cr:Hid (∀J,Hid (Below w6.heap.size w6 J)->Hid (Calls Tryz.prog 162 #[.slice (some ⟨b,off,none⟩) k bT,.string s] J fun r w'=>r=.returned (.bool (decide (s∈L.take k)))/\J=w')):=hide (fun J hx=>by
     have h1:=(ch.out.keep (w':=J) (B':=w6.heap.size) (fun _ O=>hx.out.cell O) (Nat.le_refl _)).takeS k;have h2:=Ht (c:=bT) (x:=s) h1;rw [dT.out] at h2;exact h2)
    by_cases hm:s∈L.take k
    ·have bz:=hide hm;have bx:=hide (show decide (s∈L.take k)=true from decide_eq_true hm);clear hm;have aL:=hide (show e0=2 from c9.out.symm.trans (Fl b9 hE.out bN.out (.inr bz.out)));go_wp2_with fail;refine Reg.cI [0,0,3,7,15,31,63,127,127,511,127,127,3199,7295,16383,32767] [0,1,2,3,4,5,6,7,8,10,11,12,13,9,14,15] ?_;refine Reg.wI [0,1,2,3] [4,5,6,7,8,10,11,12,13,9,14,15] rfl fun Qf C=>?_;go_wp2_with fail;first|refine C _ _ ⟨rfl,?_⟩|refine⟨rfl,?_⟩|refine C _ _ ⟨by simp [Reg.fineT,Reg.intOp,Region.wanted,yielded,Reg.intFine,Reg.isInt,Act.eval],?_⟩
     (try clear C);refine Reg.aI 4 [5,6,7,8,10,11,12,13,9,14,15] [] rfl fun Qf C=>?_;simp only [gT,gS,gZ];go_wp2_with (go_at_call 136;refine Calls.ret (Cm s _ (by omega)) ?_;rintro v w8 ⟨rfl,aa⟩;rw [Z.out];have a6:=hide (a9.out.trans (((Ap wr).trans aa).mono a9.out.size));have d8:=(a6.out.cell (p:=⟨b,off+k,none⟩) b0).trans d0);first|refine C _ _ ⟨Reg.nm,?_⟩|refine⟨Reg.nm,?_⟩
     (try clear C);clear aa;refine Reg.wI [5,6,7,8,10,11,12,13] [9,14,15] rfl fun Qf C=>?_;go_wp2_with fail;first|refine C _ _ ⟨rfl,?_⟩|refine⟨rfl,?_⟩|refine C _ _ ⟨by simp [Reg.fineT,Reg.intOp,Region.wanted,yielded,Reg.intFine,Reg.isInt,Act.eval],?_⟩
     (try clear C);refine Reg.aI 9 [14,15] [13] rfl fun Qf C=>?_;simp only [gT,gS,gZ];go_wp2_with fail;first|refine C _ _ ⟨Reg.same_below (Below.refl _ _) [13] rfl,?_⟩|refine⟨Reg.same_below (Below.refl _ _) [13] rfl,?_⟩
     (try clear C);refine Reg.aI 14 [15] [] rfl fun Qf C=>?_;simp only [gT,gS,gZ];go_wp2_with (go_at_call 162;refine(cr.out _ a6).out.mono ?_;rintro r w' ⟨rfl,rfl⟩;rw [bx.out]);first|refine C _ _ ⟨Reg.nm,?_⟩|refine⟨Reg.nm,?_⟩
     (try clear C);refine Reg.wI [15] [] rfl fun Qf C=>?_;go_wp2_with fail;first|refine C _ _ ⟨rfl,?_⟩|refine⟨rfl,?_⟩|refine C _ _ ⟨by simp [Reg.fineT,Reg.intOp,Region.wanted,yielded,Reg.intFine,Reg.isInt,Act.eval],?_⟩
     (try clear C);first|refine Reg.restI_end ?_|skip
     go_wp2_with fail;go_ret;exact⟨congrArg (Value.int .i64) (V.out.trans (by rw [aL.out];exact pv5 H2.out H3.out H4.out rfl)).symm,am.out.trans (a6.out.mono am.out.size)⟩
    ·have bz:=hide hm;have bx:=hide (show decide (s∈L.take k)=false from decide_eq_false hm);clear hm;have bI:=hide (HN b9 hE.out bN.out Z.out bz.out);go_wp2_with fail;refine Reg.cI [0,0,3,7,15,31,63,127,127,511,127,127,3199,7295,16383,32767] [0,1,2,3,4,5,6,7,8,10,11,12,13,9,14,15] ?_;refine Reg.wI [0,1,2,3] [4,5,6,7,8,10,11,12,13,9,14,15] rfl fun Qf C=>?_;go_wp2_with fail;first|refine C _ _ ⟨rfl,?_⟩|refine⟨rfl,?_⟩|refine C _ _ ⟨by simp [Reg.fineT,Reg.intOp,Region.wanted,yielded,Reg.intFine,Reg.isInt,Act.eval],?_⟩
     (try clear C);refine Reg.aI 4 [5,6,7,8,10,11,12,13,9,14,15] [] rfl fun Qf C=>?_;simp only [gT,gS,gZ];go_wp2_with (go_at_call 136;refine Calls.ret (Cm s _ (by omega)) ?_;rintro v w8 ⟨rfl,aa⟩;rw [Z.out];have a6:=hide (a9.out.trans (((Ap wr).trans aa).mono a9.out.size));have d8:=(a6.out.cell (p:=⟨b,off+k,none⟩) b0).trans d0);first|refine C _ _ ⟨Reg.nm,?_⟩|refine⟨Reg.nm,?_⟩
     (try clear C);clear aa;refine Reg.wI [5,6,7,8,10,11,12,13] [9,14,15] rfl fun Qf C=>?_;go_wp2_with fail;first|refine C _ _ ⟨rfl,?_⟩|refine⟨rfl,?_⟩|refine C _ _ ⟨by simp [Reg.fineT,Reg.intOp,Region.wanted,yielded,Reg.intFine,Reg.isInt,Act.eval],?_⟩
     (try clear C);refine Reg.aI 9 [14,15] [13] rfl fun Qf C=>?_;simp only [gT,gS,gZ];go_wp2_with fail;first|refine C _ _ ⟨Reg.same_below (Below.refl _ _) [13] rfl,?_⟩|refine⟨Reg.same_below (Below.refl _ _) [13] rfl,?_⟩
     (try clear C);refine Reg.aI 14 [15] [] rfl fun Qf C=>?_;simp only [gT,gS,gZ];go_wp2_with (go_at_call 162;refine(cr.out _ a6).out.mono ?_;rintro r w' ⟨rfl,rfl⟩;rw [bx.out]);first|refine C _ _ ⟨Reg.nm,?_⟩|refine⟨Reg.nm,?_⟩
     (try clear C);refine Reg.wI [15] [] rfl fun Qf C=>?_;go_wp2_with fail;first|refine C _ _ ⟨rfl,?_⟩|refine⟨rfl,?_⟩|refine C _ _ ⟨by simp [Reg.fineT,Reg.intOp,Region.wanted,yielded,Reg.intFine,Reg.isInt,Act.eval],?_⟩
     (try clear C);first|refine Reg.restI_end ?_|skip
     go_wp2_with fail;exact⟨⟨k+1,by go_num,by omega,bI.out,a6.out⟩,by simp [intOf];omega⟩
  ·have cL:=hide (show e0=0 from by
    have h1:=hE.out;rw [show k=L.length by omega] at h1;exact cD.out.trans h1)
   have cn:=hide (cm.out.at a9.out);have et:=cn.out.b.cell;have bp:=hide (am.out.trans (a9.out.mono am.out.size));clear hE;obtain⟨cR,dX⟩:∃x,x=wr:=⟨_,rfl⟩;subst dX;by_cases df:(0:Int)<(nl:Int)
   case pos=>
    go_wp2_with fail;go_ret;exact⟨congrArg (Value.int .i64) (V.out.trans (pv6 H2.out H3.out H4.out (by rw [cL.out];rfl) (by have:=aW.out;omega))).symm,bp.out⟩
   have hR:=hide (V.out.trans (pv7 H2.out H3.out H4.out (by rw [cL.out];rfl) (by have:=aW.out;omega)));go_wp2_with fail;clear df;go_loopw [5] (fun ii wr=>∃(k:Nat),ii=.int .i64 (k:Int)/\k<=nr/\Hid (Below cR.heap.size cR wr)/\Hid ((p.res.take k).all Bg=true)) (fun ii _=>nr - (intOf ii).toNat)
   case atStart=>exact⟨0,rfl,Nat.zero_le _,Below.refl _ _,by show _=_;simp⟩
   case round=>
    obtain⟨k2,rfl,ey,b4,bj⟩:=hrel;have bo:=hide (cn.out.at b4.out);have eu:=bo.out.b.cell;have W:=hide (bp.out.trans (b4.out.mono bp.out.size));by_cases eE:k2<nr
    ·obtain⟨b2,cM,l,da,em,hl,ct⟩:=(dk.out.keep (w':=wr) (B':=w.heap.size) (fun _ O=>W.out.cell O) (Nat.le_refl _)).at (k:=k2) (by have:=U.out.1;omega);have eC:(loadCellsFrom ⟨b2,cM+k2*4,none⟩ 0 4 #[]).run Tryz.prog wr=.ok #[.int .i64 l.c,.int .i64 l.n,.int .i64 l.t,.int .i64 l.f] wr:=by
      have:=run_loadCells_list (P:=Tryz.prog) wr ⟨b2,cM+k2*4,none⟩ [.int .i64 l.c,.int .i64 l.n,.int .i64 l.t,.int .i64 l.f] (fun j v F=>by
       rw [Addr.add_mid];have hj:=AP F;rw [ct j hj]
       match j,hj,F with
       | 0,_,F=>exact congrArg some (Option.some.inj F)
       | 1,_,F=>exact congrArg some (Option.some.inj F)
       | 2,_,F=>exact congrArg some (Option.some.inj F)
       | 3,_,F=>exact congrArg some (Option.some.inj F))
      simpa [loadCells] using this
     have cA:=hide hl;subst da;clear ct hl;go_wp2_with fail;cases F:Bg l
     ·have aw:=hide (show p.res.all Bg=false from by
       rw [List.all_eq_false];exact⟨l,List.mem_of_getElem? cA.out,by rw [F];decide⟩)
      refine Calls.ret (Gv l _) ?_;rintro v w9 ⟨rfl,E⟩;rw [F];have M:=hide (W.out.trans (E.mono W.out.size));clear E;go_wp2_with fail;go_ret;refine⟨congrArg (Value.int .i64) (hR.out.trans ?_).symm,M.out⟩;unfold DJ;rw [aw.out];rfl
     ·have aw:=hide (Cq (p:=Bg) cA.out bj.out F);refine Calls.ret (Gv l _) ?_;rintro v w9 ⟨rfl,E⟩;rw [F];have dr:=hide (b4.out.trans (E.mono b4.out.size));clear E;go_wp2_with fail;exact⟨⟨k2+1,by go_num,by omega,dr.out,aw.out⟩,by simp [intOf];omega⟩
    ·have aw:=hide (show p.res.all Bg=true from by
      have h1:=U.out.1;have h2:=bj.out
      rwa [List.take_of_length_le (by omega)] at h2)
     have cc:=hide (show protE nameOK p=orE (Aa p.initial (ns:Int)) (orE (Ad (decide (ni=0)) 1) (orE (Aa p.leader (ns:Int)) (Cc p))) from by
      rw [hR.out];obtain⟨-,-,-,-,e5,e6,-⟩:=U.out;unfold DJ Cc;rw [aw.out,Bv,e5,e6];rfl)
     clear aw bj;go_wp2_with fail;obtain⟨ei,aH⟩:∃e,Hid (Aa p.initial (ns:Int)=e):=⟨_,rfl⟩;by_cases ai:ei=0
     case neg=>
      have Qi:(ei != 0)=true:=by simp [ai]
      have Hi:=hide ai;clear ai;refine Calls.ret (bu _ W.out) ?_;rintro v w9 ⟨rfl,E⟩;rw [aH.out];have M:=hide (W.out.trans (E.mono W.out.size));clear E;go_wp2_with fail;go_ret;exact⟨congrArg (Value.int .i64) (cc.out.trans (by rw [aH.out];exact BF Hi.out)).symm,M.out⟩
     have Qi:(ei != 0)=false:=by simp [ai]
     have Hi:=hide ai;clear ai;have cd:=hide (show protE nameOK p=orE (Ad (decide (ni=0)) 1) (orE (Aa p.leader (ns:Int)) (Cc p)) from cc.out.trans (by rw [aH.out,Hi.out];rfl));by_cases ar:ni=0
     case pos=>
      have Qn:((ni:Int)==0)=true:=by simp [ar]
      have Hn:=hide ar;clear ar;refine Calls.ret (bu _ W.out) ?_;rintro v w9 ⟨rfl,E⟩;rw [aH.out];have ae:=hide (bo.out.at E);have du:=ae.out.b.cell;have dz:=Ah ae.out.b av.out;have M:=hide (W.out.trans (E.mono W.out.size));clear E;go_wp2_with fail;go_ret;exact⟨congrArg (Value.int .i64) (cd.out.trans (by rw [decide_eq_true Hn.out];rfl)).symm,M.out⟩
     have Qn:((ni:Int)==0)=false:=by simp [ar]
     have Hn:=hide ar;clear ar;have ce:=hide (show protE nameOK p=orE (Aa p.leader (ns:Int)) (Cc p) from cd.out.trans (by rw [decide_eq_false Hn.out];rfl));refine Calls.ret (bu _ W.out) ?_;rintro v w9 ⟨rfl,E⟩;rw [aH.out];have ae:=hide (bo.out.at E);have du:=ae.out.b.cell;have dz:=Ah ae.out.b av.out;have M:=hide (W.out.trans (E.mono W.out.size));clear E;go_wp2_with fail;obtain⟨el,b7⟩:∃e,Hid (Aa p.leader (ns:Int)=e):=⟨_,rfl⟩;by_cases aj:el=0
     case neg=>
      have Ql:(el != 0)=true:=by simp [aj]
      have Hl:=hide aj;clear aj;refine Calls.ret (cB _ M.out) ?_;rintro v wa ⟨rfl,af⟩;rw [b7.out];have al:=hide (ae.out.at af);have dv:=al.out.b.cell;have dA:=Ah al.out.b av.out;have an:=hide (M.out.trans (af.mono M.out.size));clear af;go_wp2_with fail;go_ret;exact⟨congrArg (Value.int .i64) (ce.out.trans (by rw [b7.out];exact BF Hl.out)).symm,an.out⟩
     have Ql:(el != 0)=false:=by simp [aj]
     have Hl:=hide aj;clear aj;have cf:=hide (show protE nameOK p=Cc p from ce.out.trans (by rw [b7.out,Hl.out];rfl));refine Calls.ret (cB _ M.out) ?_;rintro v wa ⟨rfl,af⟩;rw [b7.out];have al:=hide (ae.out.at af);have dv:=al.out.b.cell;have dA:=Ah al.out.b av.out;have an:=hide (M.out.trans (af.mono M.out.size));clear af;go_wp2_with fail;clear Qi Qn Ql;go_loopw [8] (fun ii wr=>∃(k:Nat),ii=.int .i64 (k:Int)/\k<=nu/\Hid (Below wa.heap.size wa wr)/\Hid (Aj (BB nameOK p) (List.range k)=0)) (fun ii _=>nu - (intOf ii).toNat)
     case atStart=>exact⟨0,rfl,Nat.zero_le _,Below.refl _ _,by show _=_;rfl⟩
     case round=>
      obtain⟨k4,rfl,ez,ap,aV⟩:=hrel;have aC:=hide (al.out.at ap.out);have ev:=aC.out.b.cell;have eB:=Ah aC.out.b av.out;have aZ:=hide (an.out.trans (ap.out.mono an.out.size));by_cases eF:k4<nu
      ·obtain⟨e9,b6⟩:∃e,Hid (BB nameOK p k4=e):=⟨_,rfl⟩;have bs:=hide (KF (cs:=pc.toList) (i:=k4) aC.out.pr (by have:=U.out.2.2.2.2.2.2;omega) I.out aC.out.tab);rw [b6.out] at bs;have cJ:=hide (show(List.range p.rules.length)[k4]?=some k4 from by rw [List.getElem?_range (by have:=U.out.2.2.2.2.2.2;omega)]);have cH:=hide (show(List.range p.rules.length).take k4=List.range k4 from by rw [List.take_range,Nat.min_eq_left (by have:=U.out.2.2.2.2.2.2;omega)]);go_wp2_with fail;by_cases h0:e9=0
       ·have hq:(e9 != 0)=false:=by simp [h0]
        have bI:=hide (show Aj (BB nameOK p) (List.range (k4+1))=0 from by
         have h1:=CD (BB nameOK p) cJ.out (by rw [cH.out];exact aV.out);rw [List.take_range,Nat.min_eq_left (by have:=U.out.2.2.2.2.2.2;omega)] at h1;rw [h1,b6.out,h0])
        clear h0;refine Calls.ret bs.out ?_;rintro v w9 ⟨rfl,E⟩;have br:=hide (ap.out.trans (E.mono ap.out.size));clear E;go_wp2_with fail;exact⟨⟨k4+1,by go_num,by omega,br.out,bI.out⟩,by simp [intOf];omega⟩
       ·have hq:(e9 != 0)=true:=by simp [h0]
        have aL:=hide (show protE nameOK p=e9 from by
         have h1:=Ct (BB nameOK p) cJ.out (by rw [cH.out];exact aV.out) (by rw [b6.out];exact h0);rw [cf.out];unfold Cc;rw [h1,b6.out,BF h0])
        clear h0;refine Calls.ret bs.out ?_;rintro v w9 ⟨rfl,E⟩;have br:=hide (ap.out.trans (E.mono ap.out.size));clear E;go_wp2_with fail;go_ret;exact⟨congrArg (Value.int .i64) aL.out.symm,an.out.trans (br.out.mono an.out.size)⟩
      ·obtain⟨nt,bF⟩:∃n,n=(BO p.rules).length:=⟨_,rfl⟩;have cg:=hide (show protE nameOK p=Ad (decide (3<nt)) 4 from by
        have h1:=aV.out;rw [show k4=p.rules.length by have:=U.out.2.2.2.2.2.2;omega] at h1;rw [cf.out,bF];unfold Cc;rw [h1,AY])
       have bO:=hide (Jo (cs:=pc.toList) aC.out.pr I.out);rw [<-bF] at bO;have eH:nt<=1800:=by
        have h1:=FB p.rules (fun r hr=>(I.out.rule r hr).1.2.1);have h2:=I.out.rules;omega
       clear bF aV;go_wp2_with fail;by_cases bX:3<nt
       ·have G3:(3:Int)<(nt:Int):=by omega
        refine Calls.ret bO.out ?_;rintro v w9 ⟨aJ,E⟩;obtain⟨Av,cv,F⟩:=AH aJ;subst F;have M:=hide (aZ.out.trans (E.mono aZ.out.size));clear aJ E;go_wp2_with fail;go_ret;exact⟨congrArg (Value.int .i64) (cg.out.trans (by rw [decide_eq_true bX];rfl)).symm,M.out⟩
       ·have G3:¬(3:Int)<(nt:Int):=by omega
        refine Calls.ret bO.out ?_;rintro v w9 ⟨aJ,E⟩;obtain⟨Av,cv,F⟩:=AH aJ;subst F;have M:=hide (aZ.out.trans (E.mono aZ.out.size));clear aJ E;go_wp2_with fail;go_ret;exact⟨congrArg (Value.int .i64) (cg.out.trans (by rw [decide_eq_false bX];rfl)).symm,M.out⟩
end Go.Proofs.YtjejejmeddkciaaGreatDoor.K
