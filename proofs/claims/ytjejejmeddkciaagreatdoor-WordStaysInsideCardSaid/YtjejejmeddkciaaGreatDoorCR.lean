/-
  Part CR of a proof.
-/
import Derived.Test.YtjejejmeddkciaaGreatDoorPA
import Derived.Test.YtjejejmeddkciaaGreatDoorCN
import Derived.Test.YtjejejmeddkciaaGreatDoorCJ
import Derived.Test.YtjejejmeddkciaaGreatDoorCI
set_option maxHeartbeats 16000000
set_option maxRecDepth 100000
set_option linter.unusedVariables false
set_option linter.unusedSimpArgs false
namespace Go.Proofs.YtjejejmeddkciaaGreatDoor.K
open Go.RowKit
attribute [-go_sem] loadCellsFrom storeCells
theorem RU {w:World} {cs:List Value} {p:Am} (h:At w w.heap.size cs p) (a5:p.Small) (hT:SpOK w) (br:p.topo≠1):
  Calls Tryz.prog 123 #[.agg cs.toArray] w (Ret fun v w'=>v=.int .i64 (protE nameOK p)/\Below w.heap.size w w'):=by
 obtain⟨A1,c1,A2,c2,A3,c3,A4,c4,A5,c5,A6,c6,A7,c7,cA,eG,dG,dH,bJ,aN,dI,dJ,dK,dL,dM,h1,h2,h3,h4,h5,h6,h7,dr⟩:=h.cells;have dx:=a5.states;have dy:=a5.messages;have dz:=a5.values;have dA:=a5.res;have dB:=a5.initial;have dC:=a5.leader;have dD:=a5.rules;have eE:=a5.name;have G:=hide a5;have df:=hide h1;have dg:=hide h2;have dh:=hide h3;have ej:=hide h7;have ek:=hide h4;have di:=hide h5;have dj:=hide h6;obtain⟨w1,eK,aG,aU,dt⟩:=Ae w cs.toArray 27;have ci:=hide (show C0 w1 w.heap.size cs.toArray p from⟨h.keep (fun _ V=>aG.cell V) aG.size,aU,hT.below aG⟩);have dn:=hide aG;generalize dN:cs.toArray=pc at*;clear h1 h2 h3 h4 h5 h6 h7 h a5 aG aU dt dN hT;obtain⟨nr,bB⟩:∃n,n=p.res.length:=⟨_,rfl⟩;obtain⟨nm,bA⟩:∃n,n=p.messages.length:=⟨_,rfl⟩;obtain⟨nv,bF⟩:∃n,n=p.values.length:=⟨_,rfl⟩;obtain⟨nl,bz⟩:∃n,n=p.leader.length:=⟨_,rfl⟩;obtain⟨ni,bx⟩:∃n,n=p.initial.length:=⟨_,rfl⟩;obtain⟨ns,bC⟩:∃n,n=p.states.length:=⟨_,rfl⟩;obtain⟨nu,bE⟩:∃n,n=p.rules.length:=⟨_,rfl⟩;have U:=hide (show nr=p.res.length/\nm=p.messages.length/\nv=p.values.length/\nl=p.leader.length/\ni=p.initial.length/\ns=p.states.length/\nu=p.rules.length from⟨bB,bA,bF,bz,bx,bC,bE⟩);simp only [<-bB,<-bA,<-bF,<-bz,<-bx,<-bC,<-bE] at dH bJ aN dJ dK dL dM dx dy dz dA dB dC dD dr;clear bB bA bF bz bx bC bE;obtain⟨kt,bu⟩:∃n,n=p.topo:=⟨_,rfl⟩;obtain⟨kf,bt⟩:∃n,n=p.fault:=⟨_,rfl⟩;have ca:=hide (show kt=p.topo/\kf=p.fault from⟨bu,bt⟩);simp only [<-bu,<-bt] at dG dI;clear bu bt;have ay:=hide cA;clear cA;have em:=ci.out.b.cell;have ae:Hid (kt≠1):=by rw [<-ca.out.1] at br;exact br
 have eH:(kt==1)=false:=by simp [ae.out]
 have eI:(kt != 1)=true:=by simp [ae.out]
 clear br;have aY:=dn;obtain⟨e0,b4⟩:∃e,Hid (CU nameOK (Bd p)=e):=⟨_,rfl⟩;cases b9:nameOK p.name
 case false=>
  have W:=hide b9;clear b9;go_enter Tryz.func123,Tryz.ntmps123;go_wp2_with fail;refine Calls.ret (Cm p.name _ (by omega)) ?_;rintro v w2 ⟨rfl,ar⟩;rw [W.out];have F:=hide (aY.out.trans (ar.mono aY.out.size));clear ar;go_wp2_with fail;go_ret;exact⟨by unfold protE;rw [W.out];rfl,F.out⟩
 have W:=hide b9;clear b9;have J:=hide (show protE nameOK p=CH kt kf ns nm nv nr nu nl e0 (DJ p) from by
  obtain⟨e1,e2,e3,e4,e5,e6,e7⟩:=U.out;obtain⟨f1,f2⟩:=ca.out;rw [e1,e2,e3,e4,e6,e7,f1,f2,<-b4.out];exact GI p W.out)
 have bs:∀I,Below w.heap.size w I->Calls Tryz.prog 137 #[.slice A5 ni c5,.int .i64 (ns:Int)] I (Ret fun r w'=>r=.int .i64 (Aa p.initial (ns:Int))/\Below I.heap.size I w'):=fun I hx=>by
  rw [U.out.2.2.2.2.1];exact B0 (by omega) (di.out.keep (fun _ V=>hx.cell V) hx.size)
 have cx:∀I,Below w.heap.size w I->Calls Tryz.prog 137 #[.slice A6 nl c6,.int .i64 (ns:Int)] I (Ret fun r w'=>r=.int .i64 (Aa p.leader (ns:Int))/\Below I.heap.size I w'):=fun I hx=>by
  rw [U.out.2.2.2.1];exact B0 (by omega) (dj.out.keep (fun _ V=>hx.cell V) hx.size)
 go_enter Tryz.func123,Tryz.ntmps123;go_wp2_with fail;refine Calls.ret (Cm p.name _ (by omega)) ?_;rintro v w2 ⟨rfl,ar⟩;rw [W.out];have am:=hide (ci.out.at ar);have en:=am.out.b.cell;have ez:=Ah am.out.b ay.out;have F:=hide (aY.out.trans (ar.mono aY.out.size));clear ar;go_wp2_with fail;cases bb:inC kt 1 4
 case false=>
  have aA:=hide bb;clear bb;refine(Aq _ _ _ _).mono ?_;rintro e w' ⟨rfl,rfl⟩;rw [aA.out];go_wp2_with fail;go_ret;exact⟨congrArg (Value.int .i64) (J.out.trans (pv2 (by have h1:=aA.out;simp [inC] at h1;omega))).symm,F.out⟩
 have aA:=hide bb;clear bb;refine(Aq _ _ _ _).mono ?_;rintro e w' ⟨rfl,rfl⟩;rw [aA.out];go_wp2_with fail;cases b7:inC kf 0 3
 case false=>
  have Z:=hide b7;clear b7;refine(Aq _ _ _ _).mono ?_;rintro e w' ⟨rfl,rfl⟩;rw [Z.out];go_wp2_with fail;go_ret;exact⟨congrArg (Value.int .i64) (J.out.trans (pv2 (by have h1:=Z.out;simp [inC] at h1;omega))).symm,F.out⟩
 have Z:=hide b7;clear b7;have O:=hide (show 1<=kt/\kt<=4/\0<=kf/\kf<=3 from by
  have h1:=aA.out;have h2:=Z.out;simp [inC] at h1 h2;omega)
 cases aa:((ns:Int)==0)
 case true=>
  refine(Aq _ _ _ _).mono ?_;rintro e w' ⟨rfl,rfl⟩;rw [Z.out];go_wp2_with fail;go_ret;exact⟨congrArg (Value.int .i64) (J.out.trans (pv3 O.out aa)).symm,F.out⟩
 by_cases d5:6<(ns:Int)
 case pos=>
  refine(Aq _ _ _ _).mono ?_;rintro e w' ⟨rfl,rfl⟩;rw [Z.out];go_wp2_with fail;go_ret;exact⟨congrArg (Value.int .i64) (J.out.trans (pv4 O.out aa (by omega))).symm,F.out⟩
 by_cases aU:3<(nm:Int)
 case pos=>
  refine(Aq _ _ _ _).mono ?_;rintro e w' ⟨rfl,rfl⟩;rw [Z.out];go_wp2_with fail;go_ret;exact⟨congrArg (Value.int .i64) (J.out.trans (pv4 O.out aa (by omega))).symm,F.out⟩
 by_cases d6:3<(nv:Int)
 case pos=>
  refine(Aq _ _ _ _).mono ?_;rintro e w' ⟨rfl,rfl⟩;rw [Z.out];go_wp2_with fail;go_ret;exact⟨congrArg (Value.int .i64) (J.out.trans (pv4 O.out aa (by omega))).symm,F.out⟩
 by_cases aV:4<(nr:Int)
 case pos=>
  refine(Aq _ _ _ _).mono ?_;rintro e w' ⟨rfl,rfl⟩;rw [Z.out];go_wp2_with fail;go_ret;exact⟨congrArg (Value.int .i64) (J.out.trans (pv4 O.out aa (by omega))).symm,F.out⟩
 by_cases d7:8<(nu:Int)
 case pos=>
  refine(Aq _ _ _ _).mono ?_;rintro e w' ⟨rfl,rfl⟩;rw [Z.out];go_wp2_with fail;go_ret;exact⟨congrArg (Value.int .i64) (J.out.trans (pv4 O.out aa (by omega))).symm,F.out⟩
 refine(Aq _ _ _ _).mono ?_;rintro e w' ⟨rfl,rfl⟩;rw [Z.out];go_wp2_with fail;have H3:=hide aa;have H4:=hide (show(ns:Int)<=6/\(nm:Int)<=3/\(nv:Int)<=3/\(nr:Int)<=4/\(nu:Int)<=8 from by omega);clear aa d5 aU d6 aV d7;rename_i z1 zK za;clear z1;obtain⟨w3,eL,bo,aV,du⟩:=Ae w2 #[] 9;have aH:=hide (show Below w2.heap.size w2 w3.drew from bo.trans ((Ap w3).mono bo.size));have bj:=hide (show World.ownsRow w3.drew w2.heap.size 9 1 (.slice (some ⟨w2.heap.size,0,none⟩) 0 0) 0 [] from⟨by simp,.inr ⟨w2.heap.size,0,#[],rfl,Nat.le_refl _,aV,Nat.le_refl _,by unfold maxLen;omega,by simp,by simp⟩⟩);have bm:=hide (am.out.at aH.out);have eo:=bm.out.b.cell;have dk:=hide (F.out.trans (aH.out.mono F.out.size));clear bo aV du;refine Reg.cI [0,0,2,7,0,16,63,0,128,511,1023] [1,2,4,5,7,8,0,3,6,9,10] ?_;refine Reg.wI [1,2,4,5,7,8,0] [3,6,9,10] rfl fun Qf C=>?_;go_wp2_with fail;first|refine C _ _ ⟨rfl,?_⟩|refine⟨rfl,?_⟩|refine C _ _ ⟨by simp [Reg.fineT,Reg.intOp,Region.wanted,yielded,Reg.intFine,Reg.isInt,Act.eval],?_⟩
 (try clear C);refine Reg.aI 3 [6,9,10] [5,8] rfl fun Qf C=>?_;simp only [gT,gS,gZ];go_wp2_with (at_builtin;refine Ei (w:=w3.drew) EW rfl _ _ rfl w2.heap.size _ _ _ rfl bj.out (l:=p.states) (df.out.keep (w':=w3.drew) (B':=w.heap.size) (fun _ V=>dk.out.cell V) (Nat.le_refl _)) (by rw [<-U.out.2.2.2.2.2.1];rfl) (fun d=>rfl) (by have:=G.out.states;have:=G.out.messages;have:=G.out.values;omega) aH.out.size ?_;intro v4 w4 bH ct);have aJ:=hide (aH.out.trans (ct.below aH.out.size fun b' cn e=>by have:=(bj.out.lt b' e).1;omega));have bk:=hide bH;have aX:=hide (am.out.at aJ.out);have ep:=aX.out.b.cell;have dl:=hide (F.out.trans (aJ.out.mono F.out.size));obtain⟨ea,ef,dR⟩:=AH bH;subst dR;clear ct bH;first|refine C _ _ ⟨?_,?_⟩|refine⟨?_,?_⟩
 ·exact⟨Reg.same_load1 rfl rfl ((bm.out.b.cell 3).trans bJ) ((aX.out.b.cell 3).trans bJ) Tryz.underlying22 rfl,Reg.same_load1 rfl rfl ((bm.out.b.cell 4).trans aN) ((aX.out.b.cell 4).trans aN) Tryz.underlying22 rfl⟩
 (try clear C);refine Reg.aI 6 [9,10] [8] rfl fun Qf C=>?_;simp only [gT,gS,gZ];go_wp2_with (at_builtin;refine Ei (w:=w4) EW rfl _ _ rfl w2.heap.size _ _ _ rfl bk.out (l:=p.messages) (dg.out.keep (w':=w4) (B':=w.heap.size) (fun _ V=>dl.out.cell V) (Nat.le_refl _)) (by rw [<-U.out.2.1];rfl) (fun d=>rfl) (by have:=G.out.states;have:=G.out.messages;have:=G.out.values;omega) aJ.out.size ?_;intro v5 w5 bI cu);have aK:=hide (aJ.out.trans (cu.below aJ.out.size fun b' cn e=>by have:=(bk.out.lt b' e).1;omega));have bl:=hide bI;have cj:=hide (am.out.at aK.out);have eq:=cj.out.b.cell;have dm:=hide (F.out.trans (aK.out.mono F.out.size));obtain⟨eb,eg,dS⟩:=AH bI;subst dS;clear cu bI;first|refine C _ _ ⟨?_,?_⟩|refine⟨?_,?_⟩
 ·exact Reg.same_load1 rfl rfl ((aX.out.b.cell 4).trans aN) ((cj.out.b.cell 4).trans aN) Tryz.underlying22 rfl
 (try clear C);refine Reg.aI 9 [10] [] rfl fun Qf C=>?_;simp only [gT,gS,gZ];go_wp2_with (at_builtin;refine Ei (w:=w5) EW rfl _ _ rfl w2.heap.size _ _ _ rfl bl.out (l:=p.values) (dh.out.keep (w':=w5) (B':=w.heap.size) (fun _ V=>dm.out.cell V) (Nat.le_refl _)) (by rw [<-U.out.2.2.1];rfl) (fun d=>rfl) (by have:=G.out.states;have:=G.out.messages;have:=G.out.values;omega) aK.out.size ?_;intro v6 w6 ax cw);have co:=hide (aK.out.trans (cw.below aK.out.size fun b' cn e=>by have:=(bl.out.lt b' e).1;omega));have dc:=hide ax;have ck:=hide (am.out.at co.out);have er:=ck.out.b.cell;have ao:=hide (F.out.trans (co.out.mono F.out.size));obtain⟨ec,bT,dT⟩:=AH ax;subst dT;clear cw;first|refine C _ _ ⟨Reg.nm,?_⟩|skip
 (try clear C);refine Reg.wI [10] [] rfl fun Qf C=>?_;go_wp2_with fail;first|refine C _ _ ⟨rfl,?_⟩|refine⟨rfl,?_⟩|refine C _ _ ⟨by simp [Reg.fineT,Reg.intOp,Region.wanted,yielded,Reg.intFine,Reg.isInt,Act.eval],?_⟩
 (try clear C);first|refine Reg.restI_end ?_|skip
 have cz:0+p.states.length+p.messages.length+p.values.length=(Bd p).length:=by simp only [Bd,List.length_append];omega
 have cG:[]++p.states.map (BE · 0)++p.messages.map (BE · 0)++p.values.map (BE · 0)=DV (Bd p):=by simp [DV,Bd]
 rw [cz,cG] at ax;rw [show p.states.length+p.messages.length+p.values.length=(Bd p).length by simp only [Bd,List.length_append]];have eB:(Bd p).length<=180:=by
  have:=G.out.states;have:=G.out.messages;have:=G.out.values;omega
 have cg:=hide (HS ax (by omega)).2;have ev:=HP ax;have dE:=hide G.out.names;have cy:=hide (show CU nameOK (Bd p)=Aj (nmE (Bd p)) (List.range (Bd p).length) from rfl);rw [b4.out] at cy;have c8:=hide (show CU nameOK (Bd p)=e0 from b4.out);clear ax cz cG bj bk bl dc b4;generalize Bd p=L at*;go_wp2_with fail;go_loopw [4] (fun ii wr=>∃(k:Nat),ii=.int .i64 (k:Int)/\k<=L.length/\Hid (Aj (nmE L) (List.range k)=0)/\Hid (Below w6.heap.size w6 wr)) (fun ii _=>L.length - (intOf ii).toNat)
 case atStart=>exact⟨0,rfl,Nat.zero_le _,by show _=_;rfl,Below.refl _ _⟩
 case round=>
  obtain⟨k,rfl,hk,hE,a8⟩:=hrel;by_cases b8:k<L.length
  ·obtain⟨b,off,s,hA,b0,bK,hc⟩:=cg.out.at b8;have d0:=hc 0 (by omega);simp only [Nat.add_zero,Nat.mul_one,BE] at d0;have d1:=(a8.out.cell (p:=⟨b,off+k,none⟩) b0).trans d0;have eJ:=dE.out s (List.mem_of_getElem? bK);have bL:=hide bK;subst hA;clear hc bK;cases ba:nameOK s with
   | false=>
    have W:=hide ba;clear ba;have aO:=hide (show e0=2 from c8.out.symm.trans (Fl b8 hE.out bL.out (.inl W.out)));go_wp2_with fail;refine Reg.cI [0,0,3,7,15,31,63,127,127,511,127,127,3199,7295,16383,32767] [0,1,2,3,4,5,6,7,8,10,11,12,13,9,14,15] ?_;refine Reg.wI [0,1,2,3] [4,5,6,7,8,10,11,12,13,9,14,15] rfl fun Qf C=>?_;go_wp2_with fail;first|refine C _ _ ⟨rfl,?_⟩|refine⟨rfl,?_⟩|refine C _ _ ⟨by simp [Reg.fineT,Reg.intOp,Region.wanted,yielded,Reg.intFine,Reg.isInt,Act.eval],?_⟩
    (try clear C);refine Reg.aI 4 [5,6,7,8,10,11,12,13,9,14,15] [] rfl fun Qf C=>?_;simp only [gT,gS,gZ];go_wp2_with (go_at_call 136;refine Calls.ret (Cm s _ (by omega)) ?_;rintro v w8 ⟨rfl,a9⟩;rw [W.out];have a4:=hide (a8.out.trans (((Ap wr).trans a9).mono a8.out.size));have d8:=(a4.out.cell (p:=⟨b,off+k,none⟩) b0).trans d0);first|refine C _ _ ⟨Reg.nm,?_⟩|refine⟨Reg.nm,?_⟩
    (try clear C);clear a9;refine Reg.wI [5,6,7,8,10,11,12,13] [9,14,15] rfl fun Qf C=>?_;go_wp2_with fail;first|refine C _ _ ⟨rfl,?_⟩|refine⟨rfl,?_⟩|refine C _ _ ⟨by simp [Reg.fineT,Reg.intOp,Region.wanted,yielded,Reg.intFine,Reg.isInt,Act.eval],?_⟩
    (try clear C);refine Reg.aI 9 [14,15] [13] rfl fun Qf C=>?_;simp only [gT,gS,gZ];go_wp2_with fail;first|refine C _ _ ⟨Reg.same_below (Below.refl _ _) [13] rfl,?_⟩|refine⟨Reg.same_below (Below.refl _ _) [13] rfl,?_⟩
    (try clear C);refine Reg.aI 14 [15] [] rfl fun Qf C=>?_;simp only [gT,gS,gZ];go_wp2_with fail;first|refine C _ _ ⟨Reg.nm,?_⟩|refine⟨Reg.nm,?_⟩
    (try clear C);refine Reg.wI [15] [] rfl fun Qf C=>?_;go_wp2_with fail;first|refine C _ _ ⟨rfl,?_⟩|refine⟨rfl,?_⟩|refine C _ _ ⟨by simp [Reg.fineT,Reg.intOp,Region.wanted,yielded,Reg.intFine,Reg.isInt,Act.eval],?_⟩
    (try clear C);first|refine Reg.restI_end ?_|skip
    go_wp2_with fail;go_ret;exact⟨congrArg (Value.int .i64) (J.out.trans (by rw [aO.out];exact pv5 O.out H3.out H4.out rfl)).symm,ao.out.trans (a4.out.mono ao.out.size)⟩
   | true=>
    have W:=hide ba;clear ba;have cD:(L.take k).length=k:=by rw [List.length_take];omega
    have dQ:=hide cD;clear cD;have cr:Hid (∀I,Hid (Below w6.heap.size w6 I)->Hid (Calls Tryz.prog 162 #[.slice (some ⟨b,off,none⟩) k bT,.string s] I fun r w'=>r=.returned (.bool (decide (s∈L.take k)))/\I=w')):=hide (fun I hx=>by
     have h1:=(cg.out.keep (w':=I) (B':=w6.heap.size) (fun _ V=>hx.out.cell V) (Nat.le_refl _)).takeS k;have h2:=Ht (c:=bT) (x:=s) h1;rw [dQ.out] at h2;exact h2)
    by_cases hm:s∈L.take k
    ·have bw:=hide hm;have bv:=hide (show decide (s∈L.take k)=true from decide_eq_true hm);clear hm;have aO:=hide (show e0=2 from c8.out.symm.trans (Fl b8 hE.out bL.out (.inr bw.out)));go_wp2_with fail;refine Reg.cI [0,0,3,7,15,31,63,127,127,511,127,127,3199,7295,16383,32767] [0,1,2,3,4,5,6,7,8,10,11,12,13,9,14,15] ?_;refine Reg.wI [0,1,2,3] [4,5,6,7,8,10,11,12,13,9,14,15] rfl fun Qf C=>?_;go_wp2_with fail;first|refine C _ _ ⟨rfl,?_⟩|refine⟨rfl,?_⟩|refine C _ _ ⟨by simp [Reg.fineT,Reg.intOp,Region.wanted,yielded,Reg.intFine,Reg.isInt,Act.eval],?_⟩
     (try clear C);refine Reg.aI 4 [5,6,7,8,10,11,12,13,9,14,15] [] rfl fun Qf C=>?_;simp only [gT,gS,gZ];go_wp2_with (go_at_call 136;refine Calls.ret (Cm s _ (by omega)) ?_;rintro v w8 ⟨rfl,a9⟩;rw [W.out];have a4:=hide (a8.out.trans (((Ap wr).trans a9).mono a8.out.size));have d8:=(a4.out.cell (p:=⟨b,off+k,none⟩) b0).trans d0);first|refine C _ _ ⟨Reg.nm,?_⟩|refine⟨Reg.nm,?_⟩
     (try clear C);clear a9;refine Reg.wI [5,6,7,8,10,11,12,13] [9,14,15] rfl fun Qf C=>?_;go_wp2_with fail;first|refine C _ _ ⟨rfl,?_⟩|refine⟨rfl,?_⟩|refine C _ _ ⟨by simp [Reg.fineT,Reg.intOp,Region.wanted,yielded,Reg.intFine,Reg.isInt,Act.eval],?_⟩
     (try clear C);refine Reg.aI 9 [14,15] [13] rfl fun Qf C=>?_;simp only [gT,gS,gZ];go_wp2_with fail;first|refine C _ _ ⟨Reg.same_below (Below.refl _ _) [13] rfl,?_⟩|refine⟨Reg.same_below (Below.refl _ _) [13] rfl,?_⟩
     (try clear C);refine Reg.aI 14 [15] [] rfl fun Qf C=>?_;simp only [gT,gS,gZ];go_wp2_with (go_at_call 162;refine(cr.out _ a4).out.mono ?_;rintro r w' ⟨rfl,rfl⟩;rw [bv.out]);first|refine C _ _ ⟨Reg.nm,?_⟩|refine⟨Reg.nm,?_⟩
     (try clear C);refine Reg.wI [15] [] rfl fun Qf C=>?_;go_wp2_with fail;first|refine C _ _ ⟨rfl,?_⟩|refine⟨rfl,?_⟩|refine C _ _ ⟨by simp [Reg.fineT,Reg.intOp,Region.wanted,yielded,Reg.intFine,Reg.isInt,Act.eval],?_⟩
     (try clear C);first|refine Reg.restI_end ?_|skip
     go_wp2_with fail;go_ret;exact⟨congrArg (Value.int .i64) (J.out.trans (by rw [aO.out];exact pv5 O.out H3.out H4.out rfl)).symm,ao.out.trans (a4.out.mono ao.out.size)⟩
    ·have bw:=hide hm;have bv:=hide (show decide (s∈L.take k)=false from decide_eq_false hm);clear hm;have bG:=hide (HN b8 hE.out bL.out W.out bw.out);go_wp2_with fail;refine Reg.cI [0,0,3,7,15,31,63,127,127,511,127,127,3199,7295,16383,32767] [0,1,2,3,4,5,6,7,8,10,11,12,13,9,14,15] ?_;refine Reg.wI [0,1,2,3] [4,5,6,7,8,10,11,12,13,9,14,15] rfl fun Qf C=>?_;go_wp2_with fail;first|refine C _ _ ⟨rfl,?_⟩|refine⟨rfl,?_⟩|refine C _ _ ⟨by simp [Reg.fineT,Reg.intOp,Region.wanted,yielded,Reg.intFine,Reg.isInt,Act.eval],?_⟩
     (try clear C);refine Reg.aI 4 [5,6,7,8,10,11,12,13,9,14,15] [] rfl fun Qf C=>?_;simp only [gT,gS,gZ];go_wp2_with (go_at_call 136;refine Calls.ret (Cm s _ (by omega)) ?_;rintro v w8 ⟨rfl,a9⟩;rw [W.out];have a4:=hide (a8.out.trans (((Ap wr).trans a9).mono a8.out.size));have d8:=(a4.out.cell (p:=⟨b,off+k,none⟩) b0).trans d0);first|refine C _ _ ⟨Reg.nm,?_⟩|refine⟨Reg.nm,?_⟩
     (try clear C);clear a9;refine Reg.wI [5,6,7,8,10,11,12,13] [9,14,15] rfl fun Qf C=>?_;go_wp2_with fail;first|refine C _ _ ⟨rfl,?_⟩|refine⟨rfl,?_⟩|refine C _ _ ⟨by simp [Reg.fineT,Reg.intOp,Region.wanted,yielded,Reg.intFine,Reg.isInt,Act.eval],?_⟩
     (try clear C);refine Reg.aI 9 [14,15] [13] rfl fun Qf C=>?_;simp only [gT,gS,gZ];go_wp2_with fail;first|refine C _ _ ⟨Reg.same_below (Below.refl _ _) [13] rfl,?_⟩|refine⟨Reg.same_below (Below.refl _ _) [13] rfl,?_⟩
     (try clear C);refine Reg.aI 14 [15] [] rfl fun Qf C=>?_;simp only [gT,gS,gZ];go_wp2_with (go_at_call 162;refine(cr.out _ a4).out.mono ?_;rintro r w' ⟨rfl,rfl⟩;rw [bv.out]);first|refine C _ _ ⟨Reg.nm,?_⟩|refine⟨Reg.nm,?_⟩
     (try clear C);refine Reg.wI [15] [] rfl fun Qf C=>?_;go_wp2_with fail;first|refine C _ _ ⟨rfl,?_⟩|refine⟨rfl,?_⟩|refine C _ _ ⟨by simp [Reg.fineT,Reg.intOp,Region.wanted,yielded,Reg.intFine,Reg.isInt,Act.eval],?_⟩
     (try clear C);first|refine Reg.restI_end ?_|skip
     go_wp2_with fail;exact⟨⟨k+1,by go_num,by omega,bG.out,a4.out⟩,by simp [intOf];omega⟩
  ·have aP:=hide (show e0=0 from by
    have h1:=hE.out;rw [show k=L.length by omega] at h1;exact cy.out.trans h1)
   have cm:=hide (ck.out.at a8.out);have es:=cm.out.b.cell;have ap:=hide (ao.out.trans (a8.out.mono ao.out.size));clear hE;obtain⟨cK,dU⟩:∃x,x=wr:=⟨_,rfl⟩;subst dU;by_cases d9:(0:Int)<(nm:Int)
   case pos=>
    go_wp2_with fail;go_ret;exact⟨congrArg (Value.int .i64) (J.out.trans (pv6 O.out H3.out H4.out (by rw [aP.out];rfl) (by have:=ae.out;omega))).symm,ap.out⟩
   by_cases db:(0:Int)<(nv:Int)
   case pos=>
    go_wp2_with fail;go_ret;exact⟨congrArg (Value.int .i64) (J.out.trans (pv6 O.out H3.out H4.out (by rw [aP.out];rfl) (by have:=ae.out;omega))).symm,ap.out⟩
   by_cases da:(0:Int)<(nr:Int)
   case pos=>
    go_wp2_with fail;go_ret;exact⟨congrArg (Value.int .i64) (J.out.trans (pv6 O.out H3.out H4.out (by rw [aP.out];rfl) (by have:=ae.out;omega))).symm,ap.out⟩
   by_cases al:kf=0
   case neg=>
    have QC:(kf != 0)=true:=by simp [al]
    have HC:=hide al;clear al;go_wp2_with fail;go_ret;exact⟨congrArg (Value.int .i64) (J.out.trans (pv6 O.out H3.out H4.out (by rw [aP.out];rfl) (by have:=ae.out;have:=HC.out;omega))).symm,ap.out⟩
   have QC:(kf != 0)=false:=by simp [al]
   have hR:=hide (J.out.trans (pv7 O.out H3.out H4.out (by rw [aP.out];rfl) (by have:=ae.out;omega)));have dF:=hide (show nr=0 by omega);have ed:=hide al;clear al;go_wp2_with fail;clear d9 db da QC;go_loopw [5] (fun ii wr=>∃(k:Nat),ii=.int .i64 (k:Int)/\k<=0/\Hid (Below cK.heap.size cK wr)/\Hid ((p.res.take k).all Bg=true)) (fun ii _=>0 - (intOf ii).toNat)
   case atStart=>exact⟨0,rfl,Nat.zero_le _,Below.refl _ _,by show _=_;simp⟩
   case round=>
    obtain⟨k2,rfl,ex,cp,c9⟩:=hrel;have bn:=hide (cm.out.at cp.out);have et:=bn.out.b.cell;have a7:=hide (ap.out.trans (cp.out.mono ap.out.size));by_cases eC:k2<0
    ·exfalso;omega
    ·have cB:=hide (show p.res.all Bg=true from by
      have h1:=U.out.1;have h2:=c9.out;have h3:=dF.out
      rwa [List.take_of_length_le (by omega)] at h2)
     have cb:=hide (show protE nameOK p=orE (Aa p.initial (ns:Int)) (orE (Ad (decide (ni=0)) 1) (orE (Aa p.leader (ns:Int)) (Cc p))) from by
      rw [hR.out];obtain⟨-,-,-,-,e5,e6,-⟩:=U.out;unfold DJ Cc;rw [cB.out,Bv,e5,e6];rfl)
     clear cB c9;go_wp2_with fail;obtain⟨ei,aL⟩:∃e,Hid (Aa p.initial (ns:Int)=e):=⟨_,rfl⟩;by_cases aj:ei=0
     case neg=>
      have Qi:(ei != 0)=true:=by simp [aj]
      have Hi:=hide aj;clear aj;refine Calls.ret (bs _ a7.out) ?_;rintro v w9 ⟨rfl,E⟩;rw [aL.out];have M:=hide (a7.out.trans (E.mono a7.out.size));clear E;go_wp2_with fail;go_ret;exact⟨congrArg (Value.int .i64) (cb.out.trans (by rw [aL.out];exact BF Hi.out)).symm,M.out⟩
     have Qi:(ei != 0)=false:=by simp [aj]
     have Hi:=hide aj;clear aj;have cc:=hide (show protE nameOK p=orE (Ad (decide (ni=0)) 1) (orE (Aa p.leader (ns:Int)) (Cc p)) from cb.out.trans (by rw [aL.out,Hi.out];rfl));by_cases aw:ni=0
     case pos=>
      have Qn:((ni:Int)==0)=true:=by simp [aw]
      have Hn:=hide aw;clear aw;refine Calls.ret (bs _ a7.out) ?_;rintro v w9 ⟨rfl,E⟩;rw [aL.out];have af:=hide (bn.out.at E);have dp:=af.out.b.cell;have dv:=Ah af.out.b ay.out;have M:=hide (a7.out.trans (E.mono a7.out.size));clear E;go_wp2_with fail;go_ret;exact⟨congrArg (Value.int .i64) (cc.out.trans (by rw [decide_eq_true Hn.out];rfl)).symm,M.out⟩
     have Qn:((ni:Int)==0)=false:=by simp [aw]
     have Hn:=hide aw;clear aw;have cd:=hide (show protE nameOK p=orE (Aa p.leader (ns:Int)) (Cc p) from cc.out.trans (by rw [decide_eq_false Hn.out];rfl));refine Calls.ret (bs _ a7.out) ?_;rintro v w9 ⟨rfl,E⟩;rw [aL.out];have af:=hide (bn.out.at E);have dp:=af.out.b.cell;have dv:=Ah af.out.b ay.out;have M:=hide (a7.out.trans (E.mono a7.out.size));clear E;go_wp2_with fail;obtain⟨el,b6⟩:∃e,Hid (Aa p.leader (ns:Int)=e):=⟨_,rfl⟩;by_cases ak:el=0
     case neg=>
      have Ql:(el != 0)=true:=by simp [ak]
      have Hl:=hide ak;clear ak;refine Calls.ret (cx _ M.out) ?_;rintro v wa ⟨rfl,ag⟩;rw [b6.out];have an:=hide (af.out.at ag);have dq:=an.out.b.cell;have dw:=Ah an.out.b ay.out;have aq:=hide (M.out.trans (ag.mono M.out.size));clear ag;go_wp2_with fail;go_ret;exact⟨congrArg (Value.int .i64) (cd.out.trans (by rw [b6.out];exact BF Hl.out)).symm,aq.out⟩
     have Ql:(el != 0)=false:=by simp [ak]
     have Hl:=hide ak;clear ak;have ce:=hide (show protE nameOK p=Cc p from cd.out.trans (by rw [b6.out,Hl.out];rfl));refine Calls.ret (cx _ M.out) ?_;rintro v wa ⟨rfl,ag⟩;rw [b6.out];have an:=hide (af.out.at ag);have dq:=an.out.b.cell;have dw:=Ah an.out.b ay.out;have aq:=hide (M.out.trans (ag.mono M.out.size));clear ag;go_wp2_with fail;clear Qi Qn Ql;go_loopw [8] (fun ii wr=>∃(k:Nat),ii=.int .i64 (k:Int)/\k<=nu/\Hid (Below wa.heap.size wa wr)/\Hid (Aj (BB nameOK p) (List.range k)=0)) (fun ii _=>nu - (intOf ii).toNat)
     case atStart=>exact⟨0,rfl,Nat.zero_le _,Below.refl _ _,by show _=_;rfl⟩
     case round=>
      obtain⟨k4,rfl,ey,au,aW⟩:=hrel;have aF:=hide (an.out.at au.out);have eu:=aF.out.b.cell;have eA:=Ah aF.out.b ay.out;have aZ:=hide (aq.out.trans (au.out.mono aq.out.size));by_cases eD:k4<nu
      ·obtain⟨e9,b5⟩:∃e,Hid (BB nameOK p k4=e):=⟨_,rfl⟩;have bq:=hide (KF (cs:=pc.toList) (i:=k4) aF.out.pr (by have:=U.out.2.2.2.2.2.2;omega) G.out aF.out.tab);rw [b5.out] at bq;have cF:=hide (show(List.range p.rules.length)[k4]?=some k4 from by rw [List.getElem?_range (by have:=U.out.2.2.2.2.2.2;omega)]);have cE:=hide (show(List.range p.rules.length).take k4=List.range k4 from by rw [List.take_range,Nat.min_eq_left (by have:=U.out.2.2.2.2.2.2;omega)]);go_wp2_with fail;by_cases h0:e9=0
       ·have hq:(e9 != 0)=false:=by simp [h0]
        have bG:=hide (show Aj (BB nameOK p) (List.range (k4+1))=0 from by
         have h1:=CD (BB nameOK p) cF.out (by rw [cE.out];exact aW.out);rw [List.take_range,Nat.min_eq_left (by have:=U.out.2.2.2.2.2.2;omega)] at h1;rw [h1,b5.out,h0])
        clear h0;refine Calls.ret bq.out ?_;rintro v w9 ⟨rfl,E⟩;have bp:=hide (au.out.trans (E.mono au.out.size));clear E;go_wp2_with fail;exact⟨⟨k4+1,by go_num,by omega,bp.out,bG.out⟩,by simp [intOf];omega⟩
       ·have hq:(e9 != 0)=true:=by simp [h0]
        have aO:=hide (show protE nameOK p=e9 from by
         have h1:=Ct (BB nameOK p) cF.out (by rw [cE.out];exact aW.out) (by rw [b5.out];exact h0);rw [ce.out];unfold Cc;rw [h1,b5.out,BF h0])
        clear h0;refine Calls.ret bq.out ?_;rintro v w9 ⟨rfl,E⟩;have bp:=hide (au.out.trans (E.mono au.out.size));clear E;go_wp2_with fail;go_ret;exact⟨congrArg (Value.int .i64) aO.out.symm,aq.out.trans (bp.out.mono aq.out.size)⟩
      ·obtain⟨nt,bD⟩:∃n,n=(BO p.rules).length:=⟨_,rfl⟩;have cf:=hide (show protE nameOK p=Ad (decide (3<nt)) 4 from by
        have h1:=aW.out;rw [show k4=p.rules.length by have:=U.out.2.2.2.2.2.2;omega] at h1;rw [ce.out,bD];unfold Cc;rw [h1,AY])
       have bM:=hide (Jo (cs:=pc.toList) aF.out.pr G.out);rw [<-bD] at bM;have eF:nt<=1800:=by
        have h1:=FB p.rules (fun r hr=>(G.out.rule r hr).1.2.1);have h2:=G.out.rules;omega
       clear bD aW;go_wp2_with fail;by_cases bW:3<nt
       ·have G3:(3:Int)<(nt:Int):=by omega
        refine Calls.ret bM.out ?_;rintro v w9 ⟨aM,E⟩;obtain⟨Av,cv,hv⟩:=AH aM;subst hv;have M:=hide (aZ.out.trans (E.mono aZ.out.size));clear aM E;go_wp2_with fail;go_ret;exact⟨congrArg (Value.int .i64) (cf.out.trans (by rw [decide_eq_true bW];rfl)).symm,M.out⟩
       ·have G3:¬(3:Int)<(nt:Int):=by omega
        refine Calls.ret bM.out ?_;rintro v w9 ⟨aM,E⟩;obtain⟨Av,cv,hv⟩:=AH aM;subst hv;have M:=hide (aZ.out.trans (E.mono aZ.out.size));clear aM E;go_wp2_with fail;go_ret;exact⟨congrArg (Value.int .i64) (cf.out.trans (by rw [decide_eq_false bW];rfl)).symm,M.out⟩
end Go.Proofs.YtjejejmeddkciaaGreatDoor.K
