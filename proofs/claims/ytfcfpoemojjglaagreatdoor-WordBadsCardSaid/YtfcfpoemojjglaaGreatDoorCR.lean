/-
  Part CR of a proof.
-/
import Derived.Test.YtfcfpoemojjglaaGreatDoorPA
import Derived.Test.YtfcfpoemojjglaaGreatDoorCN
import Derived.Test.YtfcfpoemojjglaaGreatDoorCJ
import Derived.Test.YtfcfpoemojjglaaGreatDoorCI
set_option maxHeartbeats 16000000
set_option maxRecDepth 100000
set_option linter.unusedVariables false
set_option linter.unusedSimpArgs false
namespace Go.Proofs.YtfcfpoemojjglaaGreatDoor.K
open Go.RowKit
attribute [-go_sem] loadCellsFrom storeCells
theorem RU {w:World} {cs:List Value} {p:Am} (h:At w w.heap.size cs p) (a4:p.Small) (hT:SpOK w) (bu:p.topo≠1):
  Calls Tryz.prog 95 #[.agg cs.toArray] w (Ret fun v w'=>v=.int .i64 (protE nameOK p)/\Below w.heap.size w w'):=by
 obtain⟨A1,c1,A2,c2,A3,c3,A4,c4,A5,c5,A6,c6,A7,c7,cE,eI,dK,dL,bM,aN,dM,dN,dO,dP,dQ,y,h2,h3,h4,h5,h6,h7,dw⟩:=h.cells;have dB:=a4.states;have dC:=a4.messages;have dD:=a4.values;have dE:=a4.res;have dF:=a4.initial;have dG:=a4.leader;have dH:=a4.rules;have eG:=a4.name;have G:=hide a4;have dj:=hide y;have dk:=hide h2;have dl:=hide h3;have ej:=hide h7;have ek:=hide h4;have dm:=hide h5;have dn:=hide h6;obtain⟨w1,eM,aG,aV,dx⟩:=Ae w cs.toArray 27;have cm:=hide (show C0 w1 w.heap.size cs.toArray p from⟨h.keep (fun _ U=>aG.cell U) aG.size,aV,hT.below aG⟩);have dt:=hide aG;generalize dR:cs.toArray=pc at*;clear y h2 h3 h4 h5 h6 h7 h a4 aG aV dx dR hT;obtain⟨nr,bE⟩:∃n,n=p.res.length:=⟨_,rfl⟩;obtain⟨nm,bD⟩:∃n,n=p.messages.length:=⟨_,rfl⟩;obtain⟨nv,bI⟩:∃n,n=p.values.length:=⟨_,rfl⟩;obtain⟨nl,bC⟩:∃n,n=p.leader.length:=⟨_,rfl⟩;obtain⟨ni,bB⟩:∃n,n=p.initial.length:=⟨_,rfl⟩;obtain⟨ns,bF⟩:∃n,n=p.states.length:=⟨_,rfl⟩;obtain⟨nu,bH⟩:∃n,n=p.rules.length:=⟨_,rfl⟩;have O:=hide (show nr=p.res.length/\nm=p.messages.length/\nv=p.values.length/\nl=p.leader.length/\ni=p.initial.length/\ns=p.states.length/\nu=p.rules.length from⟨bE,bD,bI,bC,bB,bF,bH⟩);simp only [<-bE,<-bD,<-bI,<-bC,<-bB,<-bF,<-bH] at dL bM aN dN dO dP dQ dB dC dD dE dF dG dH dw;clear bE bD bI bC bB bF bH;obtain⟨kt,bx⟩:∃n,n=p.topo:=⟨_,rfl⟩;obtain⟨kf,bw⟩:∃n,n=p.fault:=⟨_,rfl⟩;have cd:=hide (show kt=p.topo/\kf=p.fault from⟨bx,bw⟩);simp only [<-bx,<-bw] at dK dM;clear bx bw;have ay:=hide cE;clear cE;have em:=cm.out.b.cell;have ae:Hid (kt≠1):=by rw [<-cd.out.1] at bu;exact bu
 have eJ:(kt==1)=false:=by simp [ae.out]
 have eK:(kt != 1)=true:=by simp [ae.out]
 clear bu;have aZ:=dt;obtain⟨e0,b5⟩:∃e,Hid (CU nameOK (Bd p)=e):=⟨_,rfl⟩;cases ba:nameOK p.name
 case false=>
  have V:=hide ba;clear ba;go_enter Tryz.func95,Tryz.ntmps95;go_wp2_with fail;refine Calls.ret (Cm p.name _ (by omega)) ?_;rintro v w2 ⟨rfl,ar⟩;rw [V.out];have E:=hide (aZ.out.trans (ar.mono aZ.out.size));clear ar;go_wp2_with fail;go_ret;exact⟨by unfold protE;rw [V.out];rfl,E.out⟩
 have V:=hide ba;clear ba;have I:=hide (show protE nameOK p=CH kt kf ns nm nv nr nu nl e0 (DJ p) from by
  obtain⟨e1,e2,e3,e4,e5,e6,e7⟩:=O.out;obtain⟨f1,f2⟩:=cd.out;rw [e1,e2,e3,e4,e6,e7,f1,f2,<-b5.out];exact GI p V.out)
 have bv:∀wx,Below w.heap.size w wx->Calls Tryz.prog 97 #[.slice A5 ni c5,.int .i64 (ns:Int)] wx (Ret fun r w'=>r=.int .i64 (Aa p.initial (ns:Int))/\Below wx.heap.size wx w'):=fun wx hx=>by
  rw [O.out.2.2.2.2.1];exact B0 (by omega) (dm.out.keep (fun _ U=>hx.cell U) hx.size)
 have cA:∀wx,Below w.heap.size w wx->Calls Tryz.prog 97 #[.slice A6 nl c6,.int .i64 (ns:Int)] wx (Ret fun r w'=>r=.int .i64 (Aa p.leader (ns:Int))/\Below wx.heap.size wx w'):=fun wx hx=>by
  rw [O.out.2.2.2.1];exact B0 (by omega) (dn.out.keep (fun _ U=>hx.cell U) hx.size)
 go_enter Tryz.func95,Tryz.ntmps95;go_wp2_with fail;refine Calls.ret (Cm p.name _ (by omega)) ?_;rintro v w2 ⟨rfl,ar⟩;rw [V.out];have am:=hide (cm.out.at ar);have en:=am.out.b.cell;have eA:=Ah am.out.b ay.out;have E:=hide (aZ.out.trans (ar.mono aZ.out.size));clear ar;go_wp2_with fail;cases be:inC kt 1 4
 case false=>
  have aA:=hide be;clear be;refine(Aq _ _ _ _).mono ?_;rintro e w' ⟨rfl,rfl⟩;rw [aA.out];go_wp2_with fail;go_ret;exact⟨congrArg (Value.int .i64) (I.out.trans (pv2 (by have y:=aA.out;simp [inC] at y;omega))).symm,E.out⟩
 have aA:=hide be;clear be;refine(Aq _ _ _ _).mono ?_;rintro e w' ⟨rfl,rfl⟩;rw [aA.out];go_wp2_with fail;cases b8:inC kf 0 3
 case false=>
  have W:=hide b8;clear b8;refine(Aq _ _ _ _).mono ?_;rintro e w' ⟨rfl,rfl⟩;rw [W.out];go_wp2_with fail;go_ret;exact⟨congrArg (Value.int .i64) (I.out.trans (pv2 (by have y:=W.out;simp [inC] at y;omega))).symm,E.out⟩
 have W:=hide b8;clear b8;have M:=hide (show 1<=kt/\kt<=4/\0<=kf/\kf<=3 from by
  have y:=aA.out;have h2:=W.out;simp [inC] at y h2;omega)
 cases a9:((ns:Int)==0)
 case true=>
  refine(Aq _ _ _ _).mono ?_;rintro e w' ⟨rfl,rfl⟩;rw [W.out];go_wp2_with fail;go_ret;exact⟨congrArg (Value.int .i64) (I.out.trans (pv3 M.out a9)).symm,E.out⟩
 by_cases da:6<(ns:Int)
 case pos=>
  refine(Aq _ _ _ _).mono ?_;rintro e w' ⟨rfl,rfl⟩;rw [W.out];go_wp2_with fail;go_ret;exact⟨congrArg (Value.int .i64) (I.out.trans (pv4 M.out a9 (by omega))).symm,E.out⟩
 by_cases aV:3<(nm:Int)
 case pos=>
  refine(Aq _ _ _ _).mono ?_;rintro e w' ⟨rfl,rfl⟩;rw [W.out];go_wp2_with fail;go_ret;exact⟨congrArg (Value.int .i64) (I.out.trans (pv4 M.out a9 (by omega))).symm,E.out⟩
 by_cases db:3<(nv:Int)
 case pos=>
  refine(Aq _ _ _ _).mono ?_;rintro e w' ⟨rfl,rfl⟩;rw [W.out];go_wp2_with fail;go_ret;exact⟨congrArg (Value.int .i64) (I.out.trans (pv4 M.out a9 (by omega))).symm,E.out⟩
 by_cases aW:4<(nr:Int)
 case pos=>
  refine(Aq _ _ _ _).mono ?_;rintro e w' ⟨rfl,rfl⟩;rw [W.out];go_wp2_with fail;go_ret;exact⟨congrArg (Value.int .i64) (I.out.trans (pv4 M.out a9 (by omega))).symm,E.out⟩
 by_cases dc:8<(nu:Int)
 case pos=>
  refine(Aq _ _ _ _).mono ?_;rintro e w' ⟨rfl,rfl⟩;rw [W.out];go_wp2_with fail;go_ret;exact⟨congrArg (Value.int .i64) (I.out.trans (pv4 M.out a9 (by omega))).symm,E.out⟩
 refine(Aq _ _ _ _).mono ?_;rintro e w' ⟨rfl,rfl⟩;rw [W.out];go_wp2_with fail;have H3:=hide a9;have H4:=hide (show(ns:Int)<=6/\(nm:Int)<=3/\(nv:Int)<=3/\(nr:Int)<=4/\(nu:Int)<=8 from by omega);clear a9 da aV db aW dc;rename_i z1 zK za;clear z1;obtain⟨w3,eN,br,aW,dy⟩:=Ae w2 #[] 9;have aH:=hide (show Below w2.heap.size w2 w3.drew from br.trans ((Ap w3).mono br.size));have bm:=hide (show World.ownsRow w3.drew w2.heap.size 9 1 (.slice (some ⟨w2.heap.size,0,none⟩) 0 0) 0 [] from⟨by simp,.inr ⟨w2.heap.size,0,#[],rfl,Nat.le_refl _,aW,Nat.le_refl _,by unfold maxLen;omega,by simp,by simp⟩⟩);have bp:=hide (am.out.at aH.out);have eo:=bp.out.b.cell;have dp:=hide (E.out.trans (aH.out.mono E.out.size));clear br aW dy;refine Reg.cI [0,0,2,7,0,16,63,0,128,511,1023] [1,2,4,5,7,8,0,3,6,9,10] ?_;refine Reg.wI [1,2,4,5,7,8,0] [3,6,9,10] rfl fun Qf j=>?_;go_wp2_with fail;first|refine j _ _ ⟨rfl,?_⟩|refine⟨rfl,?_⟩|refine j _ _ ⟨by simp [Reg.fineT,Reg.intOp,Region.wanted,yielded,Reg.intFine,Reg.isInt,Act.eval],?_⟩
 (try clear j);refine Reg.aI 3 [6,9,10] [5,8] rfl fun Qf j=>?_;simp only [gT,gS,gZ];go_wp2_with (at_builtin;refine Ei (w:=w3.drew) EW rfl _ _ rfl w2.heap.size _ _ _ rfl bm.out (l:=p.states) (dj.out.keep (w':=w3.drew) (B':=w.heap.size) (fun _ U=>dp.out.cell U) (Nat.le_refl _)) (by rw [<-O.out.2.2.2.2.2.1];rfl) (fun d=>rfl) (by have:=G.out.states;have:=G.out.messages;have:=G.out.values;omega) aH.out.size ?_;intro v4 w4 bK cx);have aJ:=hide (aH.out.trans (cx.below aH.out.size fun b' cq e=>by have:=(bm.out.lt b' e).1;omega));have bn:=hide bK;have aY:=hide (am.out.at aJ.out);have ep:=aY.out.b.cell;have dq:=hide (E.out.trans (aJ.out.mono E.out.size));obtain⟨ea,ef,dV⟩:=AH bK;subst dV;clear cx bK;first|refine j _ _ ⟨?_,?_⟩|refine⟨?_,?_⟩
 ·exact⟨Reg.same_load1 rfl rfl ((bp.out.b.cell 3).trans bM) ((aY.out.b.cell 3).trans bM) Tryz.underlying22 rfl,Reg.same_load1 rfl rfl ((bp.out.b.cell 4).trans aN) ((aY.out.b.cell 4).trans aN) Tryz.underlying22 rfl⟩
 (try clear j);refine Reg.aI 6 [9,10] [8] rfl fun Qf j=>?_;simp only [gT,gS,gZ];go_wp2_with (at_builtin;refine Ei (w:=w4) EW rfl _ _ rfl w2.heap.size _ _ _ rfl bn.out (l:=p.messages) (dk.out.keep (w':=w4) (B':=w.heap.size) (fun _ U=>dq.out.cell U) (Nat.le_refl _)) (by rw [<-O.out.2.1];rfl) (fun d=>rfl) (by have:=G.out.states;have:=G.out.messages;have:=G.out.values;omega) aJ.out.size ?_;intro v5 w5 bL cy);have aK:=hide (aJ.out.trans (cy.below aJ.out.size fun b' cq e=>by have:=(bn.out.lt b' e).1;omega));have bo:=hide bL;have cn:=hide (am.out.at aK.out);have eq:=cn.out.b.cell;have dr:=hide (E.out.trans (aK.out.mono E.out.size));obtain⟨eb,eg,dW⟩:=AH bL;subst dW;clear cy bL;first|refine j _ _ ⟨?_,?_⟩|refine⟨?_,?_⟩
 ·exact Reg.same_load1 rfl rfl ((aY.out.b.cell 4).trans aN) ((cn.out.b.cell 4).trans aN) Tryz.underlying22 rfl
 (try clear j);refine Reg.aI 9 [10] [] rfl fun Qf j=>?_;simp only [gT,gS,gZ];go_wp2_with (at_builtin;refine Ei (w:=w5) EW rfl _ _ rfl w2.heap.size _ _ _ rfl bo.out (l:=p.values) (dl.out.keep (w':=w5) (B':=w.heap.size) (fun _ U=>dr.out.cell U) (Nat.le_refl _)) (by rw [<-O.out.2.2.1];rfl) (fun d=>rfl) (by have:=G.out.states;have:=G.out.messages;have:=G.out.values;omega) aK.out.size ?_;intro v6 w6 ax cz);have cr:=hide (aK.out.trans (cz.below aK.out.size fun b' cq e=>by have:=(bo.out.lt b' e).1;omega));have dh:=hide ax;have co:=hide (am.out.at cr.out);have er:=co.out.b.cell;have ao:=hide (E.out.trans (cr.out.mono E.out.size));obtain⟨ec,bW,dX⟩:=AH ax;subst dX;clear cz;first|refine j _ _ ⟨Reg.nm,?_⟩|skip
 (try clear j);refine Reg.wI [10] [] rfl fun Qf j=>?_;go_wp2_with fail;first|refine j _ _ ⟨rfl,?_⟩|refine⟨rfl,?_⟩|refine j _ _ ⟨by simp [Reg.fineT,Reg.intOp,Region.wanted,yielded,Reg.intFine,Reg.isInt,Act.eval],?_⟩
 (try clear j);first|refine Reg.restI_end ?_|skip
 have cD:0+p.states.length+p.messages.length+p.values.length=(Bd p).length:=by simp only [Bd,List.length_append];omega
 have cK:[]++p.states.map (BE · 0)++p.messages.map (BE · 0)++p.values.map (BE · 0)=DV (Bd p):=by simp [DV,Bd]
 rw [cD,cK] at ax;rw [show p.states.length+p.messages.length+p.values.length=(Bd p).length by simp only [Bd,List.length_append]];have eD:(Bd p).length<=180:=by
  have:=G.out.states;have:=G.out.messages;have:=G.out.values;omega
 have cj:=hide (HS ax (by omega)).2;have ew:=HP ax;have dI:=hide G.out.names;have cB:=hide (show CU nameOK (Bd p)=Aj (nmE (Bd p)) (List.range (Bd p).length) from rfl);rw [b5.out] at cB;have cb:=hide (show CU nameOK (Bd p)=e0 from b5.out);clear ax cD cK bm bn bo dh b5;generalize Bd p=L at*;go_wp2_with fail;go_loopw [4] (fun Z wr=>∃(k:Nat),Z=.int .i64 (k:Int)/\k<=L.length/\Hid (Aj (nmE L) (List.range k)=0)/\Hid (Below w6.heap.size w6 wr)) (fun Z _=>L.length - (intOf Z).toNat)
 case atStart=>exact⟨0,rfl,Nat.zero_le _,by show _=_;rfl,Below.refl _ _⟩
 case round=>
  obtain⟨k,rfl,hk,hE,a7⟩:=hrel;by_cases b9:k<L.length
  ·obtain⟨b,aR,s,hA,b4,bN,hc⟩:=cj.out.at b9;have d0:=hc 0 (by omega);simp only [Nat.add_zero,Nat.mul_one,BE] at d0;have d1:=(a7.out.cell (p:=⟨b,aR+k,none⟩) b4).trans d0;have eL:=dI.out s (List.mem_of_getElem? bN);have bO:=hide bN;subst hA;clear hc bN;cases bd:nameOK s with
   | false=>
    have V:=hide bd;clear bd;have aO:=hide (show e0=2 from cb.out.symm.trans (Fl b9 hE.out bO.out (.inl V.out)));go_wp2_with fail;refine Reg.cI [0,0,3,7,15,31,63,127,127,511,127,127,3199,7295,16383,32767] [0,1,2,3,4,5,6,7,8,10,11,12,13,9,14,15] ?_;refine Reg.wI [0,1,2,3] [4,5,6,7,8,10,11,12,13,9,14,15] rfl fun Qf j=>?_;go_wp2_with fail;first|refine j _ _ ⟨rfl,?_⟩|refine⟨rfl,?_⟩|refine j _ _ ⟨by simp [Reg.fineT,Reg.intOp,Region.wanted,yielded,Reg.intFine,Reg.isInt,Act.eval],?_⟩
    (try clear j);refine Reg.aI 4 [5,6,7,8,10,11,12,13,9,14,15] [] rfl fun Qf j=>?_;simp only [gT,gS,gZ];go_wp2_with (go_at_call 96;refine Calls.ret (Cm s _ (by omega)) ?_;rintro v w8 ⟨rfl,a8⟩;rw [V.out];have a3:=hide (a7.out.trans (((Ap wr).trans a8).mono a7.out.size));have d8:=(a3.out.cell (p:=⟨b,aR+k,none⟩) b4).trans d0);first|refine j _ _ ⟨Reg.nm,?_⟩|refine⟨Reg.nm,?_⟩
    (try clear j);clear a8;refine Reg.wI [5,6,7,8,10,11,12,13] [9,14,15] rfl fun Qf j=>?_;go_wp2_with fail;first|refine j _ _ ⟨rfl,?_⟩|refine⟨rfl,?_⟩|refine j _ _ ⟨by simp [Reg.fineT,Reg.intOp,Region.wanted,yielded,Reg.intFine,Reg.isInt,Act.eval],?_⟩
    (try clear j);refine Reg.aI 9 [14,15] [13] rfl fun Qf j=>?_;simp only [gT,gS,gZ];go_wp2_with fail;first|refine j _ _ ⟨Reg.same_below (Below.refl _ _) [13] rfl,?_⟩|refine⟨Reg.same_below (Below.refl _ _) [13] rfl,?_⟩
    (try clear j);refine Reg.aI 14 [15] [] rfl fun Qf j=>?_;simp only [gT,gS,gZ];go_wp2_with fail;first|refine j _ _ ⟨Reg.nm,?_⟩|refine⟨Reg.nm,?_⟩
    (try clear j);refine Reg.wI [15] [] rfl fun Qf j=>?_;go_wp2_with fail;first|refine j _ _ ⟨rfl,?_⟩|refine⟨rfl,?_⟩|refine j _ _ ⟨by simp [Reg.fineT,Reg.intOp,Region.wanted,yielded,Reg.intFine,Reg.isInt,Act.eval],?_⟩
    (try clear j);first|refine Reg.restI_end ?_|skip
    go_wp2_with fail;go_ret;exact⟨congrArg (Value.int .i64) (I.out.trans (by rw [aO.out];exact pv5 M.out H3.out H4.out rfl)).symm,ao.out.trans (a3.out.mono ao.out.size)⟩
   | true=>
    have V:=hide bd;clear bd;have cG:(L.take k).length=k:=by rw [List.length_take];omega
    have dU:=hide cG;clear cG;have cw:Hid (∀wx,Hid (Below w6.heap.size w6 wx)->Hid (Calls Tryz.prog 136 #[.slice (some ⟨b,aR,none⟩) k bW,.string s] wx fun r w'=>r=.returned (.bool (decide (s∈L.take k)))/\wx=w')):=hide (fun wx hx=>by
     have y:=(cj.out.keep (w':=wx) (B':=w6.heap.size) (fun _ U=>hx.out.cell U) (Nat.le_refl _)).takeS k;have h2:=Ht (c:=bW) (x:=s) y;rw [dU.out] at h2;exact h2)
    by_cases hm:s∈L.take k
    ·have bA:=hide hm;have bz:=hide (show decide (s∈L.take k)=true from decide_eq_true hm);clear hm;have aO:=hide (show e0=2 from cb.out.symm.trans (Fl b9 hE.out bO.out (.inr bA.out)));go_wp2_with fail;refine Reg.cI [0,0,3,7,15,31,63,127,127,511,127,127,3199,7295,16383,32767] [0,1,2,3,4,5,6,7,8,10,11,12,13,9,14,15] ?_;refine Reg.wI [0,1,2,3] [4,5,6,7,8,10,11,12,13,9,14,15] rfl fun Qf j=>?_;go_wp2_with fail;first|refine j _ _ ⟨rfl,?_⟩|refine⟨rfl,?_⟩|refine j _ _ ⟨by simp [Reg.fineT,Reg.intOp,Region.wanted,yielded,Reg.intFine,Reg.isInt,Act.eval],?_⟩
     (try clear j);refine Reg.aI 4 [5,6,7,8,10,11,12,13,9,14,15] [] rfl fun Qf j=>?_;simp only [gT,gS,gZ];go_wp2_with (go_at_call 96;refine Calls.ret (Cm s _ (by omega)) ?_;rintro v w8 ⟨rfl,a8⟩;rw [V.out];have a3:=hide (a7.out.trans (((Ap wr).trans a8).mono a7.out.size));have d8:=(a3.out.cell (p:=⟨b,aR+k,none⟩) b4).trans d0);first|refine j _ _ ⟨Reg.nm,?_⟩|refine⟨Reg.nm,?_⟩
     (try clear j);clear a8;refine Reg.wI [5,6,7,8,10,11,12,13] [9,14,15] rfl fun Qf j=>?_;go_wp2_with fail;first|refine j _ _ ⟨rfl,?_⟩|refine⟨rfl,?_⟩|refine j _ _ ⟨by simp [Reg.fineT,Reg.intOp,Region.wanted,yielded,Reg.intFine,Reg.isInt,Act.eval],?_⟩
     (try clear j);refine Reg.aI 9 [14,15] [13] rfl fun Qf j=>?_;simp only [gT,gS,gZ];go_wp2_with fail;first|refine j _ _ ⟨Reg.same_below (Below.refl _ _) [13] rfl,?_⟩|refine⟨Reg.same_below (Below.refl _ _) [13] rfl,?_⟩
     (try clear j);refine Reg.aI 14 [15] [] rfl fun Qf j=>?_;simp only [gT,gS,gZ];go_wp2_with (go_at_call 136;refine(cw.out _ a3).out.mono ?_;rintro r w' ⟨rfl,rfl⟩;rw [bz.out]);first|refine j _ _ ⟨Reg.nm,?_⟩|refine⟨Reg.nm,?_⟩
     (try clear j);refine Reg.wI [15] [] rfl fun Qf j=>?_;go_wp2_with fail;first|refine j _ _ ⟨rfl,?_⟩|refine⟨rfl,?_⟩|refine j _ _ ⟨by simp [Reg.fineT,Reg.intOp,Region.wanted,yielded,Reg.intFine,Reg.isInt,Act.eval],?_⟩
     (try clear j);first|refine Reg.restI_end ?_|skip
     go_wp2_with fail;go_ret;exact⟨congrArg (Value.int .i64) (I.out.trans (by rw [aO.out];exact pv5 M.out H3.out H4.out rfl)).symm,ao.out.trans (a3.out.mono ao.out.size)⟩
    ·have bA:=hide hm;have bz:=hide (show decide (s∈L.take k)=false from decide_eq_false hm);clear hm;have bJ:=hide (HN b9 hE.out bO.out V.out bA.out);go_wp2_with fail;refine Reg.cI [0,0,3,7,15,31,63,127,127,511,127,127,3199,7295,16383,32767] [0,1,2,3,4,5,6,7,8,10,11,12,13,9,14,15] ?_;refine Reg.wI [0,1,2,3] [4,5,6,7,8,10,11,12,13,9,14,15] rfl fun Qf j=>?_;go_wp2_with fail;first|refine j _ _ ⟨rfl,?_⟩|refine⟨rfl,?_⟩|refine j _ _ ⟨by simp [Reg.fineT,Reg.intOp,Region.wanted,yielded,Reg.intFine,Reg.isInt,Act.eval],?_⟩
     (try clear j);refine Reg.aI 4 [5,6,7,8,10,11,12,13,9,14,15] [] rfl fun Qf j=>?_;simp only [gT,gS,gZ];go_wp2_with (go_at_call 96;refine Calls.ret (Cm s _ (by omega)) ?_;rintro v w8 ⟨rfl,a8⟩;rw [V.out];have a3:=hide (a7.out.trans (((Ap wr).trans a8).mono a7.out.size));have d8:=(a3.out.cell (p:=⟨b,aR+k,none⟩) b4).trans d0);first|refine j _ _ ⟨Reg.nm,?_⟩|refine⟨Reg.nm,?_⟩
     (try clear j);clear a8;refine Reg.wI [5,6,7,8,10,11,12,13] [9,14,15] rfl fun Qf j=>?_;go_wp2_with fail;first|refine j _ _ ⟨rfl,?_⟩|refine⟨rfl,?_⟩|refine j _ _ ⟨by simp [Reg.fineT,Reg.intOp,Region.wanted,yielded,Reg.intFine,Reg.isInt,Act.eval],?_⟩
     (try clear j);refine Reg.aI 9 [14,15] [13] rfl fun Qf j=>?_;simp only [gT,gS,gZ];go_wp2_with fail;first|refine j _ _ ⟨Reg.same_below (Below.refl _ _) [13] rfl,?_⟩|refine⟨Reg.same_below (Below.refl _ _) [13] rfl,?_⟩
     (try clear j);refine Reg.aI 14 [15] [] rfl fun Qf j=>?_;simp only [gT,gS,gZ];go_wp2_with (go_at_call 136;refine(cw.out _ a3).out.mono ?_;rintro r w' ⟨rfl,rfl⟩;rw [bz.out]);first|refine j _ _ ⟨Reg.nm,?_⟩|refine⟨Reg.nm,?_⟩
     (try clear j);refine Reg.wI [15] [] rfl fun Qf j=>?_;go_wp2_with fail;first|refine j _ _ ⟨rfl,?_⟩|refine⟨rfl,?_⟩|refine j _ _ ⟨by simp [Reg.fineT,Reg.intOp,Region.wanted,yielded,Reg.intFine,Reg.isInt,Act.eval],?_⟩
     (try clear j);first|refine Reg.restI_end ?_|skip
     go_wp2_with fail;exact⟨⟨k+1,by go_num,by omega,bJ.out,a3.out⟩,by simp [intOf];omega⟩
  ·have aP:=hide (show e0=0 from by
    have y:=hE.out;rw [show k=L.length by omega] at y;exact cB.out.trans y)
   have cp:=hide (co.out.at a7.out);have et:=cp.out.b.cell;have ap:=hide (ao.out.trans (a7.out.mono ao.out.size));clear hE;obtain⟨cO,dY⟩:∃x,x=wr:=⟨_,rfl⟩;subst dY;by_cases de:(0:Int)<(nm:Int)
   case pos=>
    go_wp2_with fail;go_ret;exact⟨congrArg (Value.int .i64) (I.out.trans (pv6 M.out H3.out H4.out (by rw [aP.out];rfl) (by have:=ae.out;omega))).symm,ap.out⟩
   by_cases dg:(0:Int)<(nv:Int)
   case pos=>
    go_wp2_with fail;go_ret;exact⟨congrArg (Value.int .i64) (I.out.trans (pv6 M.out H3.out H4.out (by rw [aP.out];rfl) (by have:=ae.out;omega))).symm,ap.out⟩
   by_cases df:(0:Int)<(nr:Int)
   case pos=>
    go_wp2_with fail;go_ret;exact⟨congrArg (Value.int .i64) (I.out.trans (pv6 M.out H3.out H4.out (by rw [aP.out];rfl) (by have:=ae.out;omega))).symm,ap.out⟩
   by_cases al:kf=0
   case neg=>
    have QC:(kf != 0)=true:=by simp [al]
    have HC:=hide al;clear al;go_wp2_with fail;go_ret;exact⟨congrArg (Value.int .i64) (I.out.trans (pv6 M.out H3.out H4.out (by rw [aP.out];rfl) (by have:=ae.out;have:=HC.out;omega))).symm,ap.out⟩
   have QC:(kf != 0)=false:=by simp [al]
   have hR:=hide (I.out.trans (pv7 M.out H3.out H4.out (by rw [aP.out];rfl) (by have:=ae.out;omega)));have dJ:=hide (show nr=0 by omega);have ed:=hide al;clear al;go_wp2_with fail;clear de dg df QC;go_loopw [5] (fun Z wr=>∃(k:Nat),Z=.int .i64 (k:Int)/\k<=0/\Hid (Below cO.heap.size cO wr)/\Hid ((p.res.take k).all Bg=true)) (fun Z _=>0 - (intOf Z).toNat)
   case atStart=>exact⟨0,rfl,Nat.zero_le _,Below.refl _ _,by show _=_;simp⟩
   case round=>
    obtain⟨k2,rfl,ey,ct,cc⟩:=hrel;have bq:=hide (cp.out.at ct.out);have eu:=bq.out.b.cell;have a6:=hide (ap.out.trans (ct.out.mono ap.out.size));by_cases eE:k2<0
    ·exfalso;omega
    ·have cF:=hide (show p.res.all Bg=true from by
      have y:=O.out.1;have h2:=cc.out;have h3:=dJ.out
      rwa [List.take_of_length_le (by omega)] at h2)
     have ce:=hide (show protE nameOK p=orE (Aa p.initial (ns:Int)) (orE (Ad (decide (ni=0)) 1) (orE (Aa p.leader (ns:Int)) (Cc p))) from by
      rw [hR.out];obtain⟨-,-,-,-,e5,e6,-⟩:=O.out;unfold DJ Cc;rw [cF.out,Bv,e5,e6];rfl)
     clear cF cc;go_wp2_with fail;obtain⟨ei,aL⟩:∃e,Hid (Aa p.initial (ns:Int)=e):=⟨_,rfl⟩;by_cases aj:ei=0
     case neg=>
      have Qi:(ei != 0)=true:=by simp [aj]
      have Hi:=hide aj;clear aj;refine Calls.ret (bv _ a6.out) ?_;rintro v w9 ⟨rfl,C⟩;rw [aL.out];have J:=hide (a6.out.trans (C.mono a6.out.size));clear C;go_wp2_with fail;go_ret;exact⟨congrArg (Value.int .i64) (ce.out.trans (by rw [aL.out];exact BF Hi.out)).symm,J.out⟩
     have Qi:(ei != 0)=false:=by simp [aj]
     have Hi:=hide aj;clear aj;have cf:=hide (show protE nameOK p=orE (Ad (decide (ni=0)) 1) (orE (Aa p.leader (ns:Int)) (Cc p)) from ce.out.trans (by rw [aL.out,Hi.out];rfl));by_cases aw:ni=0
     case pos=>
      have Qn:((ni:Int)==0)=true:=by simp [aw]
      have Hn:=hide aw;clear aw;refine Calls.ret (bv _ a6.out) ?_;rintro v w9 ⟨rfl,C⟩;rw [aL.out];have af:=hide (bq.out.at C);have du:=af.out.b.cell;have dz:=Ah af.out.b ay.out;have J:=hide (a6.out.trans (C.mono a6.out.size));clear C;go_wp2_with fail;go_ret;exact⟨congrArg (Value.int .i64) (cf.out.trans (by rw [decide_eq_true Hn.out];rfl)).symm,J.out⟩
     have Qn:((ni:Int)==0)=false:=by simp [aw]
     have Hn:=hide aw;clear aw;have cg:=hide (show protE nameOK p=orE (Aa p.leader (ns:Int)) (Cc p) from cf.out.trans (by rw [decide_eq_false Hn.out];rfl));refine Calls.ret (bv _ a6.out) ?_;rintro v w9 ⟨rfl,C⟩;rw [aL.out];have af:=hide (bq.out.at C);have du:=af.out.b.cell;have dz:=Ah af.out.b ay.out;have J:=hide (a6.out.trans (C.mono a6.out.size));clear C;go_wp2_with fail;obtain⟨el,b7⟩:∃e,Hid (Aa p.leader (ns:Int)=e):=⟨_,rfl⟩;by_cases ak:el=0
     case neg=>
      have Ql:(el != 0)=true:=by simp [ak]
      have Hl:=hide ak;clear ak;refine Calls.ret (cA _ J.out) ?_;rintro v wa ⟨rfl,ag⟩;rw [b7.out];have an:=hide (af.out.at ag);have dv:=an.out.b.cell;have dA:=Ah an.out.b ay.out;have aq:=hide (J.out.trans (ag.mono J.out.size));clear ag;go_wp2_with fail;go_ret;exact⟨congrArg (Value.int .i64) (cg.out.trans (by rw [b7.out];exact BF Hl.out)).symm,aq.out⟩
     have Ql:(el != 0)=false:=by simp [ak]
     have Hl:=hide ak;clear ak;have ch:=hide (show protE nameOK p=Cc p from cg.out.trans (by rw [b7.out,Hl.out];rfl));refine Calls.ret (cA _ J.out) ?_;rintro v wa ⟨rfl,ag⟩;rw [b7.out];have an:=hide (af.out.at ag);have dv:=an.out.b.cell;have dA:=Ah an.out.b ay.out;have aq:=hide (J.out.trans (ag.mono J.out.size));clear ag;go_wp2_with fail;clear Qi Qn Ql;go_loopw [8] (fun Z wr=>∃(k:Nat),Z=.int .i64 (k:Int)/\k<=nu/\Hid (Below wa.heap.size wa wr)/\Hid (Aj (BB nameOK p) (List.range k)=0)) (fun Z _=>nu - (intOf Z).toNat)
     case atStart=>exact⟨0,rfl,Nat.zero_le _,Below.refl _ _,by show _=_;rfl⟩
     case round=>
      obtain⟨k4,rfl,ez,au,aX⟩:=hrel;have aF:=hide (an.out.at au.out);have ev:=aF.out.b.cell;have eB:=Ah aF.out.b ay.out;have b0:=hide (aq.out.trans (au.out.mono aq.out.size));by_cases eF:k4<nu
      ·obtain⟨e9,b6⟩:∃e,Hid (BB nameOK p k4=e):=⟨_,rfl⟩;have bt:=hide (KF (cs:=pc.toList) (i:=k4) aF.out.pr (by have:=O.out.2.2.2.2.2.2;omega) G.out aF.out.tab);rw [b6.out] at bt;have cJ:=hide (show(List.range p.rules.length)[k4]?=some k4 from by rw [List.getElem?_range (by have:=O.out.2.2.2.2.2.2;omega)]);have cH:=hide (show(List.range p.rules.length).take k4=List.range k4 from by rw [List.take_range,Nat.min_eq_left (by have:=O.out.2.2.2.2.2.2;omega)]);go_wp2_with fail;by_cases h0:e9=0
       ·have hq:(e9 != 0)=false:=by simp [h0]
        have bJ:=hide (show Aj (BB nameOK p) (List.range (k4+1))=0 from by
         have y:=CD (BB nameOK p) cJ.out (by rw [cH.out];exact aX.out);rw [List.take_range,Nat.min_eq_left (by have:=O.out.2.2.2.2.2.2;omega)] at y;rw [y,b6.out,h0])
        clear h0;refine Calls.ret bt.out ?_;rintro v w9 ⟨rfl,C⟩;have bs:=hide (au.out.trans (C.mono au.out.size));clear C;go_wp2_with fail;exact⟨⟨k4+1,by go_num,by omega,bs.out,bJ.out⟩,by simp [intOf];omega⟩
       ·have hq:(e9 != 0)=true:=by simp [h0]
        have aO:=hide (show protE nameOK p=e9 from by
         have y:=Ct (BB nameOK p) cJ.out (by rw [cH.out];exact aX.out) (by rw [b6.out];exact h0);rw [ch.out];unfold Cc;rw [y,b6.out,BF h0])
        clear h0;refine Calls.ret bt.out ?_;rintro v w9 ⟨rfl,C⟩;have bs:=hide (au.out.trans (C.mono au.out.size));clear C;go_wp2_with fail;go_ret;exact⟨congrArg (Value.int .i64) aO.out.symm,aq.out.trans (bs.out.mono aq.out.size)⟩
      ·obtain⟨nt,bG⟩:∃n,n=(BO p.rules).length:=⟨_,rfl⟩;have ci:=hide (show protE nameOK p=Ad (decide (3<nt)) 4 from by
        have y:=aX.out;rw [show k4=p.rules.length by have:=O.out.2.2.2.2.2.2;omega] at y;rw [ch.out,bG];unfold Cc;rw [y,AY])
       have bP:=hide (Jo (cs:=pc.toList) aF.out.pr G.out);rw [<-bG] at bP;have eH:nt<=1800:=by
        have y:=FB p.rules (fun r hr=>(G.out.rule r hr).1.2.1);have h2:=G.out.rules;omega
       clear bG aX;go_wp2_with fail;by_cases bZ:3<nt
       ·have G3:(3:Int)<(nt:Int):=by omega
        refine Calls.ret bP.out ?_;rintro v w9 ⟨aM,C⟩;obtain⟨Av,cv,hv⟩:=AH aM;subst hv;have J:=hide (b0.out.trans (C.mono b0.out.size));clear aM C;go_wp2_with fail;go_ret;exact⟨congrArg (Value.int .i64) (ci.out.trans (by rw [decide_eq_true bZ];rfl)).symm,J.out⟩
       ·have G3:¬(3:Int)<(nt:Int):=by omega
        refine Calls.ret bP.out ?_;rintro v w9 ⟨aM,C⟩;obtain⟨Av,cv,hv⟩:=AH aM;subst hv;have J:=hide (b0.out.trans (C.mono b0.out.size));clear aM C;go_wp2_with fail;go_ret;exact⟨congrArg (Value.int .i64) (ci.out.trans (by rw [decide_eq_false bZ];rfl)).symm,J.out⟩
end Go.Proofs.YtfcfpoemojjglaaGreatDoor.K
