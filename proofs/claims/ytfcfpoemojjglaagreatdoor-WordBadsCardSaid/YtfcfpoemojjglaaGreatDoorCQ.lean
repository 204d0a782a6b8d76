/-
  Part CQ of a proof.
-/
import Derived.Test.YtfcfpoemojjglaaGreatDoorPA
import Derived.Test.YtfcfpoemojjglaaGreatDoorCN
import Derived.Test.YtfcfpoemojjglaaGreatDoorCJ
import Derived.Test.YtfcfpoemojjglaaGreatDoorCI
set_option maxHeartbeats 16000000
set_option maxRecDepth 100000
set_option linter.unusedVariables false
set_option linter.unusedSimpArgs false
namespace Go.Proofs.YtfcfpoemojjglaaGreatDoor.K
open Go.RowKit
attribute [-go_sem] loadCellsFrom storeCells
theorem RT {w:World} {cs:List Value} {p:Am} (h:At w w.heap.size cs p) (a7:p.Small) (hT:SpOK w) (bw:p.topo=1):
  Calls Tryz.prog 95 #[.agg cs.toArray] w (Ret fun v w'=>v=.int .i64 (protE nameOK p)/\Below w.heap.size w w'):=by
 obtain⟨A1,c1,A2,c2,A3,c3,A4,c4,A5,c5,A6,c6,A7,c7,cJ,eL,dN,dO,bO,aL,dP,dQ,dR,dS,dT,E,h2,h3,h4,h5,h6,h7,dA⟩:=h.cells;have dF:=a7.states;have dG:=a7.messages;have dH:=a7.values;have dI:=a7.res;have dJ:=a7.initial;have dK:=a7.leader;have dL:=a7.rules;have eJ:=a7.name;have J:=hide a7;have dl:=hide E;have dm:=hide h2;have dn:=hide h3;have em:=hide h7;have dp:=hide h4;have dq:=hide h5;have dr:=hide h6;obtain⟨w1,eP,aE,aU,dB⟩:=Ae w cs.toArray 27;have cn:=hide (show C0 w1 w.heap.size cs.toArray p from⟨h.keep (fun _ O=>aE.cell O) aE.size,aU,hT.below aE⟩);have dx:=hide aE;generalize dU:cs.toArray=pc at*;clear E h2 h3 h4 h5 h6 h7 h a7 aE aU dB dU hT;obtain⟨nr,bG⟩:∃n,n=p.res.length:=⟨_,rfl⟩;obtain⟨nm,bF⟩:∃n,n=p.messages.length:=⟨_,rfl⟩;obtain⟨nv,bK⟩:∃n,n=p.values.length:=⟨_,rfl⟩;obtain⟨nl,bE⟩:∃n,n=p.leader.length:=⟨_,rfl⟩;obtain⟨ni,bD⟩:∃n,n=p.initial.length:=⟨_,rfl⟩;obtain⟨ns,bH⟩:∃n,n=p.states.length:=⟨_,rfl⟩;obtain⟨nu,bJ⟩:∃n,n=p.rules.length:=⟨_,rfl⟩;have U:=hide (show nr=p.res.length/\nm=p.messages.length/\nv=p.values.length/\nl=p.leader.length/\ni=p.initial.length/\ns=p.states.length/\nu=p.rules.length from⟨bG,bF,bK,bE,bD,bH,bJ⟩);simp only [<-bG,<-bF,<-bK,<-bE,<-bD,<-bH,<-bJ] at dO bO aL dQ dR dS dT dF dG dH dI dJ dK dL dA;clear bG bF bK bE bD bH bJ;obtain⟨kt,bA⟩:∃n,n=p.topo:=⟨_,rfl⟩;obtain⟨kf,bz⟩:∃n,n=p.fault:=⟨_,rfl⟩;have cd:=hide (show kt=p.topo/\kf=p.fault from⟨bA,bz⟩);simp only [<-bA,<-bz] at dN dP;clear bA bz;have aw:=hide cJ;clear cJ;have eo:=cn.out.b.cell;have aX:Hid (kt=1):=by rw [<-cd.out.1] at bw;exact bw
 have eM:(kt==1)=true:=by simp [aX.out]
 have eN:(kt != 1)=false:=by simp [aX.out]
 clear bw;have aZ:=dx;obtain⟨e0,b6⟩:∃e,Hid (CU nameOK (Bd p)=e):=⟨_,rfl⟩;cases bd:nameOK p.name
 case false=>
  have Z:=hide bd;clear bd;go_enter Tryz.func95,Tryz.ntmps95;go_wp2_with fail;refine Calls.ret (Cm p.name _ (by omega)) ?_;rintro v w2 ⟨rfl,ap⟩;rw [Z.out];have I:=hide (aZ.out.trans (ap.mono aZ.out.size));clear ap;go_wp2_with fail;go_ret;exact⟨by unfold protE;rw [Z.out];rfl,I.out⟩
 have Z:=hide bd;clear bd;have V:=hide (show protE nameOK p=CH kt kf ns nm nv nr nu nl e0 (DJ p) from by
  obtain⟨e1,e2,e3,e4,e5,e6,e7⟩:=U.out;obtain⟨f1,f2⟩:=cd.out;rw [e1,e2,e3,e4,e6,e7,f1,f2,<-b6.out];exact GI p Z.out)
 have bx:∀wx,Below w.heap.size w wx->Calls Tryz.prog 97 #[.slice A5 ni c5,.int .i64 (ns:Int)] wx (Ret fun r w'=>r=.int .i64 (Aa p.initial (ns:Int))/\Below wx.heap.size wx w'):=fun wx hx=>by
  rw [U.out.2.2.2.2.1];exact B0 (by omega) (dq.out.keep (fun _ O=>hx.cell O) hx.size)
 have cF:∀wx,Below w.heap.size w wx->Calls Tryz.prog 97 #[.slice A6 nl c6,.int .i64 (ns:Int)] wx (Ret fun r w'=>r=.int .i64 (Aa p.leader (ns:Int))/\Below wx.heap.size wx w'):=fun wx hx=>by
  rw [U.out.2.2.2.1];exact B0 (by omega) (dr.out.keep (fun _ O=>hx.cell O) hx.size)
 go_enter Tryz.func95,Tryz.ntmps95;go_wp2_with fail;refine Calls.ret (Cm p.name _ (by omega)) ?_;rintro v w2 ⟨rfl,ap⟩;rw [Z.out];have al:=hide (cn.out.at ap);have ep:=al.out.b.cell;have eD:=Ah al.out.b aw.out;have I:=hide (aZ.out.trans (ap.mono aZ.out.size));clear ap;go_wp2_with fail;cases bf:inC kt 1 4
 case false=>
  have ay:=hide bf;clear bf;refine(Aq _ _ _ _).mono ?_;rintro e w' ⟨rfl,rfl⟩;rw [ay.out];go_wp2_with fail;go_ret;exact⟨congrArg (Value.int .i64) (V.out.trans (pv2 (by have E:=ay.out;simp [inC] at E;omega))).symm,I.out⟩
 have ay:=hide bf;clear bf;refine(Aq _ _ _ _).mono ?_;rintro e w' ⟨rfl,rfl⟩;rw [ay.out];go_wp2_with fail;cases b9:inC kf 0 3
 case false=>
  have a2:=hide b9;clear b9;refine(Aq _ _ _ _).mono ?_;rintro e w' ⟨rfl,rfl⟩;rw [a2.out];go_wp2_with fail;go_ret;exact⟨congrArg (Value.int .i64) (V.out.trans (pv2 (by have E:=a2.out;simp [inC] at E;omega))).symm,I.out⟩
 have a2:=hide b9;clear b9;have H2:=hide (show 1<=kt/\kt<=4/\0<=kf/\kf<=3 from by
  have E:=ay.out;have h2:=a2.out;simp [inC] at E h2;omega)
 cases ab:((ns:Int)==0)
 case true=>
  refine(Aq _ _ _ _).mono ?_;rintro e w' ⟨rfl,rfl⟩;rw [a2.out];go_wp2_with fail;go_ret;exact⟨congrArg (Value.int .i64) (V.out.trans (pv3 H2.out ab)).symm,I.out⟩
 by_cases dg:6<(ns:Int)
 case pos=>
  refine(Aq _ _ _ _).mono ?_;rintro e w' ⟨rfl,rfl⟩;rw [a2.out];go_wp2_with fail;go_ret;exact⟨congrArg (Value.int .i64) (V.out.trans (pv4 H2.out ab (by omega))).symm,I.out⟩
 by_cases aU:3<(nm:Int)
 case pos=>
  refine(Aq _ _ _ _).mono ?_;rintro e w' ⟨rfl,rfl⟩;rw [a2.out];go_wp2_with fail;go_ret;exact⟨congrArg (Value.int .i64) (V.out.trans (pv4 H2.out ab (by omega))).symm,I.out⟩
 by_cases dh:3<(nv:Int)
 case pos=>
  refine(Aq _ _ _ _).mono ?_;rintro e w' ⟨rfl,rfl⟩;rw [a2.out];go_wp2_with fail;go_ret;exact⟨congrArg (Value.int .i64) (V.out.trans (pv4 H2.out ab (by omega))).symm,I.out⟩
 by_cases aV:4<(nr:Int)
 case pos=>
  refine(Aq _ _ _ _).mono ?_;rintro e w' ⟨rfl,rfl⟩;rw [a2.out];go_wp2_with fail;go_ret;exact⟨congrArg (Value.int .i64) (V.out.trans (pv4 H2.out ab (by omega))).symm,I.out⟩
 by_cases di:8<(nu:Int)
 case pos=>
  refine(Aq _ _ _ _).mono ?_;rintro e w' ⟨rfl,rfl⟩;rw [a2.out];go_wp2_with fail;go_ret;exact⟨congrArg (Value.int .i64) (V.out.trans (pv4 H2.out ab (by omega))).symm,I.out⟩
 refine(Aq _ _ _ _).mono ?_;rintro e w' ⟨rfl,rfl⟩;rw [a2.out];go_wp2_with fail;have H3:=hide ab;have H4:=hide (show(ns:Int)<=6/\(nm:Int)<=3/\(nv:Int)<=3/\(nr:Int)<=4/\(nu:Int)<=8 from by omega);clear ab dg aU dh aV di;rename_i z1 zK za;clear z1;obtain⟨w3,eQ,bt,aV,dC⟩:=Ae w2 #[] 9;have aF:=hide (show Below w2.heap.size w2 w3.drew from bt.trans ((Ap w3).mono bt.size));have bn:=hide (show World.ownsRow w3.drew w2.heap.size 9 1 (.slice (some ⟨w2.heap.size,0,none⟩) 0 0) 0 [] from⟨by simp,.inr ⟨w2.heap.size,0,#[],rfl,Nat.le_refl _,aV,Nat.le_refl _,by unfold maxLen;omega,by simp,by simp⟩⟩);have bq:=hide (al.out.at aF.out);have eq:=bq.out.b.cell;have dt:=hide (I.out.trans (aF.out.mono I.out.size));clear bt aV dC;refine Reg.cI [0,0,2,7,0,16,63,0,128,511,1023] [1,2,4,5,7,8,0,3,6,9,10] ?_;refine Reg.wI [1,2,4,5,7,8,0] [3,6,9,10] rfl fun Qf y=>?_;go_wp2_with fail;first|refine y _ _ ⟨rfl,?_⟩|refine⟨rfl,?_⟩|refine y _ _ ⟨by simp [Reg.fineT,Reg.intOp,Region.wanted,yielded,Reg.intFine,Reg.isInt,Act.eval],?_⟩
 (try clear y);refine Reg.aI 3 [6,9,10] [5,8] rfl fun Qf y=>?_;simp only [gT,gS,gZ];go_wp2_with (at_builtin;refine Ei (w:=w3.drew) EW rfl _ _ rfl w2.heap.size _ _ _ rfl bn.out (l:=p.states) (dl.out.keep (w':=w3.drew) (B':=w.heap.size) (fun _ O=>dt.out.cell O) (Nat.le_refl _)) (by rw [<-U.out.2.2.2.2.2.1];rfl) (fun d=>rfl) (by have:=J.out.states;have:=J.out.messages;have:=J.out.values;omega) aF.out.size ?_;intro v4 w4 bM cz);have aG:=hide (aF.out.trans (cz.below aF.out.size fun b' cr e=>by have:=(bn.out.lt b' e).1;omega));have bo:=hide bM;have aY:=hide (al.out.at aG.out);have er:=aY.out.b.cell;have du:=hide (I.out.trans (aG.out.mono I.out.size));obtain⟨ed,eh,dY⟩:=AH bM;subst dY;clear cz bM;first|refine y _ _ ⟨?_,?_⟩|refine⟨?_,?_⟩
 ·exact⟨Reg.same_load1 rfl rfl ((bq.out.b.cell 3).trans bO) ((aY.out.b.cell 3).trans bO) Tryz.underlying22 rfl,Reg.same_load1 rfl rfl ((bq.out.b.cell 4).trans aL) ((aY.out.b.cell 4).trans aL) Tryz.underlying22 rfl⟩
 (try clear y);refine Reg.aI 6 [9,10] [8] rfl fun Qf y=>?_;simp only [gT,gS,gZ];go_wp2_with (at_builtin;refine Ei (w:=w4) EW rfl _ _ rfl w2.heap.size _ _ _ rfl bo.out (l:=p.messages) (dm.out.keep (w':=w4) (B':=w.heap.size) (fun _ O=>du.out.cell O) (Nat.le_refl _)) (by rw [<-U.out.2.1];rfl) (fun d=>rfl) (by have:=J.out.states;have:=J.out.messages;have:=J.out.values;omega) aG.out.size ?_;intro v5 w5 bN cA);have aH:=hide (aG.out.trans (cA.below aG.out.size fun b' cr e=>by have:=(bo.out.lt b' e).1;omega));have bp:=hide bN;have co:=hide (al.out.at aH.out);have et:=co.out.b.cell;have dv:=hide (I.out.trans (aH.out.mono I.out.size));obtain⟨ee,ej,dZ⟩:=AH bN;subst dZ;clear cA bN;first|refine y _ _ ⟨?_,?_⟩|refine⟨?_,?_⟩
 ·exact Reg.same_load1 rfl rfl ((aY.out.b.cell 4).trans aL) ((co.out.b.cell 4).trans aL) Tryz.underlying22 rfl
 (try clear y);refine Reg.aI 9 [10] [] rfl fun Qf y=>?_;simp only [gT,gS,gZ];go_wp2_with (at_builtin;refine Ei (w:=w5) EW rfl _ _ rfl w2.heap.size _ _ _ rfl bp.out (l:=p.values) (dn.out.keep (w':=w5) (B':=w.heap.size) (fun _ O=>dv.out.cell O) (Nat.le_refl _)) (by rw [<-U.out.2.2.1];rfl) (fun d=>rfl) (by have:=J.out.states;have:=J.out.messages;have:=J.out.values;omega) aH.out.size ?_;intro v6 w6 av cB);have ct:=hide (aH.out.trans (cB.below aH.out.size fun b' cr e=>by have:=(bp.out.lt b' e).1;omega));have dk:=hide av;have cp:=hide (al.out.at ct.out);have eu:=cp.out.b.cell;have an:=hide (I.out.trans (ct.out.mono I.out.size));obtain⟨ef,bW,e8⟩:=AH av;subst e8;clear cB;first|refine y _ _ ⟨Reg.nm,?_⟩|skip
 (try clear y);refine Reg.wI [10] [] rfl fun Qf y=>?_;go_wp2_with fail;first|refine y _ _ ⟨rfl,?_⟩|refine⟨rfl,?_⟩|refine y _ _ ⟨by simp [Reg.fineT,Reg.intOp,Region.wanted,yielded,Reg.intFine,Reg.isInt,Act.eval],?_⟩
 (try clear y);first|refine Reg.restI_end ?_|skip
 have cH:0+p.states.length+p.messages.length+p.values.length=(Bd p).length:=by simp only [Bd,List.length_append];omega
 have cO:[]++p.states.map (BE · 0)++p.messages.map (BE · 0)++p.values.map (BE · 0)=DV (Bd p):=by simp [DV,Bd]
 rw [cH,cO] at av;rw [show p.states.length+p.messages.length+p.values.length=(Bd p).length by simp only [Bd,List.length_append]];have eG:(Bd p).length<=180:=by
  have:=J.out.states;have:=J.out.messages;have:=J.out.values;omega
 have ck:=hide (HS av (by omega)).2;have ey:=HP av;have dM:=hide J.out.names;have cG:=hide (show CU nameOK (Bd p)=Aj (nmE (Bd p)) (List.range (Bd p).length) from rfl);rw [b6.out] at cG;have cc:=hide (show CU nameOK (Bd p)=e0 from b6.out);clear av cH cO bn bo bp dk b6;generalize Bd p=L at*;go_wp2_with fail;go_loopw [4] (fun ii wr=>∃(k:Nat),ii=.int .i64 (k:Int)/\k<=L.length/\Hid (Aj (nmE L) (List.range k)=0)/\Hid (Below w6.heap.size w6 wr)) (fun ii _=>L.length - (intOf ii).toNat)
 case atStart=>exact⟨0,rfl,Nat.zero_le _,by show _=_;rfl,Below.refl _ _⟩
 case round=>
  obtain⟨k,rfl,hk,hE,a9⟩:=hrel;by_cases ba:k<L.length
  ·obtain⟨b,aO,s,hA,b4,bP,hc⟩:=ck.out.at ba;have d0:=hc 0 (by omega);simp only [Nat.add_zero,Nat.mul_one,BE] at d0;have d1:=(a9.out.cell (p:=⟨b,aO+k,none⟩) b4).trans d0;have eO:=dM.out s (List.mem_of_getElem? bP);have bQ:=hide bP;subst hA;clear hc bP;cases be:nameOK s with
   | false=>
    have Z:=hide be;clear be;have aM:=hide (show e0=2 from cc.out.symm.trans (Fl ba hE.out bQ.out (.inl Z.out)));go_wp2_with fail;refine Reg.cI [0,0,3,7,15,31,63,127,127,511,127,127,3199,7295,16383,32767] [0,1,2,3,4,5,6,7,8,10,11,12,13,9,14,15] ?_;refine Reg.wI [0,1,2,3] [4,5,6,7,8,10,11,12,13,9,14,15] rfl fun Qf y=>?_;go_wp2_with fail;first|refine y _ _ ⟨rfl,?_⟩|refine⟨rfl,?_⟩|refine y _ _ ⟨by simp [Reg.fineT,Reg.intOp,Region.wanted,yielded,Reg.intFine,Reg.isInt,Act.eval],?_⟩
    (try clear y);refine Reg.aI 4 [5,6,7,8,10,11,12,13,9,14,15] [] rfl fun Qf y=>?_;simp only [gT,gS,gZ];go_wp2_with (go_at_call 96;refine Calls.ret (Cm s _ (by omega)) ?_;rintro v w8 ⟨rfl,aa⟩;rw [Z.out];have a6:=hide (a9.out.trans (((Ap wr).trans aa).mono a9.out.size));have d8:=(a6.out.cell (p:=⟨b,aO+k,none⟩) b4).trans d0);first|refine y _ _ ⟨Reg.nm,?_⟩|refine⟨Reg.nm,?_⟩
    (try clear y);clear aa;refine Reg.wI [5,6,7,8,10,11,12,13] [9,14,15] rfl fun Qf y=>?_;go_wp2_with fail;first|refine y _ _ ⟨rfl,?_⟩|refine⟨rfl,?_⟩|refine y _ _ ⟨by simp [Reg.fineT,Reg.intOp,Region.wanted,yielded,Reg.intFine,Reg.isInt,Act.eval],?_⟩
    (try clear y);refine Reg.aI 9 [14,15] [13] rfl fun Qf y=>?_;simp only [gT,gS,gZ];go_wp2_with fail;first|refine y _ _ ⟨Reg.same_below (Below.refl _ _) [13] rfl,?_⟩|refine⟨Reg.same_below (Below.refl _ _) [13] rfl,?_⟩
    (try clear y);refine Reg.aI 14 [15] [] rfl fun Qf y=>?_;simp only [gT,gS,gZ];go_wp2_with fail;first|refine y _ _ ⟨Reg.nm,?_⟩|refine⟨Reg.nm,?_⟩
    (try clear y);refine Reg.wI [15] [] rfl fun Qf y=>?_;go_wp2_with fail;first|refine y _ _ ⟨rfl,?_⟩|refine⟨rfl,?_⟩|refine y _ _ ⟨by simp [Reg.fineT,Reg.intOp,Region.wanted,yielded,Reg.intFine,Reg.isInt,Act.eval],?_⟩
    (try clear y);first|refine Reg.restI_end ?_|skip
    go_wp2_with fail;go_ret;exact⟨congrArg (Value.int .i64) (V.out.trans (by rw [aM.out];exact pv5 H2.out H3.out H4.out rfl)).symm,an.out.trans (a6.out.mono an.out.size)⟩
   | true=>
    have Z:=hide be;clear be;have cK:(L.take k).length=k:=by rw [List.length_take];omega
    have dX:=hide cK;clear cK;have cw:Hid (∀wx,Hid (Below w6.heap.size w6 wx)->Hid (Calls Tryz.prog 136 #[.slice (some ⟨b,aO,none⟩) k bW,.string s] wx fun r w'=>r=.returned (.bool (decide (s∈L.take k)))/\wx=w')):=hide (fun wx hx=>by
     have E:=(ck.out.keep (w':=wx) (B':=w6.heap.size) (fun _ O=>hx.out.cell O) (Nat.le_refl _)).takeS k;have h2:=Ht (c:=bW) (x:=s) E;rw [dX.out] at h2;exact h2)
    by_cases hm:s∈L.take k
    ·have bC:=hide hm;have bB:=hide (show decide (s∈L.take k)=true from decide_eq_true hm);clear hm;have aM:=hide (show e0=2 from cc.out.symm.trans (Fl ba hE.out bQ.out (.inr bC.out)));go_wp2_with fail;refine Reg.cI [0,0,3,7,15,31,63,127,127,511,127,127,3199,7295,16383,32767] [0,1,2,3,4,5,6,7,8,10,11,12,13,9,14,15] ?_;refine Reg.wI [0,1,2,3] [4,5,6,7,8,10,11,12,13,9,14,15] rfl fun Qf y=>?_;go_wp2_with fail;first|refine y _ _ ⟨rfl,?_⟩|refine⟨rfl,?_⟩|refine y _ _ ⟨by simp [Reg.fineT,Reg.intOp,Region.wanted,yielded,Reg.intFine,Reg.isInt,Act.eval],?_⟩
     (try clear y);refine Reg.aI 4 [5,6,7,8,10,11,12,13,9,14,15] [] rfl fun Qf y=>?_;simp only [gT,gS,gZ];go_wp2_with (go_at_call 96;refine Calls.ret (Cm s _ (by omega)) ?_;rintro v w8 ⟨rfl,aa⟩;rw [Z.out];have a6:=hide (a9.out.trans (((Ap wr).trans aa).mono a9.out.size));have d8:=(a6.out.cell (p:=⟨b,aO+k,none⟩) b4).trans d0);first|refine y _ _ ⟨Reg.nm,?_⟩|refine⟨Reg.nm,?_⟩
     (try clear y);clear aa;refine Reg.wI [5,6,7,8,10,11,12,13] [9,14,15] rfl fun Qf y=>?_;go_wp2_with fail;first|refine y _ _ ⟨rfl,?_⟩|refine⟨rfl,?_⟩|refine y _ _ ⟨by simp [Reg.fineT,Reg.intOp,Region.wanted,yielded,Reg.intFine,Reg.isInt,Act.eval],?_⟩
     (try clear y);refine Reg.aI 9 [14,15] [13] rfl fun Qf y=>?_;simp only [gT,gS,gZ];go_wp2_with fail;first|refine y _ _ ⟨Reg.same_below (Below.refl _ _) [13] rfl,?_⟩|refine⟨Reg.same_below (Below.refl _ _) [13] rfl,?_⟩
     (try clear y);refine Reg.aI 14 [15] [] rfl fun Qf y=>?_;simp only [gT,gS,gZ];go_wp2_with (go_at_call 136;refine(cw.out _ a6).out.mono ?_;rintro r w' ⟨rfl,rfl⟩;rw [bB.out]);first|refine y _ _ ⟨Reg.nm,?_⟩|refine⟨Reg.nm,?_⟩
     (try clear y);refine Reg.wI [15] [] rfl fun Qf y=>?_;go_wp2_with fail;first|refine y _ _ ⟨rfl,?_⟩|refine⟨rfl,?_⟩|refine y _ _ ⟨by simp [Reg.fineT,Reg.intOp,Region.wanted,yielded,Reg.intFine,Reg.isInt,Act.eval],?_⟩
     (try clear y);first|refine Reg.restI_end ?_|skip
     go_wp2_with fail;go_ret;exact⟨congrArg (Value.int .i64) (V.out.trans (by rw [aM.out];exact pv5 H2.out H3.out H4.out rfl)).symm,an.out.trans (a6.out.mono an.out.size)⟩
    ·have bC:=hide hm;have bB:=hide (show decide (s∈L.take k)=false from decide_eq_false hm);clear hm;have bL:=hide (HN ba hE.out bQ.out Z.out bC.out);go_wp2_with fail;refine Reg.cI [0,0,3,7,15,31,63,127,127,511,127,127,3199,7295,16383,32767] [0,1,2,3,4,5,6,7,8,10,11,12,13,9,14,15] ?_;refine Reg.wI [0,1,2,3] [4,5,6,7,8,10,11,12,13,9,14,15] rfl fun Qf y=>?_;go_wp2_with fail;first|refine y _ _ ⟨rfl,?_⟩|refine⟨rfl,?_⟩|refine y _ _ ⟨by simp [Reg.fineT,Reg.intOp,Region.wanted,yielded,Reg.intFine,Reg.isInt,Act.eval],?_⟩
     (try clear y);refine Reg.aI 4 [5,6,7,8,10,11,12,13,9,14,15] [] rfl fun Qf y=>?_;simp only [gT,gS,gZ];go_wp2_with (go_at_call 96;refine Calls.ret (Cm s _ (by omega)) ?_;rintro v w8 ⟨rfl,aa⟩;rw [Z.out];have a6:=hide (a9.out.trans (((Ap wr).trans aa).mono a9.out.size));have d8:=(a6.out.cell (p:=⟨b,aO+k,none⟩) b4).trans d0);first|refine y _ _ ⟨Reg.nm,?_⟩|refine⟨Reg.nm,?_⟩
     (try clear y);clear aa;refine Reg.wI [5,6,7,8,10,11,12,13] [9,14,15] rfl fun Qf y=>?_;go_wp2_with fail;first|refine y _ _ ⟨rfl,?_⟩|refine⟨rfl,?_⟩|refine y _ _ ⟨by simp [Reg.fineT,Reg.intOp,Region.wanted,yielded,Reg.intFine,Reg.isInt,Act.eval],?_⟩
     (try clear y);refine Reg.aI 9 [14,15] [13] rfl fun Qf y=>?_;simp only [gT,gS,gZ];go_wp2_with fail;first|refine y _ _ ⟨Reg.same_below (Below.refl _ _) [13] rfl,?_⟩|refine⟨Reg.same_below (Below.refl _ _) [13] rfl,?_⟩
     (try clear y);refine Reg.aI 14 [15] [] rfl fun Qf y=>?_;simp only [gT,gS,gZ];go_wp2_with (go_at_call 136;refine(cw.out _ a6).out.mono ?_;rintro r w' ⟨rfl,rfl⟩;rw [bB.out]);first|refine y _ _ ⟨Reg.nm,?_⟩|refine⟨Reg.nm,?_⟩
     (try clear y);refine Reg.wI [15] [] rfl fun Qf y=>?_;go_wp2_with fail;first|refine y _ _ ⟨rfl,?_⟩|refine⟨rfl,?_⟩|refine y _ _ ⟨by simp [Reg.fineT,Reg.intOp,Region.wanted,yielded,Reg.intFine,Reg.isInt,Act.eval],?_⟩
     (try clear y);first|refine Reg.restI_end ?_|skip
     go_wp2_with fail;exact⟨⟨k+1,by go_num,by omega,bL.out,a6.out⟩,by simp [intOf];omega⟩
  ·have cQ:=hide (show e0=0 from by
    have E:=hE.out;rw [show k=L.length by omega] at E;exact cG.out.trans E)
   have cq:=hide (cp.out.at a9.out);have ev:=cq.out.b.cell;have bs:=hide (an.out.trans (a9.out.mono an.out.size));clear hE;obtain⟨cU,ea⟩:∃x,x=wr:=⟨_,rfl⟩;subst ea;by_cases dj:(0:Int)<(nl:Int)
   case pos=>
    go_wp2_with fail;go_ret;exact⟨congrArg (Value.int .i64) (V.out.trans (pv6 H2.out H3.out H4.out (by rw [cQ.out];rfl) (by have:=aX.out;omega))).symm,bs.out⟩
   have hR:=hide (V.out.trans (pv7 H2.out H3.out H4.out (by rw [cQ.out];rfl) (by have:=aX.out;omega)));go_wp2_with fail;clear dj;go_loopw [5] (fun ii wr=>∃(k:Nat),ii=.int .i64 (k:Int)/\k<=nr/\Hid (Below cU.heap.size cU wr)/\Hid ((p.res.take k).all Bg=true)) (fun ii _=>nr - (intOf ii).toNat)
   case atStart=>exact⟨0,rfl,Nat.zero_le _,Below.refl _ _,by show _=_;simp⟩
   case round=>
    obtain⟨k2,rfl,eA,b5,bm⟩:=hrel;have br:=hide (cq.out.at b5.out);have ew:=br.out.b.cell;have W:=hide (bs.out.trans (b5.out.mono bs.out.size));by_cases eH:k2<nr
    ·obtain⟨b2,cR,l,df,en,hl,cx⟩:=(dp.out.keep (w':=wr) (B':=w.heap.size) (fun _ O=>W.out.cell O) (Nat.le_refl _)).at (k:=k2) (by have:=U.out.1;omega);have eF:(loadCellsFrom ⟨b2,cR+k2*4,none⟩ 0 4 #[]).run Tryz.prog wr=.ok #[.int .i64 l.c,.int .i64 l.n,.int .i64 l.t,.int .i64 l.f] wr:=by
      have:=run_loadCells_list (P:=Tryz.prog) wr ⟨b2,cR+k2*4,none⟩ [.int .i64 l.c,.int .i64 l.n,.int .i64 l.t,.int .i64 l.f] (fun j v G=>by
       rw [Addr.add_mid];have hj:=AP G;rw [cx j hj]
       match j,hj,G with
       | 0,_,G=>exact congrArg some (Option.some.inj G)
       | 1,_,G=>exact congrArg some (Option.some.inj G)
       | 2,_,G=>exact congrArg some (Option.some.inj G)
       | 3,_,G=>exact congrArg some (Option.some.inj G))
      simpa [loadCells] using this
     have cE:=hide hl;subst df;clear cx hl;go_wp2_with fail;cases G:Bg l
     ·have ax:=hide (show p.res.all Bg=false from by
       rw [List.all_eq_false];exact⟨l,List.mem_of_getElem? cE.out,by rw [G];decide⟩)
      refine Calls.ret (Gv l _) ?_;rintro v w9 ⟨rfl,C⟩;rw [G];have M:=hide (W.out.trans (C.mono W.out.size));clear C;go_wp2_with fail;go_ret;refine⟨congrArg (Value.int .i64) (hR.out.trans ?_).symm,M.out⟩;unfold DJ;rw [ax.out];rfl
     ·have ax:=hide (Cq (p:=Bg) cE.out bm.out G);refine Calls.ret (Gv l _) ?_;rintro v w9 ⟨rfl,C⟩;rw [G];have dw:=hide (b5.out.trans (C.mono b5.out.size));clear C;go_wp2_with fail;exact⟨⟨k2+1,by go_num,by omega,dw.out,ax.out⟩,by simp [intOf];omega⟩
    ·have ax:=hide (show p.res.all Bg=true from by
      have E:=U.out.1;have h2:=bm.out
      rwa [List.take_of_length_le (by omega)] at h2)
     have cf:=hide (show protE nameOK p=orE (Aa p.initial (ns:Int)) (orE (Ad (decide (ni=0)) 1) (orE (Aa p.leader (ns:Int)) (Cc p))) from by
      rw [hR.out];obtain⟨-,-,-,-,e5,e6,-⟩:=U.out;unfold DJ Cc;rw [ax.out,Bv,e5,e6];rfl)
     clear ax bm;go_wp2_with fail;obtain⟨ei,aJ⟩:∃e,Hid (Aa p.initial (ns:Int)=e):=⟨_,rfl⟩;by_cases aj:ei=0
     case neg=>
      have Qi:(ei != 0)=true:=by simp [aj]
      have Hi:=hide aj;clear aj;refine Calls.ret (bx _ W.out) ?_;rintro v w9 ⟨rfl,C⟩;rw [aJ.out];have M:=hide (W.out.trans (C.mono W.out.size));clear C;go_wp2_with fail;go_ret;exact⟨congrArg (Value.int .i64) (cf.out.trans (by rw [aJ.out];exact BF Hi.out)).symm,M.out⟩
     have Qi:(ei != 0)=false:=by simp [aj]
     have Hi:=hide aj;clear aj;have cg:=hide (show protE nameOK p=orE (Ad (decide (ni=0)) 1) (orE (Aa p.leader (ns:Int)) (Cc p)) from cf.out.trans (by rw [aJ.out,Hi.out];rfl));by_cases au:ni=0
     case pos=>
      have Qn:((ni:Int)==0)=true:=by simp [au]
      have Hn:=hide au;clear au;refine Calls.ret (bx _ W.out) ?_;rintro v w9 ⟨rfl,C⟩;rw [aJ.out];have af:=hide (br.out.at C);have dy:=af.out.b.cell;have dD:=Ah af.out.b aw.out;have M:=hide (W.out.trans (C.mono W.out.size));clear C;go_wp2_with fail;go_ret;exact⟨congrArg (Value.int .i64) (cg.out.trans (by rw [decide_eq_true Hn.out];rfl)).symm,M.out⟩
     have Qn:((ni:Int)==0)=false:=by simp [au]
     have Hn:=hide au;clear au;have ch:=hide (show protE nameOK p=orE (Aa p.leader (ns:Int)) (Cc p) from cg.out.trans (by rw [decide_eq_false Hn.out];rfl));refine Calls.ret (bx _ W.out) ?_;rintro v w9 ⟨rfl,C⟩;rw [aJ.out];have af:=hide (br.out.at C);have dy:=af.out.b.cell;have dD:=Ah af.out.b aw.out;have M:=hide (W.out.trans (C.mono W.out.size));clear C;go_wp2_with fail;obtain⟨el,b8⟩:∃e,Hid (Aa p.leader (ns:Int)=e):=⟨_,rfl⟩;by_cases ak:el=0
     case neg=>
      have Ql:(el != 0)=true:=by simp [ak]
      have Hl:=hide ak;clear ak;refine Calls.ret (cF _ M.out) ?_;rintro v wa ⟨rfl,ag⟩;rw [b8.out];have am:=hide (af.out.at ag);have dz:=am.out.b.cell;have dE:=Ah am.out.b aw.out;have ao:=hide (M.out.trans (ag.mono M.out.size));clear ag;go_wp2_with fail;go_ret;exact⟨congrArg (Value.int .i64) (ch.out.trans (by rw [b8.out];exact BF Hl.out)).symm,ao.out⟩
     have Ql:(el != 0)=false:=by simp [ak]
     have Hl:=hide ak;clear ak;have ci:=hide (show protE nameOK p=Cc p from ch.out.trans (by rw [b8.out,Hl.out];rfl));refine Calls.ret (cF _ M.out) ?_;rintro v wa ⟨rfl,ag⟩;rw [b8.out];have am:=hide (af.out.at ag);have dz:=am.out.b.cell;have dE:=Ah am.out.b aw.out;have ao:=hide (M.out.trans (ag.mono M.out.size));clear ag;go_wp2_with fail;clear Qi Qn Ql;go_loopw [8] (fun ii wr=>∃(k:Nat),ii=.int .i64 (k:Int)/\k<=nu/\Hid (Below wa.heap.size wa wr)/\Hid (Aj (BB nameOK p) (List.range k)=0)) (fun ii _=>nu - (intOf ii).toNat)
     case atStart=>exact⟨0,rfl,Nat.zero_le _,Below.refl _ _,by show _=_;rfl⟩
     case round=>
      obtain⟨k4,rfl,eB,aq,aW⟩:=hrel;have aD:=hide (am.out.at aq.out);have ex:=aD.out.b.cell;have eE:=Ah aD.out.b aw.out;have b0:=hide (ao.out.trans (aq.out.mono ao.out.size));by_cases eI:k4<nu
      ·obtain⟨e9,b7⟩:∃e,Hid (BB nameOK p k4=e):=⟨_,rfl⟩;have bv:=hide (KF (cs:=pc.toList) (i:=k4) aD.out.pr (by have:=U.out.2.2.2.2.2.2;omega) J.out aD.out.tab);rw [b7.out] at bv;have cM:=hide (show(List.range p.rules.length)[k4]?=some k4 from by rw [List.getElem?_range (by have:=U.out.2.2.2.2.2.2;omega)]);have cL:=hide (show(List.range p.rules.length).take k4=List.range k4 from by rw [List.take_range,Nat.min_eq_left (by have:=U.out.2.2.2.2.2.2;omega)]);go_wp2_with fail;by_cases h0:e9=0
       ·have hq:(e9 != 0)=false:=by simp [h0]
        have bL:=hide (show Aj (BB nameOK p) (List.range (k4+1))=0 from by
         have E:=CD (BB nameOK p) cM.out (by rw [cL.out];exact aW.out);rw [List.take_range,Nat.min_eq_left (by have:=U.out.2.2.2.2.2.2;omega)] at E;rw [E,b7.out,h0])
        clear h0;refine Calls.ret bv.out ?_;rintro v w9 ⟨rfl,C⟩;have bu:=hide (aq.out.trans (C.mono aq.out.size));clear C;go_wp2_with fail;exact⟨⟨k4+1,by go_num,by omega,bu.out,bL.out⟩,by simp [intOf];omega⟩
       ·have hq:(e9 != 0)=true:=by simp [h0]
        have aM:=hide (show protE nameOK p=e9 from by
         have E:=Ct (BB nameOK p) cM.out (by rw [cL.out];exact aW.out) (by rw [b7.out];exact h0);rw [ci.out];unfold Cc;rw [E,b7.out,BF h0])
        clear h0;refine Calls.ret bv.out ?_;rintro v w9 ⟨rfl,C⟩;have bu:=hide (aq.out.trans (C.mono aq.out.size));clear C;go_wp2_with fail;go_ret;exact⟨congrArg (Value.int .i64) aM.out.symm,ao.out.trans (bu.out.mono ao.out.size)⟩
      ·obtain⟨nt,bI⟩:∃n,n=(BO p.rules).length:=⟨_,rfl⟩;have cj:=hide (show protE nameOK p=Ad (decide (3<nt)) 4 from by
        have E:=aW.out;rw [show k4=p.rules.length by have:=U.out.2.2.2.2.2.2;omega] at E;rw [ci.out,bI];unfold Cc;rw [E,AY])
       have bR:=hide (Jo (cs:=pc.toList) aD.out.pr J.out);rw [<-bI] at bR;have eK:nt<=1800:=by
        have E:=FB p.rules (fun r hr=>(J.out.rule r hr).1.2.1);have h2:=J.out.rules;omega
       clear bI aW;go_wp2_with fail;by_cases c0:3<nt
       ·have G3:(3:Int)<(nt:Int):=by omega
        refine Calls.ret bR.out ?_;rintro v w9 ⟨aK,C⟩;obtain⟨Av,cv,G⟩:=AH aK;subst G;have M:=hide (b0.out.trans (C.mono b0.out.size));clear aK C;go_wp2_with fail;go_ret;exact⟨congrArg (Value.int .i64) (cj.out.trans (by rw [decide_eq_true c0];rfl)).symm,M.out⟩
       ·have G3:¬(3:Int)<(nt:Int):=by omega
        refine Calls.ret bR.out ?_;rintro v w9 ⟨aK,C⟩;obtain⟨Av,cv,G⟩:=AH aK;subst G;have M:=hide (b0.out.trans (C.mono b0.out.size));clear aK C;go_wp2_with fail;go_ret;exact⟨congrArg (Value.int .i64) (cj.out.trans (by rw [decide_eq_false c0];rfl)).symm,M.out⟩
end Go.Proofs.YtfcfpoemojjglaaGreatDoor.K
