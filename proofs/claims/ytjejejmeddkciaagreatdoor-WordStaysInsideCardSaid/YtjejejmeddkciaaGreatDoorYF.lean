/-
  Part YF of a proof.
-/
import Derived.Test.YtjejejmeddkciaaGreatDoorPA
import Derived.Test.YtjejejmeddkciaaGreatDoorYE
import Derived.Test.YtjejejmeddkciaaGreatDoorTL
import Derived.Test.YtjejejmeddkciaaGreatDoorTK
import Derived.Test.YtjejejmeddkciaaGreatDoorUB
import Derived.Test.YtjejejmeddkciaaGreatDoorPE
import Derived.Test.YtjejejmeddkciaaGreatDoorTJ
import Derived.Test.YtjejejmeddkciaaGreatDoorCX
set_option maxHeartbeats 16000000
set_option maxRecDepth 100000
set_option linter.unusedVariables false
set_option linter.unusedSimpArgs false
namespace Go.Proofs.YtjejejmeddkciaaGreatDoor
open Go.RowKit
open K (Am Az AB At Ba AW C0 Ah SpOK nameOK protE Ad orE Dv DY)
attribute [-go_sem] loadCellsFrom storeCells
set_option maxHeartbeats 16000000
set_option maxRecDepth 100000
theorem aCG {w:World} {g n m:Nat} {t:TypeId} {l1 l2 l3:List Value} (h:Blk w g t (l1++(l2++l3)).toArray) (G:l1.length=n) (F:l2.length=m):(loadCellsFrom ⟨g,n,none⟩ 0 m #[]).run Tryz.prog w=.ok l2.toArray w:=by
 subst G F;have:=run_loadCells_list (P:=Tryz.prog) w ⟨g,l1.length,none⟩ l2 (fun j v C=>by
  rw [Addr.add_mid,h.cell];have E:=AP C;show(l1++(l2++l3)).toArray[l1.length+j]?=some v
  rw [List.getElem?_toArray,List.getElem?_append_right (by omega),show l1.length+j - l1.length=j by omega,List.getElem?_append_left E];exact C)
 simpa [loadCells] using this
theorem aDh {w:World} {b o:Nat} {x y z:Value} (h0:w.cell? ⟨b,o,none⟩=some x) (h1:w.cell? ⟨b,o+1,none⟩=some y) (C:w.cell? ⟨b,o+2,none⟩=some z):(loadCellsFrom ⟨b,o,none⟩ 0 3 #[]).run Tryz.prog w=.ok #[x,y,z] w:=by
 have:=run_loadCells_list (P:=Tryz.prog) w ⟨b,o,none⟩ [x,y,z] (fun j v h=>by
  match j,h with
  | 0,h=>rw [show v=x by simpa using h.symm];exact h0
  | 1,h=>rw [show v=y by simpa using h.symm];exact h1
  | 2,h=>rw [show v=z by simpa using h.symm];exact C)
 simpa [loadCells] using this
theorem Qc.fin2 {wd wc:World} {t1 t2:TypeId} {c1 c2:Array Value} {o2:Option Nat} {m C:Nat} {l:List Int} {v:Value} (h:Qc wd wc t1 t2 c1 c2 (some C) o2 (some v) m l) (O:3≠t1) (a1:Array Value) (h1:a1.size=c1.size) (U:a1.all (·.oneCell')=true):
  ∃E,(storeCells ⟨C,0,none⟩ a1.toList 0).run Tryz.prog wc=.ok () E/\Below wd.heap.size wd E/\Blk E C t1 a1/\E.ownsRow wd.heap.size 3 1 v m (l.map fun x=>.int .i64 x):=by
 obtain⟨V,F⟩:=h.b1 C rfl;have I:=h.own v rfl;obtain⟨E,M,J,G⟩:=Wn F a1 h1 U;exact⟨E,M,h.below.trans (G.below h.below.size fun b hb (e:b=C)=>by omega),J,G.ownsRow I fun g hv (e:g=C)=>Aw I F O (by rw [hv,e])⟩
theorem aDe {w:World} {cs es M:List Value} {p:Am} {q:AB} {a:WA} {z:Int} {A:Option Addr} {c:Nat} {u:List Int} (h:At w w.heap.size cs p) (hf:p.Fits) (h':Ba w w.heap.size es q) (hg:q.Fits) (bg:M.length=5) (ha:Bj w w.heap.size (.agg M.toArray) a) (hu:Sl w w.heap.size 1 Ai A u) (hT:SpOK w) (hP:BV w):
    Calls Tryz.prog 3 #[.agg cs.toArray,.agg (es++(M++[Value.int .i64 z])).toArray,.slice A u.length c] w (Ret fun r w'=>r=.bool true/\Below w.heap.size w w'):=by
  obtain⟨A1,c1,A2,c2,A3,c3,A4,c4,A5,c5,A6,c6,A7,c7,bu,q0,q1,q2,-⟩:=h.cells;obtain⟨B1,d1,B2,d2,B3,d3,B4,d4,cB,-⟩:=h'.cells;have aO:es.length=6:=by simpa using cB
  obtain⟨nu,af⟩:∃n,n=u.length:=⟨_,rfl⟩;rw [<-af];obtain⟨w1,eL,ba,aT,-⟩:=Ae w cs.toArray 27;obtain⟨w2,eM,aF,aU,-⟩:=Ae w1 (es++(M++[Value.int .i64 z])).toArray 35;have al:=ba.trans (aF.mono ba.size);have ae:Hid (∀C,Blk C w1.heap.size 35 (es++(M++[Value.int .i64 z])).toArray->(loadCellsFrom ⟨w1.heap.size,0,none⟩ 0 6 #[]).run Tryz.prog C=.ok es.toArray C/\(loadCellsFrom ⟨w1.heap.size,6,none⟩ 0 5 #[]).run Tryz.prog C=.ok M.toArray C/\C.cell? ⟨w1.heap.size,11,none⟩=some (.int .i64 z)):=hide fun C E=>
    ⟨aCG (l1:=[]) E rfl aO,aCG E aO bg,by rw [E.cell];simp [aO,bg]⟩
  have cm:=hide (K.Gr (h.keep (w':=w2) (B':=w2.heap.size) (fun _ F=>al.cell F) al.size) (h'.keep (w':=w2) (B':=w2.heap.size) (fun _ F=>al.cell F) al.size) hf hg);have di:Hid (∀C,Below w.heap.size w C->Calls Tryz.prog 6 #[.agg M.toArray] C (Ret fun r w'=>r=.bool a.big/\Below C.heap.size C w')):=hide fun C E=>aCR (ha.keep (fun _ F=>E.cell F) E.size);have cF:Hid (∀C,p.Small->q.Small->a.edges.length<=3000000->Below w.heap.size w C->Calls Tryz.prog 7 #[.agg cs.toArray,.agg es.toArray,.agg M.toArray,.int .i64 z] C (Ret fun r w'=>Below C.heap.size C w'/\∃x:Bool,r=.bool x/\(x=true->AC p=0/\0<=z/\aCE p a z.toNat))):=hide fun C h1 h2 h3 E=>
    aCS (h.keep (fun _ F=>E.cell F) E.size) (h'.keep (fun _ F=>E.cell F) E.size) (ha.keep (fun _ F=>E.cell F) E.size) h1 h2 h3 (hT.below E) (hP.below E)
  have ca:Hid (∀C (G:Option Addr) (c9:Nat) (l:List Int) (m:Nat),m=l.length->a.edges.length<=3000000->a.start.length<=4000000->Below w.heap.size w C->Sl C C.heap.size 1 Ai G l->Calls Tryz.prog 9 #[.agg M.toArray,.slice G m c9] C (Ret fun r w'=>r=a.accR l/\Below C.heap.size C w')):=hide fun C G c9 l m hm h1 h2 E hl=>by
    subst hm;exact LN (ha.keep (fun _ F=>E.cell F) E.size) h1 h2 hl (Nat.le_refl _)
  have ct:Hid (∀C,nu<=8->Below w.heap.size w C->Calls Tryz.prog 10 #[.slice A nu c] C (Ret fun v w'=>Below C.heap.size C w'/\∃G cap,v=.agg #[.slice none 0 0,.slice G nu cap,.int .i64 (nu:Int),.slice none 0 0,.slice none 0 0,.int .i64 0]/\w'.ownsRow C.heap.size 3 1 (.slice G nu cap) nu (u.map fun x=>.int .i64 x))):=hide fun C h8 E=>Yz (hu.keep (fun _ F=>E.cell F) E.size) af (by omega);have cT:p.Small->AC p=0->nu<=8->Let p.states.length u->Hid (∀C G cap,Below w.heap.size w C->Sl C C.heap.size 1 Ai G u->Calls Tryz.prog 11 #[.agg cs.toArray,.agg #[.int .i64 (nu:Int),.int .i64 0,.int .i64 0],.agg #[.slice none 0 0,.slice G nu cap,.int .i64 (nu:Int),.slice none 0 0,.slice none 0 0,.int .i64 0]] C (Ret fun v w'=>Below C.heap.size C w'/\∃(y:Value) (e:Int),v=.tuple #[y,.int .i64 e]/\WW p u y w')):=fun ag he h8 bl=>hide fun C G cap E hs=>
    Yo (h.keep (fun _ F=>E.cell F) E.size) ag (hT.below E) he hs af bl h8
  have ce:p.Small->AC p=0->nu<=8->Let p.states.length u->Hid (∀C G cap (t:Stp) r,Below w.heap.size w C->Sl C C.heap.size 1 Ai G u->p.rules[t.1]?=some r->EnR p.topo r u t.2.1 t.2.2->Calls Tryz.prog 12 #[.agg cs.toArray,.agg #[.int .i64 (nu:Int),.int .i64 0,.int .i64 0],.agg #[.slice none 0 0,.slice G nu cap,.int .i64 (nu:Int),.slice none 0 0,.slice none 0 0,.int .i64 0],.agg #[.int .i64 (t.1:Int),.int .i64 (t.2.1:Int),.int .i64 t.2.2]] C (Ret fun v w'=>Below C.heap.size C w'/\∃y,v=.tuple #[y,.int .i64 0]/\Wo C nu (AE r u t.2.1 t.2.2) y w')):=fun ag he h8 bl=>hide fun C G cap t r E hs hr hE=>
    Yh (h.keep (fun _ F=>E.cell F) E.size) ag (hT.below E) he hs af h8 bl hr hE
  have dy:=Ah (aT.below aF) bu;obtain⟨e3,e7,eb⟩:=ae.out w2 aU;have d9:=hide (aT.below aF);have de:=hide aU;have ao:=hide bu;have cg:=hide al;have ap:=hide hP;have dR:=hide hu;have br:=hide af;have dQ:=hu.1;rw [<-af] at dQ;generalize cs.toArray=pc at*;generalize es.toArray=qc at*;generalize M.toArray=ac at*;generalize (es++(M++[Value.int .i64 z])).toArray=tc at*;clear h hf h' hg ha hu hT hP ba aT aF aU al bu cB q0 q1 q2 af bg aO;go_enter Tryz.func3,Tryz.ntmps3;go_wp2_with fail;refine Calls.ret cm.out ?_;rintro r w3 ⟨⟨b1,rfl,cM⟩,aG⟩;have cO:=hide cM;have am:=hide (cg.out.trans (aG.mono cg.out.size));have bG:=hide (d9.out.below aG);have bM:=hide (de.out.below aG);obtain⟨e4,e8,ec⟩:=ae.out w3 bM.out;have dz:=Ah bG.out ao.out;clear cM aG dy e3 e7 eb cm;cases b1
  case true=>
    have dv:=hide (W7 (ap.out.below am.out));go_wp2_with fail;refine Calls.ret dv.out ?_;rintro r wk ⟨rfl,I⟩;have O:=hide (am.out.trans (I.mono am.out.size));clear I;go_wp2_with fail;go_ret;exact⟨rfl,O.out⟩
  have cn:=hide (di.out w3 am.out);go_wp2_with fail;refine Calls.ret cn.out ?_;rintro r w4 ⟨rfl,aH⟩;have Z:=hide (am.out.trans (aH.mono am.out.size));have bH:=hide (bG.out.below aH);have bN:=hide (bM.out.below aH);obtain⟨e5,e9,ed⟩:=ae.out w4 bN.out;have dA:=Ah bH.out ao.out;have bm:=hide (W7 (ap.out.below Z.out));clear aH dz e4 e8 ec cn;cases bf:a.big
  case true=>
    clear bf;go_wp2_with fail;refine Calls.ret bm.out ?_;rintro r wk ⟨rfl,I⟩;have O:=hide (Z.out.trans (I.mono Z.out.size));clear I;go_wp2_with fail;go_ret;exact⟨rfl,O.out⟩
  have cp:=hide (WA.big_not bf);have bi:=hide (show a.edges.length<=3000000 from by have:=cp.out;omega);have cJ:=hide (show a.start.length<=4000000 from by have:=cp.out;omega);clear bf;by_cases h8:8<nu
  case pos=>
    have g1:(8:Int)<(nu:Int):=by omega
    go_wp2_with fail;refine Calls.ret bm.out ?_;rintro r wk ⟨rfl,I⟩;have O:=hide (Z.out.trans (I.mono Z.out.size));clear I;go_wp2_with fail;go_ret;exact⟨rfl,O.out⟩
  have g1:¬(8:Int)<(nu:Int):=by omega
  have bp:nu<=8:=by omega
  obtain⟨ag,dN⟩:=cO.out (by first|trivial|rfl);have cE:=hide (cF.out w4 ag dN bi.out Z.out);clear bm cF h8;go_wp2_with fail;refine Calls.ret cE.out ?_;rintro r w5 ⟨aJ,x,rfl,E⟩;have cU:=hide E;have a2:=hide (Z.out.trans (aJ.mono Z.out.size));have bI:=hide (bH.out.below aJ);have bO:=hide (bN.out.below aJ);obtain⟨e6,ea,ee⟩:=ae.out w5 bO.out;have dB:=Ah bI.out ao.out;have cy:=hide (W7 (ap.out.below a2.out));clear aJ E dA e5 e9 ed cE;cases x
  case false=>
    go_wp2_with fail;refine Calls.ret cy.out ?_;rintro r wk ⟨rfl,I⟩;have O:=hide (a2.out.trans (I.mono a2.out.size));clear I;go_wp2_with fail;go_ret;exact⟨rfl,O.out⟩
  obtain⟨aP,dX,b0⟩:=cU.out (by first|trivial|rfl);have dJ:=hide aP;obtain⟨i,rfl⟩:∃i:Nat,z=(i:Int):=⟨z.toNat,by omega⟩;rw [Int.toNat_natCast] at b0;have bX:=hide b0;have c8:=hide (ca.out w5 A c u nu br.out bi.out cJ.out a2.out (dR.out.keep (fun _ F=>a2.out.cell F) a2.out.size));have cQ:=cT ag aP bp;have cc:=ce ag aP bp;clear cy cU cO aP b0 cT ce dX;go_wp2_with fail;refine Calls.ret c8.out ?_;rintro r w6 ⟨rfl,aK⟩;have a3:=hide (a2.out.trans (aK.mono a2.out.size));have bJ:=hide (bI.out.below aK);have dc:=hide (bO.out.below aK);have dC:=Ah bJ.out ao.out;have bn:=hide (W7 (ap.out.below a3.out));have cf:Hid (a.accR u=.tuple #[.bool (a.acc u),.int .i64 (De (a.accV u))]):=hide rfl;rw [cf.out];clear aK dB e6 ea ee c8 cf;cases ah:a.accV u
  case false=>
    rw [show De false=1 from rfl];clear ah;generalize a.acc u=bb;go_wp2_with fail;refine Calls.ret bn.out ?_;rintro r wk ⟨rfl,I⟩;have O:=hide (a3.out.trans (I.mono a3.out.size));clear I;go_wp2_with fail;go_ret;exact⟨rfl,O.out⟩
  rw [show De true=0 from rfl];cases b7:a.acc u
  case false=>
    clear ah b7;go_wp2_with fail;refine Calls.ret bn.out ?_;rintro r wk ⟨rfl,I⟩;have O:=hide (a3.out.trans (I.mono a3.out.size));clear I;go_wp2_with fail;go_ret;exact⟨rfl,O.out⟩
  obtain⟨rr,tb,eO,hr,dI,bo,bS,ad⟩:=bX.out;have aY:Let p.states.length u:=by
    unfold WA.accV at ah;rw [bo] at ah;simp only [Bool.and_eq_true,List.all_eq_true] at ah;exact ah.2
  have dO:Hid (∀n k,EnR p.topo rr u n k->a.acc (AE rr u n k)=true):=hide fun n k hE=>aDv dJ.out hr bo bS ad b7 hE;have cD:=hide hr;have cR:=cQ aY;have dm:=cc aY;have cr:=hide (ct.out w6 bp a3.out);clear ah b7 bn bX hr dI bo bS ad aY cQ cc ct;go_wp2_with fail;refine Calls.ret cr.out ?_;rintro q w7 ⟨aL,G,cap,rfl,bV⟩;obtain⟨wa,dT,aM,aV,-⟩:=Ae w7 #[.int .i64 0,.int .i64 0,.int .i64 0] 44;obtain⟨wb,dU,be,bP,-⟩:=Ae wa #[.slice none 0 0,.slice none 0 0,.int .i64 0,.slice none 0 0,.slice none 0 0,.int .i64 0] 46;have dE:=aV.lt;obtain⟨wc,cK,bQ,aW⟩:=Wn (aV.below be) #[.int .i64 (nu:Int),.int .i64 0,.int .i64 0] rfl (by simp [Value.oneCell']);obtain⟨wd,cL,bR,aX⟩:=Wn (bP.kept aW (by omega)) #[.slice none 0 0,.slice G nu cap,.int .i64 (nu:Int),.slice none 0 0,.slice none 0 0,.int .i64 0] rfl (by simp [Value.oneCell']);have dL:(storeCells ⟨w7.heap.size,0,none⟩ [.int .i64 (nu:Int),.int .i64 0,.int .i64 0] 0).run Tryz.prog wb=.ok () wc:=cK;have dM:(storeCells ⟨wa.heap.size,0,none⟩ [.slice none 0 0,.slice G nu cap,.int .i64 (nu:Int),.slice none 0 0,.slice none 0 0,.int .i64 0] 0).run Tryz.prog wc=.ok () wd:=cL;have bc:=aM.trans (be.mono aM.size);have bd:=bc.trans (aW.below (B:=w7.heap.size) bc.size fun b hb e=>by omega);have an:=bd.trans (aX.below (B:=w7.heap.size) bd.size fun b hb e=>by have:=aM.size;omega);have b8:=a3.out.trans (aL.mono a3.out.size);have b9:=hide (b8.trans (an.mono b8.size));have bK:=hide ((bJ.out.below aL).below an);have df:=hide ((dc.out.below aL).below an);have b5:=hide (bQ.kept aX (by omega));have b6:=hide bR;have cG:Sl w7 w7.heap.size 1 Ai G u:=by
    obtain⟨Aq,cq,eq,hq⟩:=B8 (B:=w7.heap.size) bV br.out.symm (Nat.le_refl _) (by omega);cases eq;exact hq
  have cH:=hide (cG.keep (w':=wd) (B':=wd.heap.size) (fun p F=>an.cell F) an.size);have e0:=Ah bK.out ao.out;have e1:=Ah b5.out (n:=3) rfl;have e2:=Ah b6.out (n:=6) rfl;have cS:=hide (cR.out wd G cap b9.out cH.out);obtain⟨eF,bj⟩:∃g,g=w7.heap.size:=⟨_,rfl⟩;obtain⟨eG,bk⟩:∃g,g=wa.heap.size:=⟨_,rfl⟩;clear aM be aV bP bQ aW bR aX cK cL bc bd an b8 cG bV cR cr dC aL;go_wp2_with fail;refine Calls.ret cS.out ?_;rintro q av ⟨a4,yv,eE,rfl,S,ek,ev,rfl,b4,cz⟩;have ak:=hide (b9.out.trans (a4.mono b9.out.size));have d8:=hide (bK.out.below a4);have db:=hide (df.out.below a4);have bZ:=hide (b5.out.below a4);have c0:=hide (b6.out.below a4);have dK:=hide (cH.out.keep (w':=av) (B':=av.heap.size) (fun _ F=>a4.cell F) a4.size);have dk:=hide b4;have dG:=hide cz;have dl:=b4.1;rw [<-bj] at bZ;rw [<-bk] at c0;rw [<-bj,<-bk];clear a4 b4 cz cS e0 e1 e2 dT dU dL dM b5 b6 bj bk dE;obtain⟨nS,bq⟩:∃n,n=S.length:=⟨_,rfl⟩;rw [<-bq] at dl ⊢;have dH:=hide bq;clear bq;go_wp2_with fail;go_loopw [13] (fun ii wr=>∃(j:Nat),ii=.int .i64 (j:Int)/\j<=nS/\Hid (Below av.heap.size av wr)) (fun ii _=>nS - (intOf ii).toNat)
  case atStart=>exact⟨0,rfl,Nat.zero_le _,Below.refl _ _⟩
  case round=>
    obtain⟨j,rfl,hj,ab⟩:=hrel;have aD:=hide (ak.out.trans (ab.out.mono ak.out.size));have bL:=hide (d8.out.below ab.out);have aA:=hide (db.out.below ab.out);by_cases dD:j<nS
    · have bY:=dk.out.keep (w':=wr) (B':=av.heap.size) (fun _ F=>ab.out.cell F) (Nat.le_refl _)
      obtain⟨b,off,t,hA,I,ht,ad⟩:=bY.at (show j<S.length by rw [<-dH.out];exact dD);subst hA;obtain⟨V,n,k⟩:=t;have dP:=hide ht;have aN:=hide (ab.out.trans ((Ap wr).mono ab.out.size));have h0:wr.drew.cell? ⟨b,off+j*3,none⟩=some (.int .i64 (V:Int)):=ad 0 (by decide);have h1:wr.drew.cell? ⟨b,off+j*3+1,none⟩=some (.int .i64 (n:Int)):=ad 1 (by decide);have h2:wr.drew.cell? ⟨b,off+j*3+2,none⟩=some (.int .i64 k):=ad 2 (by decide);have d5:wr.cell? ⟨b,off+j*3,none⟩=some (.int .i64 (V:Int)):=h0;have eK:(j:Int)<(nS:Int):=by omega
      have hz:=(ae.out wr aA.out).2.2;have dY:=(ae.out wr.drew (aA.out.below (Ap wr))).2.2;clear bY ad ht;by_cases cb:V=i
      case neg=>
        have dn:((V:Int)==(i:Int))=false:=by simp;omega
        clear cb h1 h2;go_wp2_with fail;refine Reg.aCh [0,0,3,7,15,0,32,127] (by kernel_rfl) ⟨fun c _ w x=>x.2,fun _ w x=>x⟩ ?_;go_wp2_with fail;exact⟨⟨j+1,by go_num,by omega,aN⟩,by simp [intOf];omega⟩
      subst cb;have dn:((V:Int)==(V:Int))=true:=by simp
      have hE:Hid (EnR p.topo rr u n k):=hide (by
        obtain⟨r',q1,q2⟩:=(dG.out _).1 (List.mem_of_getElem? dP.out);have e:rr=r':=Option.some.inj (cD.out.symm.trans q1);subst e;exact q2)
      go_wp2_with fail;refine Reg.aCh [0,0,3,7,15,0,32,127] (by kernel_rfl) ⟨fun c _ w x=>x.2,fun _ w x=>x⟩ ?_;go_wp2_with fail;have da:=hide (bL.out.below (Ap wr));have dg:=hide (aA.out.below (Ap wr));generalize wr.drew=C at*;clear d5 hz ab aD bL aA;have eI:=hide (ak.out.trans (aN.out.mono ak.out.size));have a5:=aN.out.trans ((Ap C).mono aN.out.size);have aE:=hide (ak.out.trans (a5.mono ak.out.size));have l1:=Ah (da.out.below (Ap C)) ao.out;have l2:=Ah (bZ.out.below a5) (n:=3) rfl;have l3:=Ah (c0.out.below a5) (n:=6) rfl;have l4:(loadCellsFrom ⟨b,off+j*3,none⟩ 0 3 #[]).run Tryz.prog C.drew=.ok #[.int .i64 (V:Int),.int .i64 (n:Int),.int .i64 k] C.drew:=aDh (h0:C.drew.cell? ⟨b,off+j*3,none⟩=_) (h1:C.drew.cell? ⟨b,off+j*3+1,none⟩=_) (h2:C.drew.cell? ⟨b,off+j*3+2,none⟩=_);have cd:=hide (fun wy (E:Below C.drew.heap.size C.drew wy)=>dm.out wy G cap (V,n,k) rr (aE.out.trans (E.mono aE.out.size)) (dK.out.keep (w':=wy) (B':=wy.heap.size) (fun _ F=>(a5.trans (E.mono a5.size)).cell F) (Nat.le_trans a5.size E.size)) cD.out hE.out);have U:Hid (Qc C.drew C.drew 46 44 #[.slice none 0 0,.slice none 0 0,.int .i64 0,.slice none 0 0,.slice none 0 0,.int .i64 0] #[] none none none nu (AE rr u n k)):=hide ⟨Below.refl _ _,fun g e=>(by cases e),fun g e=>(by cases e),fun g e=>(by cases e)⟩;have dh:=hide (dg.out.below (Ap C));have ck:=hide a5;have bt:Hid ((AE rr u n k).length=nu):=hide (by rw [ZY,br.out]);have bx:=hide (dO.out n k hE.out);obtain⟨ol,cA⟩:∃x,x=AE rr u n k:=⟨_,rfl⟩;rw [<-cA] at cd U bt bx;clear cA hE a5 h1 h2 dY;refine Reg.region_spl [0,0,0,0,0,24,56,127,255,511,511,0,3071,8191] (.node 7 11 (.leaf [0,1,2,3,4,5,6,7,8,9,10,11,12,13]) (.leaf [0,1,2,3,4,5,6,11,7,8,9,10,12,13])) (by kernel_rfl) ?_ ?_
      · exact⟨fun c _ w x=>x.2,fun _ w x=>x⟩
      dsimp only [Reg.Spl.goal];refine And.intro ?_ ?_
      all_goals
        refine Reg.rest_walkE [0,1,2,3,4,5,6] _ rfl rfl (by kernel_rfl) ?_;intro Qf J;go_wp2_with fail;first|refine J _ _ ?_|skip
        (try clear J);clear l1 l2 l3 l4 h0
        iterate 2
          first
          | (refine Reg.rest_walkE [11] _ rfl rfl (by kernel_rfl) ?_
             intro Qf J;obtain⟨wn,dV,W,cx⟩:=U.out.put1;obtain⟨bF,cw⟩:=Ws cx;rw [cw] at W;have W:=hide W;go_wp2_with fail;first|refine J _ _ ?_|skip
             (try clear J);clear U dV cw cx;have U:=W;clear W)
          | (refine Reg.rest_act' 7 _ [] rfl (by kernel_rfl) ?_
             intro Qf J;try simp only [gT,gS,gZ]
             go_wp2_with fail;refine Calls.ret (cd.out _ U.out.below) ?_;rintro q wm ⟨co,yy,rfl,Z0,z0,S1,s1,Z3,z3,Z4,z4,rfl,bW⟩;have W:=hide (U.out.row co bW);clear U bW;go_wp2_with fail;first|refine J _ _ ⟨Reg.nm,?_⟩|refine⟨Reg.nm,?_⟩
             (try clear J);clear co;have U:=W;clear W;refine Reg.rest_walkE [8,9,10] _ rfl rfl (by kernel_rfl) ?_;intro Qf J;go_wp2_with fail;first|refine J _ _ ?_|skip
             try clear J)
        refine Reg.rest_walkE [12,13] [] rfl rfl (by kernel_rfl) ?_;intro Qf J;obtain⟨wF,hF,hB,B1,hO⟩:=U.out.fin2 (by decide) #[.slice Z0 0 z0,.slice S1 nu s1,.int .i64 (nu:Int),.slice Z3 0 z3,.slice Z4 0 z4,.int .i64 0] rfl (by simp [Value.oneCell']);have eH:(storeCells ⟨bF,0,none⟩ [.slice Z0 0 z0,.slice S1 nu s1,.int .i64 (nu:Int),.slice Z3 0 z3,.slice Z4 0 z4,.int .i64 0] 0).run Tryz.prog _=.ok () wF:=hF;have cj:=hide (ck.out.trans (hB.mono ck.out.size));have dr:=hide (aE.out.trans (hB.mono aE.out.size));have ew:wF.cell? ⟨bF,1,none⟩=some (.slice S1 nu s1):=B1.cell 1;have eN:=(ae.out wF (dh.out.below hB)).2.1;have du:Hid (Calls Tryz.prog 9 #[.agg ac,.slice S1 nu s1] wF (Ret fun r w'=>r=.tuple #[.bool true,.int .i64 0]/\Below wF.heap.size wF w')):=hide (by
          obtain⟨Aq,cq,eq,hq⟩:=B8 (B:=wF.heap.size) hO bt.out (Nat.le_refl _) (by omega);cases eq;have hv:a.accV ol=true:=by
            have:=bx.out;unfold WA.acc at this;rw [Bool.and_eq_true] at this;exact this.1
          have hR:a.accR ol=.tuple #[.bool true,.int .i64 0]:=by
            unfold WA.accR;rw [bx.out,hv];rfl
          rw [<-hR];exact ca.out wF _ _ ol _ bt.out.symm bi.out cJ.out dr.out hq)
        clear hB B1 hO U hF;go_wp2_with fail;first|refine J _ _ ?_|skip
        (try clear J);refine Reg.rest_end ?_;go_wp2_with fail;refine Calls.ret du.out ?_;rintro q eQ ⟨rfl,ci⟩;have dt:=hide (cj.out.trans (ci.mono cj.out.size));clear ci;go_wp2_with fail;exact⟨⟨j+1,by go_num,by omega,dt⟩,by simp [intOf];omega⟩
    · obtain rfl:nS=j:=by omega
      have dw:=hide (W7 (ap.out.below aD.out));go_wp2_with fail;refine Calls.ret dw.out ?_;rintro q eP ⟨rfl,ch⟩;have dq:=hide (aD.out.trans (ch.mono aD.out.size));clear ch;go_wp2_with fail;go_ret;exact⟨rfl,dq.out⟩
end Go.Proofs.YtjejejmeddkciaaGreatDoor
