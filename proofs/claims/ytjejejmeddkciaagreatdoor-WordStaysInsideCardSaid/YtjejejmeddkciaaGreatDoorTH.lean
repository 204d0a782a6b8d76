/-
  Part TH of a proof.
-/
import Derived.Test.YtjejejmeddkciaaGreatDoorPA
import Derived.Test.YtjejejmeddkciaaGreatDoorTF
import Derived.Test.YtjejejmeddkciaaGreatDoorCI
set_option maxHeartbeats 16000000
set_option maxRecDepth 100000
set_option linter.unusedVariables false
set_option linter.unusedSimpArgs false
namespace Go.Proofs.YtjejejmeddkciaaGreatDoor
open Go.RowKit
open K (Am Az At AW Fc BR Ah Du Dv)
attribute [-go_sem] loadCellsFrom storeCells
set_option maxHeartbeats 16000000
set_option maxRecDepth 100000
theorem YD {w:World} {cs:List Value} {p:Am} {r:Az} {n m cap i z0 z3 z4:Nat} {k:Int} {A Z0 Z3 Z4:Option Addr} {l:List Int} (h:At w w.heap.size cs p) (ht:p.topo=2\/p.topo=3) (hr:p.rules[n]?=some r) (hR:WU p.topo p.states.length r) (cA:p.rules.length<=30) (hl:Sl w w.heap.size 1 Ai A l) (hm:m=l.length) (dN:m<=8) (ap:l[i]?=some r.fr) (hk:-1<=k/\k<m) (h5:r.kind=4):
  Calls Tryz.prog 33 #[.agg cs.toArray,.agg #[.int .i64 (m:Int),.int .i64 0,.int .i64 0],.agg #[.slice Z0 0 z0,.slice A m cap,.int .i64 (m:Int),.slice Z3 0 z3,.slice Z4 0 z4,.int .i64 0],.agg #[.int .i64 (n:Int),.int .i64 (i:Int),.int .i64 k],.bool false] w (Ret fun v w'=>(∃b,v=.bool b/\(b=true↔EnR p.topo r l i k))/\Below w.heap.size w w'):=by
 obtain⟨A1,c1,A2,c2,A3,c3,A4,c4,A5,c5,A6,c6,A7,c7,cB,q0,q1,q2,q3,q4,q5,q6,q7,q8,q9,-,-,-,-,-,-,h7,cp⟩:=h.cells;have cy:=AP hr;obtain⟨w1,dR,aN,be,-⟩:=Ae w cs.toArray 27;obtain⟨w2,dS,a5,ce,-⟩:=Ae w1 #[.int .i64 (m:Int),.int .i64 0,.int .i64 0] 44;obtain⟨w3,dT,ak,bf,-⟩:=Ae w2 #[.slice Z0 0 z0,.slice A m cap,.int .i64 (m:Int),.slice Z3 0 z3,.slice Z4 0 z4,.int .i64 0] 46;obtain⟨E,dU,am,ag,-⟩:=Ae w3 #[.int .i64 (n:Int),.int .i64 (i:Int),.int .i64 k] 52;have aL:=aN.trans (a5.mono aN.size);have aM:=aL.trans (ak.mono aL.size);have a8:=aM.trans (am.mono aM.size);have W:=a8.trans ((Ap E).mono a8.size);have ai:=be.below (a5.trans ((ak.mono a5.size).trans (am.mono (a5.trans (ak.mono a5.size)).size)));have aF:=bf.below am;have aD:=ai.below (Ap E);have bn:=aF.below (Ap E);have aj:=ag.below (Ap E);obtain⟨bW,cE,aQ,cf,-⟩:=Ae E #[.string ⟨#[]⟩,.int .i64 0,.int .i64 0,.int .i64 0,.int .i64 0,.int .i64 0,.slice none 0 0,.slice none 0 0,.slice none 0 0,.slice none 0 0,.int .i64 0,.int .i64 0,.slice none 0 0,.int .i64 0,.slice none 0 0,.slice none 0 0,.slice none 0 0,.int .i64 0] 109;have an:=aQ.trans ((Ap bW).mono aQ.size);have cj:=a8.trans (an.mono a8.size);have cg:=ai.below an;have aH:=ag.below an;obtain⟨b,off,rc,cc,cn,hC,cq,bu⟩:=Du (h7.keep (w':=E.drew) (B':=w.heap.size) (R':=AW E.drew w.heap.size) (fun _ hp=>W.cell hp) (fun _ _ x=>x.keep (fun _ hp=>W.cell hp) (Nat.le_refl _)) (Nat.le_refl _)) hr;subst cc;obtain⟨E1,f1,E2,f2,E3,f3,E4,f4,E5,f5,E6,f6,E7,f7,E8,f8,⟨rz,r0,r1,r2,r3,r4,r5,r6,bP,r8,r9,b8,bK,bL,av,aw,ax,ae,ay⟩,⟨s1,s2,s3,s4,s5,s6,s7,s8⟩⟩:=K.AW.cells hC.is;simp only [Array.toArray_toList] at rz r0 r1 r2 r3 r4 r5 r6 bP r8 r9 b8 bK bL av aw ax ae ay;obtain⟨G,cF,Z,bg,-⟩:=Ae E.drew rc 109;have b4:=Dv E.drew 109 18 (by kernel_rfl) rz hC.one #[.string ⟨#[]⟩,.int .i64 0,.int .i64 0,.int .i64 0,.int .i64 0,.int .i64 0,.slice none 0 0,.slice none 0 0,.slice none 0 0,.slice none 0 0,.int .i64 0,.int .i64 0,.slice none 0 0,.int .i64 0,.slice none 0 0,.slice none 0 0,.slice none 0 0,.int .i64 0] rfl;rw [cF] at b4;have dQ:(storeCells ⟨E.heap.size,0,none⟩ rc.toList 0).run Tryz.prog bW.drew=.ok () G:=by rw [<-cE];exact b4
 have a9:=W.trans (Z.mono W.size);have J:Blk G.drew E.heap.size 109 rc:=bg.below (Ap G);have aG:=(bn.below Z).below (Ap G);have aE:=(aD.below Z).below (Ap G);have dg:=aH.cell 1;have dh:=aH.cell 2;have de:=(aj.below Z).cell 1;have df:=(aj.below Z).cell 2;have bZ:=(ai.cell 9).trans q9;have c0:=(aD.cell 9).trans q9;have dz:=aF.cell;have dA:=ag.cell;have dB:=aj.cell;have dG:=aG.cell;have g11:=(aE.cell 1).trans q1;have k1:=(J.cell 1).trans r1;have k2:=(J.cell 2).trans r2;have k4:=(J.cell 4).trans r4;have cJ:=(J.cell 10).trans b8;have cK:=(J.cell 13).trans av;have dW:=(J.cell 14).trans aw;have dX:=(J.cell 15).trans ax;have dY:=(J.cell 16).trans ae;have dZ:=(J.cell 17).trans ay;have hi:i<m:=by rw [hm];exact AP ap
 have br:i<l.length:=by omega
 have cz:∀{d:List Int} {x:Int},x<l.length->x<l.length:=fun h=>h;obtain⟨al,aJ⟩:∃b,b=Sb l r.left (AN (decide (p.topo=3)) m i):=⟨_,rfl⟩;obtain⟨ar,aK⟩:∃b,b=Sb l r.right (Ar (decide (p.topo=3)) m i):=⟨_,rfl⟩;have bq:AN (decide (p.topo=3)) m i<l.length/\-1<=AN (decide (p.topo=3)) m i:=by unfold AN;split <;> (try split) <;> omega
 have bB:Ar (decide (p.topo=3)) m i<l.length/\-1<=Ar (decide (p.topo=3)) m i:=by unfold Ar;split <;> (try split) <;> omega
 have aA:r.kind≠5:=by omega
 have U:EnR p.topo r l i k↔k= -1/\(r.at_=1->i=0)/\(r.at_=2->p.topo=2->Ar (decide (p.topo=3)) m i= -1)/\(al=true/\ar=true):=by
  rw [aJ,aK,hm];exact⟨fun M=>by obtain⟨a,b,c,d,e⟩:=M.loc aA;exact⟨a,b,c,d,e⟩,fun⟨a,b,c,d,e⟩=>⟨br,ap,fun h=>absurd h aA,fun _=>⟨a,b,c,d,e⟩⟩⟩
 have aV:(k≠-1/\Hid (¬EnR p.topo r l i k))\/(k= -1/\r.at_=1/\i≠0/\Hid (¬EnR p.topo r l i k))\/(k= -1/\r.at_=2/\p.topo=2/\Ar (decide (p.topo=3)) m i≠-1/\Hid (¬EnR p.topo r l i k))\/
   (k= -1/\r.at_=1/\i=0/\Hid (EnR p.topo r l i k↔(al=true/\ar=true)))\/(k= -1/\r.at_=2/\p.topo=2/\Ar (decide (p.topo=3)) m i= -1/\Hid (EnR p.topo r l i k↔(al=true/\ar=true)))\/(k= -1/\r.at_≠1/\r.at_≠2/\Hid (EnR p.topo r l i k↔(al=true/\ar=true))):=by
  by_cases h0:k= -1
  ·by_cases h1:r.at_=1
   ·by_cases I:i=0
    ·exact .inr (.inr (.inr (.inl ⟨h0,h1,I,hide ⟨fun h=>(U.1 h).2.2.2,fun h=>U.2 ⟨h0,fun _=>I,fun h=>by omega,h⟩⟩⟩)))
    ·exact .inr (.inl ⟨h0,h1,I,hide fun h=>I ((U.1 h).2.1 h1)⟩)
   ·by_cases I:r.at_=2
    ·have b5:p.topo=2:=by
      rcases ht with ht|ht
      ·exact ht
      ·have:=hR.at_ h5 ht;omega
     by_cases h3:Ar (decide (p.topo=3)) m i= -1
     ·exact .inr (.inr (.inr (.inr (.inl ⟨h0,I,b5,h3,hide ⟨fun h=>(U.1 h).2.2.2,fun h=>U.2 ⟨h0,fun h=>by omega,fun _ _=>h3,h⟩⟩⟩))))
     ·exact .inr (.inr (.inl ⟨h0,I,b5,h3,hide fun h=>h3 ((U.1 h).2.2.1 I b5)⟩))
    ·exact .inr (.inr (.inr (.inr (.inr ⟨h0,h1,I,hide ⟨fun h=>(U.1 h).2.2.2,fun h=>U.2 ⟨h0,fun h=>by omega,fun h=>by omega,h⟩⟩⟩))))
  ·exact .inl ⟨h0,hide fun h=>h0 (U.1 h).1⟩
 have au:∀C,Below E.drew.heap.size E.drew C->Sl C C.heap.size 1 Ai E6 r.left/\Sl C C.heap.size 1 Ai E7 r.right/\Sl C C.heap.size 1 Ai E8 r.parent/\Sl C C.heap.size 1 Ai A l:=fun C O=>by
  have bD:=W.trans (O.mono W.size);have b6:=W.size;have dV:=O.size;exact⟨s6.keep (fun q F=>O.cell (Nat.lt_of_lt_of_le F b6)) (by omega),s7.keep (fun q F=>O.cell (Nat.lt_of_lt_of_le F b6)) (by omega),s8.keep (fun q F=>O.cell (Nat.lt_of_lt_of_le F b6)) (by omega),hl.keep (fun q F=>bD.cell F) bD.size⟩
 have bx:Hid (∀C,Below E.drew.heap.size E.drew C->Calls Tryz.prog 69 #[.agg #[.slice Z0 0 z0,.slice A m cap,.int .i64 (m:Int),.slice Z3 0 z3,.slice Z4 0 z4,.int .i64 0],.slice E6 r.left.length f6,.int .i64 (AN (decide (p.topo=3)) m i)] C (Ret fun v w'=>v=.bool al/\Below C.heap.size C w')):=hide fun C O=>by
  obtain⟨g1,-,-,g4⟩:=au C O;rw [aJ];exact Xi g4 hm g1 bq.1 (by omega)
 have bz:Hid (∀C,Below E.drew.heap.size E.drew C->Calls Tryz.prog 69 #[.agg #[.slice Z0 0 z0,.slice A m cap,.int .i64 (m:Int),.slice Z3 0 z3,.slice Z4 0 z4,.int .i64 0],.slice E7 r.right.length f7,.int .i64 (Ar (decide (p.topo=3)) m i)] C (Ret fun v w'=>v=.bool ar/\Below C.heap.size C w')):=hide fun C O=>by
  obtain⟨-,g2,-,g4⟩:=au C O;rw [aK];exact Xi g4 hm g2 bB.1 (by omega)
 have cD:Hid (∀C,Below E.drew.heap.size E.drew C->Calls Tryz.prog 69 #[.agg #[.slice Z0 0 z0,.slice A m cap,.int .i64 (m:Int),.slice Z3 0 z3,.slice Z4 0 z4,.int .i64 0],.slice E8 0 f8,.int .i64 (-1)] C (Ret fun v w'=>v=.bool true/\Below C.heap.size C w')):=hide fun C O=>by
  obtain⟨-,-,g3,g4⟩:=au C O;have bw:r.parent.length=0:=by rw [hR.parent];rfl
  have:=Xi (Z0:=Z0) (z0:=z0) (Z3:=Z3) (z3:=z3) (Z4:=Z4) (z4:=z4) (c:=f8) (cap:=cap) g4 hm g3 (who:=-1) (by omega) (by omega);rw [bw,show Sb l r.parent (-1)=true by unfold Sb;rw [bw];rfl] at this;exact this
 rw [show r.parent.length=0 by rw [hR.parent];rfl] at ae;have cX:=hide aw;have cY:=hide ax;have cZ:=hide ae;have bM:=hide av;have ao:=hide Z;generalize EnR p.topo r l i k=EE at*;have bs:K.inC (n:Int) 0 ((p.rules.length:Int) - 1)=true:=by simp [K.inC];omega
 have ct:K.inC (i:Int) 0 ((m:Int) - 1)=true:=by simp [K.inC];omega
 have aY:=hl.keep (w':=G.drew) (B':=w.heap.size) (fun _ hp=>(a9.trans ((Ap G).mono a9.size)).cell hp) (Nat.le_refl _);obtain⟨bl,ol,y0,cd,co,bE,bp⟩:=aY.at (k:=i) (by rw [<-hm];exact hi);subst cd;have cG:y0=r.fr:=Option.some.inj (bE.symm.trans ap);subst cG;have ci:G.drew.cell? ⟨bl,ol+i,none⟩=some (.int .i64 r.fr):=by
  have:=bp 0 (by decide)
  rwa [Nat.mul_one,Nat.add_zero] at this
 have aZ:Hid (Calls Tryz.prog 67 #[.int .i64 p.topo,.slice Z0 0 z0,.int .i64 (m:Int),.int .i64 (i:Int)] G.drew (Ret fun v w'=>Below G.drew.heap.size G.drew w'/\v=.tuple #[.int .i64 (AN (decide (p.topo=3)) m i),.int .i64 (Ar (decide (p.topo=3)) m i),.int .i64 (-1)])):=by
  rcases ht with ht|ht
  ·rw [ht];exact hide (XV hi (by omega))
  ·rw [ht];exact hide (XW hi (by omega))
 have bm:=hide aG;have ch:=hide aE;have bi:=hide J;have cx:=hide aY;have aU:=hide (a9.trans ((Ap G).mono a9.size));obtain⟨nr,bv⟩:∃x,x=p.rules.length:=⟨_,rfl⟩;rw [<-bv] at bs cy cA bZ c0;obtain⟨tp,bC⟩:∃x,x=p.topo:=⟨_,rfl⟩;rw [<-bC] at g11 aZ aV bx bz;generalize AN (decide (tp=3)) m i=fs at*;generalize Ar (decide (tp=3)) m i=sc at*;have e3:=hide r4;have e0:=hide ay;have bH:=hide r1;rw [h5] at k1 bH;rw [hR.rd] at cJ;have dM:(loadCellsFrom ⟨b,off+n*18,none⟩ 0 18 #[]).run Tryz.prog E.drew=.ok rc E.drew:=bu;have dO:(n:Int)<(nr:Int):=by omega
 have dJ:(i:Int)<(m:Int):=by omega
 clear h h7 hC cq bu hr hR hl hm aY bp aN a5 ak am Z aL aM a8 W a9 be ce bf ag bg J ai aF aD bn aj aG aE cg aH aQ an cj cf b4 q0 q1 q2 q3 q4 q5 q6 q7 q8 q9 r0 r1 r2 r3 r4 r5 r6 bP r8 r9 b8 bK bL av aw ax ae ay s1 s2 s3 s4 s5 s6 s7 s8 cp cn co bE ap bv bC ht cB h5 aJ aK bq bB aA U au br cz;generalize cs.toArray=pc at*;have cb:=hide g11;generalize r.left.length=nl at*;generalize r.right.length=nq at*;obtain⟨za,bG⟩:∃x,x=r.at_:=⟨_,rfl⟩;rw [<-bG] at aV bM cK;have cL:r.kind=4->True:=fun _=>trivial;clear bG cL;rcases aV with⟨bt,M⟩|⟨rfl,rfl,aq,M⟩|⟨rfl,rfl,rfl,bA,M⟩|⟨rfl,rfl,aq,M⟩|⟨rfl,rfl,rfl,rfl,M⟩|⟨rfl,h1,I,M⟩
 case' inl=>have dL:(k != -1)=true:=(by simp [bt]);clear bt
 case' inr.inl=>have cr:((i:Int) != 0)=true:=(by simp;omega);clear aq
 case' inr.inr.inl=>have dP:(sc != -1)=true:=(by simp [bA]);clear bA
 case' inr.inr.inr.inl=>have cr:((i:Int) != 0)=false:=(by simp [aq]);clear aq
 case' inr.inr.inr.inr.inr=>have dH:(za==1)=false:=(by simp [h1]);have dI:(za==2)=false:=(by simp [I]);clear h1 I
 all_goals
  go_enter Tryz.func33,Tryz.ntmps33;go_wp2_with fail;refine Calls.mono (Kz _ _ _ _) ?_;rintro e wb ⟨rfl,rfl⟩;rw [bs];go_wp2_with fail;refine Calls.mono (Kz _ _ _ _) ?_;rintro e wb ⟨rfl,rfl⟩;rw [ct];go_wp2_with fail;refine Reg.cC [0,1,0,4,15,31,0,64,0,256,0,1087,3327,8191] [0,1,2,3,4,5,6,7,8,9,10,11,12,13] ?_ (by kernel_rfl) (by repeat (first|exact Reg.NoQ.body (fun _ _ h=>h) (fun _ h=>h)|refine Reg.NoQ.then ?_|refine Reg.NoQ.inBlock ?_));refine Reg.rest_walk' [0,1,2,3,4,5,6,7,8,9,10] [11,12,13] rfl (by kernel_rfl) ?_;intro Qf V;go_wp2_with fail;first|refine V _ _ ?_|skip
  (try clear V);refine Reg.rest_act' 11 [12,13] [7,9] rfl (by kernel_rfl) ?_;intro Qf V;try simp only [gT,gS,gZ]
  go_wp2_with fail;first|refine V _ _ ⟨?_,?_⟩|refine⟨?_,?_⟩
  ·intro z hz q F;simp only [List.mem_cons,List.not_mem_nil,or_false] at hz;rcases hz with rfl|rfl
   ·injection F with F
    subst F;exact Reg.same_load1 rfl rfl (dg) (de) Tryz.underlying3 rfl
   ·injection F with F
    subst F;exact Reg.same_load1 rfl rfl (dh) (df) Tryz.underlying3 rfl
  (try clear V);refine Reg.rest_walk' [12,13] [] rfl (by kernel_rfl) ?_;intro Qf V;go_wp2_with fail;first|refine V _ _ ?_|skip
  (try clear V);first|refine Reg.rest_end ?_|skip
  go_wp2_with fail;refine Reg.cP [0,1,0,7,15,0,32,127,255,511,1023,2047,4095,8191,16383,8191,40959,131071,262143,524287] ?_;go_wp2_with fail;refine Calls.ret aZ.out ?_;rintro v w6 ⟨a6,rfl⟩;have aR:=hide (aU.out.trans (a6.mono aU.out.size));have aO:=hide (((ao.out.trans ((Ap G).mono ao.out.size)).trans (a6.mono (ao.out.trans ((Ap G).mono ao.out.size)).size)));have ah:=hide (bi.out.below a6);have bj:=hide (bm.out.below a6);have v1:=(ah.out.cell 1).trans bH.out;have d5:=(ah.out.cell 13).trans bM.out;have d6:=(ah.out.cell 14).trans cX.out;have d7:=(a6.cell (p:=⟨w.heap.size,1,none⟩) ch.out.lt).trans cb.out;have cu:=Ah bj.out (n:=6) rfl;clear a6 aZ bm bi cx aU;go_wp2_with fail;try exact bodyPost_ret (v:=.bool false) (by simp [results,Tryz.results33,go_sem]) rfl ⟨⟨false,rfl,by simp [M.out]⟩,aR.out⟩
  all_goals
   refine Calls.ret (bx.out _ aO.out) ?_;rintro v w7 ⟨rfl,aa⟩;have aS:=hide (aR.out.trans (aa.mono aR.out.size));have aP:=hide (aO.out.trans (aa.mono aO.out.size));have bh:=hide (ah.out.below aa);have bk:=hide (bj.out.below aa);have db:=(bh.out.cell 15).trans cY.out;have cv:=Ah bk.out (n:=6) rfl;clear aa cu v1 d5 d6 d7;cases al
   ·go_wp2_with fail;exact bodyPost_ret (v:=.bool false) (by simp [results,Tryz.results33,go_sem]) rfl ⟨⟨false,rfl,by rw [M.out];simp⟩,aS.out⟩
   go_wp2_with fail;refine Calls.ret (bz.out _ aP.out) ?_;rintro v w8 ⟨rfl,ab⟩;have aT:=hide (aS.out.trans (ab.mono aS.out.size));have ck:=hide (aP.out.trans (ab.mono aP.out.size));have dc:=((bh.out.below ab).cell 16).trans cZ.out;have cw:=Ah (bk.out.below ab) (n:=6) rfl;clear ab cv db;cases ar
   ·go_wp2_with fail;exact bodyPost_ret (v:=.bool false) (by simp [results,Tryz.results33,go_sem]) rfl ⟨⟨false,rfl,by rw [M.out];simp⟩,aT.out⟩
   go_wp2_with fail;refine Calls.ret (cD.out _ ck.out) ?_;rintro v w9 ⟨rfl,bo⟩;have cm:=hide (aT.out.trans (bo.mono aT.out.size));clear bo cw dc;go_wp2_with fail;exact bodyPost_ret (v:=.bool true) (by simp [results,Tryz.results33,go_sem]) rfl ⟨⟨true,rfl,by rw [M.out];simp⟩,cm.out⟩
end Go.Proofs.YtjejejmeddkciaaGreatDoor
