/-
  Part BC of a proof.
-/
import Derived.Test.YtfcfpoemojjglaaGreatDoorPA
import Derived.Test.YtfcfpoemojjglaaGreatDoorBB
set_option maxHeartbeats 16000000
set_option maxRecDepth 100000
set_option linter.unusedVariables false
set_option linter.unusedSimpArgs false
namespace Go.Proofs.YtfcfpoemojjglaaGreatDoor
open Go.RowKit
set_option maxHeartbeats 16000000
set_option maxRecDepth 100000
theorem aB1 {w0 M j C:World} {vF vG:Value} (U:w0.alloc (.cells #[sn0,sn0] 139)=M) (l:Ac M j (fun k=>(Value.slice none 0 0).ownBlock=some k)) (J:j.ownsRow w0.heap.size 3 1 vF 1 [.int .i64 0])
  (y:Ac j C (fun k=>(Value.slice none 0 0).ownBlock=some k)) (Z:C.ownsRow w0.heap.size 3 1 vG 1 [.int .i64 0]) (W:BJ j (.slice none 0 0) vG):JnM w0 C w0.heap.size sn0 sn0 vF vG [(0,0)] [] [] [] (fun _=>False):=by
 obtain⟨a6,G,I,V,-⟩:=Ae w0 #[sn0,sn0] 139;rw [U] at G;subst G;have d:∀k,¬(Value.slice none 0 0).ownBlock=some k:=fun k e=>by simp [Value.ownBlock] at e
 have s4:=I.size;have s5:=l.size;refine⟨(I.trans (l.below s4 fun b _ e=>d b e)).trans (y.below (by omega) fun b _ e=>d b e),(V.kept l (d _)).kept y (d _),?_,?_,Cb,Cb,Cl.nil,?_,fun _ e=>e.elim,fun _ e=>e.elim,Nat.le_refl _⟩
 ·exact y.ownsRow J fun g _ e=>d g e
 ·exact Z
 ·intro k O E;rcases W with h | ⟨g',h,a4⟩
  ·rw [E] at h;exact d k h.symm
  ·rw [E] at h;have:=Option.some.inj h;have:=Cj J O;omega
theorem aBq {w:World} {v1 v2:Value} {L:Nat} {t u:List (List Nat)} {ac bc:List Bool} {o:Int} (hA:Bj w w.heap.size v1 (AG L t ac)) (hB:Bj w w.heap.size v2 (AG L u bc)) (bs:DOK L t ac) (bt:DOK L u bc) (hn:ac.length<=400) (J:bc.length<=400) (bX:1<=L) (hL:L<=8):
    Calls Tryz.prog 83 #[v1,v2,.int .i64 o] w (Ret fun r w'=>Below w.heap.size w w'/\∃all,Bf L (dPr t u) (0,0) all/\all.length<=ac.length*bc.length/\Do w' w.heap.size r (AM L (dPr t u) all all.length) (all.map (Us (AL o) ac bc))):=by
  have aY:=hide hA;have bf:=hide hB;obtain⟨A1,c1,A2,c2,A3,c3,rfl,-⟩:=hA;obtain⟨B1,d1,B2,d2,B3,d3,rfl,-⟩:=hB;rw [show(AG L t ac).letters=(L:Int) from rfl] at aY ⊢;rw [show(AG L u bc).letters=(L:Int) from rfl] at bf ⊢;obtain⟨w1,w2,w3,dz,dA,dB,bl,b0,b5,b6,l1,l2,l3⟩:=aB4 w #[.int .i64 (L:Int),.int .i64 (AG L t ac).states,.slice A1 (AG L t ac).start.length c1,.slice A2 (AG L t ac).accept.length c2,.slice A3 (AG L t ac).edges.length c3] #[.int .i64 (L:Int),.int .i64 (AG L u bc).states,.slice B1 (AG L u bc).start.length d1,.slice B2 (AG L u bc).accept.length d2,.slice B3 (AG L u bc).edges.length d3];have W:=hide bl;have b4:=hide b0;have bU:=hide b5;have bV:=hide b6;have al:=hide bs;have am:=hide bt;have cr:=hide (show ac.length*bc.length<=160000 from Nat.mul_le_mul hn J);clear bl b0 b5 b6 bs bt;go_enter Tryz.func83,Tryz.ntmps83;go_wp2_with fail;refine aB5 (aY.out.keep (fun p hp=>W.out.cell hp) W.out.size) (bf.out.keep (fun p hp=>W.out.cell hp) W.out.size) al.out am.out hn J bX hL b4.out bU.out ?_ ?_
  · repeat (first | exact Reg.NoQ.body (fun _ _ h=>h) (fun _ h=>h) | refine Reg.NoQ.then ?_ | refine Reg.NoQ.inBlock ?_)
  · iterate 4 (intro _)
    intro w0 g7 g8 v7 a7 v8 a8 ae aB aC b7 ba dp;obtain⟨mb,mo,mc,rfl,ch,bo⟩:=aB.mark;obtain⟨ub,uo,uc,rfl,cB,bC⟩:=aC.mark;have ci:=hide bo;have cD:=hide bC;clear bo bC;have aU:=hide (W.out.trans (ae.mono W.out.size));have bZ:=hide aB;have c0:=hide aC;have bR:=hide (b4.out.below ae);have bS:=hide (bV.out.below ae);have b8:=hide b7;have bd:=hide ba;have s0:=ae.size;obtain⟨w4,bD⟩:∃w4,w0.alloc (.cells #[sn0,sn0] 139)=w4:=⟨_,rfl⟩;have s4:w0.heap.size<=w4.heap.size:=by
      obtain⟨dK,aW,c6,-,-⟩:=Ae w0 #[sn0,sn0] 139;rw [bD] at aW;subst aW;exact c6.size
    clear ae aB aC b7 ba
    go_wp2_with (
      at_builtin;first
      | (refine BP (w:=w4) C9 rfl _ _ rfl w0.heap.size (.slice none 0 0) 0 _ rfl Cb [.int .i64 0] 1 rfl rfl (by simp [Value.oneCell']) (by omega) s4 ?_
         intro gF cF w5 bu aG cj cc;have s5:w0.heap.size<=w5.heap.size:=Nat.le_trans s4 aG.size;have cf:=hide aG;have co:=hide bu;clear bu aG cj cc)
      | (refine BP (w:=w5) C9 rfl _ _ rfl w0.heap.size (.slice none 0 0) 0 _ rfl Cb [.int .i64 0] 1 rfl rfl (by simp [Value.oneCell']) (by omega) s5 ?_
         intro gG cG w6 bv bn bp cd;have bY:=hide (aB1 bD cf.out co.out bn bv bp);clear bv bn bp cd))
    go_loopw [10,11,12] (fun ff gg ii wr=>∃(i:Nat) (all:List (Nat×Nat)) (vN vA:Value) (ws:List Value) (N:Nat->Prop),ii=.int .i64 (i:Int)/\i<=160000/\Hid (JnM w0 wr w0.heap.size vN vA ff gg all (AM L (dPr t u) all i) ((all.take i).map (Us (AL o) ac bc)) ws N)/\Hid (∀k,N k->k<wr.heap.size)/\Hid (Exp L (dPr t u) (0,0) i all)) (fun _ _ ii _=>160001 - (intOf ii).toNat)
    case atStart=>exact⟨0,[(0,0)],sn0,sn0,[],_,rfl,Nat.zero_le _,bY,hide fun _ e=>e.elim,hide .start⟩
    case round=>
      obtain⟨i,all,vN,vA,ws,N,rfl,hi,j,bj,G⟩:=hrel;obtain⟨AF,d4,rfl⟩:=AH j.out.f;obtain⟨AG,d6,rfl⟩:=AH j.out.g;have c5:all.length<=160000:=Nat.le_trans (aBr al.out am.out G.out) cr.out;have dw:=G.out.inv.le;by_cases aK:i<all.length
      · have ce:i+1<=160000:=Nat.le_trans aK c5
        obtain⟨p,aM⟩:=An aK;have af:=aA2 al.out am.out G.out (List.mem_of_getElem? aM);have ao:=hide aM;clear aM;go_wp2_with fail;refine aB6 (j.out.toX bj.out) bZ.out c0.out bR.out b8.out bd.out hL ao.out af.1 af.2 (by omega) ?_ ?_
        · repeat (first | exact Reg.NoQ.body (fun _ _ h=>h) (fun _ h=>h) | refine Reg.NoQ.then ?_ | refine Reg.NoQ.inBlock ?_)
        · iterate 70 (intro _)
          intro w9 vF' vG' vR all' E hR C;have aO:all<+:all':=by rw [C]; exact DK _ _ _
          have an:=Ds aO ao.out;obtain⟨d8,cY,db,cZ,rfl,rfl,-,-⟩:=E.mem.at an;obtain⟨AR,cR,rfl⟩:=AH hR;obtain⟨AN,cN,rfl⟩:=AH E.mem.nxt;obtain⟨AA,cA,rfl⟩:=AH E.mem.acc;have M:(AM L (dPr t u) all i).length=i:=D5 (by omega);have I:((all.take i).map (Us (AL o) ac bc)).length=i:=by simp; omega
          have ai:=E.mem.b9.cell;have br:=E.mem.nxt;rw [M,I] at ai;rw [M] at br;have cx:=E.mem.below.size;have bm:i+1<=4000000:=by omega
          have y:=hide E;have bk:=hide hR;have cg:=hide C;have bB:=hide M;have ad:=hide I;have bz:=hide aO;have aN:=hide an;obtain⟨n',J⟩:∃n',n'=all'.length:=⟨_,rfl⟩;have cn:=hide J;have dr:i<n':=by rw [J]; exact AP an
          have cp:=af.1;have cq:=af.2;rw [<-J];clear E hR C aO M I an J aK af
          go_wp2_with (
            at_builtin;refine BP (w:=w9) F9 rfl _ _ rfl w0.heap.size (.slice AN i cN) i _ rfl br [.slice AR L cR] 1 rfl rfl (by simp [Value.oneCell']) bm cx ?_;intro gX av w7 bw aH ck dn;have aJ:Ac w9 w7 (fun b=>(Value.slice AN (AM L (dPr t u) all i).length cN).ownBlock=some b):=(by rw [bB.out]; exact aH);have ag:=y.out.mem.b9.kept aJ (Aw y.out.mem.nxt y.out.mem.b9 (by decide));have c9:=ag.cell;have dk:=ag.frozen 0;have du:=ag.lt;rw [ad.out] at c9;have bA:w9.ownsRow w0.heap.size 3 1 (.slice AR L cR) (Dl (dPr t u) all' p L).length ((Ak (Dl (dPr t u) all' p L)).map (Value.int .i64)):=(by rw [Ss]; exact bk.out);have l:=y.out.mem.addR (row:=Dl (dPr t u) all' p L) (vN':=.slice (some ⟨gX,0,none⟩) (i+1) av) (N':=fun k=>N k\/(Value.slice AR L cR).ownBlock=some k) bA aJ (by rw [bB.out]; exact bw) (fun _ h=>.inl h) (fun _ h=>.inr h) (fun k C=>C.elim (y.out.mem.nF k) (fun h e=>y.out.fr k e h)) (fun k C=>C.elim (y.out.mem.nG k) (fun h e=>y.out.gr k e h));have ct:=aH.size;obtain⟨V,bE⟩:∃V,w7.setCell ⟨w0.heap.size,0,none⟩ (.slice (some ⟨gX,0,none⟩) (i+1) av)=V:=⟨_,rfl⟩;have cw:w7.heap.size<=V.heap.size:=(by rw [<-bE]; exact((Ac.refl w7 (fun k=>k=w0.heap.size)).setCell (p:=⟨w0.heap.size,0,none⟩) (fun _=>rfl) _).size);rw [bE] at l;have a2:=hide l;have ca:=l.b9.cell;rw [ad.out] at ca;have dg:=(b8.out.below l.below).cell;have dh:=(bd.out.below l.below).cell;have dx:=(l.below.cell (p:=⟨mb,mo+p.1,none⟩) ch).trans (ci.out p.1 cp);have dy:=(l.below.cell (p:=⟨ub,uo+p.2,none⟩) cB).trans (cD.out p.2 cq);obtain⟨d9,k1,dc,k2,O,U,q5,q6⟩:=l.at aN.out;injection O with O cJ cK
            injection U with U cL cM
            injection O with O
            injection U with U
            injection O with O
            injection U with U
            subst O U cK cM;clear bw aH aJ ck ag l bA cJ cL)
          have aF:=aB0 (w:=V.drew) o (dac ac p.1) (dac bc p.2);obtain⟨bh,aE⟩:∃bh,bh=AL o (dac ac p.1) (dac bc p.2):=⟨_,rfl⟩;rw [<-aE] at aF;have c8:=hide aE;have aD:=a2.out.acc;rw [ad.out] at aD;have cy:=a2.out.below.size;clear aE;refine Reg.cC [0,1,0,0,8,0,0,96,224,504,1016,0,2048,0,0,24576,57344,129024,260096,524284,1048572,2097151,4194303,8388607] (List.range 24) ?_;refine Reg.rest_walk' [0,1,2,3,4,5,6,7,8,9,10,11,12,13,14,15,16,17,18] [19,20,21,22,23] rfl (by kernel_rfl) ?_;intro Qf d;go_wp2_with fail;first | refine d _ _ ?_ | skip
          (try clear d);refine Reg.rest_act' 19 [20,21,22,23] [1] rfl (by kernel_rfl) ?_;intro Qf d;simp only [gT,gS,gZ];go_wp2_with fail;refine Calls.ret aF ?_;rintro r w8 ⟨rfl,rfl⟩;clear aF;go_wp2_with fail;first | refine d _ _ ⟨Reg.same_below (Below.refl _ _) [1] rfl,?_⟩ | refine⟨Reg.same_below (Below.refl _ _) [1] rfl,?_⟩
          (try clear d);refine Reg.rest_walk' [20] [21,22,23] rfl (by kernel_rfl) ?_;intro Qf d;go_wp2_with fail;first | refine d _ _ ?_ | skip
          (try clear d);refine Reg.rest_act' 21 [22,23] [] rfl (by kernel_rfl) ?_;intro Qf d;simp only [gT,gS,gZ];refine BP (w:=V.drew) GM rfl _ _ rfl w0.heap.size (.slice AA i cA) i _ rfl aD [.bool bh] 1 rfl rfl (by simp [Value.oneCell']) bm cy ?_;intro gA au wA bx a3 cm dm;have ak:Ac V wA (fun b=>(Value.slice AA ((all.take i).map (Us (AL o) ac bc)).length cA).ownBlock=some b):=by
            rw [ad.out];exact⟨a3.os,a3.tape,a3.output,a3.size,a3.block⟩
          have ah:=a2.out.b9.kept ak (Aw a2.out.acc a2.out.b9 (by decide));have dl:=ah.frozen 1;have dv:=ah.lt;have di:=ah.cell;have bW:=hide (a2.out.addA (b:=bh) (vA':=.slice (some ⟨gA,0,none⟩) (i+1) au) ak (by rw [ad.out]; exact bx));have cu:V.heap.size<=wA.heap.size:=ak.size;refine d _ _ ⟨Reg.nm,?_⟩;clear d bx a3 ak cm ah aD;refine Reg.rest_walk' [22,23] [] rfl (by kernel_rfl) ?_;intro Qf d;go_wp2_with fail;first | refine d _ _ ?_ | skip
          (try clear d);refine Reg.rest_end ?_;go_wp2_with fail;refine⟨⟨i+1,all',.slice (some ⟨gX,0,none⟩) (i+1) av,.slice (some ⟨gA,0,none⟩) (i+1) au,ws++[.slice AR L cR],(fun k=>N k\/(Value.slice AR L cR).ownBlock=some k),by go_num,ce,?_,?_,?_⟩,by simp [intOf]; omega⟩
          · have h1:=bW.out
            have e1:AM L (dPr t u) all i++[Dl (dPr t u) all' p L]=AM L (dPr t u) all' (i+1):=by
              rw [GP aN.out,GO G.out bz.out];rfl
            have e2:(all.take i).map (Us (AL o) ac bc)++[bh]=(all'.take (i+1)).map (Us (AL o) ac bc):=by
              rw [B5 aN.out,List.map_append,c8.out];congr 2;obtain⟨u,hu⟩:=bz.out;rw [<-hu,List.take_append_of_le_length (by have:=AP ao.out; omega)]
            rw [e1,e2] at h1;rw [cn.out];exact h1
          · refine hide fun k C=>?_
            have h9:k<w9.heap.size:=C.elim (y.out.nl k) (Cj bk.out);have cv:=((Ac.refl wA (fun k=>k=w0.heap.size)).setCell (p:=⟨w0.heap.size,1,none⟩) (fun _=>rfl) (.slice (some ⟨gA,0,none⟩) (i+1) au)).size;exact Nat.lt_of_lt_of_le h9 (Nat.le_trans ct (Nat.le_trans cw (Nat.le_trans cu cv)))
          · show Exp _ _ _ _ _
            rw [cg.out];exact .row G.out ao.out
      · obtain rfl:i=all.length:=by omega
        have hD:=hide G.out;obtain⟨AN,cN,rfl⟩:=AH j.out.nxt;obtain⟨AA,cA,rfl⟩:=AH j.out.acc;have M:(AM L (dPr t u) all all.length).length=all.length:=D5 (Nat.le_refl _);have I:((all.take all.length).map (Us (AL o) ac bc)).length=all.length:=by simp
        have Z:=bS.out.below j.out.below;have dj:=Z.frozen;have dt:=Z.lt;have df:=Z.cell;have ai:=j.out.b9.cell;obtain⟨wF,aP,be,az⟩:=Dm Z (.slice AN (AM L (dPr t u) all all.length).length cN) (.slice AA ((all.take all.length).map (Us (AL o) ac bc)).length cA);have ay:=be.cell;have aS:=aU.out.size;have s9:=j.out.below.size;have c7:=hide ((aU.out.trans (j.out.below.mono aS)).trans (az.below (Nat.le_trans aS s9) fun b hb e=>by omega));have aj:=(j.out.fin Z az).kept (base':=w.heap.size) (Ac.refl wF (fun _=>False)) (fun _ x=>x.elim) aS;rw [List.take_length] at aj I aP ay ai;rw [M,I] at aj aP ay ai;have cb:=hide aj;unfold CY at aP;clear Z be az aj M I j G bj;go_wp2_with fail;refine bodyPost_ret (v:=.agg #[.slice AN all.length cN,.slice AA all.length cA]) (by simp [results,Tryz.results83,go_sem,ay]) rfl ⟨c7.out,all,hD.out,aBr al.out am.out hD.out,cb.out⟩
end Go.Proofs.YtfcfpoemojjglaaGreatDoor
