/-
  Part ED of a proof.
-/
import Derived.Test.YtfcfpoemojjglaaGreatDoorPA
import Derived.Test.YtfcfpoemojjglaaGreatDoorEC
set_option maxHeartbeats 16000000
set_option maxRecDepth 100000
set_option linter.unusedVariables false
set_option linter.unusedSimpArgs false
namespace Go.Proofs.YtfcfpoemojjglaaGreatDoor
open Go.RowKit
set_option maxHeartbeats 16000000
set_option maxRecDepth 100000
theorem ML (d:World) (L:Nat):∃h l j C,d.alloc (.cells #[.int .i64 0] 3)=h/\h.alloc (.cells BQ 35)=l/\CK l h.heap.size (.int .i64 (L:Int)) (.int .i64 0) (.slice (some ⟨d.heap.size,0,none⟩) 1 1) sn0 sn0=j/\j.alloc (.cells #[.int .i64 0] 3)=C/\
  Blk l h.heap.size 35 BQ/\CnM d C h.heap.size d.heap.size L (.slice (some ⟨j.heap.size,0,none⟩) 1 1) sn0 sn0 [0] [] []:=by
 obtain⟨h,U,a4,I,a7⟩:=Ae d #[.int .i64 0] 3;obtain⟨l,V,M,E,a8⟩:=Ae h BQ 35;obtain⟨j,W,a2,J⟩:=Dn E (.int .i64 (L:Int)) (.int .i64 0) (.slice (some ⟨d.heap.size,0,none⟩) 1 1) sn0 sn0;obtain⟨C,Z,y,a3,a9⟩:=Ae j #[.int .i64 0] 3;have l4:=I.lt;have l5:=E.lt;have s5:=M.size;have s6:=J.size;have s7:=y.size;have G:Below h.heap.size h j:=M.trans (J.below s5 fun b hb e=>by omega);have O:Below d.heap.size d j:=a4.trans (G.mono (by omega));refine⟨h,l,j,C,U,V,W,Z,E,⟨O.trans (y.mono (by omega)),a2.below y,(I.below G).below y,?_,Cb,Cb,by simp [Value.ownBlock],?_,fun g _=>by simp [Value.ownBlock],⟨by omega,Nat.le_refl _⟩⟩⟩
 ·exact DD (base:=d.heap.size) (n:=1) a3 (by omega) rfl (by omega)
 ·intro e;have:j.heap.size=d.heap.size:=by simpa [Value.ownBlock] using e
  omega
def LQ (w:World) (L n:Nat) (t:List (List Nat)) (ac:List Bool) (r:Value) (w':World):Prop:=
 Below w.heap.size w w'/\∃t' ac',BH L t' ac' (EI t ac)/\ac'.length<=n/\∀w'',Ac w' w'' (fun k=>k<w.heap.size)->Bj w'' w''.heap.size r (AG L t' ac')
theorem RV {w:World} {L n:Nat} {vN vA:Value} {t:List (List Nat)} {ac:List Bool} (G:Dp w L n vN vA t ac) (hn:n<=200000) (hL:L<=8):
    Calls Tryz.prog 82 #[.agg #[vN,vA],.int .i64 (L:Int)] w (Ret fun r w'=>LQ w L n t ac r w'):=by
  have aU:=hide G;obtain⟨bN,oN,cN,rfl,-⟩:=G.at
  obtain⟨Z,oA,cA,rfl,br,b5⟩:=G.mark;have cg:1<=n:=by have:=G.ok.pos; have:=G.n; omega
  have aW:=hide G.n;obtain⟨w1,cj,aw,ap,bx⟩:=Ae w #[.slice (some ⟨bN,oN,none⟩) n cN,.slice (some ⟨Z,oA,none⟩) n cA] 139;obtain⟨w2,ck,ae,aq,bz⟩:=Ae w1 BQ 35;have s1:=aw.size;have s2:=ae.size;have l1:=ap.lt;have l2:=aq.lt;have an:=hide (aw.trans (ae.mono s1));have aQ:=hide (ap.below ae);have bn:=hide aq;have aY:=RW (d:=-1) (aU.out.below an.out) hn hL;have bD:=hide b5;have f1:=aQ.out.cell;clear G b5 aw ap bx ae aq bz;go_enter Tryz.func82,Tryz.ntmps82;go_wp2_with fail;refine Calls.ret aY ?_;rintro r l ⟨af,gc,cl,rfl,c8,ar,hR⟩;have W:=hide (an.out.trans (af.mono an.out.size));have aR:=hide (aQ.out.below af);have aP:=hide (bn.out.below af);have ad:=hide (show CnX l w.heap.size gc L n (.slice (some ⟨bN,oN,none⟩) n cN) (.slice (some ⟨Z,oA,none⟩) n cA) t ac cl from⟨aU.out.below W.out,aR.out,CQ.of_blk ar hR.len,hR.toW⟩);have s3:=W.out.size;have l3:=aP.out.lt;have cr:=ar.lt;clear aY af ar hR f1;obtain⟨J,w5,w6,w7,cm,cn,bJ,cp,a8,hM⟩:=ML l L;have bq:=hide hM;have f5:=a8.frozen;have g5:=a8.lt;have k5:=a8.cell;unfold CK at bJ;clear hM a8;go_wp2_with fail;go_loopw [7,8] (fun vv ii wr=>∃(i:Nat) (st:List Nat) (vC vE:Value),ii=.int .i64 (i:Int)/\i<=n/\Hid (CnM l wr J.heap.size l.heap.size L vv vC vE st (BL (st.map (dac ac)) i) (BM L (AM L (AF (dnx t) cl) (kOf cl st) i) i))/\Hid (Exp L (AF (dnx t) cl) (cl.getD 0 0) i (kOf cl st))/\Hid (∀s∈st,s<n)) (fun _ ii _=>n - (intOf ii).toNat)
  case atStart=>exact⟨0,[0],sn0,sn0,rfl,Nat.zero_le _,bq,hide .start,hide fun s hs=>by rw [List.mem_singleton.1 hs]; omega⟩
  case round=>
    obtain⟨i,st,vC,vE,rfl,hi,j,C,hl⟩:=hrel;have bd:=ad.out.st_len C.out.inv.nodup hl.out;obtain⟨Ao,co,rfl⟩:=AH j.out.ord;by_cases b4:i<st.length
    · obtain⟨q,hq⟩:=An b4
      have bE:=hl.out q (List.mem_of_getElem? hq);obtain⟨gf,bR,hv,bX⟩:=C7 j.out.ord (AX (f:=Value.int .i64) (AX (f:=fun x:Nat=>(x:Int)) hq));injection hv with hv bH bI
      subst hv bI;have aX:=(W.out.cell (p:=⟨Z,oA+q,none⟩) br).trans (bD.out q bE);have bt:=(j.out.below.cell (p:=⟨Z,oA+q,none⟩) (by have:=W.out.size; show Z<_; omega)).trans aX;obtain⟨b,hb⟩:∃b,dac ac q=b:=⟨_,rfl⟩;rw [hb] at bt;have bf:=hide (IL (ac:=st.map (dac ac)) (q:=i) (b:=b) (by rw [<-hb]; exact AX (f:=dac ac) hq));have bZ:=(aR.out.below j.out.below).cell;have aE:=hide hq;obtain⟨m,hm⟩:∃m,m=st.length:=⟨_,rfl⟩;rw [<-hm] at bd b4 ⊢;have bC:=hide hm;obtain⟨M,cC,rfl⟩:=AH j.out.acc;have az:=Gn (st.map (dac ac)) i;have aA:=FN L (AM L (AF (dnx t) cl) (kOf cl st) i) i;have aB:i*L<=200000*8:=Nat.mul_le_mul (by omega) hL;have bu:Hid ((BM L (AM L (AF (dnx t) cl) (kOf cl st) i) i).length<=2000000):=by show _<=_; omega
      have y:=hide (j.out.keep (Ap wr));have ch:i<=200000:=by omega
      obtain⟨la,I⟩:∃la,la=(BL (st.map (dac ac)) i).length:=⟨_,rfl⟩;have aV:=y.out.acc;have ax:=y.out.b6.cell;rw [<-I] at aV az ax;have bG:=y.out.below.size;have aj:=hide I;have bF:=hide (fun(w9:World) (vC' vO' vE':Value) (st':List Nat) (ab:CnM l w9 J.heap.size l.heap.size L vO' vC' vE' st' (BL (st.map (dac ac)) (i+1)) (BM L (AM L (AF (dnx t) cl) (kOf cl st) i) i++CI (AF (dnx t) cl) (kOf cl st') (cl.getD q 0) i L)) (ah:kOf cl st'=AZ (AF (dnx t) cl) (cl.getD q 0) (kOf cl st) L) (a4:st<+:st')=>show CnM l w9 J.heap.size l.heap.size L vO' vC' vE' st' (BL (st'.map (dac ac)) (i+1)) (BM L (AM L (AF (dnx t) cl) (kOf cl st') (i+1)) (i+1))/\Exp L (AF (dnx t) cl) (cl.getD 0 0) (i+1) (kOf cl st') from by
        refine⟨?_,?_⟩
        · rw [L4 (ac:=st.map (dac ac)) (bc:=st'.map (dac ac)) (by
            obtain⟨u,rfl⟩:=a4;rw [List.map_append];exact List.prefix_append _ _) (by rw [List.length_map]; omega),<-Sp C.out (QD a4) (Hv aE.out)]
          exact ab
        · rw [ah]
          exact .row C.out (Hv aE.out))
      clear aX hb hq hm bH aA aB I;cases b
      all_goals
        go_wp2_with fail;refine Reg.cP [0,1,0,0,12,28,63,127] ?_;first
        | (have a6:BL (st.map (dac ac)) (i+1)=BL (st.map (dac ac)) i:=(by rw [bf.out]; rfl)
           have E:=y.out;rw [<-aj.out,<-a6] at E;have hJ:=hide E;clear E a6;go_wp2_with fail)
        | (go_wp2_with (
            at_builtin;refine BP (w:=wr.drew) C9 rfl _ _ rfl l.heap.size (.slice M la cC) la _ rfl aV [.int .i64 (i:Int)] 1 rfl rfl (by simp [Value.oneCell']) (by omega) bG ?_;intro g' aL V b9 aZ b7 c7;have ay:Ac wr.drew V (fun k=>(Value.slice M (BL (st.map (dac ac)) i).length cC).ownBlock=some k):=(by rw [<-aj.out]; exact aZ);have ag:=y.out.b6.kept ay (Aw y.out.acc y.out.b6 (by decide));have bV:=ag.cell;have c5:=ag.frozen 3;have cd:=ag.lt;have E:=y.out.addA (q:=(i:Int)) (vC':=.slice (some ⟨g',0,none⟩) (la+1) aL) (w1:=V) ay (by rw [<-aj.out]; exact b9) (by rw [<-aj.out]; exact b7);obtain⟨wX,bL⟩:∃wX,wX=V.setCell ⟨J.heap.size,3,none⟩ (.slice (some ⟨g',0,none⟩) (la+1) aL):=⟨_,rfl⟩;have a6:BL (st.map (dac ac)) (i+1)=BL (st.map (dac ac)) i++[(i:Int)]:=(by rw [bf.out]; rfl);rw [<-a6] at E;have hJ:=hide E;clear b9 aZ ay b7 ag bL E a6))
        rw [bC.out];have bp:=hJ.out;refine MM ad.out hn hL bp C.out aE.out hl.out bu.out ?_ ?_
        · repeat (first | exact Reg.NoQ.body (fun _ _ h=>h) (fun _ h=>h) | refine Reg.NoQ.then ?_ | refine Reg.NoQ.inBlock ?_)
        · iterate 56 (intro _)
          intro w9 vO' vE' st' ab ah a4 b0;have be:=hide (bF.out w9 _ vO' vE' st' ab ah a4);have bB:=hide b0;clear ab ah a4 b0;go_wp2_with fail;exact⟨⟨i+1,st',_,vE',by go_num,by omega,hide be.out.1,hide be.out.2,bB⟩,by simp [intOf]; omega⟩
    · have cf:=C.out.inv.le
      have cb:(kOf cl st).length=st.length:=by simp [kOf]
      obtain rfl:i=st.length:=by omega
      obtain⟨M,cC,rfl⟩:=AH j.out.acc;obtain⟨AE,cE,rfl⟩:=AH j.out.eds;have az:=Gn (st.map (dac ac)) st.length;have aA:=FN L (AM L (AF (dnx t) cl) (kOf cl st) st.length) st.length;have aB:st.length*L<=200000*8:=Nat.mul_le_mul (by omega) hL;have c9:=j.out.ge;have a3:=j.out.b6;have ax:=a3.cell;have c0:=a3.frozen 1;have cc:=a3.lt;have a9:=a3.set_ 1 (.int .i64 (st.length:Int));have U:=(Ac.refl wr (fun k=>k=J.heap.size)).setCell (p:=⟨J.heap.size,1,none⟩) (fun _=>rfl) (.int .i64 (st.length:Int));have O:=(aP.out.below j.out.below).kept U (by omega);obtain⟨la,I⟩:∃la,la=(BL (st.map (dac ac)) st.length).length:=⟨_,rfl⟩;obtain⟨a7,aC⟩:∃a7,a7=(BM L (AM L (AF (dnx t) cl) (kOf cl st) st.length) st.length).length:=⟨_,rfl⟩;obtain⟨V,bg⟩:∃V,wr.setCell ⟨J.heap.size,1,none⟩ (.int .i64 (st.length:Int))=V:=⟨_,rfl⟩;rw [bg] at a9 U O;rw [<-I,<-aC] at a9 ax;have bW:=a9.cell;have c6:=O.frozen;have ce:=O.lt;have bY:=O.cell;obtain⟨wF,bh,aO,au⟩:=Dn O (.int .i64 (L:Int)) (.int .i64 (st.length:Int)) (.slice (some ⟨l.heap.size,0,none⟩) 1 1) (.slice M la cC) (.slice AE a7 cE);have bm:=aO.cell;have ba:(⟨(L:Int),(st.length:Int),[0],BL (st.map (dac ac)) st.length,BM L (AM L (AF (dnx t) cl) (kOf cl st) st.length) st.length⟩:WA)=AG L (AM L (AF (dnx t) cl) (kOf cl st) st.length) (st.map (dac ac)):=by
        have:=Ru L (AM L (AF (dnx t) cl) (kOf cl st) st.length) (st.map (dac ac));rw [List.length_map] at this;exact this
      have bv:=hide (fun w'' (hk:Ac wF w'' (fun k=>k<w.heap.size))=>by
        have h1:=j.out.fin (N:=st.length) (((U.mono fun b _ e=>.inl e).trans (au.mono fun b _ e=>.inr (by omega)) fun _ _ e=>e).trans hk fun b _ e=>.inr (by omega)) (by omega) (by omega);rw [ba,<-I,<-aC] at h1;exact h1)
      have ci:=j.out.below.size;have bs:=hide ((W.out.trans (j.out.below.mono s3)).trans ((U.below (by omega) fun b hb e=>by omega).trans (au.below (by have:=U.size; omega) fun b hb e=>by omega)));have bo:=hide (HG ad.out.tab.ok (by rw [aW.out]; exact ad.out.w) (st:=st) (fun s hs=>by rw [aW.out]; exact hl.out s hs) (show Bf L (AF (dnx t) cl) (cl.getD 0 0) (st.map fun s=>cl.getD s 0) from by
        unfold Bf;rw [List.length_map];exact C.out))
      have bi:=hide bh;have bK:=hide bg;clear a9 U O aO au bh az aA aB I aC ba j C a3;go_wp2_with fail;change bodyPost _ _ _ _ _ (CK _ w1.heap.size (.int .i64 (L:Int)) (.int .i64 (st.length:Int)) (.slice (some ⟨l.heap.size,0,none⟩) 1 1) (.slice M la cC) (.slice AE a7 cE));first | rw [bi.out] | rw [bK.out,bi.out]
      refine bodyPost_ret (v:=.agg #[.int .i64 (L:Int),.int .i64 (st.length:Int),.slice (some ⟨l.heap.size,0,none⟩) 1 1,.slice M la cC,.slice AE a7 cE]) (by simp [results,Tryz.results82,go_sem,bm]) rfl ⟨bs.out,_,_,bo.out,by rw [List.length_map]; exact bd,bv.out⟩
end Go.Proofs.YtfcfpoemojjglaaGreatDoor
