/-
  Part ED of a proof.
-/
import Derived.Test.YtfcfpoemojjglaaGreatDoorPA
import Derived.Test.YtfcfpoemojjglaaGreatDoorEC
set_option maxHeartbeats 16000000
set_option maxRecDepth 100000
set_option linter.unusedVariables false
set_option linter.unusedSimpArgs false
namespace Go.Proofs.YtfcfpoemojjglaaGreatDoor
open Go.RowKit
set_option maxHeartbeats 16000000
set_option maxRecDepth 100000
theorem Ma (h:World) (L:Nat):∃y C z G,h.alloc (.cells #[.int .i64 0] 3)=y∧y.alloc (.cells BU 35)=C∧CK C y.heap.size (.int .i64 (L:Int)) (.int .i64 0) (.slice (some ⟨h.heap.size,0,none⟩) 1 1) sn0 sn0=z∧z.alloc (.cells #[.int .i64 0] 3)=G∧
  Blk C y.heap.size 35 BU∧CnM h G y.heap.size h.heap.size L (.slice (some ⟨z.heap.size,0,none⟩) 1 1) sn0 sn0 [0] [] []:=by
 obtain⟨y,W,a6,M,a9⟩:=Ag h #[.int .i64 0] 3
 obtain⟨C,Z,U,I,aa⟩:=Ag y BU 35
 obtain⟨z,h6,a4,O⟩:=Dk I (.int .i64 (L:Int)) (.int .i64 0) (.slice (some ⟨h.heap.size,0,none⟩) 1 1) sn0 sn0
 obtain⟨G,h7,E,a5,ab⟩:=Ag z #[.int .i64 0] 3
 have l4:=M.lt
 have l5:=I.lt
 have s5:=U.size
 have s6:=O.size
 have s7:=E.size
 have J:Below y.heap.size y z:=U.trans (O.below s5 fun b hb e=>by omega)
 have V:Below h.heap.size h z:=a6.trans (J.mono (by omega))
 refine⟨y,C,z,G,W,Z,h6,h7,I,⟨V.trans (E.mono (by omega)),a4.below E,(M.below J).below E,?_,Ca,Ca,by simp [Value.ownBlock],?_,fun g _=>by simp [Value.ownBlock],⟨by omega,Nat.le_refl _⟩⟩⟩
 ·exact DC (base:=h.heap.size) (n:=1) a5 (by omega) rfl (by omega)
 ·intro e
  have:z.heap.size=h.heap.size:=by simpa [Value.ownBlock] using e
  omega
def Lg (w:World) (L n:Nat) (t:List (List Nat)) (ac:List Bool) (r:Value) (w':World):Prop:=
 Below w.heap.size w w'∧∃t' ac',BR L t' ac' (EG t ac)∧ac'.length≤n∧∀w'',Ac w' w'' (fun k=>k<w.heap.size)→Bk w'' w''.heap.size r (Be L t' ac')
theorem Q4 {w:World} {L n:Nat} {vN vA:Value} {t:List (List Nat)} {ac:List Bool} (I:Dm w L n vN vA t ac) (hn:n≤200000) (hL:L≤8):
    Calls Tryz.prog 82 #[.agg #[vN,vA],.int .i64 (L:Int)] w (Ret fun r w'=>Lg w L n t ac r w'):=by
  have aV:=hide I
  obtain⟨bN,oN,cN,rfl,-⟩:=I.at
  obtain⟨bA,oA,cA,rfl,bo,b3⟩:=I.mark
  have c8:1≤n:=by have:=I.ok.pos; have:=I.n; omega
  have aX:=hide I.n
  obtain⟨w1,cb,ax,aq,bt⟩:=Ag w #[.slice (some ⟨bN,oN,none⟩) n cN,.slice (some ⟨bA,oA,none⟩) n cA] 139
  obtain⟨w2,cc,af,ar,bu⟩:=Ag w1 BU 35
  have s1:=ax.size
  have s2:=af.size
  have l1:=aq.lt
  have l2:=ar.lt
  have ao:=hide (ax.trans (af.mono s1))
  have aR:=hide (aq.below af)
  have bk:=hide ar
  have aZ:=Q5 (d:=-1) (aV.out.below ao.out) hn hL
  have bx:=hide b3
  have f1:=aR.out.cell
  clear I b3 ax aq bt af ar bu
  go_enter Tryz.func82,Tryz.ntmps82
  go_wp2_with fail
  refine Calls.ret aZ ?_
  rintro r z ⟨ag,gc,cl,rfl,bZ,au,hR⟩
  have Z:=hide (ao.out.trans (ag.mono ao.out.size))
  have aS:=hide (aR.out.below ag)
  have aQ:=hide (bk.out.below ag)
  have ae:=hide (show CnX z w.heap.size gc L n (.slice (some ⟨bN,oN,none⟩) n cN) (.slice (some ⟨bA,oA,none⟩) n cA) t ac cl from⟨aV.out.below Z.out,aS.out,CP.of_blk au hR.len,hR.toW⟩)
  have s3:=Z.out.size
  have l3:=aQ.out.lt
  have ck:=au.lt
  clear aZ ag au hR f1
  obtain⟨M,w5,w6,w7,cd,ce,bF,cf,a9,hM⟩:=Ma z L
  have bn:=hide hM
  have f5:=a9.frozen
  have g5:=a9.lt
  have k5:=a9.cell
  unfold CK at bF
  clear hM a9
  go_wp2_with fail
  go_loopw [7,8] (fun vv ii wr=>∃(i:Nat) (st:List Nat) (vC vE:Value),ii=.int .i64 (i:Int)∧i≤n∧Hid (CnM z wr M.heap.size z.heap.size L vv vC vE st (BL (st.map (dac ac)) i) (BM L (AJ L (AF (dnx t) cl) (kOf cl st) i) i))∧Hid (Exp L (AF (dnx t) cl) (cl.getD 0 0) i (kOf cl st))∧Hid (∀s∈st,s<n)) (fun _ ii _=>n - (intOf ii).toNat)
  case atStart=>exact⟨0,[0],sn0,sn0,rfl,Nat.zero_le _,bn,hide .start,hide fun s hs=>by rw [List.mem_singleton.1 hs]; omega⟩
  case round=>
    obtain⟨i,st,vC,vE,rfl,hi,hI,E,hl⟩:=hrel
    have b9:=ae.out.st_len E.out.inv.nodup hl.out
    obtain⟨Ao,co,rfl⟩:=AG hI.out.ord
    by_cases b2:i<st.length
    · obtain⟨q,hq⟩:=Ap b2
      have bz:=hl.out q (List.mem_of_getElem? hq)
      obtain⟨gf,bM,hv,bS⟩:=C7 hI.out.ord (AX (f:=Value.int .i64) (AX (f:=fun x:Nat=>(x:Int)) hq))
      injection hv with hv bD bE
      subst hv bE
      have aY:=(Z.out.cell (p:=⟨bA,oA+q,none⟩) bo).trans (bx.out q bz)
      have bq:=(hI.out.below.cell (p:=⟨bA,oA+q,none⟩) (by have:=Z.out.size; show bA<_; omega)).trans aY
      obtain⟨b,hb⟩:∃b,dac ac q=b:=⟨_,rfl⟩
      rw [hb] at bq
      have bb:=hide (Iw (ac:=st.map (dac ac)) (q:=i) (b:=b) (by rw [←hb]; exact AX (f:=dac ac) hq))
      have bU:=(aS.out.below hI.out.below).cell
      have aF:=hide hq
      obtain⟨m,hm⟩:∃m,m=st.length:=⟨_,rfl⟩
      rw [←hm] at b9 b2 ⊢
      have bw:=hide hm
      obtain⟨O,cC,rfl⟩:=AG hI.out.acc
      have aA:=Gg (st.map (dac ac)) i
      have aB:=FH L (AJ L (AF (dnx t) cl) (kOf cl st) i) i
      have aC:i*L≤200000*8:=Nat.mul_le_mul (by omega) hL
      have br:Hid ((BM L (AJ L (AF (dnx t) cl) (kOf cl st) i) i).length≤2000000):=by show _≤_; omega
      have C:=hide (hI.out.keep (As wr))
      have c9:i≤200000:=by omega
      obtain⟨y,J⟩:∃y,y=(BL (st.map (dac ac)) i).length:=⟨_,rfl⟩
      have aW:=C.out.acc
      have ay:=C.out.b6.cell
      rw [←J] at aW aA ay
      have bC:=C.out.below.size
      have ak:=hide J
      have bB:=hide (fun(w9:World) (vC' vO' vE':Value) (st':List Nat) (ad:CnM z w9 M.heap.size z.heap.size L vO' vC' vE' st' (BL (st.map (dac ac)) (i+1)) (BM L (AJ L (AF (dnx t) cl) (kOf cl st) i) i++CI (AF (dnx t) cl) (kOf cl st') (cl.getD q 0) i L)) (ai:kOf cl st'=AW (AF (dnx t) cl) (cl.getD q 0) (kOf cl st) L) (a5:st<+:st')=>show CnM z w9 M.heap.size z.heap.size L vO' vC' vE' st' (BL (st'.map (dac ac)) (i+1)) (BM L (AJ L (AF (dnx t) cl) (kOf cl st') (i+1)) (i+1))∧Exp L (AF (dnx t) cl) (cl.getD 0 0) (i+1) (kOf cl st') from by
        refine⟨?_,?_⟩
        · rw [Lu (ac:=st.map (dac ac)) (bc:=st'.map (dac ac)) (by
            obtain⟨u,rfl⟩:=a5
            rw [List.map_append]
            exact List.prefix_append _ _) (by rw [List.length_map]; omega),←Ru E.out (PG a5) (Hj aF.out)]
          exact ad
        · rw [ai]
          exact .row E.out (Hj aF.out))
      clear aY hb hq hm bD aB aC J
      cases b
      all_goals
        go_wp2_with fail
        refine Reg.cP [0,1,0,0,12,28,63,127] ?_
        first
        | (have a7:BL (st.map (dac ac)) (i+1)=BL (st.map (dac ac)) i:=(by rw [bb.out]; rfl)
           have G:=C.out
           rw [←ak.out,←a7] at G
           have hJ:=hide G
           clear G a7
           go_wp2_with fail)
        | (go_wp2_with (
            at_builtin
            refine BO (w:=wr.drew) C9 rfl _ _ rfl z.heap.size (.slice O y cC) y _ rfl aW [.int .i64 (i:Int)] 1 rfl rfl (by simp [Value.oneCell']) (by omega) bC ?_
            intro g' aM W b7 b0 b4 bY
            have az:Ac wr.drew W (fun k=>(Value.slice O (BL (st.map (dac ac)) i).length cC).ownBlock=some k):=(by rw [←ak.out]; exact b0)
            have ah:=C.out.b6.kept az (Aw C.out.acc C.out.b6 (by decide))
            have bQ:=ah.cell
            have bW:=ah.frozen 3
            have c5:=ah.lt
            have G:=C.out.addA (q:=(i:Int)) (vC':=.slice (some ⟨g',0,none⟩) (y+1) aM) (w1:=W) az (by rw [←ak.out]; exact b7) (by rw [←ak.out]; exact b4)
            obtain⟨wX,bH⟩:∃wX,wX=W.setCell ⟨M.heap.size,3,none⟩ (.slice (some ⟨g',0,none⟩) (y+1) aM):=⟨_,rfl⟩
            have a7:BL (st.map (dac ac)) (i+1)=BL (st.map (dac ac)) i++[(i:Int)]:=(by rw [bb.out]; rfl)
            rw [←a7] at G
            have hJ:=hide G
            clear b7 b0 az b4 ah bH G a7))
        rw [bw.out]
        have bm:=hJ.out
        refine Mb ae.out hn hL bm E.out aF.out hl.out br.out ?_ ?_
        · repeat (first | exact Reg.NoQ.body (fun _ _ h=>h) (fun _ h=>h) | refine Reg.NoQ.then ?_ | refine Reg.NoQ.inBlock ?_)
        · iterate 56 (intro _)
          intro w9 vO' vE' st' ad ai a5 b1
          have ba:=hide (bB.out w9 _ vO' vE' st' ad ai a5)
          have bv:=hide b1
          clear ad ai a5 b1
          go_wp2_with fail
          exact⟨⟨i+1,st',_,vE',by go_num,by omega,hide ba.out.1,hide ba.out.2,bv⟩,by simp [intOf]; omega⟩
    · have c7:=E.out.inv.le
      have c3:(kOf cl st).length=st.length:=by simp [kOf]
      obtain rfl:i=st.length:=by omega
      obtain⟨O,cC,rfl⟩:=AG hI.out.acc
      obtain⟨AE,cE,rfl⟩:=AG hI.out.eds
      have aA:=Gg (st.map (dac ac)) st.length
      have aB:=FH L (AJ L (AF (dnx t) cl) (kOf cl st) st.length) st.length
      have aC:st.length*L≤200000*8:=Nat.mul_le_mul (by omega) hL
      have c0:=hI.out.ge
      have a4:=hI.out.b6
      have ay:=a4.cell
      have bV:=a4.frozen 1
      have c4:=a4.lt
      have aa:=a4.set_ 1 (.int .i64 (st.length:Int))
      have V:=(Ac.refl wr (fun k=>k=M.heap.size)).setCell (p:=⟨M.heap.size,1,none⟩) (fun _=>rfl) (.int .i64 (st.length:Int))
      have U:=(aQ.out.below hI.out.below).kept V (by omega)
      obtain⟨y,J⟩:∃y,y=(BL (st.map (dac ac)) st.length).length:=⟨_,rfl⟩
      obtain⟨a8,aD⟩:∃a8,a8=(BM L (AJ L (AF (dnx t) cl) (kOf cl st) st.length) st.length).length:=⟨_,rfl⟩
      obtain⟨W,bd⟩:∃W,wr.setCell ⟨M.heap.size,1,none⟩ (.int .i64 (st.length:Int))=W:=⟨_,rfl⟩
      rw [bd] at aa V U
      rw [←J,←aD] at aa ay
      have bR:=aa.cell
      have bX:=U.frozen
      have c6:=U.lt
      have bT:=U.cell
      obtain⟨wF,be,aP,av⟩:=Dk U (.int .i64 (L:Int)) (.int .i64 (st.length:Int)) (.slice (some ⟨z.heap.size,0,none⟩) 1 1) (.slice O y cC) (.slice AE a8 cE)
      have bj:=aP.cell
      have b8:(⟨(L:Int),(st.length:Int),[0],BL (st.map (dac ac)) st.length,BM L (AJ L (AF (dnx t) cl) (kOf cl st) st.length) st.length⟩:WA)=Be L (AJ L (AF (dnx t) cl) (kOf cl st) st.length) (st.map (dac ac)):=by
        have:=Qw L (AJ L (AF (dnx t) cl) (kOf cl st) st.length) (st.map (dac ac))
        rw [List.length_map] at this
        exact this
      have bs:=hide (fun w'' (hk:Ac wF w'' (fun k=>k<w.heap.size))=>by
        have h1:=hI.out.fin (N:=st.length) (((V.mono fun b _ e=>.inl e).trans (av.mono fun b _ e=>.inr (by omega)) fun _ _ e=>e).trans hk fun b _ e=>.inr (by omega)) (by omega) (by omega)
        rw [b8,←J,←aD] at h1
        exact h1)
      have ca:=hI.out.below.size
      have bp:=hide ((Z.out.trans (hI.out.below.mono s3)).trans ((V.below (by omega) fun b hb e=>by omega).trans (av.below (by have:=V.size; omega) fun b hb e=>by omega)))
      have bl:=hide (Hu ae.out.tab.ok (by rw [aX.out]; exact ae.out.w) (st:=st) (fun s hs=>by rw [aX.out]; exact hl.out s hs) (show Bd L (AF (dnx t) cl) (cl.getD 0 0) (st.map fun s=>cl.getD s 0) from by
        unfold Bd
        rw [List.length_map]
        exact E.out))
      have bf:=hide be
      have bG:=hide bd
      clear aa V U aP av be aA aB aC J aD b8 hI E a4
      go_wp2_with fail
      change bodyPost _ _ _ _ _ (CK _ w1.heap.size (.int .i64 (L:Int)) (.int .i64 (st.length:Int)) (.slice (some ⟨z.heap.size,0,none⟩) 1 1) (.slice O y cC) (.slice AE a8 cE))
      first | rw [bf.out] | rw [bG.out,bf.out]
      refine bodyPost_ret (v:=.agg #[.int .i64 (L:Int),.int .i64 (st.length:Int),.slice (some ⟨z.heap.size,0,none⟩) 1 1,.slice O y cC,.slice AE a8 cE]) (by simp [results,Tryz.results82,go_sem,bj]) rfl ⟨bp.out,_,_,bl.out,by rw [List.length_map]; exact b9,bs.out⟩
end Go.Proofs.YtfcfpoemojjglaaGreatDoor
