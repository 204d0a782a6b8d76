/-
  Part EF of a proof.
-/
import Derived.Test.YtfcfpoemojjglaaGreatDoorPA
import Derived.Test.YtfcfpoemojjglaaGreatDoorEE
import Derived.Test.YtfcfpoemojjglaaGreatDoorED
import Derived.Test.YtfcfpoemojjglaaGreatDoorEA
set_option maxHeartbeats 16000000
set_option maxRecDepth 100000
set_option linter.unusedVariables false
set_option linter.unusedSimpArgs false
namespace Go.Proofs.YtfcfpoemojjglaaGreatDoor
open Go.RowKit
set_option maxHeartbeats 16000000
set_option maxRecDepth 100000
def LX (w:World) (a:WA) (k:Nat) (v:Value) (w':World):Prop:=
 Below w.heap.size w w'/\∃all d,Bf a.L a.nf.after a.nf.st all/\all.length<=k/\Do w' w.heap.size d (AM a.L a.nf.after all all.length) (all.map a.nf.has)/\v=.tuple #[d,.bool true]
theorem SR (w:World) (cs:Array Value):∃w1 w2 d,w.alloc (.cells cs 35)=w1/\w1.alloc (.cells #[sn0,sn0] 139)=w2/\w2.alloc (.cells #[sn0,sn0] 139)=d/\Below w.heap.size w d/\Blk d w.heap.size 35 cs/\Blk d w1.heap.size 139 #[sn0,sn0]/\Blk d w2.heap.size 139 #[sn0,sn0]/\w.heap.size<w1.heap.size/\w1.heap.size<w2.heap.size/\w2.heap.size<d.heap.size:=by
 obtain⟨w1,E,J,j,-⟩:=Ae w cs 35;obtain⟨w2,G,C,l,-⟩:=Ae w1 #[sn0,sn0] 139;obtain⟨d,I,h,y,-⟩:=Ae w2 #[sn0,sn0] 139;have l1:=j.lt;have l2:=l.lt;have l3:=y.lt;exact⟨w1,w2,d,E,G,I,J.trans ((C.mono (by omega)).trans (h.mono (by omega))),(j.below C).below h,l.below h,y,l1,l2,l3⟩
theorem SS {w d h:World} {g2 g4 g6 gm:Nat} {cs:Array Value} {m:List Bool} (y:Below w.heap.size w d) (G:Blk d g2 35 cs) (I:Blk d g4 139 #[sn0,sn0]) (M:Blk d g6 139 #[sn0,sn0]) (V:w.heap.size<=g2/\w.heap.size<=g4/\w.heap.size<=g6) (W:g4≠g6) (C:Below d.heap.size d h) (U:Blk h gm 4 (m.map Value.bool).toArray) (a3:d.heap.size<=gm):
  ∃j,h.alloc (.cells #[.slice (some ⟨gm,0,none⟩) m.length m.length] 76)=j/\SbM w j g2 g4 g6 cs sn0 sn0 (.slice (some ⟨h.heap.size,0,none⟩) 1 1) [m] [] [] [.slice (some ⟨gm,0,none⟩) m.length m.length] [] (fun _=>True):=by
 obtain⟨j,J,E,O,-⟩:=Ae h #[.slice (some ⟨gm,0,none⟩) m.length m.length] 76;have Z:=y.size;have s4:=C.size;have l:Below d.heap.size d j:=C.trans (E.mono s4);refine⟨j,J,y.trans (l.mono Z),G.below l,I.below l,M.below l,?_,.cons ⟨gm,rfl,by omega,U.below E,by simp [Value.ownBlock]⟩ .nil,Cb,Cb,Cl.nil,W,V⟩;exact DD (base:=w.heap.size) (n:=1) O (by omega) rfl (by omega)
theorem Bf.of_exp {a:WA} {all:List (List Bool)} {i:Nat} (h:Exp a.L a.nf.after a.nf.st i all) (d:¬i<all.length):Bf a.L a.nf.after a.nf.st all:=by
 have:=h.inv.le;obtain rfl:i=all.length:=by omega
 exact h
theorem RZ {w:World} {v:Value} {a:WA} {k:Nat} (h:Bj w w.heap.size v a) (av:a.In) (hS:0<=a.states/\a.states<=200000) (bA:0<=a.letters/\a.letters<=8) (hk:k<=50000) (b7:¬a.nf.Large k):
  Calls Tryz.prog 125 #[v,.int .i64 (-1)] w (Ret fun r w'=>LX w a k r w'):=by
 have aU:=hide h;obtain⟨A1,c1,A2,c2,A3,c3,rfl,h1,h2,h3,h4⟩:=h;have aT:a.letters=(a.L:Int):=by unfold WA.L; omega
 have aS:a.L<=8:=by unfold WA.L; omega
 have a8:a.states=(a.n:Int):=by unfold WA.n; omega
 have bV:a.n<=200000:=by unfold WA.n; omega
 rw [aT] at aU ⊢;obtain⟨w1,w2,w3,cH,cJ,cK,a9,an,aM,aN,l1,l2,l3⟩:=SR w #[.int .i64 (a.L:Int),.int .i64 a.states,.slice A1 a.start.length c1,.slice A2 a.accept.length c2,.slice A3 a.edges.length c3];have bl:=hide a9;have bt:=hide an;have bu:=hide aM;have bv:=hide aN;have f2:=an.cell;have aC:=RS (c:=c1) (n:=a.n) (h1.keep (w':=w3) (fun p hp=>a9.cell hp) a9.size) (Nat.le_refl _) bV (by rw [<-a8]; exact av.start);rw [<-a8] at aC;have aw:=hide av;have bX:=hide b7;clear b7;have bE:=hide hS;have bq:=hide h2;have bz:=hide aS;have bF:=hide a8;clear a9 an aM aN h1 h2 h3 h4 av aT bA hS a8 aS;go_enter Tryz.func125,Tryz.ntmps125;go_wp2_with fail;refine Calls.ret aC ?_;rintro u w4 ⟨aV,bB,aX⟩;obtain⟨gm,bM,rfl,aP⟩:=bB;have bN:=aX gm rfl;obtain⟨w5,c6,aQ⟩:=SS bl.out bt.out bu.out bv.out ⟨by omega,by omega,by omega⟩ (by omega) aV aP bN;have aR:=hide aQ;have bg:BN a.n a.start=a.nf.st:=by unfold NF.st; rw [a.nf_n]; rfl
 rw [bg] at aR c6 ⊢;have bY:Hid (a.nf.st.length=a.n):=by show _=_; rw [a.nf.st_len,a.nf_n]
 clear aC aV aX bM aP aQ f2 bg;go_wp2_with fail;go_loopw [7,8] (fun vv ii wr=>∃(i:Nat) (all:List (List Bool)) (vN vA:Value) (us ws:List Value),ii=.int .i64 (i:Int)/\i<=k/\Hid (SbM w wr w.heap.size w1.heap.size w2.heap.size #[.int .i64 (a.L:Int),.int .i64 a.states,.slice A1 a.start.length c1,.slice A2 a.accept.length c2,.slice A3 a.edges.length c3] vN vA vv all (AM a.L a.nf.after all i) ((all.take i).map a.nf.has) us ws (fun _=>True))/\Hid (Exp a.L a.nf.after a.nf.st i all)/\Hid (∀x∈all,x.length=a.n)) (fun _ ii _=>k+1 - (intOf ii).toNat)
 case atStart=>exact⟨0,[a.nf.st],sn0,sn0,_,_,rfl,Nat.zero_le _,aR,hide .start,hide fun x hx=>by rw [List.mem_singleton.1 hx]; exact bY.out⟩
 case round=>
  obtain⟨i,all,vN,vA,us,ws,rfl,hi,j,J,hl⟩:=hrel;obtain⟨AS,cS,rfl⟩:=AH j.out.sets;have ct:=j.out.b2.cell;by_cases aA:i<all.length
  ·by_cases aW:k<all.length
   ·exact absurd ⟨i,all,J.out,aW⟩ bX.out
   ·obtain⟨l,b0⟩:=An aA;have ah:=hide b0;have bG:all.length<=100000:=by omega
    have bP:i+1<=k:=by omega
    clear b0;go_wp2_with fail;refine ST j.out aU.out aw.out bE.out bz.out ah.out hl.out bG ?_ ?_
    ·repeat (first | exact Reg.NoQ.body (fun _ _ h=>h) (fun _ h=>h) | refine Reg.NoQ.then ?_ | refine Reg.NoQ.inBlock ?_)
    ·iterate 43 (intro _)
     intro w9 vS' vR all' cc C aq af az;have a7:=hide C;have bD:=hide aq;have bQ:=hide af;have bS:=hide az;have a5:=Ds (show all<+:all' from by rw [af]; exact DK _ _ _) ah.out;obtain⟨cn,ci,gM,rfl,-,-⟩:=C.at a5;obtain⟨AR,cR,rfl⟩:=AH aq;obtain⟨W,cN,rfl⟩:=AH C.nxt;obtain⟨V,cA,rfl⟩:=AH C.acc;have bd:all<+:all':=by rw [af]; exact DK _ _ _
     have be:=hide bd;have I:(AM a.L a.nf.after all i).length=i:=D5 (by omega);have G:((all.take i).map a.nf.has).length=i:=by simp; omega
     have ad:=C.b6.cell;have b8:=C.nxt;rw [I,G] at ad;rw [I] at b8;have bZ:=C.below.size;have aY:i+1<=4000000:=by omega
     have bi:=hide I;have O:=hide G;have aB:=hide a5;have bT:=hide (az l (List.mem_of_getElem? a5));obtain⟨n',ai⟩:∃n',n'=all'.length:=⟨_,rfl⟩;have bW:=hide ai;have cz:i<n':=by rw [ai]; exact AP a5
     rw [<-ai];clear C aq af az bd I G a5 ai aA aW
     go_wp2_with (
      at_builtin;refine BP (w:=w9) F9 rfl _ _ rfl w.heap.size (.slice W i cN) i _ rfl b8 [.slice AR a.L cR] 1 rfl rfl (by simp [Value.oneCell']) aY bZ ?_;intro g7 al w7 b9 aZ bU cx;have ax:Ac w9 w7 (fun b=>(Value.slice W (AM a.L a.nf.after all i).length cN).ownBlock=some b):=(by rw [bi.out]; exact aZ);have aa:=a7.out.b6.kept ax (Aw a7.out.nxt a7.out.b6 (by decide));have bJ:=aa.cell;have cv:=aa.frozen 0;have cE:=aa.lt;rw [O.out] at bJ;have bf:w9.ownsRow w.heap.size 3 1 (.slice AR a.L cR) (Dl a.nf.after all' l a.L).length ((Ak (Dl a.nf.after all' l a.L)).map (Value.int .i64)):=(by rw [Ss]; exact bD.out);have M:=a7.out.addR (row:=Dl a.nf.after all' l a.L) (vN':=.slice (some ⟨g7,0,none⟩) (i+1) al) bf ax (by rw [bi.out]; exact b9);obtain⟨y,c7⟩:∃y,w7.setCell ⟨w2.heap.size,0,none⟩ (.slice (some ⟨g7,0,none⟩) (i+1) al)=y:=⟨_,rfl⟩;rw [c7] at M;have E:=hide M;have cr:=M.b2.cell;have bK:=M.b6.cell;rw [O.out] at bK;obtain⟨cm,cj,bp,q1,q2,q3⟩:=M.at aB.out;injection q1 with a6 ca cb
      injection a6 with a6
      injection a6 with a6
      subst a6 cb;have bC:=hide q3;clear b9 aZ ax bU aa M bf ca q3)
     have am:=E.out.below.trans ((Ap y).mono E.out.below.size);have ag:=Q4 (c:=c2) (show BX y.drew y.drew.heap.size (.slice (some ⟨bp,0,none⟩) l.length l.length) l from bC.out.keep (Ap y) (Nat.le_refl _)) (bq.out.keep (w':=y.drew) (fun p hp=>am.cell hp) am.size) (by
      rw [bT.out,<-bF.out];exact aw.out.accept)
     rw [WA.meets_has aw.out] at ag;obtain⟨Z,au⟩:∃Z,Z=a.nf.has l:=⟨_,rfl⟩;rw [<-au] at ag;have bI:=hide au;have ar:=E.out.acc;rw [O.out] at ar;have c0:=E.out.below.size;clear au am;refine Reg.cC [0,1,0,0,12,28,0,64,252,508,1023,2047,4095] [0,1,2,3,4,5,6,7,8,9,10,11,12] ?_;refine Reg.rest_walk' [0,1,2,3,4,5,6,7] [8,9,10,11,12] rfl (by kernel_rfl) ?_;intro Qf d;go_wp2_with fail;first | refine d _ _ ?_ | skip
     (try clear d);refine Reg.rest_act' 8 [9,10,11,12] [1] rfl (by kernel_rfl) ?_;intro Qf d;simp only [gT,gS,gZ];go_wp2_with fail;refine ag.mono ?_;rintro r w8 ⟨rfl,rfl⟩;clear ag;go_wp2_with fail;first | refine d _ _ ⟨Reg.same_below (Below.refl _ _) [1] rfl,?_⟩ | refine⟨Reg.same_below (Below.refl _ _) [1] rfl,?_⟩
     (try clear d);refine Reg.rest_walk' [9] [10,11,12] rfl (by kernel_rfl) ?_;intro Qf d;go_wp2_with fail;first | refine d _ _ ?_ | skip
     (try clear d);refine Reg.rest_act' 10 [11,12] [] rfl (by kernel_rfl) ?_;intro Qf d;simp only [gT,gS,gZ];refine BP (w:=y.drew) GM rfl _ _ rfl w.heap.size (.slice V i cA) i _ rfl ar [.bool Z] 1 rfl rfl (by simp [Value.oneCell']) aY c0 ?_;intro gA aJ wA ba U b5 cy;have ay:Ac y wA (fun b=>(Value.slice V ((all.take i).map a.nf.has).length cA).ownBlock=some b):=by
      rw [O.out];exact⟨U.os,U.tape,U.output,U.size,U.block⟩
     have ab:=E.out.b6.kept ay (Aw E.out.acc E.out.b6 (by decide));have cw:=ab.frozen 1;have cF:=ab.lt;have cq:=ab.cell;have bx:=hide (E.out.addA (b:=Z) (vA':=.slice (some ⟨gA,0,none⟩) (i+1) aJ) ay (by rw [O.out]; exact ba) (by rw [O.out]; exact b5));refine d _ _ ⟨Reg.nm,?_⟩;clear d ba U ay b5 ab ar;refine Reg.rest_walk' [11,12] [] rfl (by kernel_rfl) ?_;intro Qf d;go_wp2_with fail;first | refine d _ _ ?_ | skip
     (try clear d);refine Reg.rest_end ?_;go_wp2_with fail;refine⟨⟨i+1,all',.slice (some ⟨g7,0,none⟩) (i+1) al,.slice (some ⟨gA,0,none⟩) (i+1) aJ,cc,ws++[.slice AR a.L cR],by go_num,bP,?_,?_,bS⟩,by simp [intOf]; omega⟩
     ·have h1:=bx.out;have e1:AM a.L a.nf.after all i++[Dl a.nf.after all' l a.L]=AM a.L a.nf.after all' (i+1):=by
       rw [GP aB.out,GO J.out be.out];rfl
      have e2:(all.take i).map a.nf.has++[Z]=(all'.take (i+1)).map a.nf.has:=by
       rw [B5 aB.out,List.map_append,bI.out];congr 2;obtain⟨u,hu⟩:=be.out;rw [<-hu,List.take_append_of_le_length (by have:=AP ah.out; omega)]
      rw [e1,e2] at h1;rw [bW.out];exact h1
     ·show Exp _ _ _ _ _
      rw [bQ.out];exact .row J.out ah.out
  ·have hD:=hide (Bf.of_exp J.out aA);have cG:=J.out.inv.le;obtain rfl:i=all.length:=by omega
   obtain⟨W,cN,rfl⟩:=AH j.out.nxt;obtain⟨V,cA,rfl⟩:=AH j.out.acc;have I:(AM a.L a.nf.after all all.length).length=all.length:=D5 (Nat.le_refl _);have G:((all.take all.length).map a.nf.has).length=all.length:=by simp
   have a4:=j.out.b4;have cu:=a4.frozen;have cD:=a4.lt;have cp:=a4.cell;have ad:=j.out.b6.cell;obtain⟨wF,aE,aO,ap⟩:=Dm a4 (.slice W (AM a.L a.nf.after all all.length).length cN) (.slice V ((all.take all.length).map a.nf.has).length cA);have ao:=aO.cell;have bH:=hide (j.out.below.trans (ap.below j.out.below.size fun b hb e=>by have:=j.out.ge; omega));have ae:=j.out.fin (wF:=wF) (ap.mono fun _ _ e=>.inl e);rw [List.take_length] at ae G aE ao ad;rw [I,G] at ae aE ao ad;have bL:=hide ae;unfold CY at aE;clear a4 aO ap ae I G j J;go_wp2_with fail;refine bodyPost_ret (v:=.tuple #[.agg #[.slice W all.length cN,.slice V all.length cA],.bool true]) (by simp [results,Tryz.results125,go_sem,ao]) rfl ⟨bH.out,all,_,hD.out,hi,bL.out,rfl⟩
end Go.Proofs.YtfcfpoemojjglaaGreatDoor
namespace Go.Proofs.YtfcfpoemojjglaaGreatDoor
open Go.RowKit
set_option maxHeartbeats 16000000
set_option maxRecDepth 100000
def IC (w:World) (a:WA) (k:Nat) (v:Value) (w':World):Prop:=
 Below w.heap.size w w'/\∃t ac,BH a.L t ac a.lang/\ac.length<=k/\∀w'',Ac w' w'' (fun k=>k<w.heap.size)->Bj w'' w''.heap.size v (AG a.L t ac)
theorem Rl (w:World) (j l:Value):∃h d,w.alloc (.cells #[sn0,sn0] 139)=h/\CY h w.heap.size j l=d/\Blk h w.heap.size 139 #[sn0,sn0]/\Blk d w.heap.size 139 #[j,l]/\Below w.heap.size w d/\w.heap.size<d.heap.size:=by
 obtain⟨h,I,E,y,O⟩:=Ae w #[sn0,sn0] 139;obtain⟨d,J,C,G⟩:=Dm y j l;exact⟨h,d,I,J,y,C,E.trans (G.below E.size fun b M e=>by omega),C.lt⟩
theorem KE {v:Value} {a:WA} {w:World} {k:Nat} (hk:k<=50000) (aF:¬a.nf.Large k) (h:Bj w w.heap.size v a) (aC:a.In) (hS:0<=a.states/\a.states<=200000) (av:0<=a.letters/\a.letters<=8):
  Calls Tryz.prog 78 #[v] w (Ret fun r w'=>IC w a k r w'):=by
 have aN:=hide h;obtain⟨A1,c1,A2,c2,A3,c3,rfl,-⟩:=h;have au:a.letters=(a.L:Int):=by unfold WA.L; omega
 have ar:=hide (show a.L<=8 from by unfold WA.L; omega);obtain⟨w1,aX,Z,O,aT⟩:=Ae w #[.int .i64 a.letters,.int .i64 a.states,.slice A1 a.start.length c1,.slice A2 a.accept.length c2,.slice A3 a.edges.length c3] 35;obtain⟨w2,bn,a2,am,aU⟩:=Ae w1 BQ 35;have s1:=Z.size;have l1:=O.lt;have E:=hide (Z.trans (a2.mono s1));have U:=hide (O.below a2);have aK:=hide am;have f1:=U.out.cell;have a7:=RZ (k:=k) (aN.out.keep (w':=w2) (fun p hp=>E.out.cell hp) E.out.size) aC hS av hk aF;rw [au] at aX f1 a7 U ⊢;clear Z O aT a2 am aU aC hS av au aF;go_enter Tryz.func78,Tryz.ntmps78;go_wp2_with fail;refine Calls.ret a7 ?_;rintro r w4 ⟨I,all,d,V,aB,hO,rfl⟩;have ae:=hide (E.out.trans (I.mono E.out.size));have aL:=hide (U.out.below I);have ap:=hide (aK.out.below I);have s4:=ae.out.size;have l4:=ap.out.lt;have s2:=E.out.size;have bt:=I.size;clear a7 I f1;have a4:DOK a.L (AM a.L a.nf.after all all.length) (all.map a.nf.has):=Fq V (by simp);have aG:=hO.read (fun r hr=>by
  have h1:=(a4.row r hr).1;have h2:=ar.out;omega) (by rw [D5 (Nat.le_refl _)]; omega) (by rw [List.length_map]; omega)
 obtain⟨vN,vA,ws,rfl,hA,hN,-⟩:=hO;obtain⟨AN,cN,rfl⟩:=AH hN;obtain⟨AA,cA,rfl⟩:=AH hA;obtain⟨w5,w6,bo,aH,J,an,C,bl⟩:=Rl w4 (.slice AN (AM a.L a.nf.after all all.length).length cN) (.slice AA (all.map a.nf.has).length cA);have bg:=J.frozen;have bi:=J.lt;have be:=J.cell;have aR:=an.cell;have af:=hide (ae.out.trans (C.mono s4));have ay:=hide (ap.out.below C);have bp:=(aL.out.below C).cell;have az:Dp w6 a.L all.length (.slice AN (AM a.L a.nf.after all all.length).length cN) (.slice AA (all.map a.nf.has).length cA) (AM a.L a.nf.after all all.length) (all.map a.nf.has):=⟨aG.keep (fun p hp=>C.cell hp) C.size,a4,by simp⟩;have a3:=RV az (by omega) ar.out;have aV:=hide (fun(l:List (List Nat)) (j:List Bool) (h:BH a.L l j (EI (AM a.L a.nf.after all all.length) (all.map a.nf.has)))=>h.congr (Λ':=a.lang) fun z hz=>(KS V a.nf.has hz).symm);have aP:=hide aB;obtain⟨lr,aE⟩:∃n,n=(AM a.L a.nf.after all all.length).length:=⟨_,rfl⟩;obtain⟨la,aD⟩:∃n,n=(all.map a.nf.has).length:=⟨_,rfl⟩;rw [<-aE,<-aD] at aH aR a3 ⊢;unfold CY at aH;have s6:=af.out.size;have bu:=C.size;clear V aB hA hN aG a4 J an C az aE aD;go_wp2_with fail;refine Calls.ret a3 ?_;rintro d w7 ⟨M,l,j,hC,aA,y⟩;obtain⟨a8,ag,a9,ah,aa,ai,rfl,-,-,-,-⟩:=y w7 (Ac.refl _ _);have G:=ay.out.below M;have bh:=G.frozen;have bj:=G.lt;have bf:=G.cell;have bm:=M.size;have aM:=hide (aV.out l j hC);have aO:=hide (Nat.le_trans aA aP.out);generalize (AG a.L l j).letters=x0 at y ⊢;generalize (AG a.L l j).states=x1 at y ⊢;generalize (AG a.L l j).start.length=n1 at y ⊢;generalize (AG a.L l j).accept.length=n2 at y ⊢;generalize (AG a.L l j).edges.length=n3 at y ⊢;obtain⟨wF,aY,ao,W⟩:=Dn G (.int .i64 x0) (.int .i64 x1) (.slice a8 n1 ag) (.slice a9 n2 ah) (.slice aa n3 ai);have aJ:=ao.cell;have aQ:=hide ((af.out.trans (M.mono s6)).trans (W.below (by omega) fun b hb e=>by omega));have bk:=ay.out.lt;have aS:=hide (fun w'' (hk:Ac wF w'' (fun k=>k<w.heap.size))=>y w'' ((W.mono (fun b _ e=>by omega)).trans hk (fun b _ e=>by omega)));unfold CK at aY;clear a3 y G ao W M hC aA;go_wp2_with fail;refine bodyPost_ret (v:=.agg #[.int .i64 x0,.int .i64 x1,.slice a8 n1 ag,.slice a9 n2 ah,.slice aa n3 ai]) (by simp [results,Tryz.results78,go_sem,aJ]) rfl ⟨aQ.out,l,j,aM.out,aO.out,aS.out⟩
end Go.Proofs.YtfcfpoemojjglaaGreatDoor
