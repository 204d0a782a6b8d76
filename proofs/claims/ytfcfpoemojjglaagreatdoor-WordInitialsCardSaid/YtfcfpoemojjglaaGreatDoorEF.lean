/-
  Part EF of a proof.
-/
import Derived.Test.YtfcfpoemojjglaaGreatDoorPA
import Derived.Test.YtfcfpoemojjglaaGreatDoorEE
import Derived.Test.YtfcfpoemojjglaaGreatDoorED
import Derived.Test.YtfcfpoemojjglaaGreatDoorEA
set_option maxHeartbeats 16000000
set_option maxRecDepth 100000
set_option linter.unusedVariables false
set_option linter.unusedSimpArgs false
namespace Go.Proofs.YtfcfpoemojjglaaGreatDoor
open Go.RowKit
set_option maxHeartbeats 16000000
set_option maxRecDepth 100000
def Ln (w:World) (a:WA) (k:Nat) (v:Value) (w':World):Prop:=
 Below w.heap.size w w'∧∃all d,Bd a.L a.nf.after a.nf.st all∧all.length≤k∧Dl w' w.heap.size d (AJ a.L a.nf.after all all.length) (all.map a.nf.has)∧v=.tuple #[d,.bool true]
theorem RV (w:World) (cs:Array Value):∃w1 w2 h,w.alloc (.cells cs 35)=w1∧w1.alloc (.cells #[sn0,sn0] 139)=w2∧w2.alloc (.cells #[sn0,sn0] 139)=h∧Below w.heap.size w h∧Blk h w.heap.size 35 cs∧Blk h w1.heap.size 139 #[sn0,sn0]∧Blk h w2.heap.size 139 #[sn0,sn0]∧w.heap.size<w1.heap.size∧w1.heap.size<w2.heap.size∧w2.heap.size<h.heap.size:=by
 obtain⟨w1,I,O,z,-⟩:=Ag w cs 35
 obtain⟨w2,J,G,C,-⟩:=Ag w1 #[sn0,sn0] 139
 obtain⟨h,M,y,E,-⟩:=Ag w2 #[sn0,sn0] 139
 have U:=z.lt
 have V:=C.lt
 have W:=E.lt
 exact⟨w1,w2,h,I,J,M,O.trans ((G.mono (by omega)).trans (y.mono (by omega))),(z.below G).below y,C.below y,E,U,V,W⟩
theorem RW {w h y:World} {g2 g4 g6 gm:Nat} {cs:Array Value} {m:List Bool} (E:Below w.heap.size w h) (J:Blk h g2 35 cs) (M:Blk h g4 139 #[sn0,sn0]) (U:Blk h g6 139 #[sn0,sn0]) (Z:w.heap.size≤g2∧w.heap.size≤g4∧w.heap.size≤g6) (a2:g4≠g6) (G:Below h.heap.size h y) (W:Blk y gm 4 (m.map Value.bool).toArray) (a5:h.heap.size≤gm):
  ∃z,y.alloc (.cells #[.slice (some ⟨gm,0,none⟩) m.length m.length] 76)=z∧SbM w z g2 g4 g6 cs sn0 sn0 (.slice (some ⟨y.heap.size,0,none⟩) 1 1) [m] [] [] [.slice (some ⟨gm,0,none⟩) m.length m.length] [] (fun _=>True):=by
 obtain⟨z,O,I,V,-⟩:=Ag y #[.slice (some ⟨gm,0,none⟩) m.length m.length] 76
 have s3:=E.size
 have s4:=G.size
 have C:Below h.heap.size h z:=G.trans (I.mono s4)
 refine⟨z,O,E.trans (C.mono s3),J.below C,M.below C,U.below C,?_,.cons ⟨gm,rfl,by omega,W.below I,by simp [Value.ownBlock]⟩ .nil,Ca,Ca,Ck.nil,a2,Z⟩
 exact DC (base:=w.heap.size) (n:=1) V (by omega) rfl (by omega)
theorem Bd.of_exp {a:WA} {all:List (List Bool)} {i:Nat} (h:Exp a.L a.nf.after a.nf.st i all) (y:¬i<all.length):Bd a.L a.nf.after a.nf.st all:=by
 have:=h.inv.le
 obtain rfl:i=all.length:=by omega
 exact h
theorem Q9 {w:World} {v:Value} {a:WA} {k:Nat} (h:Bk w w.heap.size v a) (aw:a.In) (hS:0≤a.states∧a.states≤200000) (bC:0≤a.letters∧a.letters≤8) (hk:k≤50000) (ba:¬a.nf.Large k):
  Calls Tryz.prog 125 #[v,.int .i64 (-1)] w (Ret fun r w'=>Ln w a k r w'):=by
 have aZ:=hide h
 obtain⟨A1,c1,A2,c2,A3,c3,rfl,h1,h2,h3,h4⟩:=h
 have aY:a.letters=(a.L:Int):=by unfold WA.L; omega
 have aX:a.L≤8:=by unfold WA.L; omega
 have a9:a.states=(a.n:Int):=by unfold WA.n; omega
 have bX:a.n≤200000:=by unfold WA.n; omega
 rw [aY] at aZ ⊢
 obtain⟨w1,w2,w3,cH,cJ,cK,aa,ao,aR,aS,l1,l2,l3⟩:=RV w #[.int .i64 (a.L:Int),.int .i64 a.states,.slice A1 a.start.length c1,.slice A2 a.accept.length c2,.slice A3 a.edges.length c3]
 have bn:=hide aa
 have bv:=hide ao
 have bw:=hide aR
 have bx:=hide aS
 have f2:=ao.cell
 have aD:=QV (c:=c1) (n:=a.n) (h1.keep (w':=w3) (fun p hp=>aa.cell hp) aa.size) (Nat.le_refl _) bX (by rw [←a9]; exact aw.start)
 rw [←a9] at aD
 have ax:=hide aw
 have bZ:=hide ba
 clear ba
 have bG:=hide hS
 have bs:=hide h2
 have bB:=hide aX
 have bH:=hide a9
 clear aa ao aR aS h1 h2 h3 h4 aw aY bC hS a9 aX
 go_enter Tryz.func125,Tryz.ntmps125
 go_wp2_with fail
 refine Calls.ret aD ?_
 rintro u w4 ⟨b0,bD,b3⟩
 obtain⟨gm,bO,rfl,aU⟩:=bD
 have bP:=b3 gm rfl
 obtain⟨w5,c7,aV⟩:=RW bn.out bv.out bw.out bx.out ⟨by omega,by omega,by omega⟩ (by omega) b0 aU bP
 have aW:=hide aV
 have bj:Cq a.n a.start=a.nf.st:=by unfold NF.st; rw [a.nf_n]; rfl
 rw [bj] at aW c7 ⊢
 have c0:Hid (a.nf.st.length=a.n):=by show _=_; rw [a.nf.st_len,a.nf_n]
 clear aD b0 b3 bO aU aV f2 bj
 go_wp2_with fail
 go_loopw [7,8] (fun vv ii wr=>∃(i:Nat) (all:List (List Bool)) (vN vA:Value) (us ws:List Value),ii=.int .i64 (i:Int)∧i≤k∧Hid (SbM w wr w.heap.size w1.heap.size w2.heap.size #[.int .i64 (a.L:Int),.int .i64 a.states,.slice A1 a.start.length c1,.slice A2 a.accept.length c2,.slice A3 a.edges.length c3] vN vA vv all (AJ a.L a.nf.after all i) ((all.take i).map a.nf.has) us ws (fun _=>True))∧Hid (Exp a.L a.nf.after a.nf.st i all)∧Hid (∀x∈all,x.length=a.n)) (fun _ ii _=>k+1 - (intOf ii).toNat)
 case atStart=>exact⟨0,[a.nf.st],sn0,sn0,_,_,rfl,Nat.zero_le _,aW,hide .start,hide fun x hx=>by rw [List.mem_singleton.1 hx]; exact c0.out⟩
 case round=>
  obtain⟨i,all,vN,vA,us,ws,rfl,hi,hI,M,hl⟩:=hrel
  obtain⟨AS,cS,rfl⟩:=AG hI.out.sets
  have cu:=hI.out.b2.cell
  by_cases aB:i<all.length
  ·by_cases b1:k<all.length
   ·exact absurd ⟨i,all,M.out,b1⟩ bZ.out
   ·obtain⟨z,b8⟩:=Ap aB
    have ai:=hide b8
    have bI:all.length≤100000:=by omega
    have bR:i+1≤k:=by omega
    clear b8
    go_wp2_with fail
    refine RX hI.out aZ.out ax.out bG.out bB.out ai.out hl.out bI ?_ ?_
    ·repeat (first | exact Reg.NoQ.body (fun _ _ h=>h) (fun _ h=>h) | refine Reg.NoQ.then ?_ | refine Reg.NoQ.inBlock ?_)
    ·iterate 43 (intro _)
     intro w9 vS' vR all' cd E ar ag aA
     have a8:=hide E
     have bF:=hide ar
     have bS:=hide ag
     have bU:=hide aA
     have a6:=Dp (show all<+:all' from by rw [ag]; exact DJ _ _ _) ai.out
     obtain⟨co,cj,gM,rfl,-,-⟩:=E.at a6
     obtain⟨AR,cR,rfl⟩:=AG ar
     obtain⟨Z,cN,rfl⟩:=AG E.nxt
     obtain⟨W,cA,rfl⟩:=AG E.acc
     have bf:all<+:all':=by rw [ag]; exact DJ _ _ _
     have bg:=hide bf
     have J:(AJ a.L a.nf.after all i).length=i:=D2 (by omega)
     have I:((all.take i).map a.nf.has).length=i:=by simp; omega
     have ae:=E.b6.cell
     have bb:=E.nxt
     rw [J,I] at ae
     rw [J] at bb
     have c4:=E.below.size
     have b5:i+1≤4000000:=by omega
     have bk:=hide J
     have U:=hide I
     have aC:=hide a6
     have bV:=hide (aA z (List.mem_of_getElem? a6))
     obtain⟨n',aj⟩:∃n',n'=all'.length:=⟨_,rfl⟩
     have bY:=hide aj
     have cB:i<n':=by rw [aj]; exact AM a6
     rw [←aj]
     clear E ar ag aA bf J I a6 aj aB b1
     go_wp2_with (
      at_builtin
      refine BO (w:=w9) F1 rfl _ _ rfl w.heap.size (.slice Z i cN) i _ rfl bb [.slice AR a.L cR] 1 rfl rfl (by simp [Value.oneCell']) b5 c4 ?_
      intro g7 am w7 bd b7 bW cy
      have ay:Ac w9 w7 (fun b=>(Value.slice Z (AJ a.L a.nf.after all i).length cN).ownBlock=some b):=(by rw [bk.out]; exact b7)
      have ab:=a8.out.b6.kept ay (Aw a8.out.nxt a8.out.b6 (by decide))
      have bL:=ab.cell
      have cw:=ab.frozen 0
      have cE:=ab.lt
      rw [U.out] at bL
      have bi:w9.ownsRow w.heap.size 3 1 (.slice AR a.L cR) (Di a.nf.after all' z a.L).length ((Ak (Di a.nf.after all' z a.L)).map (Value.int .i64)):=(by rw [Rx]; exact bF.out)
      have O:=a8.out.addR (row:=Di a.nf.after all' z a.L) (vN':=.slice (some ⟨g7,0,none⟩) (i+1) am) bi ay (by rw [bk.out]; exact bd)
      obtain⟨C,c8⟩:∃C,w7.setCell ⟨w2.heap.size,0,none⟩ (.slice (some ⟨g7,0,none⟩) (i+1) am)=C:=⟨_,rfl⟩
      rw [c8] at O
      have G:=hide O
      have ct:=O.b2.cell
      have bM:=O.b6.cell
      rw [U.out] at bM
      obtain⟨cn,ck,br,q1,q2,q3⟩:=O.at aC.out
      injection q1 with a7 cb cc
      injection a7 with a7
      injection a7 with a7
      subst a7 cc
      have bE:=hide q3
      clear bd b7 ay bW ab O bi cb q3)
     have an:=G.out.below.trans ((As C).mono G.out.below.size)
     have ah:=P4 (c:=c2) (show BV C.drew C.drew.heap.size (.slice (some ⟨br,0,none⟩) z.length z.length) z from bE.out.keep (As C) (Nat.le_refl _)) (bs.out.keep (w':=C.drew) (fun p hp=>an.cell hp) an.size) (by
      rw [bV.out,←bH.out]
      exact ax.out.accept)
     rw [WA.meets_has ax.out] at ah
     obtain⟨bh,av⟩:∃bh,bh=a.nf.has z:=⟨_,rfl⟩
     rw [←av] at ah
     have bK:=hide av
     have au:=G.out.acc
     rw [U.out] at au
     have c5:=G.out.below.size
     clear av an
     refine Reg.cC [0,1,0,0,12,28,0,64,252,508,1023,2047,4095] [0,1,2,3,4,5,6,7,8,9,10,11,12] ?_
     refine Reg.rest_walk' [0,1,2,3,4,5,6,7] [8,9,10,11,12] rfl (by kernel_rfl) ?_
     intro Qf y
     go_wp2_with fail
     first | refine y _ _ ?_ | skip
     try clear y
     refine Reg.rest_act' 8 [9,10,11,12] [1] rfl (by kernel_rfl) ?_
     intro Qf y
     simp only [gT,gS,gZ]
     go_wp2_with fail
     refine ah.mono ?_
     rintro r w8 ⟨rfl,rfl⟩
     clear ah
     go_wp2_with fail
     first | refine y _ _ ⟨Reg.same_below (Below.refl _ _) [1] rfl,?_⟩ | refine⟨Reg.same_below (Below.refl _ _) [1] rfl,?_⟩
     try clear y
     refine Reg.rest_walk' [9] [10,11,12] rfl (by kernel_rfl) ?_
     intro Qf y
     go_wp2_with fail
     first | refine y _ _ ?_ | skip
     try clear y
     refine Reg.rest_act' 10 [11,12] [] rfl (by kernel_rfl) ?_
     intro Qf y
     simp only [gT,gS,gZ]
     refine BO (w:=C.drew) GC rfl _ _ rfl w.heap.size (.slice W i cA) i _ rfl au [.bool bh] 1 rfl rfl (by simp [Value.oneCell']) b5 c5 ?_
     intro gA aO wA be V b9 cz
     have az:Ac C wA (fun b=>(Value.slice W ((all.take i).map a.nf.has).length cA).ownBlock=some b):=by
      rw [U.out]
      exact⟨V.os,V.tape,V.output,V.size,V.block⟩
     have ad:=G.out.b6.kept az (Aw G.out.acc G.out.b6 (by decide))
     have cx:=ad.frozen 1
     have cF:=ad.lt
     have cr:=ad.cell
     have bA:=hide (G.out.addA (b:=bh) (vA':=.slice (some ⟨gA,0,none⟩) (i+1) aO) az (by rw [U.out]; exact be) (by rw [U.out]; exact b9))
     refine y _ _ ⟨Reg.nm,?_⟩
     clear y be V az b9 ad au
     refine Reg.rest_walk' [11,12] [] rfl (by kernel_rfl) ?_
     intro Qf y
     go_wp2_with fail
     first | refine y _ _ ?_ | skip
     try clear y
     refine Reg.rest_end ?_
     go_wp2_with fail
     refine⟨⟨i+1,all',.slice (some ⟨g7,0,none⟩) (i+1) am,.slice (some ⟨gA,0,none⟩) (i+1) aO,cd,ws++[.slice AR a.L cR],by go_num,bR,?_,?_,bU⟩,by simp [intOf]; omega⟩
     ·have h1:=bA.out
      have e1:AJ a.L a.nf.after all i++[Di a.nf.after all' z a.L]=AJ a.L a.nf.after all' (i+1):=by
       rw [GF aC.out,GE M.out bg.out]
       rfl
      have e2:(all.take i).map a.nf.has++[bh]=(all'.take (i+1)).map a.nf.has:=by
       rw [B6 aC.out,List.map_append,bK.out]
       congr 2
       obtain⟨u,hu⟩:=bg.out
       rw [←hu,List.take_append_of_le_length (by have:=AM ai.out; omega)]
      rw [e1,e2] at h1
      rw [bY.out]
      exact h1
     ·show Exp _ _ _ _ _
      rw [bS.out]
      exact .row M.out ai.out
  ·have hD:=hide (Bd.of_exp M.out aB)
   have cG:=M.out.inv.le
   obtain rfl:i=all.length:=by omega
   obtain⟨Z,cN,rfl⟩:=AG hI.out.nxt
   obtain⟨W,cA,rfl⟩:=AG hI.out.acc
   have J:(AJ a.L a.nf.after all all.length).length=all.length:=D2 (Nat.le_refl _)
   have I:((all.take all.length).map a.nf.has).length=all.length:=by simp
   have a5:=hI.out.b4
   have cv:=a5.frozen
   have cD:=a5.lt
   have cq:=a5.cell
   have ae:=hI.out.b6.cell
   obtain⟨wF,aF,aT,aq⟩:=Dj a5 (.slice Z (AJ a.L a.nf.after all all.length).length cN) (.slice W ((all.take all.length).map a.nf.has).length cA)
   have ap:=aT.cell
   have bJ:=hide (hI.out.below.trans (aq.below hI.out.below.size fun b hb e=>by have:=hI.out.ge; omega))
   have af:=hI.out.fin (wF:=wF) (aq.mono fun _ _ e=>.inl e)
   rw [List.take_length] at af I aF ap ae
   rw [J,I] at af aF ap ae
   have bN:=hide af
   unfold CX at aF
   clear a5 aT aq af J I hI M
   go_wp2_with fail
   refine bodyPost_ret (v:=.tuple #[.agg #[.slice Z all.length cN,.slice W all.length cA],.bool true]) (by simp [results,Tryz.results125,go_sem,ap]) rfl ⟨bJ.out,all,_,hD.out,hi,bN.out,rfl⟩
end Go.Proofs.YtfcfpoemojjglaaGreatDoor
namespace Go.Proofs.YtfcfpoemojjglaaGreatDoor
open Go.RowKit
set_option maxHeartbeats 16000000
set_option maxRecDepth 100000
def Im (w:World) (a:WA) (k:Nat) (v:Value) (w':World):Prop:=
 Below w.heap.size w w'∧∃t ac,BR a.L t ac a.lang∧ac.length≤k∧∀w'',Ac w' w'' (fun k=>k<w.heap.size)→Bk w'' w''.heap.size v (Be a.L t ac)
theorem Qo (w:World) (z C:Value):∃y h,w.alloc (.cells #[sn0,sn0] 139)=y∧CX y w.heap.size z C=h∧Blk y w.heap.size 139 #[sn0,sn0]∧Blk h w.heap.size 139 #[z,C]∧Below w.heap.size w h∧w.heap.size<h.heap.size:=by
 obtain⟨y,M,I,E,V⟩:=Ag w #[sn0,sn0] 139
 obtain⟨h,O,G,J⟩:=Dj E z C
 exact⟨y,h,M,O,E,G,I.trans (J.below I.size fun b U e=>by omega),G.lt⟩
theorem Kg {v:Value} {a:WA} {w:World} {k:Nat} (hk:k≤50000) (aF:¬a.nf.Large k) (h:Bk w w.heap.size v a) (aC:a.In) (hS:0≤a.states∧a.states≤200000) (av:0≤a.letters∧a.letters≤8):
  Calls Tryz.prog 78 #[v] w (Ret fun r w'=>Im w a k r w'):=by
 have aR:=hide h
 obtain⟨A1,c1,A2,c2,A3,c3,rfl,-⟩:=h
 have au:a.letters=(a.L:Int):=by unfold WA.L; omega
 have ar:=hide (show a.L≤8 from by unfold WA.L; omega)
 obtain⟨w1,b1,a2,U,aX⟩:=Ag w #[.int .i64 a.letters,.int .i64 a.states,.slice A1 a.start.length c1,.slice A2 a.accept.length c2,.slice A3 a.edges.length c3] 35
 obtain⟨w2,bn,a3,am,aY⟩:=Ag w1 BU 35
 have s1:=a2.size
 have l1:=U.lt
 have G:=hide (a2.trans (a3.mono s1))
 have V:=hide (U.below a3)
 have aO:=hide am
 have f1:=V.out.cell
 have a7:=Q9 (k:=k) (aR.out.keep (w':=w2) (fun p hp=>G.out.cell hp) G.out.size) aC hS av hk aF
 rw [au] at b1 f1 a7 V ⊢
 clear a2 U aX a3 am aY aC hS av au aF
 go_enter Tryz.func78,Tryz.ntmps78
 go_wp2_with fail
 refine Calls.ret a7 ?_
 rintro r w4 ⟨J,all,d,W,aB,hO,rfl⟩
 have ae:=hide (G.out.trans (J.mono G.out.size))
 have aP:=hide (V.out.below J)
 have ap:=hide (aO.out.below J)
 have s4:=ae.out.size
 have l4:=ap.out.lt
 have s2:=G.out.size
 have bv:=J.size
 clear a7 J f1
 have a5:DOK a.L (AJ a.L a.nf.after all all.length) (all.map a.nf.has):=Fm W (by simp)
 have aG:=hO.read (fun r hr=>by
  have h1:=(a5.row r hr).1
  have h2:=ar.out
  omega) (by rw [D2 (Nat.le_refl _)]; omega) (by rw [List.length_map]; omega)
 obtain⟨vN,vA,ws,rfl,hA,hN,-⟩:=hO
 obtain⟨AN,cN,rfl⟩:=AG hN
 obtain⟨AA,cA,rfl⟩:=AG hA
 obtain⟨w5,w6,bo,aH,M,an,E,bl⟩:=Qo w4 (.slice AN (AJ a.L a.nf.after all all.length).length cN) (.slice AA (all.map a.nf.has).length cA)
 have bg:=M.frozen
 have bi:=M.lt
 have be:=M.cell
 have aV:=an.cell
 have af:=hide (ae.out.trans (E.mono s4))
 have ay:=hide (ap.out.below E)
 have bp:=(aP.out.below E).cell
 have az:Dm w6 a.L all.length (.slice AN (AJ a.L a.nf.after all all.length).length cN) (.slice AA (all.map a.nf.has).length cA) (AJ a.L a.nf.after all all.length) (all.map a.nf.has):=⟨aG.keep (fun p hp=>E.cell hp) E.size,a5,by simp⟩
 have a4:=Q4 az (by omega) ar.out
 have aZ:=hide (fun(C:List (List Nat)) (y:List Bool) (h:BR a.L C y (EG (AJ a.L a.nf.after all all.length) (all.map a.nf.has)))=>h.congr (Λ':=a.lang) fun z hz=>(Kt W a.nf.has hz).symm)
 have aT:=hide aB
 obtain⟨lr,aE⟩:∃n,n=(AJ a.L a.nf.after all all.length).length:=⟨_,rfl⟩
 obtain⟨la,aD⟩:∃n,n=(all.map a.nf.has).length:=⟨_,rfl⟩
 rw [←aE,←aD] at aH aV a4 ⊢
 unfold CX at aH
 have s6:=af.out.size
 have bw:=E.size
 clear W aB hA hN aG a5 M an E az aE aD
 go_wp2_with fail
 refine Calls.ret a4 ?_
 rintro d w7 ⟨O,C,y,hC,aA,hI⟩
 obtain⟨a8,ag,a9,ah,aa,ai,rfl,-,-,-,-⟩:=hI w7 (Ac.refl _ _)
 have I:=ay.out.below O
 have bh:=I.frozen
 have bj:=I.lt
 have bf:=I.cell
 have bm:=O.size
 have aQ:=hide (aZ.out C y hC)
 have aS:=hide (Nat.le_trans aA aT.out)
 generalize (Be a.L C y).letters=x0 at hI ⊢
 generalize (Be a.L C y).states=x1 at hI ⊢
 generalize (Be a.L C y).start.length=n1 at hI ⊢
 generalize (Be a.L C y).accept.length=n2 at hI ⊢
 generalize (Be a.L C y).edges.length=n3 at hI ⊢
 obtain⟨wF,b2,ao,Z⟩:=Dk I (.int .i64 x0) (.int .i64 x1) (.slice a8 n1 ag) (.slice a9 n2 ah) (.slice aa n3 ai)
 have aN:=ao.cell
 have aU:=hide ((af.out.trans (O.mono s6)).trans (Z.below (by omega) fun b hb e=>by omega))
 have bk:=ay.out.lt
 have aW:=hide (fun w'' (hk:Ac wF w'' (fun k=>k<w.heap.size))=>hI w'' ((Z.mono (fun b _ e=>by omega)).trans hk (fun b _ e=>by omega)))
 unfold CK at b2
 clear a4 hI I ao Z O hC aA
 go_wp2_with fail
 refine bodyPost_ret (v:=.agg #[.int .i64 x0,.int .i64 x1,.slice a8 n1 ag,.slice a9 n2 ah,.slice aa n3 ai]) (by simp [results,Tryz.results78,go_sem,aN]) rfl ⟨aU.out,C,y,aQ.out,aS.out,aW.out⟩
end Go.Proofs.YtfcfpoemojjglaaGreatDoor
