/-
  Part FD of a proof.
-/
import Derived.Test.YtfcfpoemojjglaaGreatDoorPA
import Derived.Test.YtfcfpoemojjglaaGreatDoorEH
import Derived.Test.YtfcfpoemojjglaaGreatDoorFC
set_option maxHeartbeats 16000000
set_option maxRecDepth 100000
set_option linter.unusedVariables false
set_option linter.unusedSimpArgs false
namespace Go.Proofs.YtfcfpoemojjglaaGreatDoor
open Go.RowKit
open K (Am AB At Ba PQX Ah)
attribute [-go_sem] loadCellsFrom
set_option maxHeartbeats 16000000
set_option maxRecDepth 100000
theorem Qs {w:World} {cs ds:List Value} {p:Am} {q:AB} (h:At w w.heap.size cs p) (h':Ba w w.heap.size ds q) (b8:Gi p q) (hT:K.SpOK w) (hP:BV w)
  (ba:∀(wx:World) (pc qc:Array Value) (ga gb:Nat),PQX wx ga gb pc qc p q→Calls Tryz.prog 72 #[.agg pc,.agg qc] wx (Ret fun v w'=>Below wx.heap.size wx w'∧∃A c,v=.tuple #[.slice A (AU p q).length c,.int .i64 0]∧Sl w' w'.heap.size 1 Ai A (AU p q))):
  Calls Tryz.prog 33 #[.agg cs.toArray,.agg ds.toArray] w (Ret fun r w'=>Below w.heap.size w w'∧∃t ac,BH p.states.length t ac (C6 (BS p q) (AU p q))∧ac.length≤3∧∀w'',Ac w' w'' (fun k=>k<w.heap.size)→Br w'' w''.heap.size r t ac):=by
 obtain⟨B1,d1,B2,d2,B3,d3,B4,d4,b9,-⟩:=h'.cells
 obtain⟨A1,c1,A2,c2,A3,c3,A4,c4,A5,c5,A6,c6,A7,c7,aN,br,bs,cy,bt,bu,bv,bw,bx,cz,bz,j1,j2,j3,j4,j5,j6,j7,j8⟩:=h.cells
 obtain⟨w1,cD,al,au,bj⟩:=Ae w cs.toArray 27
 obtain⟨w2,cE,aC,av,bk⟩:=Ae w1 ds.toArray 30
 obtain⟨w3,cF,am,aw,bl⟩:=Ae w2 #[sn0,sn0] 78
 have aA:=al.trans (aC.mono al.size)
 have W:=hide (aA.trans (am.mono aA.size))
 have ae:=hide (show PQX w3 w.heap.size w1.heap.size cs.toArray ds.toArray p q from⟨h.keep (fun _ C=>W.out.cell C) W.out.size,h'.keep (fun _ C=>W.out.cell C) W.out.size,(au.below aC).below am,av.below am,hT.below W.out⟩)
 have bf:=hide aw
 generalize bA:cs.toArray=pc at*
 generalize bB:ds.toArray=qc at*
 have cq:=Ah ae.out.b2 aN
 have ct:=Ah ae.out.b3 b9
 have bE:=hide ba
 have b7:=hide j6
 have bq:=hide b8
 have b1:=hide hP
 have cA:=hide aN
 have co:=au.lt
 have cp:=av.lt
 have cr:=aw.lt
 have cB:=al.size
 clear j1 j2 j3 j4 j5 j6 j7 j8 h h' b8 hT hP ba al aC am aA au av aw bj bk bl bA bB aN b9 br bs bt bu bv bw bx bz
 go_enter Tryz.func33,Tryz.ntmps33
 go_wp2_with fail
 refine Calls.ret (bE.out _ _ _ _ _ ae.out) ?_
 rintro v w4 ⟨Z,AS,cS,rfl,hS⟩
 obtain⟨ns,aL⟩:∃n,n=(AU p q).length:=⟨_,rfl⟩
 have aM:=hide aL
 rw [←aL]
 obtain⟨w5,cG,an,aj,bm⟩:=Ae w4 #[.slice AS ns cS] 24
 obtain⟨w6,cH,aF,aY,bn⟩:=Ae w5 #[.slice AS ns cS] 24
 have aB:=W.out.trans (Z.mono W.out.size)
 have a8:=an.trans (aF.mono an.size)
 have a7:=hide (aB.trans (a8.mono aB.size))
 have aD:=Z.trans (a8.mono Z.size)
 have b6:=hide (ae.out.at aD)
 have b4:=hide (hS.keep (w':=w6) (B':=w6.heap.size) (fun p C=>a8.cell C) a8.size)
 have cn:=hide (b7.out.keep (w':=w6) (B':=w6.heap.size) (fun p C=>a7.out.cell C) a7.out.size)
 have aX:=hide (bf.out.below aD)
 have ak:=hide (aj.below aF)
 have aa:=hide aY
 have bg:=hide hS
 have aU:=hide a8
 have ch:=b6.out.b2.cell
 have cj:=ak.out.cell
 have ck:=aa.out.cell
 have cm:=aa.out.frozen 0
 have cx:=aa.out.lt
 have cw:=ak.out.lt
 have cv:=aj.lt
 have cg:=Z.size
 have f5:=aj.cell
 have f2:=(ae.out.at (Z.trans (an.mono Z.size))).b2.cell
 clear Z hS aL an aj bm aF aY bn aB a8 aD
 have aZ:p.states.length≤8:=by have:=bq.out.L.2; omega
 by_cases h0:0<p.leader.length
 ·have hs:=hide (show BS p q=p.leader from if_pos h0)
  have a2:=(Ac.refl w6 (fun k=>k=w5.heap.size)).setCell (p:=⟨w5.heap.size,0,none⟩) (fun _=>rfl) (.slice A6 p.leader.length c6)
  have ax:=aa.out.set_ 0 (.slice A6 p.leader.length c6)
  have cu:w4.heap.size≤w5.heap.size:=by omega
  obtain⟨w7,bF⟩:∃w7,w6.setCell ⟨w5.heap.size,0,none⟩ (.slice A6 p.leader.length c6)=w7:=⟨_,rfl⟩
  rw [bF] at a2 ax
  have E:=hide (a7.out.trans (a2.below a7.out.size fun b hb e=>by omega))
  have aE:=aU.out.trans (a2.below aU.out.size fun b hb e=>by omega)
  have a9:=hide (aX.out.kept a2 (by omega))
  have aH:=LJ (w:=w7) (L:=p.states.length) ax (by have:=ak.out.kept a2 (by omega); rw [aM.out] at this; exact this) (b7.out.keep (w':=w7) (fun p C=>E.out.cell C) E.out.size) (bg.out.keep (w':=w7) (fun p C=>aE.cell C) aE.size) aZ (b1.out.below E.out)
  have ci:=(b6.out.b2.kept a2 (by omega)).cell
  clear a2 ax aE
  go_wp2_with fail
  refine Calls.ret aH ?_
  rintro r w8 ⟨G,t,ac,hC,hn,U⟩
  obtain⟨I,M,J,O,rfl,-,-⟩:=U w8 (Ac.refl _ _)
  have y:=a9.out.below G
  have bi:=y.frozen
  have bp:=y.lt
  have bh:=y.cell
  have bD:=G.size
  have bC:=E.out.size
  have bo:=a9.out.lt
  have ay:=hide (hC.congr (Λ':=C6 (BS p q) (AU p q)) fun z _=>by rw [hs.out])
  have aK:=hide hn
  obtain⟨lt,a4⟩:∃n,n=t.length:=⟨_,rfl⟩
  obtain⟨la,a3⟩:∃n,n=ac.length:=⟨_,rfl⟩
  rw [←a4,←a3]
  obtain⟨wF,aP,ab,V⟩:=Dm y (.slice I lt M) (.slice J la O)
  have aJ:(loadCellsFrom ⟨w2.heap.size,0,none⟩ 0 2 #[]).run Tryz.prog wF=.ok #[.slice I lt M,.slice J la O] wF:=Ah ab rfl
  have aG:=hide ((E.out.trans (G.mono E.out.size)).trans (V.below (by omega) fun b hb e=>by omega))
  have af:=hide (fun w'' (hk:Ac wF w'' (fun k=>k<w.heap.size))=>U w'' ((V.mono (fun b _ e=>by omega)).trans hk (fun b _ e=>by omega)))
  rw [←a4,←a3] at af
  unfold CY at aP
  clear hC hn U y G ab V a4 a3
  go_wp2_with fail
  refine bodyPost_ret (v:=.agg #[.slice I lt M,.slice J la O]) (by simp [results,Tryz.results33,go_sem,aJ]) rfl ⟨aG.out,t,ac,ay.out,aK.out,af.out⟩
 ·have hs:=hide (show BS p q=AU p q from if_neg h0)
  have E:=hide a7.out
  have a9:=hide aX.out
  have aH:=LJ (w:=w6) (L:=p.states.length) (f:=AU p q) (by have:=aa.out; rw [aM.out] at this; exact this) (by have:=ak.out; rw [aM.out] at this; exact this) b4.out b4.out aZ (b1.out.below a7.out)
  go_wp2_with fail
  refine Calls.ret aH ?_
  rintro r w8 ⟨G,t,ac,hC,hn,U⟩
  obtain⟨I,M,J,O,rfl,-,-⟩:=U w8 (Ac.refl _ _)
  have y:=a9.out.below G
  have bi:=y.frozen
  have bp:=y.lt
  have bh:=y.cell
  have bD:=G.size
  have bC:=E.out.size
  have bo:=a9.out.lt
  have ay:=hide (hC.congr (Λ':=C6 (BS p q) (AU p q)) fun z _=>by rw [hs.out])
  have aK:=hide hn
  obtain⟨lt,a4⟩:∃n,n=t.length:=⟨_,rfl⟩
  obtain⟨la,a3⟩:∃n,n=ac.length:=⟨_,rfl⟩
  rw [←a4,←a3]
  obtain⟨wF,aP,ab,V⟩:=Dm y (.slice I lt M) (.slice J la O)
  have aJ:(loadCellsFrom ⟨w2.heap.size,0,none⟩ 0 2 #[]).run Tryz.prog wF=.ok #[.slice I lt M,.slice J la O] wF:=Ah ab rfl
  have aG:=hide ((E.out.trans (G.mono E.out.size)).trans (V.below (by omega) fun b hb e=>by omega))
  have af:=hide (fun w'' (hk:Ac wF w'' (fun k=>k<w.heap.size))=>U w'' ((V.mono (fun b _ e=>by omega)).trans hk (fun b _ e=>by omega)))
  rw [←a4,←a3] at af
  unfold CY at aP
  clear hC hn U y G ab V a4 a3
  go_wp2_with fail
  refine bodyPost_ret (v:=.agg #[.slice I lt M,.slice J la O]) (by simp [results,Tryz.results33,go_sem,aJ]) rfl ⟨aG.out,t,ac,ay.out,aK.out,af.out⟩
end Go.Proofs.YtfcfpoemojjglaaGreatDoor
