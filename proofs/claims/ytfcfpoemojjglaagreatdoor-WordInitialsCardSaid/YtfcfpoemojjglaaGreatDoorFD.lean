/-
  Part FD of a proof.
-/
import Derived.Test.YtfcfpoemojjglaaGreatDoorPA
import Derived.Test.YtfcfpoemojjglaaGreatDoorEH
import Derived.Test.YtfcfpoemojjglaaGreatDoorFC
import Derived.Test.YtfcfpoemojjglaaGreatDoorFB
import Derived.Test.YtfcfpoemojjglaaGreatDoorEF
set_option maxHeartbeats 16000000
set_option maxRecDepth 100000
set_option linter.unusedVariables false
set_option linter.unusedSimpArgs false
namespace Go.Proofs.YtfcfpoemojjglaaGreatDoor
open Go.RowKit
open K (Am AO Ay Bh PQX Aj)
attribute [-go_sem] loadCellsFrom
set_option maxHeartbeats 16000000
set_option maxRecDepth 100000
theorem Pw {w:World} {cs ds:List Value} {p:Am} {q:AO} (h:Ay w w.heap.size cs p) (h':Bh w w.heap.size ds q) (b8:Gb p q) (hT:K.SpOK w) (hP:BW w)
  (ba:∀(wx:World) (pc qc:Array Value) (ga gb:Nat),PQX wx ga gb pc qc p q→Calls Tryz.prog 72 #[.agg pc,.agg qc] wx (Ret fun v w'=>Below wx.heap.size wx w'∧∃A c,v=.tuple #[.slice A (Ba p q).length c,.int .i64 0]∧Sl w' w'.heap.size 1 Ai A (Ba p q))):
  Calls Tryz.prog 33 #[.agg cs.toArray,.agg ds.toArray] w (Ret fun r w'=>Below w.heap.size w w'∧∃t ac,BR p.states.length t ac (Dw (B9 p q) (Ba p q))∧ac.length≤3∧∀w'',Ac w' w'' (fun k=>k<w.heap.size)→Bs w'' w''.heap.size r t ac):=by
 obtain⟨B1,d1,B2,d2,B3,d3,B4,d4,b9,-⟩:=h'.cells
 obtain⟨A1,c1,A2,c2,A3,c3,A4,c4,A5,c5,A6,c6,A7,c7,aN,br,bs,cz,bt,bu,bv,bw,bx,cA,bz,j1,j2,j3,j4,j5,j6,j7,j8⟩:=h.cells
 obtain⟨w1,cE,al,au,bj⟩:=Ag w cs.toArray 27
 obtain⟨w2,cF,aC,av,bk⟩:=Ag w1 ds.toArray 30
 obtain⟨w3,cG,am,aw,bl⟩:=Ag w2 #[sn0,sn0] 78
 have aA:=al.trans (aC.mono al.size)
 have W:=hide (aA.trans (am.mono aA.size))
 have ae:=hide (show PQX w3 w.heap.size w1.heap.size cs.toArray ds.toArray p q from⟨h.keep (fun _ C=>W.out.cell C) W.out.size,h'.keep (fun _ C=>W.out.cell C) W.out.size,(au.below aC).below am,av.below am,hT.below W.out⟩)
 have bf:=hide aw
 generalize bA:cs.toArray=pc at*
 generalize bB:ds.toArray=qc at*
 have cr:=Aj ae.out.b2 aN
 have cu:=Aj ae.out.b3 b9
 have bE:=hide ba
 have b7:=hide j6
 have bq:=hide b8
 have b1:=hide hP
 have cB:=hide aN
 have cp:=au.lt
 have cq:=av.lt
 have ct:=aw.lt
 have cD:=al.size
 clear j1 j2 j3 j4 j5 j6 j7 j8 h h' b8 hT hP ba al aC am aA au av aw bj bk bl bA bB aN b9 br bs bt bu bv bw bx bz
 go_enter Tryz.func33,Tryz.ntmps33
 go_wp2_with fail
 refine Calls.ret (bE.out _ _ _ _ _ ae.out) ?_
 rintro v w4 ⟨Z,AS,cS,rfl,hS⟩
 obtain⟨ns,aL⟩:∃n,n=(Ba p q).length:=⟨_,rfl⟩
 have aM:=hide aL
 rw [←aL]
 obtain⟨w5,cH,an,aj,bm⟩:=Ag w4 #[.slice AS ns cS] 24
 obtain⟨w6,cJ,aF,aY,bn⟩:=Ag w5 #[.slice AS ns cS] 24
 have aB:=W.out.trans (Z.mono W.out.size)
 have a8:=an.trans (aF.mono an.size)
 have a7:=hide (aB.trans (a8.mono aB.size))
 have aD:=Z.trans (a8.mono Z.size)
 have b6:=hide (ae.out.at aD)
 have b4:=hide (hS.keep (w':=w6) (B':=w6.heap.size) (fun p C=>a8.cell C) a8.size)
 have co:=hide (b7.out.keep (w':=w6) (B':=w6.heap.size) (fun p C=>a7.out.cell C) a7.out.size)
 have aX:=hide (bf.out.below aD)
 have ak:=hide (aj.below aF)
 have aa:=hide aY
 have bg:=hide hS
 have aU:=hide a8
 have ci:=b6.out.b2.cell
 have ck:=ak.out.cell
 have cm:=aa.out.cell
 have cn:=aa.out.frozen 0
 have cy:=aa.out.lt
 have cx:=ak.out.lt
 have cw:=aj.lt
 have ch:=Z.size
 have f5:=aj.cell
 have f2:=(ae.out.at (Z.trans (an.mono Z.size))).b2.cell
 clear Z hS aL an aj bm aF aY bn aB a8 aD
 have aZ:p.states.length≤8:=by have:=bq.out.L.2; omega
 by_cases h0:0<p.leader.length
 ·have hs:=hide (show B9 p q=p.leader from if_pos h0)
  have a2:=(Ac.refl w6 (fun k=>k=w5.heap.size)).setCell (p:=⟨w5.heap.size,0,none⟩) (fun _=>rfl) (.slice A6 p.leader.length c6)
  have ax:=aa.out.set_ 0 (.slice A6 p.leader.length c6)
  have cv:w4.heap.size≤w5.heap.size:=by omega
  obtain⟨w7,bF⟩:∃w7,w6.setCell ⟨w5.heap.size,0,none⟩ (.slice A6 p.leader.length c6)=w7:=⟨_,rfl⟩
  rw [bF] at a2 ax
  have E:=hide (a7.out.trans (a2.below a7.out.size fun b hb e=>by omega))
  have aE:=aU.out.trans (a2.below aU.out.size fun b hb e=>by omega)
  have a9:=hide (aX.out.kept a2 (by omega))
  have aH:=K9 (w:=w7) (L:=p.states.length) ax (by have:=ak.out.kept a2 (by omega); rw [aM.out] at this; exact this) (b7.out.keep (w':=w7) (fun p C=>E.out.cell C) E.out.size) (bg.out.keep (w':=w7) (fun p C=>aE.cell C) aE.size) aZ (b1.out.below E.out)
  have cj:=(b6.out.b2.kept a2 (by omega)).cell
  clear a2 ax aE
  go_wp2_with fail
  refine Calls.ret aH ?_
  rintro r w8 ⟨G,t,ac,hC,hn,U⟩
  obtain⟨I,M,J,O,rfl,-,-⟩:=U w8 (Ac.refl _ _)
  have y:=a9.out.below G
  have bi:=y.frozen
  have bp:=y.lt
  have bh:=y.cell
  have bD:=G.size
  have bC:=E.out.size
  have bo:=a9.out.lt
  have ay:=hide (hC.congr (Λ':=Dw (B9 p q) (Ba p q)) fun z _=>by rw [hs.out])
  have aK:=hide hn
  obtain⟨lt,a4⟩:∃n,n=t.length:=⟨_,rfl⟩
  obtain⟨la,a3⟩:∃n,n=ac.length:=⟨_,rfl⟩
  rw [←a4,←a3]
  obtain⟨wF,aP,ab,V⟩:=Dj y (.slice I lt M) (.slice J la O)
  have aJ:(loadCellsFrom ⟨w2.heap.size,0,none⟩ 0 2 #[]).run Tryz.prog wF=.ok #[.slice I lt M,.slice J la O] wF:=Aj ab rfl
  have aG:=hide ((E.out.trans (G.mono E.out.size)).trans (V.below (by omega) fun b hb e=>by omega))
  have af:=hide (fun w'' (hk:Ac wF w'' (fun k=>k<w.heap.size))=>U w'' ((V.mono (fun b _ e=>by omega)).trans hk (fun b _ e=>by omega)))
  rw [←a4,←a3] at af
  unfold CX at aP
  clear hC hn U y G ab V a4 a3
  go_wp2_with fail
  refine bodyPost_ret (v:=.agg #[.slice I lt M,.slice J la O]) (by simp [results,Tryz.results33,go_sem,aJ]) rfl ⟨aG.out,t,ac,ay.out,aK.out,af.out⟩
 ·have hs:=hide (show B9 p q=Ba p q from if_neg h0)
  have E:=hide a7.out
  have a9:=hide aX.out
  have aH:=K9 (w:=w6) (L:=p.states.length) (f:=Ba p q) (by have:=aa.out; rw [aM.out] at this; exact this) (by have:=ak.out; rw [aM.out] at this; exact this) b4.out b4.out aZ (b1.out.below a7.out)
  go_wp2_with fail
  refine Calls.ret aH ?_
  rintro r w8 ⟨G,t,ac,hC,hn,U⟩
  obtain⟨I,M,J,O,rfl,-,-⟩:=U w8 (Ac.refl _ _)
  have y:=a9.out.below G
  have bi:=y.frozen
  have bp:=y.lt
  have bh:=y.cell
  have bD:=G.size
  have bC:=E.out.size
  have bo:=a9.out.lt
  have ay:=hide (hC.congr (Λ':=Dw (B9 p q) (Ba p q)) fun z _=>by rw [hs.out])
  have aK:=hide hn
  obtain⟨lt,a4⟩:∃n,n=t.length:=⟨_,rfl⟩
  obtain⟨la,a3⟩:∃n,n=ac.length:=⟨_,rfl⟩
  rw [←a4,←a3]
  obtain⟨wF,aP,ab,V⟩:=Dj y (.slice I lt M) (.slice J la O)
  have aJ:(loadCellsFrom ⟨w2.heap.size,0,none⟩ 0 2 #[]).run Tryz.prog wF=.ok #[.slice I lt M,.slice J la O] wF:=Aj ab rfl
  have aG:=hide ((E.out.trans (G.mono E.out.size)).trans (V.below (by omega) fun b hb e=>by omega))
  have af:=hide (fun w'' (hk:Ac wF w'' (fun k=>k<w.heap.size))=>U w'' ((V.mono (fun b _ e=>by omega)).trans hk (fun b _ e=>by omega)))
  rw [←a4,←a3] at af
  unfold CX at aP
  clear hC hn U y G ab V a4 a3
  go_wp2_with fail
  refine bodyPost_ret (v:=.agg #[.slice I lt M,.slice J la O]) (by simp [results,Tryz.results33,go_sem,aJ]) rfl ⟨aG.out,t,ac,ay.out,aK.out,af.out⟩
end Go.Proofs.YtfcfpoemojjglaaGreatDoor
namespace Go.Proofs.YtfcfpoemojjglaaGreatDoor
open Go.RowKit
open K (Am AO Ay Bh PQX Aj)
attribute [-go_sem] loadCellsFrom
set_option maxHeartbeats 16000000
set_option maxRecDepth 100000
theorem QT {w:World} {cs ds:List Value} {p:Am} {q:AO} (h:Ay w w.heap.size cs p) (h':Bh w w.heap.size ds q) (ae:Gb p q) (aA:p.Small) (aG:q.Small) (bi:¬(Ce p.states.length (B9 p q) (Ba p q)).nf.Large 4):
  Calls Tryz.prog 36 #[.agg cs.toArray,.agg ds.toArray] w (Ret fun r w'=>Im w (Ce p.states.length (B9 p q) (Ba p q)) 4 r w'):=by
 obtain⟨B1,d1,B2,d2,B3,d3,B4,d4,bo,-⟩:=h'.cells
 obtain⟨A1,c1,A2,c2,A3,c3,A4,c4,A5,c5,A6,c6,A7,c7,bm,bO,bP,cO,bQ,bR,bS,bT,bU,cQ,bV,j1,j2,j3,j4,j5,j6,j7,j8⟩:=h.cells
 obtain⟨w1,cR,aP,ab,bE⟩:=Ag w cs.toArray 27
 obtain⟨w2,cU,W,aE,bF⟩:=Ag w1 ds.toArray 30
 obtain⟨w3,cV,O,b9,bG⟩:=Ag w2 BU 35
 obtain⟨w4,cW,J,ba,bH⟩:=Ag w3 #[.int .i64 0] 3
 obtain⟨w5,cX,M,bb,bI⟩:=Ag w4 #[.int .i64 1] 3
 obtain⟨w6,cY,Z,aF,bJ⟩:=Ag w5 BU 35
 obtain⟨w7,bX,bw,a8⟩:=Dk aF (.int .i64 (p.states.length:Int)) (.int .i64 2) (.slice (some ⟨w3.heap.size,0,none⟩) 1 1) (.slice (some ⟨w4.heap.size,0,none⟩) 1 1) sn0
 have f1:=((ab.below W).below O).cell
 have f6:=aF.frozen
 have l6:=aF.lt
 have g6:=aF.cell
 unfold CK at bX
 generalize bk:cs.toArray=pc at*
 generalize bn:ds.toArray=qc at*
 have aH:=aP.trans ((W.trans (O.mono W.size)).mono aP.size)
 have aD:=aH.trans ((J.trans (M.mono J.size)).mono aH.size)
 have aJ:=aD.trans (Z.mono aD.size)
 have aa:=hide (aJ.trans (a8.below aJ.size fun b hb e=>by have:=aD.size; omega))
 have q1:=ab.lt
 have q2:=aE.lt
 have q3:=b9.lt
 have q4:=ba.lt
 have q5:=bb.lt
 have e2:=W.size
 have e3:=O.size
 have e4:=J.size
 have e5:=M.size
 have m7:Hid (IwM w w7 w.heap.size w2.heap.size w5.heap.size w3.heap.size pc p.states.length 2 (.slice (some ⟨w4.heap.size,0,none⟩) 1 1) sn0 [1] []):=
  hide ⟨aa.out,(((((ab.below W).below O).below J).below M).below Z).kept a8 (by omega),(((b9.below J).below M).below Z).kept a8 (by omega),bw,((ba.below M).below Z).kept a8 (by omega),
   DC (base:=w.heap.size) (n:=1) ((bb.below Z).kept a8 (by omega)) (by omega) rfl (by omega),Ca,by simp [Value.ownBlock]; omega,by omega,⟨by omega,by omega,by omega,by omega⟩⟩
 have bK:=Aj ((((((ab.below W).below O).below J).below M).below Z).kept a8 (by have:=ab.lt; have:=W.size; have:=O.size; have:=J.size; have:=M.size; omega)) bm
 have bL:=Aj (((((aE.below O).below J).below M).below Z).kept a8 (by have:=aE.lt; have:=O.size; have:=J.size; have:=M.size; omega)) bo
 have aX:=QY (w:=w7) (cs:=cs) (ds:=ds) (p:=p) (q:=q) (h.keep (fun _ hp=>aa.out.cell hp) aa.out.size) (h'.keep (fun _ hp=>aa.out.cell hp) aa.out.size) aA aG
 rw [bk,bn] at aX
 clear bm bo aP W O J M Z ab aE bE bF bG bH bI bJ aH aD aJ bk bn bO bP bQ bR bS bT bU bV h h' j1 j2 j3 j4 j5 j7 j8
 go_enter Tryz.func36,Tryz.ntmps36
 go_wp2_with fail
 refine Calls.ret aX ?_
 rintro v w8 ⟨bf,aN⟩
 have ad:Hid (IwS w w8 w.heap.size w2.heap.size w5.heap.size w3.heap.size pc p.states.length (.slice (some ⟨w4.heap.size,0,none⟩) 1 1) sn0 v (Ba p q) []):=hide ⟨m7.out.keep bf,DB aN aa.out.size⟩
 obtain⟨AT,cT,rfl⟩:=AG aN
 have cM:=ad.out.mem.b2.cell
 clear aN bf aX
 have aU:(Ba p q).length≤60:=by unfold Ba; have h1:=aA.initial; have h2:=aG.start; split <;> assumption
 have bd:=hide ae.L
 have bj:=hide bi
 have bh:=hide (WA.ok_iff.1 (Lt (f:=B9 p q) (s:=Ba p q) ⟨ae.L.1,by have:=ae.L.2; omega⟩ ae.lead ae.starts)).2
 clear bK bL bi ae
 by_cases h0:0<p.leader.length
 ·have V:=hide (show B9 p q=p.leader from if_pos h0)
  have bD:=hide j6
  have ax:=aA.leader
  have ay:=hide (show ∀i x,p.leader[i]?=some x→∃b o,A6=some ⟨b,o,none⟩∧∀wr vE es,IwS w wr w.heap.size w2.heap.size w5.heap.size w3.heap.size pc p.states.length (.slice (some ⟨w4.heap.size,0,none⟩) 1 1) vE (.slice AT (Ba p q).length cT) (Ba p q) es→wr.cell? ⟨b,o+i,none⟩=some (.int .i64 x) from fun i x hx=>by
   obtain⟨bl,ol,y,hA,bx,hy,bB⟩:=bD.out.at (AM hx)
   rw [hx] at hy
   obtain rfl:=Option.some.inj hy
   refine⟨bl,ol,hA,fun wr vE es hI=>?_⟩
   have bg:=bB 0 (by omega)
   simp only [Ai,Nat.mul_one,Nat.add_zero] at bg
   exact(hI.mem.below.cell (p:=⟨bl,ol+i,none⟩) bx).trans bg)
  clear f1 f6 g6 j6 aA aG
  go_wp2_with fail
  refine Kk (AL:=A6) (cL:=c6) (lead:=p.leader) ad.out ay.out ax (by repeat (first | exact Reg.NoQ.body (fun _ _ h=>h) (fun _ h=>h) | refine Reg.NoQ.then ?_ | refine Reg.NoQ.inBlock ?_)) ?_
  iterate 16 (intro _)
  intro w9 cc aq
  have ar:=hide aq
  clear aq
  go_wp2_with fail
  refine Kl (e0:=(p.leader).map fun x=>⟨0,x,1⟩) ar.out aU (by rw [List.length_map]; exact ax) (by repeat (first | exact Reg.NoQ.body (fun _ _ h=>h) (fun _ h=>h) | refine Reg.NoQ.then ?_ | refine Reg.NoQ.inBlock ?_)) ?_
  iterate 16 (intro _)
  intro wr vE G
  obtain⟨AE,cE,rfl⟩:=AG G.mem.eds
  have hW:=G.mem.fin (Ac.refl _ _) (by simp) (by simp; omega)
  have hE:=Kg (k:=4) (a:=Ce p.states.length (p.leader) (Ba p q)) (by omega) (by have:=bj.out; rw [V.out] at this; exact this) hW (by have:=bh.out; rw [V.out] at this; exact this) ⟨by show(0:Int)≤2; omega,by show(2:Int)≤200000; omega⟩ ⟨by show(0:Int)≤(p.states.length:Int); omega,by show(p.states.length:Int)≤8; have:=bd.out; omega⟩
  obtain⟨m,hm⟩:∃m,(((p.leader).map fun x=>(⟨0,x,1⟩:Edg))++(Ba p q).map fun x=>(⟨1,x,1⟩:Edg)).length=m:=⟨_,rfl⟩
  have a7:=G.mem.b5
  rw [hm] at hE a7
  have aS:(loadCellsFrom ⟨w5.heap.size,0,none⟩ 0 5 #[]).run Tryz.prog wr=.ok _ wr:=Aj a7 rfl
  have a4:=hide G.mem.b4
  have a3:=hide G.mem.below
  have ap:=hide hE
  have az:=hide V.out
  clear G hW hE a7 ad ar ay hm m7 V
  go_wp2_with fail
  refine Calls.ret ap.out ?_
  rintro d w7 ⟨U,C,z,hC,av,hI⟩
  obtain⟨ah,ak,ai,al,aj,am,rfl,-,-,-,-⟩:=hI w7 (Ac.refl _ _)
  have I:=a4.out.below U
  have bC:=I.frozen
  have bM:=I.lt
  have bz:=I.cell
  have bW:=U.size
  have aW:=a3.out.size
  have aM:=hide (show BR (Ce p.states.length (B9 p q) (Ba p q)).L C z (Ce p.states.length (B9 p q) (Ba p q)).lang from by rw [az.out]; exact hC)
  have aO:=hide av
  have E:=hide (show ∀w'',Ac w7 w'' (fun k=>k<wr.heap.size)→Bk w'' w''.heap.size _ (Be (Ce p.states.length (B9 p q) (Ba p q)).L C z) from by rw [az.out]; exact hI)
  have bN:=a4.out.lt
  clear hI hC av ap
  generalize (Be _ C z).letters=x0 at E ⊢
  generalize (Be _ C z).states=x1 at E ⊢
  generalize (Be _ C z).start.length=n1 at E ⊢
  generalize (Be _ C z).accept.length=n2 at E ⊢
  generalize (Be _ C z).edges.length=n3 at E ⊢
  obtain⟨wF,aY,an,a6⟩:=Dk I (.int .i64 x0) (.int .i64 x1) (.slice ah n1 ak) (.slice ai n2 al) (.slice aj n3 am)
  have aT:(loadCellsFrom ⟨w2.heap.size,0,none⟩ 0 5 #[]).run Tryz.prog wF=.ok _ wF:=Aj an rfl
  have aQ:=hide ((a3.out.trans (U.mono aW)).trans (a6.below (by omega) fun b hb e=>by omega))
  have aR:=hide (fun w'' (hk:Ac wF w'' (fun k=>k<w.heap.size))=>E.out w'' ((a6.mono (fun b _ e=>by omega)).trans hk (fun b _ e=>by omega)))
  unfold CK at aY
  clear E I an a6 U a4 a3 aS
  go_wp2_with fail
  refine bodyPost_ret (v:=.agg #[.int .i64 x0,.int .i64 x1,.slice ah n1 ak,.slice ai n2 al,.slice aj n3 am]) (by simp [results,Tryz.results36,go_sem,aT]) rfl ⟨aQ.out,C,z,aM.out,aO.out,aR.out⟩
 ·have V:=hide (show B9 p q=Ba p q from if_neg h0)
  have ax:=aU
  have ay:=hide (show ∀i x,(Ba p q)[i]?=some x→∃b o,AT=some ⟨b,o,none⟩∧∀wr vE es,IwS w wr w.heap.size w2.heap.size w5.heap.size w3.heap.size pc p.states.length (.slice (some ⟨w4.heap.size,0,none⟩) 1 1) vE (.slice AT (Ba p q).length cT) (Ba p q) es→wr.cell? ⟨b,o+i,none⟩=some (.int .i64 x) from fun i x hx=>by
   obtain⟨b,cS,e,-⟩:=C7 ad.out.str (AX (f:=Value.int .i64) hx)
   cases e
   refine⟨b,0,rfl,fun wr vE es hI=>?_⟩
   obtain⟨b',cx,e',bA⟩:=C7 hI.str (AX (f:=Value.int .i64) hx)
   cases e'
   rw [Nat.zero_add]
   exact bA)
  clear f1 f6 g6 j6 aA aG
  go_wp2_with fail
  refine Kk (AL:=AT) (cL:=cT) (lead:=Ba p q) ad.out ay.out ax (by repeat (first | exact Reg.NoQ.body (fun _ _ h=>h) (fun _ h=>h) | refine Reg.NoQ.then ?_ | refine Reg.NoQ.inBlock ?_)) ?_
  iterate 16 (intro _)
  intro w9 cc aq
  have ar:=hide aq
  clear aq
  go_wp2_with fail
  refine Kl (e0:=(Ba p q).map fun x=>⟨0,x,1⟩) ar.out aU (by rw [List.length_map]; exact ax) (by repeat (first | exact Reg.NoQ.body (fun _ _ h=>h) (fun _ h=>h) | refine Reg.NoQ.then ?_ | refine Reg.NoQ.inBlock ?_)) ?_
  iterate 16 (intro _)
  intro wr vE G
  obtain⟨AE,cE,rfl⟩:=AG G.mem.eds
  have hW:=G.mem.fin (Ac.refl _ _) (by simp) (by simp; omega)
  have hE:=Kg (k:=4) (a:=Ce p.states.length (Ba p q) (Ba p q)) (by omega) (by have:=bj.out; rw [V.out] at this; exact this) hW (by have:=bh.out; rw [V.out] at this; exact this) ⟨by show(0:Int)≤2; omega,by show(2:Int)≤200000; omega⟩ ⟨by show(0:Int)≤(p.states.length:Int); omega,by show(p.states.length:Int)≤8; have:=bd.out; omega⟩
  obtain⟨m,hm⟩:∃m,(((Ba p q).map fun x=>(⟨0,x,1⟩:Edg))++(Ba p q).map fun x=>(⟨1,x,1⟩:Edg)).length=m:=⟨_,rfl⟩
  have a7:=G.mem.b5
  rw [hm] at hE a7
  have aS:(loadCellsFrom ⟨w5.heap.size,0,none⟩ 0 5 #[]).run Tryz.prog wr=.ok _ wr:=Aj a7 rfl
  have a4:=hide G.mem.b4
  have a3:=hide G.mem.below
  have ap:=hide hE
  have az:=hide V.out
  clear G hW hE a7 ad ar ay hm m7 V
  go_wp2_with fail
  refine Calls.ret ap.out ?_
  rintro d w7 ⟨U,C,z,hC,av,hI⟩
  obtain⟨ah,ak,ai,al,aj,am,rfl,-,-,-,-⟩:=hI w7 (Ac.refl _ _)
  have I:=a4.out.below U
  have bC:=I.frozen
  have bM:=I.lt
  have bz:=I.cell
  have bW:=U.size
  have aW:=a3.out.size
  have aM:=hide (show BR (Ce p.states.length (B9 p q) (Ba p q)).L C z (Ce p.states.length (B9 p q) (Ba p q)).lang from by rw [az.out]; exact hC)
  have aO:=hide av
  have E:=hide (show ∀w'',Ac w7 w'' (fun k=>k<wr.heap.size)→Bk w'' w''.heap.size _ (Be (Ce p.states.length (B9 p q) (Ba p q)).L C z) from by rw [az.out]; exact hI)
  have bN:=a4.out.lt
  clear hI hC av ap
  generalize (Be _ C z).letters=x0 at E ⊢
  generalize (Be _ C z).states=x1 at E ⊢
  generalize (Be _ C z).start.length=n1 at E ⊢
  generalize (Be _ C z).accept.length=n2 at E ⊢
  generalize (Be _ C z).edges.length=n3 at E ⊢
  obtain⟨wF,aY,an,a6⟩:=Dk I (.int .i64 x0) (.int .i64 x1) (.slice ah n1 ak) (.slice ai n2 al) (.slice aj n3 am)
  have aT:(loadCellsFrom ⟨w2.heap.size,0,none⟩ 0 5 #[]).run Tryz.prog wF=.ok _ wF:=Aj an rfl
  have aQ:=hide ((a3.out.trans (U.mono aW)).trans (a6.below (by omega) fun b hb e=>by omega))
  have aR:=hide (fun w'' (hk:Ac wF w'' (fun k=>k<w.heap.size))=>E.out w'' ((a6.mono (fun b _ e=>by omega)).trans hk (fun b _ e=>by omega)))
  unfold CK at aY
  clear E I an a6 U a4 a3 aS
  go_wp2_with fail
  refine bodyPost_ret (v:=.agg #[.int .i64 x0,.int .i64 x1,.slice ah n1 ak,.slice ai n2 al,.slice aj n3 am]) (by simp [results,Tryz.results36,go_sem,aT]) rfl ⟨aQ.out,C,z,aM.out,aO.out,aR.out⟩
end Go.Proofs.YtfcfpoemojjglaaGreatDoor
