/-
  Part HD of a proof.
-/
import Derived.Test.YtfcfpoemojjglaaGreatDoorHA
import Derived.Test.YtfcfpoemojjglaaGreatDoorCJ
import Derived.Test.YtfcfpoemojjglaaGreatDoorPA
import Derived.Test.YtfcfpoemojjglaaGreatDoorCA
set_option maxHeartbeats 16000000
set_option maxRecDepth 100000
set_option linter.unusedVariables false
set_option linter.unusedSimpArgs false
namespace Go.Proofs.YtfcfpoemojjglaaGreatDoor
open Go.RowKit
open K (Am AB D9 At Ba Db BR PQX Ah)
attribute [-go_sem] loadCellsFrom
set_option maxHeartbeats 16000000
set_option maxRecDepth 100000
def V7 (w:World) (g:Nat) (v0 v1 v2 v3 v4 v5 v6:Value):World:=((((((w.setCell ⟨g,0,none⟩ v0).setCell ⟨g,1,none⟩ v1).setCell ⟨g,2,none⟩ v2).setCell ⟨g,3,none⟩ v3).setCell ⟨g,4,none⟩ v4).setCell ⟨g,5,none⟩ v5).setCell ⟨g,6,none⟩ v6
theorem Vf {w:World} {g:Nat} {e:TypeId} {cs:Array Value} (h:Blk w g e cs) (k:Nat) (v:Value):∃wF,w.setCell ⟨g,k,none⟩ v=wF∧Blk wF g e (cs.setIfInBounds k v)∧Ac w wF (fun k=>k=g):=
 ⟨_,rfl,h.set_ k v,(Ac.refl w (fun k=>k=g)).setCell (p:=⟨g,k,none⟩) (fun _=>rfl) _⟩
theorem Vg {w:World} {g:Nat} {e:TypeId} {a0 a1 C E G I J:Value} (h:Blk w g e #[a0,a1,C,E,G,I,J]) (v0 v1 v2 v3 y v5 z:Value):∃wF,V7 w g v0 v1 v2 v3 y v5 z=wF∧Blk wF g e #[v0,v1,v2,v3,y,v5,z]∧Ac w wF (fun k=>k=g):=
 ⟨_,rfl,((((((h.set_ 0 v0).set_ 1 v1).set_ 2 v2).set_ 3 v3).set_ 4 y).set_ 5 v5).set_ 6 z,(((((((Ac.refl w (fun k=>k=g)).setCell (p:=⟨g,0,none⟩) (fun _=>rfl) _).setCell (p:=⟨g,1,none⟩) (fun _=>rfl) _).setCell (p:=⟨g,2,none⟩) (fun _=>rfl) _).setCell (p:=⟨g,3,none⟩) (fun _=>rfl) _).setCell (p:=⟨g,4,none⟩) (fun _=>rfl) _).setCell (p:=⟨g,5,none⟩) (fun _=>rfl) _).setCell (p:=⟨g,6,none⟩) (fun _=>rfl) _⟩
structure SB (w:World) (g5 g7 g1 g3 bb ob:Nat) (pc qc:Array Value) (ya yb:Int) (wx:World) (cs:Array Value):Prop where
 bl:Blk wx g5 133 cs
 z:Blk wx g7 133 #[.bool false,.int .i64 0,.int .i64 0,.int .i64 0,.bool false,.bool false,.bool false]
 b:Below w.heap.size w wx
 p:Blk wx g3 27 pc
 q:Blk wx g1 30 qc
 a:wx.cell? ⟨bb,ob,none⟩=some (.int .i64 ya)
 a':wx.cell? ⟨bb,ob+1,none⟩=some (.int .i64 yb)
 ge:w.heap.size≤g5∧g5≠g7∧w.heap.size≤g7∧g1<w.heap.size∧g3<w.heap.size∧bb<w.heap.size
section
variable {w:World} {g5 g7 g1 g3 bb ob:Nat} {pc qc:Array Value} {ya yb:Int} {wx:World} {cs:Array Value}
theorem SB.set (h:SB w g5 g7 g1 g3 bb ob pc qc ya yb wx cs) (k:Nat) (v:Value) (E:Array Value) (M:cs.setIfInBounds k v=E):∃wF,wx.setCell ⟨g5,k,none⟩ v=wF∧SB w g5 g7 g1 g3 bb ob pc qc ya yb wF E:=by
 subst M
 obtain⟨wF,G,I,hk⟩:=Vf h.bl k v
 have y:=h.ge
 have C:Below w.heap.size wx wF:=hk.below h.b.size fun b hb (e:b=g5)=>by omega
 have J:=h.b.trans C
 exact⟨wF,G,I,h.z.kept hk (fun e=>y.2.1 e.symm),J,h.p.kept hk (by omega),h.q.kept hk (by omega),(C.cell (p:=⟨bb,ob,none⟩) y.2.2.2.2.2).trans h.a,(C.cell (p:=⟨bb,ob+1,none⟩) y.2.2.2.2.2).trans h.a',y⟩
theorem SB.get (h:SB w g5 g7 g1 g3 bb ob pc qc ya yb wx cs):(∀k,wx.cell? ⟨g5,k,none⟩=cs[k]?)∧(∀k,wx.frozen? ⟨g5,k,none⟩=false)∧g5<wx.heap.size∧(∀k,wx.cell? ⟨g1,k,none⟩=qc[k]?)∧(∀k,wx.cell? ⟨g3,k,none⟩=pc[k]?)∧wx.cell? ⟨bb,ob,none⟩=some (.int .i64 ya)∧wx.cell? ⟨bb,ob+1,none⟩=some (.int .i64 yb):=
 ⟨h.bl.cell,fun k=>h.bl.frozen k,h.bl.lt,h.q.cell,h.p.cell,h.a,h.a'⟩
theorem SB.fin (h:SB w g5 g7 g1 g3 bb ob pc qc ya yb wx cs) (I:cs.size=7) (v0 v1 v2 v3 y v5 C:Value):∃wF,((loadCellsFrom ⟨g5,0,none⟩ 0 7 #[]).run Tryz.prog wx=.ok cs wx)∧(((((((wx.setCell ⟨g7,0,none⟩ v0).setCell ⟨g7,1,none⟩ v1).setCell ⟨g7,2,none⟩ v2).setCell ⟨g7,3,none⟩ v3).setCell ⟨g7,4,none⟩ y).setCell ⟨g7,5,none⟩ v5).setCell ⟨g7,6,none⟩ C)=wF∧
  ((loadCellsFrom ⟨g7,0,none⟩ 0 7 #[]).run Tryz.prog wF=.ok #[v0,v1,v2,v3,y,v5,C] wF)∧(∀k,wx.frozen? ⟨g7,k,none⟩=false)∧g7<wx.heap.size∧(∀k,wx.cell? ⟨g7,k,none⟩=(#[.bool false,.int .i64 0,.int .i64 0,.int .i64 0,.bool false,.bool false,.bool false]:Array Value)[k]?)∧Hid (Below w.heap.size w wF):=by
 obtain⟨wF,E,G,hk⟩:=Vg h.z v0 v1 v2 v3 y v5 C
 have J:=h.ge
 exact⟨wF,Ah h.bl I,E,Ah G rfl,fun k=>h.z.frozen k,h.z.lt,h.z.cell,hide (h.b.trans (hk.below h.b.size fun b hb (e:b=g7)=>by omega))⟩
structure SBn (w:World) (g5 g7:Nat) (wx:World) (cs:Array Value):Prop where
 bl:Blk wx g5 133 cs
 z:Blk wx g7 133 #[.bool false,.int .i64 0,.int .i64 0,.int .i64 0,.bool false,.bool false,.bool false]
 b:Below w.heap.size w wx
 ge:w.heap.size≤g5∧g5≠g7∧w.heap.size≤g7
theorem SBn.set (h:SBn w g5 g7 wx cs) (k:Nat) (v:Value) (y:Array Value) (I:cs.setIfInBounds k v=y):∃wF,wx.setCell ⟨g5,k,none⟩ v=wF∧SBn w g5 g7 wF y:=by
 subst I
 obtain⟨wF,E,G,hk⟩:=Vf h.bl k v
 have C:=h.ge
 exact⟨wF,E,G,h.z.kept hk (fun e=>C.2.1 e.symm),h.b.trans (hk.below h.b.size fun b hb (e:b=g5)=>by omega),C⟩
theorem SBn.get (h:SBn w g5 g7 wx cs):(∀k,wx.cell? ⟨g5,k,none⟩=cs[k]?)∧(∀k,wx.frozen? ⟨g5,k,none⟩=false)∧g5<wx.heap.size∧True∧True∧True∧True:=⟨h.bl.cell,fun k=>h.bl.frozen k,h.bl.lt,trivial,trivial,trivial,trivial⟩
theorem SBn.fin (h:SBn w g5 g7 wx cs) (I:cs.size=7) (v0 v1 v2 v3 y v5 C:Value):∃wF,((loadCellsFrom ⟨g5,0,none⟩ 0 7 #[]).run Tryz.prog wx=.ok cs wx)∧(((((((wx.setCell ⟨g7,0,none⟩ v0).setCell ⟨g7,1,none⟩ v1).setCell ⟨g7,2,none⟩ v2).setCell ⟨g7,3,none⟩ v3).setCell ⟨g7,4,none⟩ y).setCell ⟨g7,5,none⟩ v5).setCell ⟨g7,6,none⟩ C)=wF∧
  ((loadCellsFrom ⟨g7,0,none⟩ 0 7 #[]).run Tryz.prog wF=.ok #[v0,v1,v2,v3,y,v5,C] wF)∧(∀k,wx.frozen? ⟨g7,k,none⟩=false)∧g7<wx.heap.size∧(∀k,wx.cell? ⟨g7,k,none⟩=(#[.bool false,.int .i64 0,.int .i64 0,.int .i64 0,.bool false,.bool false,.bool false]:Array Value)[k]?)∧Hid (Below w.heap.size w wF):=by
 obtain⟨wF,E,G,hk⟩:=Vg h.z v0 v1 v2 v3 y v5 C
 have J:=h.ge
 exact⟨wF,Ah h.bl I,E,Ah G rfl,fun k=>h.z.frozen k,h.z.lt,h.z.cell,hide (h.b.trans (hk.below h.b.size fun b hb (e:b=g7)=>by omega))⟩
end
theorem V5 {w:World} {g1 g2 g3:Nat} {pc qc:Array Value} {p:Am} {q:AB} (hX:PQX w g3 g1 pc qc p q) (hd:Blk w g2 4 #[.bool (decide (0<q.adj.length))]) (cf:UJ p q) (s:Sc3) (x:Nat) (hs:s.Le):
  Calls Tryz.prog 79 #[UA s,.int .i64 (x:Int),.pointer (some ⟨g1,0,none⟩),.pointer (some ⟨g2,0,none⟩),.pointer (some ⟨g3,0,none⟩)] w (Ret fun v w'=>v=UA (Ux (Uw q) (Uy q) (decide (p.topo=3)) s x)∧Below w.heap.size w w'):=by
 obtain⟨B1,d1,B2,d2,B3,d3,B4,d4,du,af,ai,aj,ag,b5,bu,k1,k2,k3,k4⟩:=hX.qr.cells
 obtain⟨A1,c1,A2,c2,A3,c3,A4,c4,A5,c5,A6,c6,A7,c7,dq,ae,ab,-⟩:=hX.pr.cells
 replace ag:qc[3]?=some (.slice B2 q.bad.length d2):=ag
 replace b5:qc[4]?=some (.slice B3 q.adj.length d3):=b5
 replace ab:pc[1]?=some (.int .i64 p.topo):=ab
 obtain⟨M,s0,s1,s2,sf,so,sc⟩:=s
 obtain⟨w1,ee,a9,bJ,dh⟩:=Ae w #[.bool M,.int .i64 (s0:Int),.int .i64 (s1:Int),.int .i64 (s2:Int),.bool sf,.bool so,.bool sc] 133
 obtain⟨w2,ef,aa,bK,di⟩:=Ae w1 #[.bool false,.int .i64 0,.int .i64 0,.int .i64 0,.bool false,.bool false,.bool false] 133
 have cy:=hide (a9.trans (aa.mono a9.size))
 have eb:=a9.size
 have ec:=aa.size
 have ax:=bJ.lt
 have ay:=bK.lt
 have cu:=hide (show Blk w2 w.heap.size 133 #[.bool M,.int .i64 (scK (Uw q) x 0 0 s0:Int),.int .i64 (scK (Uw q) x 0 1 s1:Int),.int .i64 (scK (Uw q) x 0 2 s2:Int),.bool sf,.bool so,.bool sc] from bJ.below aa)
 have cw:=hide bK
 have d6:=hide hX
 have dc:=hide hd
 have bt:=hide cf
 have ck:=hide hs
 have dj:=hide k2
 have dk:=hide k3
 have df:g1<w.heap.size:=hX.b3.lt
 have dg:g3<w.heap.size:=hX.b2.lt
 have e5:g2<w.heap.size:=hd.lt
 have cU:=(hX.b3.below cy.out).cell
 obtain⟨nb,cd⟩:∃n,n=q.bad.length:=⟨_,rfl⟩
 have cF:=hide cd
 have dm:=cf.b3
 rw [←cd] at ag dm
 have ea:=hide ag
 have dr:=hide b5
 have dn:=hide ab
 clear hX hd cf hs k1 k2 k3 k4 a9 aa bJ bK dh di af ai aj b5 bu ae ab dq du cd
 unfold UA
 go_enter Tryz.func79,Tryz.ntmps79
 go_wp2_with fail
 go_loopw [13] (fun ii wr=>∃i:Nat,ii=.int .i64 (i:Int)∧i≤nb∧Hid (Below w.heap.size w wr)∧Hid (w2.heap.size≤wr.heap.size)∧Hid (Blk wr w.heap.size 133 #[.bool M,.int .i64 (scK (Uw q) x i 0 s0:Int),.int .i64 (scK (Uw q) x i 1 s1:Int),.int .i64 (scK (Uw q) x i 2 s2:Int),.bool sf,.bool so,.bool sc])∧Hid (Blk wr w1.heap.size 133 #[.bool false,.int .i64 0,.int .i64 0,.int .i64 0,.bool false,.bool false,.bool false])) (fun ii _=>nb - (intOf ii).toNat)
 case atStart=>exact⟨0,rfl,Nat.zero_le _,cy,hide (Nat.le_refl _),cu,cw⟩
 case round=>
  obtain⟨i,rfl,hi,hB,hS,hI,hZ⟩:=hrel
  clear cU cu cw
  by_cases dl:i<nb
  ·obtain⟨b,cQ,c,cs,hA,e4,he,cH,bV,hR⟩:=(dj.out.keep (w':=wr) (B':=w.heap.size) (R':=Db wr w.heap.size) (fun _ hp=>hB.out.cell hp) (fun _ _ h=>h.keep (fun _ hp=>hB.out.cell hp) (Nat.le_refl _)) (Nat.le_refl _)).at (show i<q.bad.length by rw [←cF.out]; exact dl)
   obtain⟨E1,f1,rfl,bM⟩:=hR
   subst hA
   have cD:(loadCellsFrom ⟨b,cQ+i*2,none⟩ 0 2 #[]).run Tryz.prog wr=.ok #[.slice E1 c.states.length f1,.int .i64 c.least] wr:=by
    have:=run_loadCells_list (P:=Tryz.prog) wr ⟨b,cQ+i*2,none⟩ [.slice E1 c.states.length f1,.int .i64 c.least] (fun j v hv=>by rw [Addr.add_mid]; exact bV j v hv)
    simpa [loadCells] using this
   obtain⟨w5,dx,b0,bk,cB⟩:=Ae wr #[.slice E1 c.states.length f1,.int .i64 c.least] 119
   have dv:=b0.size
   have bC:=K.containsI_any (c:=f1) (x:=(x:Int)) (bM.keep (w':=w5) (B':=w5.heap.size) (fun _ hp=>b0.cell (by have:=hB.out.size; omega)) (by have:=hB.out.size; omega))
   have bq:=U6 he
   have cE:=bt.out.le c (List.mem_of_getElem? he)
   have e7:i<3:=by omega
   obtain⟨ns,ce⟩:∃n,n=c.states.length:=⟨_,rfl⟩
   rw [←ce] at cD dx bk bC
   have bD:=hide bC
   have bm:=hI.out.below b0
   have cx:=hide (hZ.out.below b0)
   have bI:=hide (hB.out.trans (b0.mono hB.out.size))
   have bz:=hide (Nat.le_trans hS.out dv)
   have dX:=bk.cell
   have e9:=hide cE
   have e3:=hide bq
   cases bh:decide ((x:Int)∈c.states)
   ·have bF:∀k cc,scK (Uw q) x (i+1) k cc=scK (Uw q) x i k cc:=fun k cc=>by
     by_cases e:k=i
     ·subst e
      rw [UX,UY]
      unfold scU
      rw [bq]
      exact if_neg (of_decide_eq_false bh)
     ·exact UM e
    have d0:=hide (show Blk w5 w.heap.size 133 #[.bool M,.int .i64 (scK (Uw q) x (i+1) 0 s0:Int),.int .i64 (scK (Uw q) x (i+1) 1 s1:Int),.int .i64 (scK (Uw q) x (i+1) 2 s2:Int),.bool sf,.bool so,.bool sc] by rw [bF,bF,bF]; exact bm)
    have br:=hide bh
    clear hI hZ hB hS bm b0 bk cB bV cH he cE bq bC bM ce bF bh
    go_wp2_with (go_at_call 74; refine(bD.out).mono ?_; rintro e w' ⟨rfl,rfl⟩; rw [br.out])
    exact⟨⟨i+1,by go_num,by omega,bI,bz,d0,cx⟩,by simp [intOf]; omega⟩
   ·have br:=hide bh
    have hU:∀cc:Nat,((scU (Uw q) x i cc:Nat):Int)=min ((cc:Int)+1) c.least:=fun cc=>by
     unfold scU
     rw [bq]
     show(((if (x:Int)∈c.states then min (cc+1) c.least.toNat else cc:Nat)):Int)=_
     rw [if_pos (of_decide_eq_true bh)]
     omega
    have bN:=hide hU
    obtain⟨y,b6⟩:∃n,n=scK (Uw q) x i 0 s0:=⟨_,rfl⟩
    obtain⟨z,b7⟩:∃n,n=scK (Uw q) x i 1 s1:=⟨_,rfl⟩
    obtain⟨C,b8⟩:∃n,n=scK (Uw q) x i 2 s2:=⟨_,rfl⟩
    rw [←b6,←b7,←b8] at bm
    have e8:y≤3∧z≤3∧C≤3:=by
     rw [b6,b7,b8]
     exact⟨UO (UU bt.out) ck.out.1,UO (UU bt.out) ck.out.2.1,UO (UU bt.out) ck.out.2.2⟩
    have bg:=hide (bm.below (Ap w5))
    have dR:=bg.out.cell
    have dS:=bg.out.frozen
    have dT:=bg.out.lt
    have dY:=(bk.below (Ap w5)).cell
    have bf:=hide (bI.out.trans ((Ap w5).mono bI.out.size))
    have bO:=hide (cx.out.below (Ap w5))
    have cj:=hide (And.intro b6 (And.intro b7 b8))
    clear hI hZ hB hS bm b0 bk cB bV cH he bq bC bM ce hU bh b6 b7 b8
    have d9:i=0∨i=1∨i=2:=by omega
    rcases d9 with rfl | rfl | rfl
    ·have bs:Hid (Blk (w5.drew.setCell ⟨w.heap.size,1,none⟩ (.int .i64 (min ((y:Int)+1) c.least))) w.heap.size 133 #[.bool M,.int .i64 (scK (Uw q) x (0+1) 0 s0:Int),.int .i64 (scK (Uw q) x (0+1) 1 s1:Int),.int .i64 (scK (Uw q) x (0+1) 2 s2:Int),.bool sf,.bool so,.bool sc]):=by
      have h0:=bg.out.set_ 1 (.int .i64 (min ((y:Int)+1) c.least))
      show Blk _ _ _ _
      obtain⟨e0,e1,e2⟩:=cj.out
      rw [UX (Uw q) x 0 s0,bN.out s0,UM (by omega:(1:Nat)≠0),UM (by omega:(2:Nat)≠0)]
      rw [UY (Uw q) x 0 s0] at e0
      rw [←e0,←e1,←e2]
      exact h0
     have b1:=(Ac.refl w5.drew (fun k=>k=w.heap.size)).setCell (p:=⟨w.heap.size,1,none⟩) (fun _=>rfl) (.int .i64 (min ((y:Int)+1) c.least))
     have bl:=hide (bf.out.trans (b1.below bf.out.size fun b hb (e:b=w.heap.size)=>by omega))
     have bp:=hide (bO.out.kept b1 (by omega))
     clear b1
     simp only [Nat.zero_mul,Nat.add_zero] at cD
     go_wp2_with (go_at_call 74; refine(bD.out).mono ?_; rintro e w' ⟨rfl,rfl⟩; rw [br.out])
     refine Reg.cI [0,0,0,6,14,30,0,64,254,0,1023,2047] [0,1,2,3,4,5,6,7,9,8,10,11] ?_
     refine Reg.wI [0,1,2,3,4,5,6,7,9] [8,10,11] rfl fun Qf O=>?_
     go_wp2_with fail
     first | refine O _ _ ⟨rfl,?_⟩ | refine⟨rfl,?_⟩ | refine O _ _ ⟨by simp [Reg.fineT,Reg.intOp,Region.wanted,yielded,Reg.intFine,Reg.isInt,Act.eval],?_⟩
     try clear O
     refine Reg.aI 8 [10,11] [] rfl fun Qf O=>?_
     simp only [gT,gS,gZ]
     go_wp2_with fail
     first | refine O _ _ ⟨Reg.nm,?_⟩ | refine⟨Reg.nm,?_⟩
     try clear O
     refine Reg.wI [10] [11] rfl fun Qf O=>?_
     go_wp2_with fail
     first | refine O _ _ ⟨rfl,?_⟩ | refine⟨rfl,?_⟩ | refine O _ _ ⟨by simp [Reg.fineT,Reg.intOp,Region.wanted,yielded,Reg.intFine,Reg.isInt,Act.eval],?_⟩
     try clear O
     refine Reg.aI 11 [] [] rfl fun Qf O=>?_
     simp only [gT,gS,gZ]
     go_wp2_with fail
     first | refine O _ _ ⟨Reg.nm,?_⟩ | refine⟨Reg.nm,?_⟩
     try clear O
     first | refine Reg.restI_end ?_ | skip
     go_wp2_with fail
     exact⟨⟨0+1,by go_num,by omega,bl,hide (by have:=bz.out; simpa using this),bs,bp⟩,by simp [intOf]; omega⟩
    ·have bs:Hid (Blk (w5.drew.setCell ⟨w.heap.size,2,none⟩ (.int .i64 (min ((z:Int)+1) c.least))) w.heap.size 133 #[.bool M,.int .i64 (scK (Uw q) x (1+1) 0 s0:Int),.int .i64 (scK (Uw q) x (1+1) 1 s1:Int),.int .i64 (scK (Uw q) x (1+1) 2 s2:Int),.bool sf,.bool so,.bool sc]):=by
      have h0:=bg.out.set_ 2 (.int .i64 (min ((z:Int)+1) c.least))
      show Blk _ _ _ _
      obtain⟨e0,e1,e2⟩:=cj.out
      rw [UM (by omega:(0:Nat)≠1),UX (Uw q) x 1 s1,bN.out s1,UM (by omega:(2:Nat)≠1)]
      rw [UY (Uw q) x 1 s1] at e1
      rw [←e0,←e1,←e2]
      exact h0
     have b1:=(Ac.refl w5.drew (fun k=>k=w.heap.size)).setCell (p:=⟨w.heap.size,2,none⟩) (fun _=>rfl) (.int .i64 (min ((z:Int)+1) c.least))
     have bl:=hide (bf.out.trans (b1.below bf.out.size fun b hb (e:b=w.heap.size)=>by omega))
     have bp:=hide (bO.out.kept b1 (by omega))
     clear b1
     go_wp2_with (go_at_call 74; refine(bD.out).mono ?_; rintro e w' ⟨rfl,rfl⟩; rw [br.out])
     refine Reg.cI [0,0,0,6,14,30,0,64,254,0,1023,2047] [0,1,2,3,4,5,6,7,9,8,10,11] ?_
     refine Reg.wI [0,1,2,3,4,5,6,7,9] [8,10,11] rfl fun Qf O=>?_
     go_wp2_with fail
     first | refine O _ _ ⟨rfl,?_⟩ | refine⟨rfl,?_⟩ | refine O _ _ ⟨by simp [Reg.fineT,Reg.intOp,Region.wanted,yielded,Reg.intFine,Reg.isInt,Act.eval],?_⟩
     try clear O
     refine Reg.aI 8 [10,11] [] rfl fun Qf O=>?_
     simp only [gT,gS,gZ]
     go_wp2_with fail
     first | refine O _ _ ⟨Reg.nm,?_⟩ | refine⟨Reg.nm,?_⟩
     try clear O
     refine Reg.wI [10] [11] rfl fun Qf O=>?_
     go_wp2_with fail
     first | refine O _ _ ⟨rfl,?_⟩ | refine⟨rfl,?_⟩ | refine O _ _ ⟨by simp [Reg.fineT,Reg.intOp,Region.wanted,yielded,Reg.intFine,Reg.isInt,Act.eval],?_⟩
     try clear O
     refine Reg.aI 11 [] [] rfl fun Qf O=>?_
     simp only [gT,gS,gZ]
     go_wp2_with fail
     first | refine O _ _ ⟨Reg.nm,?_⟩ | refine⟨Reg.nm,?_⟩
     try clear O
     first | refine Reg.restI_end ?_ | skip
     go_wp2_with fail
     exact⟨⟨1+1,by go_num,by omega,bl,hide (by have:=bz.out; simpa using this),bs,bp⟩,by simp [intOf]; omega⟩
    ·have bs:Hid (Blk (w5.drew.setCell ⟨w.heap.size,3,none⟩ (.int .i64 (min ((C:Int)+1) c.least))) w.heap.size 133 #[.bool M,.int .i64 (scK (Uw q) x (2+1) 0 s0:Int),.int .i64 (scK (Uw q) x (2+1) 1 s1:Int),.int .i64 (scK (Uw q) x (2+1) 2 s2:Int),.bool sf,.bool so,.bool sc]):=by
      have h0:=bg.out.set_ 3 (.int .i64 (min ((C:Int)+1) c.least))
      show Blk _ _ _ _
      obtain⟨e0,e1,e2⟩:=cj.out
      rw [UM (by omega:(0:Nat)≠2),UM (by omega:(1:Nat)≠2),UX (Uw q) x 2 s2,bN.out s2]
      rw [UY (Uw q) x 2 s2] at e2
      rw [←e0,←e1,←e2]
      exact h0
     have b1:=(Ac.refl w5.drew (fun k=>k=w.heap.size)).setCell (p:=⟨w.heap.size,3,none⟩) (fun _=>rfl) (.int .i64 (min ((C:Int)+1) c.least))
     have bl:=hide (bf.out.trans (b1.below bf.out.size fun b hb (e:b=w.heap.size)=>by omega))
     have bp:=hide (bO.out.kept b1 (by omega))
     clear b1
     go_wp2_with (go_at_call 74; refine(bD.out).mono ?_; rintro e w' ⟨rfl,rfl⟩; rw [br.out])
     refine Reg.cI [0,0,0,6,14,30,0,64,254,0,1023,2047] [0,1,2,3,4,5,6,7,9,8,10,11] ?_
     refine Reg.wI [0,1,2,3,4,5,6,7,9] [8,10,11] rfl fun Qf O=>?_
     go_wp2_with fail
     first | refine O _ _ ⟨rfl,?_⟩ | refine⟨rfl,?_⟩ | refine O _ _ ⟨by simp [Reg.fineT,Reg.intOp,Region.wanted,yielded,Reg.intFine,Reg.isInt,Act.eval],?_⟩
     try clear O
     refine Reg.aI 8 [10,11] [] rfl fun Qf O=>?_
     simp only [gT,gS,gZ]
     go_wp2_with fail
     first | refine O _ _ ⟨Reg.nm,?_⟩ | refine⟨Reg.nm,?_⟩
     try clear O
     refine Reg.wI [10] [11] rfl fun Qf O=>?_
     go_wp2_with fail
     first | refine O _ _ ⟨rfl,?_⟩ | refine⟨rfl,?_⟩ | refine O _ _ ⟨by simp [Reg.fineT,Reg.intOp,Region.wanted,yielded,Reg.intFine,Reg.isInt,Act.eval],?_⟩
     try clear O
     refine Reg.aI 11 [] [] rfl fun Qf O=>?_
     simp only [gT,gS,gZ]
     go_wp2_with fail
     first | refine O _ _ ⟨Reg.nm,?_⟩ | refine⟨Reg.nm,?_⟩
     try clear O
     first | refine Reg.restI_end ?_ | skip
     go_wp2_with fail
     exact⟨⟨2+1,by go_num,by omega,bl,hide (by have:=bz.out; simpa using this),bs,bp⟩,by simp [intOf]; omega⟩
  ·obtain rfl:i=nb:=by omega
   obtain⟨y,b6⟩:∃n,n=scK (Uw q) x i 0 s0:=⟨_,rfl⟩
   obtain⟨z,b7⟩:∃n,n=scK (Uw q) x i 1 s1:=⟨_,rfl⟩
   obtain⟨C,b8⟩:∃n,n=scK (Uw q) x i 2 s2:=⟨_,rfl⟩
   have bn:=hide (show Blk wr w.heap.size 133 #[.bool M,.int .i64 (y:Int),.int .i64 (z:Int),.int .i64 (C:Int),.bool sf,.bool so,.bool sc] by rw [b6,b7,b8]; exact hI.out)
   have V:Hid (UE (Uw q) x (Uw q).length ⟨M,s0,s1,s2,sf,so,sc⟩=⟨M,y,z,C,sf,so,sc⟩):=by
    show UE _ _ _ _=_
    rw [UV,←cF.out,b6,b7,b8]
    rfl
   have dU:=bn.out.cell
   have dV:=bn.out.frozen
   have dW:=bn.out.lt
   have de:=(dc.out.below hB.out).cell
   have bA:=hide (d6.out.at hB.out)
   have aq:=bA.out.b3.cell
   have aN:=bA.out.b2.cell
   have dt:=dr.out
   have dp:=dn.out
   obtain⟨na,ca⟩:∃n,n=q.adj.length:=⟨_,rfl⟩
   have cb:=hide ca
   rw [←ca] at de dt
   clear hI b6 b7 b8 ca
   by_cases c9:na=0
   ·subst c9
    have ad:Hid (SBn w w.heap.size w1.heap.size wr #[.bool M,.int .i64 (y:Int),.int .i64 (z:Int),.int .i64 (C:Int),.bool sf,.bool so,.bool sc]):=hide ⟨bn.out,hZ.out,hB.out,Nat.le_refl _,by omega,by omega⟩
    have U:Uy q=none:=by
     have:q.adj=[]:=List.length_eq_zero_iff.1 cb.out.symm
     unfold Uy; rw [this]
    cases sf
    ·have a2:Hid (Ux (Uw q) (Uy q) (decide (p.topo=3)) ⟨M,s0,s1,s2,false,so,sc⟩ x=⟨true,y,z,C,false,so,sc⟩):=by
      show Ux _ _ _ _ _=_
      unfold Ux
      rw [V.out,U]
      simp [Uz]
     clear U V
     obtain⟨aB,ar,E⟩:=(ad.out).set 0 (.bool true) #[.bool true,.int .i64 (y:Int),.int .i64 (z:Int),.int .i64 (C:Int),.bool false,.bool so,.bool sc] rfl
     obtain⟨ap,au,aw,af,ae,an,ao⟩:=E.get
     obtain⟨wF,az,aA,Z,al,am,ak,W⟩:=(E).fin rfl (.bool true) (.int .i64 (y:Int)) (.int .i64 (z:Int)) (.int .i64 (C:Int)) (.bool false) (.bool so) (.bool sc)
     clear E
     go_wp2_with fail
     refine bodyPost_ret (v:=.agg #[.bool true,.int .i64 (y:Int),.int .i64 (z:Int),.int .i64 (C:Int),.bool false,.bool so,.bool sc]) (by simp [results,Tryz.results79,go_sem,Z]) rfl ⟨?_,W.out⟩
     rw [a2.out]
     try rfl
    ·have a2:Hid (Ux (Uw q) (Uy q) (decide (p.topo=3)) ⟨M,s0,s1,s2,true,so,sc⟩ x=⟨true,y,z,C,true,false,false⟩):=by
      show Ux _ _ _ _ _=_
      unfold Ux
      rw [V.out,U]
      simp [Uz]
     clear U V
     obtain⟨aB,ar,E⟩:=(ad.out).set 5 (.bool false) #[.bool M,.int .i64 (y:Int),.int .i64 (z:Int),.int .i64 (C:Int),.bool true,.bool false,.bool sc] rfl
     obtain⟨ap,au,aw,af,ae,an,ao⟩:=E.get
     obtain⟨aL,aF,G⟩:=(E).set 6 (.bool false) #[.bool M,.int .i64 (y:Int),.int .i64 (z:Int),.int .i64 (C:Int),.bool true,.bool false,.bool false] rfl
     obtain⟨aq,aH,ax,ai,ab,aC,a9⟩:=G.get
     obtain⟨aM,aG,I⟩:=(G).set 0 (.bool true) #[.bool true,.int .i64 (y:Int),.int .i64 (z:Int),.int .i64 (C:Int),.bool true,.bool false,.bool false] rfl
     obtain⟨aE,aJ,ay,aj,aK,aD,aa⟩:=I.get
     obtain⟨wF,az,aA,Z,al,am,ak,W⟩:=(I).fin rfl (.bool true) (.int .i64 (y:Int)) (.int .i64 (z:Int)) (.int .i64 (C:Int)) (.bool true) (.bool false) (.bool false)
     clear E G I
     go_wp2_with fail
     refine bodyPost_ret (v:=.agg #[.bool true,.int .i64 (y:Int),.int .i64 (z:Int),.int .i64 (C:Int),.bool true,.bool false,.bool false]) (by simp [results,Tryz.results79,go_sem,Z]) rfl ⟨?_,W.out⟩
     rw [a2.out]
     try rfl
   ·obtain⟨av,bv,bB⟩:∃a b,q.adj=[a,b]:=by
     rcases bt.out.adj with h | ⟨a,b,h,-,-⟩
     ·exact absurd (by rw [cb.out,h]; rfl) c9
     ·exact⟨a,b,h⟩
    have U:Uy q=some (av,bv):=by unfold Uy; rw [bB]
    obtain rfl:na=2:=by rw [cb.out,bB]; rfl
    have bx:=dk.out
    rw [bB] at bx
    obtain⟨ba,oa,ya,cZ,dZ,cJ,cz⟩:=bx.at (show 0<2 by omega)
    obtain rfl:ya=av:=by simpa using cJ.symm
    obtain⟨bb,ob,yb,ct,bS,cK,cA⟩:=bx.at (show 1<2 by omega)
    obtain rfl:yb=bv:=by simpa using cK.symm
    subst cZ
    obtain⟨rfl,rfl⟩:bb=ba∧ob=oa:=by
     have:=Option.some.inj ct
     injection this with h1 h2
     exact⟨h1.symm,h2.symm⟩
    have d7:w.cell? ⟨bb,ob,none⟩=some (.int .i64 ya):=by have:=cz 0 (by omega); simpa [Ai] using this
    have da:w.cell? ⟨bb,ob+1,none⟩=some (.int .i64 yb):=by have:=cA 0 (by omega); simpa [Ai] using this
    have d8:=(hB.out.cell (p:=⟨bb,ob,none⟩) bS).trans d7
    have db:=(hB.out.cell (p:=⟨bb,ob+1,none⟩) bS).trans da
    have ad:Hid (SB w w.heap.size w1.heap.size g1 g3 bb ob pc qc ya yb wr #[.bool M,.int .i64 (y:Int),.int .i64 (z:Int),.int .i64 (C:Int),.bool sf,.bool so,.bool sc]):=hide ⟨bn.out,hZ.out,hB.out,bA.out.b2,bA.out.b3,d8,db,Nat.le_refl _,by omega,by omega,df,dg,bS⟩
    clear cz cA cJ cK ct bx c9 bB
    obtain⟨tp,cm⟩:∃t,t=p.topo:=⟨_,rfl⟩
    rw [←cm] at dp
    obtain⟨ring,ci⟩:∃r,r=decide (p.topo=3):=⟨_,rfl⟩
    have a5:=hide ci.symm
    have ed:(tp==3)=ring:=by rw [cm,ci]; rfl
    obtain⟨A,hA⟩:∃A,A=((x:Int)==ya):=⟨_,rfl⟩
    obtain⟨Bq,bL⟩:∃A,A=((x:Int)==yb):=⟨_,rfl⟩
    have a3:Hid (decide ((x:Int)=ya)=A):=hide (by rw [hA]; rfl)
    have a4:Hid (decide ((x:Int)=yb)=Bq):=hide (by rw [bL]; rfl)
    replace hA:=hA.symm
    replace bL:=bL.symm
    clear cm ci
    cases sf
    ·cases so
     ·cases Bq
      ·cases ring
       ·have a2:Hid (Ux (Uw q) (Uy q) (decide (p.topo=3)) ⟨M,s0,s1,s2,false,false,sc⟩ x=⟨true,y,z,C,false,A,false⟩):=by
         show Ux _ _ _ _ _=_
         unfold Ux
         rw [V.out,U,a5.out]
         simp [Uz,a3.out,a4.out]
        clear U V a3 a4 a5
        obtain⟨aB,ar,E⟩:=(ad.out).set 4 (.bool false) #[.bool M,.int .i64 (y:Int),.int .i64 (z:Int),.int .i64 (C:Int),.bool false,.bool false,.bool sc] rfl
        obtain⟨ap,au,aw,af,ae,an,ao⟩:=E.get
        obtain⟨aL,aF,G⟩:=(E).set 6 (.bool false) #[.bool M,.int .i64 (y:Int),.int .i64 (z:Int),.int .i64 (C:Int),.bool false,.bool false,.bool false] rfl
        obtain⟨aq,aH,ax,ai,ab,aC,a9⟩:=G.get
        obtain⟨aM,aG,I⟩:=(G).set 5 (.bool A) #[.bool M,.int .i64 (y:Int),.int .i64 (z:Int),.int .i64 (C:Int),.bool false,.bool A,.bool false] rfl
        obtain⟨aE,aJ,ay,aj,aK,aD,aa⟩:=I.get
        obtain⟨aW,aS,J⟩:=(I).set 0 (.bool true) #[.bool true,.int .i64 (y:Int),.int .i64 (z:Int),.int .i64 (C:Int),.bool false,.bool A,.bool false] rfl
        obtain⟨aN,aT,aU,ag,aV,aQ,aR⟩:=J.get
        obtain⟨wF,az,aA,Z,al,am,ak,W⟩:=(J).fin rfl (.bool true) (.int .i64 (y:Int)) (.int .i64 (z:Int)) (.int .i64 (C:Int)) (.bool false) (.bool A) (.bool false)
        clear E G I J
        go_wp2_with fail
        refine bodyPost_ret (v:=.agg #[.bool true,.int .i64 (y:Int),.int .i64 (z:Int),.int .i64 (C:Int),.bool false,.bool A,.bool false]) (by simp [results,Tryz.results79,go_sem,Z]) rfl ⟨?_,W.out⟩
        rw [a2.out]
        try rfl
       ·cases sc
        ·cases M
         ·have a2:Hid (Ux (Uw q) (Uy q) (decide (p.topo=3)) ⟨false,s0,s1,s2,false,false,false⟩ x=⟨true,y,z,C,false,A,false⟩):=by
           show Ux _ _ _ _ _=_
           unfold Ux
           rw [V.out,U,a5.out]
           simp [Uz,a3.out,a4.out]
          clear U V a3 a4 a5
          obtain⟨aB,ar,E⟩:=(ad.out).set 4 (.bool false) #[.bool false,.int .i64 (y:Int),.int .i64 (z:Int),.int .i64 (C:Int),.bool false,.bool false,.bool false] rfl
          obtain⟨ap,au,aw,af,ae,an,ao⟩:=E.get
          obtain⟨aL,aF,G⟩:=(E).set 6 (.bool false) #[.bool false,.int .i64 (y:Int),.int .i64 (z:Int),.int .i64 (C:Int),.bool false,.bool false,.bool false] rfl
          obtain⟨aq,aH,ax,ai,ab,aC,a9⟩:=G.get
          obtain⟨aM,aG,I⟩:=(G).set 5 (.bool A) #[.bool false,.int .i64 (y:Int),.int .i64 (z:Int),.int .i64 (C:Int),.bool false,.bool A,.bool false] rfl
          obtain⟨aE,aJ,ay,aj,aK,aD,aa⟩:=I.get
          obtain⟨aW,aS,J⟩:=(I).set 0 (.bool true) #[.bool true,.int .i64 (y:Int),.int .i64 (z:Int),.int .i64 (C:Int),.bool false,.bool A,.bool false] rfl
          obtain⟨aN,aT,aU,ag,aV,aQ,aR⟩:=J.get
          obtain⟨wF,az,aA,Z,al,am,ak,W⟩:=(J).fin rfl (.bool true) (.int .i64 (y:Int)) (.int .i64 (z:Int)) (.int .i64 (C:Int)) (.bool false) (.bool A) (.bool false)
          clear E G I J
          go_wp2_with fail
          refine bodyPost_ret (v:=.agg #[.bool true,.int .i64 (y:Int),.int .i64 (z:Int),.int .i64 (C:Int),.bool false,.bool A,.bool false]) (by simp [results,Tryz.results79,go_sem,Z]) rfl ⟨?_,W.out⟩
          rw [a2.out]
          try rfl
         ·have a2:Hid (Ux (Uw q) (Uy q) (decide (p.topo=3)) ⟨true,s0,s1,s2,false,false,false⟩ x=⟨true,y,z,C,false,A,false⟩):=by
           show Ux _ _ _ _ _=_
           unfold Ux
           rw [V.out,U,a5.out]
           simp [Uz,a3.out,a4.out]
          clear U V a3 a4 a5
          obtain⟨aB,ar,E⟩:=(ad.out).set 4 (.bool false) #[.bool true,.int .i64 (y:Int),.int .i64 (z:Int),.int .i64 (C:Int),.bool false,.bool false,.bool false] rfl
          obtain⟨ap,au,aw,af,ae,an,ao⟩:=E.get
          obtain⟨aL,aF,G⟩:=(E).set 6 (.bool false) #[.bool true,.int .i64 (y:Int),.int .i64 (z:Int),.int .i64 (C:Int),.bool false,.bool false,.bool false] rfl
          obtain⟨aq,aH,ax,ai,ab,aC,a9⟩:=G.get
          obtain⟨aM,aG,I⟩:=(G).set 5 (.bool A) #[.bool true,.int .i64 (y:Int),.int .i64 (z:Int),.int .i64 (C:Int),.bool false,.bool A,.bool false] rfl
          obtain⟨aE,aJ,ay,aj,aK,aD,aa⟩:=I.get
          obtain⟨aW,aS,J⟩:=(I).set 0 (.bool true) #[.bool true,.int .i64 (y:Int),.int .i64 (z:Int),.int .i64 (C:Int),.bool false,.bool A,.bool false] rfl
          obtain⟨aN,aT,aU,ag,aV,aQ,aR⟩:=J.get
          obtain⟨wF,az,aA,Z,al,am,ak,W⟩:=(J).fin rfl (.bool true) (.int .i64 (y:Int)) (.int .i64 (z:Int)) (.int .i64 (C:Int)) (.bool false) (.bool A) (.bool false)
          clear E G I J
          go_wp2_with fail
          refine bodyPost_ret (v:=.agg #[.bool true,.int .i64 (y:Int),.int .i64 (z:Int),.int .i64 (C:Int),.bool false,.bool A,.bool false]) (by simp [results,Tryz.results79,go_sem,Z]) rfl ⟨?_,W.out⟩
          rw [a2.out]
          try rfl
        ·have a2:Hid (Ux (Uw q) (Uy q) (decide (p.topo=3)) ⟨M,s0,s1,s2,false,false,true⟩ x=⟨true,y,z,C,false,A,true⟩):=by
          show Ux _ _ _ _ _=_
          unfold Ux
          rw [V.out,U,a5.out]
          simp [Uz,a3.out,a4.out]
         clear U V a3 a4 a5
         obtain⟨aB,ar,E⟩:=(ad.out).set 4 (.bool false) #[.bool M,.int .i64 (y:Int),.int .i64 (z:Int),.int .i64 (C:Int),.bool false,.bool false,.bool true] rfl
         obtain⟨ap,au,aw,af,ae,an,ao⟩:=E.get
         obtain⟨aL,aF,G⟩:=(E).set 6 (.bool true) #[.bool M,.int .i64 (y:Int),.int .i64 (z:Int),.int .i64 (C:Int),.bool false,.bool false,.bool true] rfl
         obtain⟨aq,aH,ax,ai,ab,aC,a9⟩:=G.get
         obtain⟨aM,aG,I⟩:=(G).set 5 (.bool A) #[.bool M,.int .i64 (y:Int),.int .i64 (z:Int),.int .i64 (C:Int),.bool false,.bool A,.bool true] rfl
         obtain⟨aE,aJ,ay,aj,aK,aD,aa⟩:=I.get
         obtain⟨aW,aS,J⟩:=(I).set 0 (.bool true) #[.bool true,.int .i64 (y:Int),.int .i64 (z:Int),.int .i64 (C:Int),.bool false,.bool A,.bool true] rfl
         obtain⟨aN,aT,aU,ag,aV,aQ,aR⟩:=J.get
         obtain⟨wF,az,aA,Z,al,am,ak,W⟩:=(J).fin rfl (.bool true) (.int .i64 (y:Int)) (.int .i64 (z:Int)) (.int .i64 (C:Int)) (.bool false) (.bool A) (.bool true)
         clear E G I J
         go_wp2_with fail
         refine bodyPost_ret (v:=.agg #[.bool true,.int .i64 (y:Int),.int .i64 (z:Int),.int .i64 (C:Int),.bool false,.bool A,.bool true]) (by simp [results,Tryz.results79,go_sem,Z]) rfl ⟨?_,W.out⟩
         rw [a2.out]
         try rfl
      ·cases ring
       ·have a2:Hid (Ux (Uw q) (Uy q) (decide (p.topo=3)) ⟨M,s0,s1,s2,false,false,sc⟩ x=⟨true,y,z,C,false,A,false⟩):=by
         show Ux _ _ _ _ _=_
         unfold Ux
         rw [V.out,U,a5.out]
         simp [Uz,a3.out,a4.out]
        clear U V a3 a4 a5
        obtain⟨aB,ar,E⟩:=(ad.out).set 4 (.bool false) #[.bool M,.int .i64 (y:Int),.int .i64 (z:Int),.int .i64 (C:Int),.bool false,.bool false,.bool sc] rfl
        obtain⟨ap,au,aw,af,ae,an,ao⟩:=E.get
        obtain⟨aL,aF,G⟩:=(E).set 6 (.bool false) #[.bool M,.int .i64 (y:Int),.int .i64 (z:Int),.int .i64 (C:Int),.bool false,.bool false,.bool false] rfl
        obtain⟨aq,aH,ax,ai,ab,aC,a9⟩:=G.get
        obtain⟨aM,aG,I⟩:=(G).set 5 (.bool A) #[.bool M,.int .i64 (y:Int),.int .i64 (z:Int),.int .i64 (C:Int),.bool false,.bool A,.bool false] rfl
        obtain⟨aE,aJ,ay,aj,aK,aD,aa⟩:=I.get
        obtain⟨aW,aS,J⟩:=(I).set 0 (.bool true) #[.bool true,.int .i64 (y:Int),.int .i64 (z:Int),.int .i64 (C:Int),.bool false,.bool A,.bool false] rfl
        obtain⟨aN,aT,aU,ag,aV,aQ,aR⟩:=J.get
        obtain⟨wF,az,aA,Z,al,am,ak,W⟩:=(J).fin rfl (.bool true) (.int .i64 (y:Int)) (.int .i64 (z:Int)) (.int .i64 (C:Int)) (.bool false) (.bool A) (.bool false)
        clear E G I J
        go_wp2_with fail
        refine bodyPost_ret (v:=.agg #[.bool true,.int .i64 (y:Int),.int .i64 (z:Int),.int .i64 (C:Int),.bool false,.bool A,.bool false]) (by simp [results,Tryz.results79,go_sem,Z]) rfl ⟨?_,W.out⟩
        rw [a2.out]
        try rfl
       ·cases sc
        ·cases M
         ·have a2:Hid (Ux (Uw q) (Uy q) (decide (p.topo=3)) ⟨false,s0,s1,s2,false,false,false⟩ x=⟨true,y,z,C,false,A,true⟩):=by
           show Ux _ _ _ _ _=_
           unfold Ux
           rw [V.out,U,a5.out]
           simp [Uz,a3.out,a4.out]
          clear U V a3 a4 a5
          obtain⟨aB,ar,E⟩:=(ad.out).set 4 (.bool false) #[.bool false,.int .i64 (y:Int),.int .i64 (z:Int),.int .i64 (C:Int),.bool false,.bool false,.bool false] rfl
          obtain⟨ap,au,aw,af,ae,an,ao⟩:=E.get
          obtain⟨aL,aF,G⟩:=(E).set 6 (.bool true) #[.bool false,.int .i64 (y:Int),.int .i64 (z:Int),.int .i64 (C:Int),.bool false,.bool false,.bool true] rfl
          obtain⟨aq,aH,ax,ai,ab,aC,a9⟩:=G.get
          obtain⟨aM,aG,I⟩:=(G).set 5 (.bool A) #[.bool false,.int .i64 (y:Int),.int .i64 (z:Int),.int .i64 (C:Int),.bool false,.bool A,.bool true] rfl
          obtain⟨aE,aJ,ay,aj,aK,aD,aa⟩:=I.get
          obtain⟨aW,aS,J⟩:=(I).set 0 (.bool true) #[.bool true,.int .i64 (y:Int),.int .i64 (z:Int),.int .i64 (C:Int),.bool false,.bool A,.bool true] rfl
          obtain⟨aN,aT,aU,ag,aV,aQ,aR⟩:=J.get
          obtain⟨wF,az,aA,Z,al,am,ak,W⟩:=(J).fin rfl (.bool true) (.int .i64 (y:Int)) (.int .i64 (z:Int)) (.int .i64 (C:Int)) (.bool false) (.bool A) (.bool true)
          clear E G I J
          go_wp2_with fail
          refine bodyPost_ret (v:=.agg #[.bool true,.int .i64 (y:Int),.int .i64 (z:Int),.int .i64 (C:Int),.bool false,.bool A,.bool true]) (by simp [results,Tryz.results79,go_sem,Z]) rfl ⟨?_,W.out⟩
          rw [a2.out]
          try rfl
         ·have a2:Hid (Ux (Uw q) (Uy q) (decide (p.topo=3)) ⟨true,s0,s1,s2,false,false,false⟩ x=⟨true,y,z,C,false,A,false⟩):=by
           show Ux _ _ _ _ _=_
           unfold Ux
           rw [V.out,U,a5.out]
           simp [Uz,a3.out,a4.out]
          clear U V a3 a4 a5
          obtain⟨aB,ar,E⟩:=(ad.out).set 4 (.bool false) #[.bool true,.int .i64 (y:Int),.int .i64 (z:Int),.int .i64 (C:Int),.bool false,.bool false,.bool false] rfl
          obtain⟨ap,au,aw,af,ae,an,ao⟩:=E.get
          obtain⟨aL,aF,G⟩:=(E).set 6 (.bool false) #[.bool true,.int .i64 (y:Int),.int .i64 (z:Int),.int .i64 (C:Int),.bool false,.bool false,.bool false] rfl
          obtain⟨aq,aH,ax,ai,ab,aC,a9⟩:=G.get
          obtain⟨aM,aG,I⟩:=(G).set 5 (.bool A) #[.bool true,.int .i64 (y:Int),.int .i64 (z:Int),.int .i64 (C:Int),.bool false,.bool A,.bool false] rfl
          obtain⟨aE,aJ,ay,aj,aK,aD,aa⟩:=I.get
          obtain⟨aW,aS,J⟩:=(I).set 0 (.bool true) #[.bool true,.int .i64 (y:Int),.int .i64 (z:Int),.int .i64 (C:Int),.bool false,.bool A,.bool false] rfl
          obtain⟨aN,aT,aU,ag,aV,aQ,aR⟩:=J.get
          obtain⟨wF,az,aA,Z,al,am,ak,W⟩:=(J).fin rfl (.bool true) (.int .i64 (y:Int)) (.int .i64 (z:Int)) (.int .i64 (C:Int)) (.bool false) (.bool A) (.bool false)
          clear E G I J
          go_wp2_with fail
          refine bodyPost_ret (v:=.agg #[.bool true,.int .i64 (y:Int),.int .i64 (z:Int),.int .i64 (C:Int),.bool false,.bool A,.bool false]) (by simp [results,Tryz.results79,go_sem,Z]) rfl ⟨?_,W.out⟩
          rw [a2.out]
          try rfl
        ·have a2:Hid (Ux (Uw q) (Uy q) (decide (p.topo=3)) ⟨M,s0,s1,s2,false,false,true⟩ x=⟨true,y,z,C,false,A,true⟩):=by
          show Ux _ _ _ _ _=_
          unfold Ux
          rw [V.out,U,a5.out]
          simp [Uz,a3.out,a4.out]
         clear U V a3 a4 a5
         obtain⟨aB,ar,E⟩:=(ad.out).set 4 (.bool false) #[.bool M,.int .i64 (y:Int),.int .i64 (z:Int),.int .i64 (C:Int),.bool false,.bool false,.bool true] rfl
         obtain⟨ap,au,aw,af,ae,an,ao⟩:=E.get
         obtain⟨aL,aF,G⟩:=(E).set 6 (.bool true) #[.bool M,.int .i64 (y:Int),.int .i64 (z:Int),.int .i64 (C:Int),.bool false,.bool false,.bool true] rfl
         obtain⟨aq,aH,ax,ai,ab,aC,a9⟩:=G.get
         obtain⟨aM,aG,I⟩:=(G).set 5 (.bool A) #[.bool M,.int .i64 (y:Int),.int .i64 (z:Int),.int .i64 (C:Int),.bool false,.bool A,.bool true] rfl
         obtain⟨aE,aJ,ay,aj,aK,aD,aa⟩:=I.get
         obtain⟨aW,aS,J⟩:=(I).set 0 (.bool true) #[.bool true,.int .i64 (y:Int),.int .i64 (z:Int),.int .i64 (C:Int),.bool false,.bool A,.bool true] rfl
         obtain⟨aN,aT,aU,ag,aV,aQ,aR⟩:=J.get
         obtain⟨wF,az,aA,Z,al,am,ak,W⟩:=(J).fin rfl (.bool true) (.int .i64 (y:Int)) (.int .i64 (z:Int)) (.int .i64 (C:Int)) (.bool false) (.bool A) (.bool true)
         clear E G I J
         go_wp2_with fail
         refine bodyPost_ret (v:=.agg #[.bool true,.int .i64 (y:Int),.int .i64 (z:Int),.int .i64 (C:Int),.bool false,.bool A,.bool true]) (by simp [results,Tryz.results79,go_sem,Z]) rfl ⟨?_,W.out⟩
         rw [a2.out]
         try rfl
     ·cases Bq
      ·cases ring
       ·have a2:Hid (Ux (Uw q) (Uy q) (decide (p.topo=3)) ⟨M,s0,s1,s2,false,true,sc⟩ x=⟨true,y,z,C,false,A,false⟩):=by
         show Ux _ _ _ _ _=_
         unfold Ux
         rw [V.out,U,a5.out]
         simp [Uz,a3.out,a4.out]
        clear U V a3 a4 a5
        obtain⟨aB,ar,E⟩:=(ad.out).set 4 (.bool false) #[.bool M,.int .i64 (y:Int),.int .i64 (z:Int),.int .i64 (C:Int),.bool false,.bool true,.bool sc] rfl
        obtain⟨ap,au,aw,af,ae,an,ao⟩:=E.get
        obtain⟨aL,aF,G⟩:=(E).set 6 (.bool false) #[.bool M,.int .i64 (y:Int),.int .i64 (z:Int),.int .i64 (C:Int),.bool false,.bool true,.bool false] rfl
        obtain⟨aq,aH,ax,ai,ab,aC,a9⟩:=G.get
        obtain⟨aM,aG,I⟩:=(G).set 5 (.bool A) #[.bool M,.int .i64 (y:Int),.int .i64 (z:Int),.int .i64 (C:Int),.bool false,.bool A,.bool false] rfl
        obtain⟨aE,aJ,ay,aj,aK,aD,aa⟩:=I.get
        obtain⟨aW,aS,J⟩:=(I).set 0 (.bool true) #[.bool true,.int .i64 (y:Int),.int .i64 (z:Int),.int .i64 (C:Int),.bool false,.bool A,.bool false] rfl
        obtain⟨aN,aT,aU,ag,aV,aQ,aR⟩:=J.get
        obtain⟨wF,az,aA,Z,al,am,ak,W⟩:=(J).fin rfl (.bool true) (.int .i64 (y:Int)) (.int .i64 (z:Int)) (.int .i64 (C:Int)) (.bool false) (.bool A) (.bool false)
        clear E G I J
        go_wp2_with fail
        refine bodyPost_ret (v:=.agg #[.bool true,.int .i64 (y:Int),.int .i64 (z:Int),.int .i64 (C:Int),.bool false,.bool A,.bool false]) (by simp [results,Tryz.results79,go_sem,Z]) rfl ⟨?_,W.out⟩
        rw [a2.out]
        try rfl
       ·cases sc
        ·cases M
         ·have a2:Hid (Ux (Uw q) (Uy q) (decide (p.topo=3)) ⟨false,s0,s1,s2,false,true,false⟩ x=⟨true,y,z,C,false,A,false⟩):=by
           show Ux _ _ _ _ _=_
           unfold Ux
           rw [V.out,U,a5.out]
           simp [Uz,a3.out,a4.out]
          clear U V a3 a4 a5
          obtain⟨aB,ar,E⟩:=(ad.out).set 4 (.bool false) #[.bool false,.int .i64 (y:Int),.int .i64 (z:Int),.int .i64 (C:Int),.bool false,.bool true,.bool false] rfl
          obtain⟨ap,au,aw,af,ae,an,ao⟩:=E.get
          obtain⟨aL,aF,G⟩:=(E).set 6 (.bool false) #[.bool false,.int .i64 (y:Int),.int .i64 (z:Int),.int .i64 (C:Int),.bool false,.bool true,.bool false] rfl
          obtain⟨aq,aH,ax,ai,ab,aC,a9⟩:=G.get
          obtain⟨aM,aG,I⟩:=(G).set 5 (.bool A) #[.bool false,.int .i64 (y:Int),.int .i64 (z:Int),.int .i64 (C:Int),.bool false,.bool A,.bool false] rfl
          obtain⟨aE,aJ,ay,aj,aK,aD,aa⟩:=I.get
          obtain⟨aW,aS,J⟩:=(I).set 0 (.bool true) #[.bool true,.int .i64 (y:Int),.int .i64 (z:Int),.int .i64 (C:Int),.bool false,.bool A,.bool false] rfl
          obtain⟨aN,aT,aU,ag,aV,aQ,aR⟩:=J.get
          obtain⟨wF,az,aA,Z,al,am,ak,W⟩:=(J).fin rfl (.bool true) (.int .i64 (y:Int)) (.int .i64 (z:Int)) (.int .i64 (C:Int)) (.bool false) (.bool A) (.bool false)
          clear E G I J
          go_wp2_with fail
          refine bodyPost_ret (v:=.agg #[.bool true,.int .i64 (y:Int),.int .i64 (z:Int),.int .i64 (C:Int),.bool false,.bool A,.bool false]) (by simp [results,Tryz.results79,go_sem,Z]) rfl ⟨?_,W.out⟩
          rw [a2.out]
          try rfl
         ·have a2:Hid (Ux (Uw q) (Uy q) (decide (p.topo=3)) ⟨true,s0,s1,s2,false,true,false⟩ x=⟨true,y,z,C,false,A,false⟩):=by
           show Ux _ _ _ _ _=_
           unfold Ux
           rw [V.out,U,a5.out]
           simp [Uz,a3.out,a4.out]
          clear U V a3 a4 a5
          obtain⟨aB,ar,E⟩:=(ad.out).set 4 (.bool false) #[.bool true,.int .i64 (y:Int),.int .i64 (z:Int),.int .i64 (C:Int),.bool false,.bool true,.bool false] rfl
          obtain⟨ap,au,aw,af,ae,an,ao⟩:=E.get
          obtain⟨aL,aF,G⟩:=(E).set 6 (.bool false) #[.bool true,.int .i64 (y:Int),.int .i64 (z:Int),.int .i64 (C:Int),.bool false,.bool true,.bool false] rfl
          obtain⟨aq,aH,ax,ai,ab,aC,a9⟩:=G.get
          obtain⟨aM,aG,I⟩:=(G).set 5 (.bool A) #[.bool true,.int .i64 (y:Int),.int .i64 (z:Int),.int .i64 (C:Int),.bool false,.bool A,.bool false] rfl
          obtain⟨aE,aJ,ay,aj,aK,aD,aa⟩:=I.get
          obtain⟨aW,aS,J⟩:=(I).set 0 (.bool true) #[.bool true,.int .i64 (y:Int),.int .i64 (z:Int),.int .i64 (C:Int),.bool false,.bool A,.bool false] rfl
          obtain⟨aN,aT,aU,ag,aV,aQ,aR⟩:=J.get
          obtain⟨wF,az,aA,Z,al,am,ak,W⟩:=(J).fin rfl (.bool true) (.int .i64 (y:Int)) (.int .i64 (z:Int)) (.int .i64 (C:Int)) (.bool false) (.bool A) (.bool false)
          clear E G I J
          go_wp2_with fail
          refine bodyPost_ret (v:=.agg #[.bool true,.int .i64 (y:Int),.int .i64 (z:Int),.int .i64 (C:Int),.bool false,.bool A,.bool false]) (by simp [results,Tryz.results79,go_sem,Z]) rfl ⟨?_,W.out⟩
          rw [a2.out]
          try rfl
        ·have a2:Hid (Ux (Uw q) (Uy q) (decide (p.topo=3)) ⟨M,s0,s1,s2,false,true,true⟩ x=⟨true,y,z,C,false,A,true⟩):=by
          show Ux _ _ _ _ _=_
          unfold Ux
          rw [V.out,U,a5.out]
          simp [Uz,a3.out,a4.out]
         clear U V a3 a4 a5
         obtain⟨aB,ar,E⟩:=(ad.out).set 4 (.bool false) #[.bool M,.int .i64 (y:Int),.int .i64 (z:Int),.int .i64 (C:Int),.bool false,.bool true,.bool true] rfl
         obtain⟨ap,au,aw,af,ae,an,ao⟩:=E.get
         obtain⟨aL,aF,G⟩:=(E).set 6 (.bool true) #[.bool M,.int .i64 (y:Int),.int .i64 (z:Int),.int .i64 (C:Int),.bool false,.bool true,.bool true] rfl
         obtain⟨aq,aH,ax,ai,ab,aC,a9⟩:=G.get
         obtain⟨aM,aG,I⟩:=(G).set 5 (.bool A) #[.bool M,.int .i64 (y:Int),.int .i64 (z:Int),.int .i64 (C:Int),.bool false,.bool A,.bool true] rfl
         obtain⟨aE,aJ,ay,aj,aK,aD,aa⟩:=I.get
         obtain⟨aW,aS,J⟩:=(I).set 0 (.bool true) #[.bool true,.int .i64 (y:Int),.int .i64 (z:Int),.int .i64 (C:Int),.bool false,.bool A,.bool true] rfl
         obtain⟨aN,aT,aU,ag,aV,aQ,aR⟩:=J.get
         obtain⟨wF,az,aA,Z,al,am,ak,W⟩:=(J).fin rfl (.bool true) (.int .i64 (y:Int)) (.int .i64 (z:Int)) (.int .i64 (C:Int)) (.bool false) (.bool A) (.bool true)
         clear E G I J
         go_wp2_with fail
         refine bodyPost_ret (v:=.agg #[.bool true,.int .i64 (y:Int),.int .i64 (z:Int),.int .i64 (C:Int),.bool false,.bool A,.bool true]) (by simp [results,Tryz.results79,go_sem,Z]) rfl ⟨?_,W.out⟩
         rw [a2.out]
         try rfl
      ·cases ring
       ·have a2:Hid (Ux (Uw q) (Uy q) (decide (p.topo=3)) ⟨M,s0,s1,s2,false,true,sc⟩ x=⟨true,y,z,C,true,false,false⟩):=by
         show Ux _ _ _ _ _=_
         unfold Ux
         rw [V.out,U,a5.out]
         simp [Uz,a3.out,a4.out]
        clear U V a3 a4 a5
        obtain⟨aB,ar,E⟩:=(ad.out).set 4 (.bool true) #[.bool M,.int .i64 (y:Int),.int .i64 (z:Int),.int .i64 (C:Int),.bool true,.bool true,.bool sc] rfl
        obtain⟨ap,au,aw,af,ae,an,ao⟩:=E.get
        obtain⟨aL,aF,G⟩:=(E).set 6 (.bool false) #[.bool M,.int .i64 (y:Int),.int .i64 (z:Int),.int .i64 (C:Int),.bool true,.bool true,.bool false] rfl
        obtain⟨aq,aH,ax,ai,ab,aC,a9⟩:=G.get
        obtain⟨aM,aG,I⟩:=(G).set 5 (.bool A) #[.bool M,.int .i64 (y:Int),.int .i64 (z:Int),.int .i64 (C:Int),.bool true,.bool A,.bool false] rfl
        obtain⟨aE,aJ,ay,aj,aK,aD,aa⟩:=I.get
        obtain⟨aW,aS,J⟩:=(I).set 5 (.bool false) #[.bool M,.int .i64 (y:Int),.int .i64 (z:Int),.int .i64 (C:Int),.bool true,.bool false,.bool false] rfl
        obtain⟨aN,aT,aU,ag,aV,aQ,aR⟩:=J.get
        obtain⟨co,bW,aO⟩:=(J).set 6 (.bool false) #[.bool M,.int .i64 (y:Int),.int .i64 (z:Int),.int .i64 (C:Int),.bool true,.bool false,.bool false] rfl
        obtain⟨bT,bY,c0,b5,cg,bP,bR⟩:=aO.get
        obtain⟨cp,bX,aP⟩:=(aO).set 0 (.bool true) #[.bool true,.int .i64 (y:Int),.int .i64 (z:Int),.int .i64 (C:Int),.bool true,.bool false,.bool false] rfl
        obtain⟨bU,bZ,c8,bu,ch,bQ,b0⟩:=aP.get
        obtain⟨wF,az,aA,Z,al,am,ak,W⟩:=(aP).fin rfl (.bool true) (.int .i64 (y:Int)) (.int .i64 (z:Int)) (.int .i64 (C:Int)) (.bool true) (.bool false) (.bool false)
        clear E G I J aO aP
        go_wp2_with fail
        refine bodyPost_ret (v:=.agg #[.bool true,.int .i64 (y:Int),.int .i64 (z:Int),.int .i64 (C:Int),.bool true,.bool false,.bool false]) (by simp [results,Tryz.results79,go_sem,Z]) rfl ⟨?_,W.out⟩
        rw [a2.out]
        try rfl
       ·cases sc
        ·cases M
         ·have a2:Hid (Ux (Uw q) (Uy q) (decide (p.topo=3)) ⟨false,s0,s1,s2,false,true,false⟩ x=⟨true,y,z,C,true,false,false⟩):=by
           show Ux _ _ _ _ _=_
           unfold Ux
           rw [V.out,U,a5.out]
           simp [Uz,a3.out,a4.out]
          clear U V a3 a4 a5
          obtain⟨aB,ar,E⟩:=(ad.out).set 4 (.bool true) #[.bool false,.int .i64 (y:Int),.int .i64 (z:Int),.int .i64 (C:Int),.bool true,.bool true,.bool false] rfl
          obtain⟨ap,au,aw,af,ae,an,ao⟩:=E.get
          obtain⟨aL,aF,G⟩:=(E).set 6 (.bool true) #[.bool false,.int .i64 (y:Int),.int .i64 (z:Int),.int .i64 (C:Int),.bool true,.bool true,.bool true] rfl
          obtain⟨aq,aH,ax,ai,ab,aC,a9⟩:=G.get
          obtain⟨aM,aG,I⟩:=(G).set 5 (.bool A) #[.bool false,.int .i64 (y:Int),.int .i64 (z:Int),.int .i64 (C:Int),.bool true,.bool A,.bool true] rfl
          obtain⟨aE,aJ,ay,aj,aK,aD,aa⟩:=I.get
          obtain⟨aW,aS,J⟩:=(I).set 5 (.bool false) #[.bool false,.int .i64 (y:Int),.int .i64 (z:Int),.int .i64 (C:Int),.bool true,.bool false,.bool true] rfl
          obtain⟨aN,aT,aU,ag,aV,aQ,aR⟩:=J.get
          obtain⟨co,bW,aO⟩:=(J).set 6 (.bool false) #[.bool false,.int .i64 (y:Int),.int .i64 (z:Int),.int .i64 (C:Int),.bool true,.bool false,.bool false] rfl
          obtain⟨bT,bY,c0,b5,cg,bP,bR⟩:=aO.get
          obtain⟨cp,bX,aP⟩:=(aO).set 0 (.bool true) #[.bool true,.int .i64 (y:Int),.int .i64 (z:Int),.int .i64 (C:Int),.bool true,.bool false,.bool false] rfl
          obtain⟨bU,bZ,c8,bu,ch,bQ,b0⟩:=aP.get
          obtain⟨wF,az,aA,Z,al,am,ak,W⟩:=(aP).fin rfl (.bool true) (.int .i64 (y:Int)) (.int .i64 (z:Int)) (.int .i64 (C:Int)) (.bool true) (.bool false) (.bool false)
          clear E G I J aO aP
          go_wp2_with fail
          refine bodyPost_ret (v:=.agg #[.bool true,.int .i64 (y:Int),.int .i64 (z:Int),.int .i64 (C:Int),.bool true,.bool false,.bool false]) (by simp [results,Tryz.results79,go_sem,Z]) rfl ⟨?_,W.out⟩
          rw [a2.out]
          try rfl
         ·have a2:Hid (Ux (Uw q) (Uy q) (decide (p.topo=3)) ⟨true,s0,s1,s2,false,true,false⟩ x=⟨true,y,z,C,true,false,false⟩):=by
           show Ux _ _ _ _ _=_
           unfold Ux
           rw [V.out,U,a5.out]
           simp [Uz,a3.out,a4.out]
          clear U V a3 a4 a5
          obtain⟨aB,ar,E⟩:=(ad.out).set 4 (.bool true) #[.bool true,.int .i64 (y:Int),.int .i64 (z:Int),.int .i64 (C:Int),.bool true,.bool true,.bool false] rfl
          obtain⟨ap,au,aw,af,ae,an,ao⟩:=E.get
          obtain⟨aL,aF,G⟩:=(E).set 6 (.bool false) #[.bool true,.int .i64 (y:Int),.int .i64 (z:Int),.int .i64 (C:Int),.bool true,.bool true,.bool false] rfl
          obtain⟨aq,aH,ax,ai,ab,aC,a9⟩:=G.get
          obtain⟨aM,aG,I⟩:=(G).set 5 (.bool A) #[.bool true,.int .i64 (y:Int),.int .i64 (z:Int),.int .i64 (C:Int),.bool true,.bool A,.bool false] rfl
          obtain⟨aE,aJ,ay,aj,aK,aD,aa⟩:=I.get
          obtain⟨aW,aS,J⟩:=(I).set 5 (.bool false) #[.bool true,.int .i64 (y:Int),.int .i64 (z:Int),.int .i64 (C:Int),.bool true,.bool false,.bool false] rfl
          obtain⟨aN,aT,aU,ag,aV,aQ,aR⟩:=J.get
          obtain⟨co,bW,aO⟩:=(J).set 6 (.bool false) #[.bool true,.int .i64 (y:Int),.int .i64 (z:Int),.int .i64 (C:Int),.bool true,.bool false,.bool false] rfl
          obtain⟨bT,bY,c0,b5,cg,bP,bR⟩:=aO.get
          obtain⟨cp,bX,aP⟩:=(aO).set 0 (.bool true) #[.bool true,.int .i64 (y:Int),.int .i64 (z:Int),.int .i64 (C:Int),.bool true,.bool false,.bool false] rfl
          obtain⟨bU,bZ,c8,bu,ch,bQ,b0⟩:=aP.get
          obtain⟨wF,az,aA,Z,al,am,ak,W⟩:=(aP).fin rfl (.bool true) (.int .i64 (y:Int)) (.int .i64 (z:Int)) (.int .i64 (C:Int)) (.bool true) (.bool false) (.bool false)
          clear E G I J aO aP
          go_wp2_with fail
          refine bodyPost_ret (v:=.agg #[.bool true,.int .i64 (y:Int),.int .i64 (z:Int),.int .i64 (C:Int),.bool true,.bool false,.bool false]) (by simp [results,Tryz.results79,go_sem,Z]) rfl ⟨?_,W.out⟩
          rw [a2.out]
          try rfl
        ·have a2:Hid (Ux (Uw q) (Uy q) (decide (p.topo=3)) ⟨M,s0,s1,s2,false,true,true⟩ x=⟨true,y,z,C,true,false,false⟩):=by
          show Ux _ _ _ _ _=_
          unfold Ux
          rw [V.out,U,a5.out]
          simp [Uz,a3.out,a4.out]
         clear U V a3 a4 a5
         obtain⟨aB,ar,E⟩:=(ad.out).set 4 (.bool true) #[.bool M,.int .i64 (y:Int),.int .i64 (z:Int),.int .i64 (C:Int),.bool true,.bool true,.bool true] rfl
         obtain⟨ap,au,aw,af,ae,an,ao⟩:=E.get
         obtain⟨aL,aF,G⟩:=(E).set 6 (.bool true) #[.bool M,.int .i64 (y:Int),.int .i64 (z:Int),.int .i64 (C:Int),.bool true,.bool true,.bool true] rfl
         obtain⟨aq,aH,ax,ai,ab,aC,a9⟩:=G.get
         obtain⟨aM,aG,I⟩:=(G).set 5 (.bool A) #[.bool M,.int .i64 (y:Int),.int .i64 (z:Int),.int .i64 (C:Int),.bool true,.bool A,.bool true] rfl
         obtain⟨aE,aJ,ay,aj,aK,aD,aa⟩:=I.get
         obtain⟨aW,aS,J⟩:=(I).set 5 (.bool false) #[.bool M,.int .i64 (y:Int),.int .i64 (z:Int),.int .i64 (C:Int),.bool true,.bool false,.bool true] rfl
         obtain⟨aN,aT,aU,ag,aV,aQ,aR⟩:=J.get
         obtain⟨co,bW,aO⟩:=(J).set 6 (.bool false) #[.bool M,.int .i64 (y:Int),.int .i64 (z:Int),.int .i64 (C:Int),.bool true,.bool false,.bool false] rfl
         obtain⟨bT,bY,c0,b5,cg,bP,bR⟩:=aO.get
         obtain⟨cp,bX,aP⟩:=(aO).set 0 (.bool true) #[.bool true,.int .i64 (y:Int),.int .i64 (z:Int),.int .i64 (C:Int),.bool true,.bool false,.bool false] rfl
         obtain⟨bU,bZ,c8,bu,ch,bQ,b0⟩:=aP.get
         obtain⟨wF,az,aA,Z,al,am,ak,W⟩:=(aP).fin rfl (.bool true) (.int .i64 (y:Int)) (.int .i64 (z:Int)) (.int .i64 (C:Int)) (.bool true) (.bool false) (.bool false)
         clear E G I J aO aP
         go_wp2_with fail
         refine bodyPost_ret (v:=.agg #[.bool true,.int .i64 (y:Int),.int .i64 (z:Int),.int .i64 (C:Int),.bool true,.bool false,.bool false]) (by simp [results,Tryz.results79,go_sem,Z]) rfl ⟨?_,W.out⟩
         rw [a2.out]
         try rfl
    ·have a2:Hid (Ux (Uw q) (Uy q) (decide (p.topo=3)) ⟨M,s0,s1,s2,true,so,sc⟩ x=⟨true,y,z,C,true,false,false⟩):=by
      show Ux _ _ _ _ _=_
      unfold Ux
      rw [V.out,U,a5.out]
      simp [Uz,a3.out,a4.out]
     clear U V a3 a4 a5
     obtain⟨aB,ar,E⟩:=(ad.out).set 5 (.bool false) #[.bool M,.int .i64 (y:Int),.int .i64 (z:Int),.int .i64 (C:Int),.bool true,.bool false,.bool sc] rfl
     obtain⟨ap,au,aw,af,ae,an,ao⟩:=E.get
     obtain⟨aL,aF,G⟩:=(E).set 6 (.bool false) #[.bool M,.int .i64 (y:Int),.int .i64 (z:Int),.int .i64 (C:Int),.bool true,.bool false,.bool false] rfl
     obtain⟨aq,aH,ax,ai,ab,aC,a9⟩:=G.get
     obtain⟨aM,aG,I⟩:=(G).set 0 (.bool true) #[.bool true,.int .i64 (y:Int),.int .i64 (z:Int),.int .i64 (C:Int),.bool true,.bool false,.bool false] rfl
     obtain⟨aE,aJ,ay,aj,aK,aD,aa⟩:=I.get
     obtain⟨wF,az,aA,Z,al,am,ak,W⟩:=(I).fin rfl (.bool true) (.int .i64 (y:Int)) (.int .i64 (z:Int)) (.int .i64 (C:Int)) (.bool true) (.bool false) (.bool false)
     clear E G I
     go_wp2_with fail
     refine bodyPost_ret (v:=.agg #[.bool true,.int .i64 (y:Int),.int .i64 (z:Int),.int .i64 (C:Int),.bool true,.bool false,.bool false]) (by simp [results,Tryz.results79,go_sem,Z]) rfl ⟨?_,W.out⟩
     rw [a2.out]
     try rfl
end Go.Proofs.YtfcfpoemojjglaaGreatDoor
