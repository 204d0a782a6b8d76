/-
  Part PI of a proof.
-/
import Derived.Test.YtlakpndhhelliaaGreatDoorPA
import Derived.Test.YtlakpndhhelliaaGreatDoorPH
set_option maxHeartbeats 16000000
set_option maxRecDepth 100000
set_option linter.unusedVariables false
set_option linter.unusedSimpArgs false
namespace Go.Proofs.YtlakpndhhelliaaGreatDoor
open Go.RowKit
set_option maxHeartbeats 16000000
set_option maxRecDepth 100000
theorem GL:DV Tryz.prog 3 DK:=Ls .i64 Tryz.underlying3 (fun n:Nat=>(n:Int)) (fun a b h=>by omega)
theorem LK (w:World) (cs:Array Value) (F:Nat):∃g2 g4 g5 gs gm w1 w2 f h y z,g2=w.heap.size∧g4=w1.heap.size∧g5=w2.heap.size∧gs=y.heap.size∧w.alloc (.cells cs 56)=w1∧w1.alloc (.cells #[sn0,sn0] 56)=w2∧w2.alloc (.cells #[sn0,sn0] 56)=f∧(Instr.makeMap 146 none).run Tryz.prog f=.ok (.map (some gm)) h∧
  (Instr.mapUpdate 146 (.map (some gm)) (.int .i64 (F:Int)) (.int .i64 0)).run Tryz.prog h=.ok () y∧y.alloc (.cells #[.int .i64 0] 3)=z∧Below w.heap.size w h∧
  QM w z g2 g4 g5 gm cs [F] [0] [] [] (.slice (some ⟨gs,0,none⟩) 1 1) sn0 sn0 [] (fun _=>True):=by
 obtain⟨w1,h1,M,O,ai⟩:=Ag w cs 56
 obtain⟨w2,h2,G,U,aj⟩:=Ag w1 #[sn0,sn0] 56
 obtain⟨f,h3,C,V,ak⟩:=Ag w2 #[sn0,sn0] 56
 obtain⟨gm,h,h4,a7,I,al⟩:=FP 146 f
 obtain⟨y,h5,W,a9,am⟩:=Fd GL Tryz.underlying146 (l:=[]) a7 F (by simp)
 have aa:=Ae.of_grown a9
 obtain⟨z,h6,J,ad,an⟩:=Ag y #[.int .i64 0] 3
 have Z:=M.size
 have s2:=G.size
 have s3:=C.size
 have s4:=I.size
 have s6:=J.size
 have l1:=O.lt
 have l2:=U.lt
 have l3:=V.lt
 have a2:Below w.heap.size w f:=M.trans ((G.mono Z).trans (C.mono (by omega)))
 have af:Below w.heap.size w h:=a2.trans (I.mono (by omega))
 have ag:Below f.heap.size h z:=(aa.below s4 fun b hb e=>by have:=Option.some.inj e; omega).trans (J.mono (by omega))
 have E:Below f.heap.size f z:=I.trans ag
 have hO:z.ownsRow w.heap.size 3 1 (.slice (some ⟨y.heap.size,0,none⟩) 1 1) 1 ((Aj [0]).map (Value.int .i64)):=by
  have:=EK (base:=w.heap.size) (n:=1) ad (by omega) rfl (by omega)
  exact this
 exact⟨_,_,_,_,gm,w1,w2,f,h,y,z,rfl,rfl,rfl,rfl,h1,h2,h3,h4,h5,h6,af,
  ⟨a2.trans (E.mono (by omega)),((O.below G).below C).below E,(U.below C).below E,V.below E,W.keep (J.block _ W.lt),hO,CT,CT,.nil,⟨by omega,by omega⟩,⟨Nat.le_refl _,Z,by omega,by omega⟩⟩⟩
structure F9 (w0 wr:World) (g2 g4 g5 gm:Nat) (c2:Array Value) (L:Nat) (nx:Nat→Nat→Nat) (cl:List Nat) (ac:List Bool) (i:Nat) (st:List Nat) (vS vN vA:Value) (ws:List Value):Prop where
 mem:QM w0 wr g2 g4 g5 gm c2 (st.map fun s=>cl.getD s 0) st (BC L (Ba nx cl) (st.map fun s=>cl.getD s 0) i) ((st.take i).map (dac ac)) vS vN vA ws (fun _=>True)
 exp:Exp L (Ba nx cl) (cl.getD 0 0) i (st.map fun s=>cl.getD s 0)
 lt:∀s∈st,s<ac.length
theorem F9.len {w0 wr:World} {g2 g4 g5 gm L i:Nat} {c2:Array Value} {nx:Nat→Nat→Nat} {acc:Nat→Bool} {cl:List Nat} {ac:List Bool} {st:List Nat} {vS vN vA:Value} {ws:List Value} (h:F9 w0 wr g2 g4 g5 gm c2 L nx cl ac i st vS vN vA ws) (f:B6 L ac.length nx acc cl):st.length≤ac.length:=by
 have:=DY _ (List.range ac.length) h.exp.inv.nodup fun v y=>by
  obtain⟨s,z,rfl⟩:=List.mem_map.1 y
  exact List.mem_range.2 (f.lt s (h.lt s z))
 simpa using this
structure DD (w0 wr:World) (g2 g4 g5 gm:Nat) (c2:Array Value) (L:Nat) (nx:Nat→Nat→Nat) (cl:List Nat) (ac:List Bool) (i q gr x:Nat) (st st':List Nat) (vS vN vA:Value) (ws:List Value):Prop where
 mem:QM w0 wr g2 g4 g5 gm c2 (st'.map fun s=>cl.getD s 0) st' (BC L (Ba nx cl) (st.map fun s=>cl.getD s 0) i) ((st.take (i+1)).map (dac ac)) vS vN vA ws (fun g=>g≠gr)
 eq:(st'.map fun s=>cl.getD s 0)=Bh (Ba nx cl) (cl.getD q 0) (st.map fun s=>cl.getD s 0) x
 pre:st<+:st'
 lt:∀s∈st',s<ac.length
 sep:vS.ownBlock≠some gr
 blk:Blk wr gr 3 (Bf L fun y=>if y<x then Value.int .i64 (AD (st'.map fun s=>cl.getD s 0) (Ba nx cl (cl.getD q 0) y):Int) else .int .i64 0)
section
variable {w0 wr:World} {g2 g4 g5 gm L i q gr x:Nat} {c2:Array Value} {nx:Nat→Nat→Nat} {acc:Nat→Bool} {cl:List Nat} {ac:List Bool} {st st':List Nat} {vS vN vA:Value} {ws:List Value}
theorem DD.len (h:DD w0 wr g2 g4 g5 gm c2 L nx cl ac i q gr x st st' vS vN vA ws) (f:(st.map fun s=>cl.getD s 0).Nodup) (y:B6 L ac.length nx acc cl):st'.length≤ac.length:=by
 have z:(st'.map fun s=>cl.getD s 0).Nodup:=by rw [h.eq]; exact GB _ f _
 have:=DY _ (List.range ac.length) z fun v C=>by
  obtain⟨s,E,rfl⟩:=List.mem_map.1 C
  exact List.mem_range.2 (y.lt s (h.lt s E))
 simpa using this
theorem Jt {k h:List Nat} {f:Nat→Nat} (E:∀y,y<x→AD h (f y)=AD k (f y)) {u:Value} (F:u=.int .i64 (AD h (f x):Int)) {w1:World} (G:Blk w1 gr 3 (Bf L fun y=>if y<x then Value.int .i64 (AD k (f y):Int) else .int .i64 0)):
  Blk (w1.setCell ⟨gr,x,none⟩ u) gr 3 (Bf L fun y=>if y<x+1 then Value.int .i64 (AD h (f y):Int) else .int .i64 0):=by
 have C:=G.set_ x u
 rw [Ff] at C
 rw [DM (g:=fun y=>if y=x then u else if y<x then Value.int .i64 (AD k (f y):Int) else .int .i64 0) (fun y _=>by
  by_cases e:y=x
  ·subst e; rw [if_pos (by omega),if_pos rfl,F]
  ·by_cases z:y<x
   ·rw [if_pos (by omega),if_neg e,if_pos z,E y z]
   ·rw [if_neg (by omega),if_neg e,if_neg z])]
 exact C
theorem DD.old (h:DD w0 wr g2 g4 g5 gm c2 L nx cl ac i q gr x st st' vS vN vA ws) {z:Nat} (f:Ba nx cl (cl.getD q 0) x=z) (y:z∈st'.map fun s=>cl.getD s 0) (C:w0.heap.size≤gr):
  DD w0 (wr.setCell ⟨gr,x,none⟩ (.int .i64 (AD (st'.map fun s=>cl.getD s 0) z:Int))) g2 g4 g5 gm c2 L nx cl ac i q gr (x+1) st st' vS vN vA ws:=by
 have hk:=(Ae.refl wr (fun k=>k=gr)).setCell (p:=⟨gr,x,none⟩) (fun _=>rfl) (.int .i64 (AD (st'.map fun s=>cl.getD s 0) z:Int))
 refine⟨h.mem.other (fun _ h=>h) h.sep h.blk C hk,?_,h.pre,h.lt,h.sep,Jt (fun _ _=>rfl) (by rw [f]) h.blk⟩
 rw [C8,←h.eq,f,Gf y]
theorem DD.new (h:DD w0 wr g2 g4 g5 gm c2 L nx cl ac i q gr x st st' vS vN vA ws) {s z:Nat} {E:Value} {C w1:World} (J:Ba nx cl (cl.getD q 0) x=z) (V:cl.getD s 0=z) (W:s<ac.length) (M:z∉st'.map fun s=>cl.getD s 0) (Z:w0.heap.size≤gr)
  (a2:Bt C gm (((st'.map fun s=>cl.getD s 0)++[z]).map DK)) (a3:wr.grownBy C (some gm)) (a4:C.heap.size=wr.heap.size)
  (a5:Ae C w1 (fun k=>vS.ownBlock=some k)) (a6:w1.ownsRow w0.heap.size 3 1 E (st'.length+1) ((Aj st').map (Value.int .i64)++[.int .i64 (s:Int)])) (O:BX C vS E):
  Blk w1 gr 3 (Bf L fun y=>if y<x then Value.int .i64 (AD (st'.map fun s=>cl.getD s 0) (Ba nx cl (cl.getD q 0) y):Int) else .int .i64 0)∧
  DD w0 (w1.setCell ⟨gr,x,none⟩ (.int .i64 (st'.length:Int))) g2 g4 g5 gm c2 L nx cl ac i q gr (x+1) st (st'++[s]) E vN vA ws:=by
 obtain⟨hQ,a7⟩:=h.mem.addS (kv:=z) (s:=s) a2 a3 a4 a5 a6 O
 have I:=h.blk.kept a7 (by
  rintro(e | e)
  ·exact BL h.blk h.mem.map e.symm
  ·exact h.sep e)
 have F:((st'++[s]).map fun s=>cl.getD s 0)=(st'.map fun s=>cl.getD s 0)++[z]:=by simp [←V]
 have U:E.ownBlock≠some gr:=fun e=>by
  rcases O with G | ⟨g',G,a9⟩
  ·exact h.sep (by rw [←G]; exact e)
  ·rw [e] at G
   have:=Option.some.inj G
   have:=h.blk.lt
   omega
 rw [←F] at hQ
 have hk:=(Ae.refl w1 (fun k=>k=gr)).setCell (p:=⟨gr,x,none⟩) (fun _=>rfl) (.int .i64 (st'.length:Int))
 refine⟨I,hQ.other (fun _ h=>h) U I Z hk,?_,h.pre.trans (List.prefix_append _ _),fun y f=>?_,U,Jt (k:=st'.map fun s=>cl.getD s 0) (fun y f=>?_) ?_ I⟩
 ·rw [F,C8,←h.eq,J,FX M]
 ·rcases List.mem_append.1 f with f | f
  ·exact h.lt y f
  ·rw [List.mem_singleton.1 f]; exact W
 ·rw [F]
  refine EE (List.prefix_append _ _) ?_
  rw [h.eq]
  exact Gg _ _ f
 ·rw [F,J,FO M,List.length_map]
end
theorem OT {w:World} {v:Value} {L c B:Nat} {A:Option Addr} {t:List (List Nat)} {ac:List Bool} {cl:List Nat} (h:BG w w.heap.size v t ac) (J:DOK L t ac) (aw:Sl w B 1 Ai A (Aj cl)) (hB:B≤w.heap.size) (hW:B6 L ac.length (dnx t) (dac ac) cl) (hL:L≤8) (hn:ac.length≤250000):
  Calls Tryz.prog 64 #[v,.slice A ac.length c] w (Ret fun r w'=>Below w.heap.size w w'∧∃st:List Nat,(∀s∈st,s<ac.length)∧st.length≤ac.length∧Bc L (Ba (dnx t) cl) (cl.getD 0 0) (st.map fun s=>cl.getD s 0)∧Df w' w.heap.size r (BC L (Ba (dnx t) cl) (st.map fun s=>cl.getD s 0) st.length) (st.map (dac ac))):=by
 obtain⟨A1,c1,A2,c2,rfl,h1,h2⟩:=h
 obtain⟨k0,aB⟩:=Ay (l:=cl) (i:=0) (by rw [hW.len]; exact J.pos)
 obtain⟨bc,oc,rfl,d2,b6⟩:=Ed aw aB
 obtain⟨g2,g4,g5,gs,gm,w1,w2,w3,w4,w5,w6,bO,bP,bQ,bR,b7,d4,d5,d6,d7,d8,bS,hQ⟩:=LK w #[.slice A1 t.length c1,.slice A2 ac.length c2] k0
 subst bO bP bQ bR
 have U:=J.len
 rw [U] at b7 hQ ⊢
 have b8:cl.getD 0 0=k0:=getD_some aB
 have b9:=hide (show F9 w w6 w.heap.size w1.heap.size w2.heap.size gm #[.slice A1 ac.length c1,.slice A2 ac.length c2] L (dnx t) cl ac 0 [0] (.slice (some ⟨w5.heap.size,0,none⟩) 1 1) sn0 sn0 [] from by
  refine⟨?_,?_,fun s hs=>by rw [List.mem_singleton.1 hs]; exact J.pos⟩
  ·simp only [List.map_cons,List.map_nil,b8]
   exact hQ
  ·exact .start)
 have d9:w4.cell? ⟨bc,oc,none⟩=some (.int .i64 (k0:Int)):=(bS.cell (by show bc<_; omega)).trans b6
 have da:=hQ.b5.lt
 obtain⟨n,aC⟩:∃n,n=ac.length:=⟨_,rfl⟩
 have a4:=hide aC
 have db:n≤250000:=by omega
 have dc:0<n:=by have:=J.pos; omega
 have bU:=hide h1
 have bV:=hide h2
 have bW:=hide J
 have bX:=hide aw
 have ag:=hide hW
 have bY:=hide (fun q x (V:q<ac.length) (hx:x<L)=>J.lt V hx)
 rw [←aC] at b7 b9 ⊢
 clear h1 h2 aC J aw U hW hQ aB b8 b6 hn
 go_enter Tryz.func64,Tryz.ntmps64
 go_wp2_with fail
 go_loopw [7,8] (fun vv M wr=>∃(i:Nat) (st:List Nat) (vN vA:Value) (ws:List Value),M=.int .i64 (i:Int)∧i≤n∧Hid (F9 w wr w.heap.size w1.heap.size w2.heap.size gm #[.slice A1 n c1,.slice A2 n c2] L (dnx t) cl ac i st vv vN vA ws)) (fun _ M _=>n - (intOf M).toNat)
 case atStart=>exact⟨0,[0],_,_,_,rfl,Nat.zero_le _,b9⟩
 case round=>
  obtain⟨i,st,vN,vA,ws,rfl,hi,hI⟩:=hrel
  have C:=hI.out
  have bZ:=C.len ag.out
  have c0:st.length≤n:=by rw [a4.out]; exact bZ
  obtain⟨AS,cS,rfl⟩:=AV C.mem.sts
  by_cases c4:i<st.length
  ·obtain⟨q,V⟩:=Ay c4
   have ah:=C.lt q (List.mem_of_getElem? V)
   obtain⟨gS,dg,e,dh⟩:=EJ C.mem.sts (Bq (f:=Value.int .i64) (Bq (f:=fun x:Nat=>(x:Int)) V))
   cases e
   obtain⟨b,hb⟩:=Ay (l:=ac) (i:=q) ah
   obtain⟨ba,oa,rfl,c5,bd⟩:=Gd bV.out hb
   have di:wr.cell? ⟨ba,oa+q,none⟩=some (.bool b):=(C.mem.below.cell c5).trans bd
   obtain⟨bn,on,Ar,cr,row,rfl,c6,be,c7,bf,bg,bh⟩:=Hh bU.out bW.out ah
   obtain⟨AA,cA,rfl⟩:=AV C.mem.acc
   have W:((st.take i).map (dac ac)).length=i:=by simp; omega
   have dl:=C.mem.b2.cell
   have bi:=C.mem.b5.cell
   have bj:=C.mem.acc
   rw [W] at bi bj
   have c8:=C.mem.below.size
   have c9:=hide (show dac ac q=b from getD_some hb)
   have dm:q<n:=by rw [a4.out]; exact ah
   have bk:=hide V
   have ca:=hide bg
   have cb:=hide bh
   have cc:=hide bf
   have bl:=hide W
   have cd:=hide be
   clear C V hb bd c7 bg bh bf W be
   go_wp2_with fail
   refine Reg.cP [0,1,0,4,0,28,60,124,255,511,1023] ?_
   go_wp2_with (
    at_builtin
    refine CO (w:=wr.drew) JF rfl _ _ rfl w.heap.size (.slice AA i cA) i _ rfl bj [.bool b] 1 rfl rfl (by simp [Value.oneCell']) (by omega) c8 ?_
    intro g' ak w7 bm aG cf dn
    have Z:=hI.out.mem.keep (Ap wr)
    rw [bl.out] at Z
    have G:=Z.addA aG (by rw [bl.out]; exact bm)
    have al:=Z.b5.kept aG (AK Z.acc Z.b5 (by decide))
    have dp:=al.cell
    have dq:=al.frozen 1
    have dr:=al.lt
    have cg:=G.b2.cell
    have bo:=(G.below.cell (p:=⟨bn,on+q,none⟩) c6).trans cd.out
    obtain⟨w8,ch⟩:∃w8,w7.setCell ⟨w2.heap.size,1,none⟩ (.slice (some ⟨g',0,none⟩) (i+1) ak)=w8:=⟨_,rfl⟩
    rw [ch] at G cg bo
    obtain⟨gr,w9,dt,aJ,aK,du⟩:=Fp w8 L (by omega)
    have dv:=(aK.cell (p:=⟨bn,on+q,none⟩) (by have:=G.below.size; show bn<_; omega)).trans bo
    have dw:=(G.b2.below aK).cell
    rw [EZ] at aJ
    have cj:=hide (show DD w w9 w.heap.size w1.heap.size w2.heap.size gm #[.slice (some ⟨bn,on,none⟩) n c1,.slice (some ⟨ba,oa,none⟩) n c2] L (dnx t) cl ac i q gr 0 st st (.slice (some ⟨gS,0,none⟩) st.length cS) vN (.slice (some ⟨g',0,none⟩) (i+1) ak) ws from by
     refine⟨?_,rfl,List.prefix_refl _,hI.out.lt,fun e=>?_,?_⟩
     ·rw [CF bk.out,List.map_append]
      have:=(G.weak (N':=fun g=>g≠gr) (fun g hg _ e=>by omega)).keep aK
      rw [←c9.out] at this
      exact this
     ·have:=Cm G.sts e; omega
     ·rw [DM (g:=fun _=>Value.int .i64 0) (fun y _=>by rw [if_neg (by omega)])]
      exact aJ)
    have dx:=G.below.size
    have aL:w.heap.size≤gr:=by omega
    clear Z G bm aG cf al aJ)
   go_loopw [7,54] (fun vv M wz=>∃(x:Nat) (st':List Nat),M=.int .i64 (x:Int)∧x≤L∧Hid (DD w wz w.heap.size w1.heap.size w2.heap.size gm #[.slice (some ⟨bn,on,none⟩) n c1,.slice (some ⟨ba,oa,none⟩) n c2] L (dnx t) cl ac i q gr x st st' vv vN (.slice (some ⟨g',0,none⟩) (i+1) ak) ws)) (fun _ M _=>L - (intOf M).toNat)
   case atStart=>exact⟨0,st,rfl,Nat.zero_le _,cj⟩
   case round=>
    obtain⟨x,st',rfl,hx,F⟩:=hrel
    have E:=F.out
    have am:=hI.out.exp.inv.nodup
    have dy:=E.len am ag.out
    obtain⟨cm,cn,rfl⟩:=AV E.mem.sts
    by_cases an:x<L
    ·obtain⟨y,hy⟩:=Ay (l:=row) (i:=x) (by rw [cc.out]; exact an)
     obtain⟨br,cp,rfl,cq,aM⟩:=Ed ca.out hy
     obtain⟨aN,aO⟩:=cb.out x y hy
     obtain⟨z,hz⟩:=Ay (l:=cl) (i:=y) (by rw [ag.out.len]; exact aN)
     obtain⟨bq,aP⟩:=Gp bX.out hz
     have dz:wr.cell? ⟨br,cp+x,none⟩=some (.int .i64 (y:Int)):=(E.mem.below.cell cq).trans aM
     have dA:wr.cell? ⟨bc,oc+y,none⟩=some (.int .i64 (z:Int)):=(E.mem.below.cell (by show bc<_; omega)).trans aP
     have dB:y<n:=by rw [a4.out]; exact aN
     have ao:Ba (dnx t) cl (cl.getD q 0) x=z:=by
      rw [ag.out.nxE bY.out ah an,aO]
      exact getD_some hz
     have aQ:cl.getD y 0=z:=getD_some hz
     have a9:=E.mem.map
     have aR:=Fs GL Tryz.underlying146 EQ a9 z
     simp only [DK] at aR
     have dC:wr.cell? ⟨gr,x,none⟩=some (.int .i64 0):=by rw [E.blk.cell,CP _ an,if_neg (by omega)]
     have dD:=E.blk.frozen x
     have dE:=E.blk.lt
     have bs:=E.mem.below.size
     by_cases O:z∈st'.map fun s=>cl.getD s 0
     ·have ct:=hide (E.old ao O aL)
      simp only [O,if_true,decide_true] at aR
      clear E am hy aM hz aP bq ao a9 O aQ aO
      go_wp2_with fail
      exact⟨⟨x+1,st',by go_num,by omega,ct⟩,by simp [intOf]; omega⟩
     ·simp only [O,if_false,decide_false] at aR
      obtain⟨wm,cu,bt,aT,bu⟩:=Fd GL Tryz.underlying146 a9 z O
      simp only [DK,List.length_map] at cu
      have bv:Ae wr wm (fun k=>gm=k):=(Ae.of_grown aT).mono fun b _ e=>Option.some.inj e
      have cv:=bv.ownsRow E.mem.sts fun g hg e=>CZ E.mem.sts a9 (by rw [hg,e])
      have cw:w.heap.size≤wm.heap.size:=by omega
      have dF:st'.length≤250000:=by have:=a4.out; omega
      have cx:=hide ao
      have cy:=hide aQ
      have cz:=hide O
      have cB:=hide bt
      have cD:=hide aT
      have cE:=hide bu
      clear E am hy aM hz aP bq ao a9 O aQ aO bt aT bu bv
      go_wp2_with (
       at_builtin
       refine CO (w:=wm) DS rfl _ _ rfl w.heap.size (.slice cm st'.length cn) st'.length _ rfl cv [.int .i64 (y:Int)] 1 rfl rfl (by simp [Value.oneCell']) (by omega) cw ?_
       intro ga aV wa aa ab ap cF
       obtain⟨aq,bx⟩:=F.out.new cx.out cy.out aN cz.out aL cB.out cD.out cE.out ab aa ap
       have bz:wa.cell? ⟨gr,x,none⟩=some (.int .i64 0):=by rw [aq.cell,CP _ an,if_neg (by omega)]
       have cG:=aq.frozen x
       have cH:=aq.lt
       have cJ:=hide bx
       clear bx aq aa ab ap)
      exact⟨⟨x+1,st'++[y],by go_num,by omega,cJ⟩,by simp [intOf]; omega⟩
    ·obtain rfl:x=L:=by omega
     obtain⟨AN,cN,rfl⟩:=AV E.mem.nxt
     have bA:i≤(st.map fun s=>cl.getD s 0).length:=by rw [List.length_map]; omega
     have U:=F6 (L:=x) (δ:=Ba (dnx t) cl) bA
     have bB:=E.mem.nxt
     have cK:=E.mem.b5.cell
     rw [U] at bB cK
     obtain⟨I,ar⟩:∃I,I=(List.range x).map fun y=>AD (st'.map fun s=>cl.getD s 0) (Ba (dnx t) cl (cl.getD q 0) y):=⟨_,rfl⟩
     have aW:I.length=x:=by rw [ar]; simp
     have bC:wr.ownsRow w.heap.size 3 1 (.slice (some ⟨gr,0,none⟩) I.length x) I.length ((Aj I).map (Value.int .i64)):=by
      have:=EK E.blk aL (Fi _ _) (by omega)
      rw [aW]
      have e:(Bf x fun y=>if y<x then Value.int .i64 (AD (st'.map fun s=>cl.getD s 0) (Ba (dnx t) cl (cl.getD q 0) y):Int) else .int .i64 0).toList=(Aj I).map (Value.int .i64):=by
       rw [ar]
       simp only [Bf,Aj,List.map_map]
       exact List.map_congr_left fun y hy=>by rw [if_pos (List.mem_range.1 hy)]; rfl
      rw [e] at this
      exact this
     have bs:=E.mem.below.size
     have cL:=hide ar
     have cM:=hide aW
     have cO:=hide bC
     have aX:=hide U
     clear E ar aW bC U bA am
     go_wp2_with (
      at_builtin
      refine CO (w:=wr) GS rfl _ _ rfl w.heap.size (.slice AN i cN) i _ rfl bB [.slice (some ⟨gr,0,none⟩) x x] 1 rfl rfl (by simp [Value.oneCell']) (by omega) bs ?_
      intro ga aV wa aa ab ap cF
      have au:=ab
      rw [←aX.out] at au
      have av:=F.out.mem.b5.kept au (AK F.out.mem.nxt F.out.mem.b5 (by decide))
      have hR:=F.out.mem.addR (vN':=.slice (some ⟨ga,0,none⟩) (i+1) aV) cO.out F.out.sep au (by rw [aX.out,cM.out]; exact aa)
      have bz:=av.cell
      rw [aX.out] at bz
      have cG:=av.frozen 0
      have cH:=av.lt
      have cQ:=hide hR
      clear hR av aa ab au ap)
     have cR:st'.take (i+1)=st.take (i+1):=by
      obtain⟨u,hu⟩:=F.out.pre
      rw [←hu,List.take_append_of_le_length (by omega)]
     have bE:(st.map fun s=>cl.getD s 0)<+:(st'.map fun s=>cl.getD s 0):=by
      obtain⟨u,hu⟩:=F.out.pre
      rw [←hu,List.map_append]
      exact List.prefix_append _ _
     have bF:(st.map fun s=>cl.getD s 0)[i]?=some (cl.getD q 0):=Bq (f:=fun s=>cl.getD s 0) bk.out
     refine⟨⟨i+1,st',.slice (some ⟨ga,0,none⟩) (i+1) aV,.slice (some ⟨g',0,none⟩) (i+1) ak,ws++[.slice (some ⟨gr,0,none⟩) I.length x],by go_num,by omega,?_⟩,by simp [intOf]; omega⟩
     refine hide ⟨?_,?_,F.out.lt⟩
     ·have:=cQ.out
      rw [cR,LJ (Em bE bF),Rn hI.out.exp bE,←cL.out]
      exact this
     ·rw [F.out.eq]
      exact .row hI.out.exp bF
  ·have cT:=C.exp.inv.le
   rw [List.length_map] at cT
   obtain rfl:i=st.length:=by omega
   obtain⟨AN,cN,rfl⟩:=AV C.mem.nxt
   obtain⟨AA,cA,rfl⟩:=AV C.mem.acc
   have bG:(BC L (Ba (dnx t) cl) (st.map fun s=>cl.getD s 0) st.length).length=st.length:=F6 (by simp)
   have W:((st.take st.length).map (dac ac)).length=st.length:=by simp
   rw [bG,W] at C
   have bi:=C.mem.b5.cell
   have ae:=C.mem.b4
   have dG:=ae.frozen
   have dH:=ae.lt
   have dI:=ae.cell
   obtain⟨wF,bH,bI,aZ⟩:=DA ae (.slice AN st.length cN) (.slice AA st.length cA)
   have cU:=hide (C.mem.finO (aZ.mono fun _ _ e=>.inl e))
   have cV:=hide (C.mem.below.trans (aZ.below C.mem.below.size fun b hb e=>by have:=C.mem.ge; omega))
   have cW:=bI.cell
   have cX:=hide bH
   have cY:=hide C.exp
   have cZ:=hide C.lt
   clear C ae bI aZ bH bG W hI
   go_wp2_with fail
   change bodyPost _ _ _ .ret _ (Dq wr w1.heap.size (.slice AN st.length cN) (.slice AA st.length cA))
   rw [cX.out]
   have hf:=cU.out
   rw [List.take_length] at hf
   refine bodyPost_ret (v:=.agg #[.slice AN st.length cN,.slice AA st.length cA]) (by simp [results,Tryz.results64,go_sem,cW]) rfl ⟨cV.out,st,by rw [a4.out]; exact cZ.out,c0,?_,hf⟩
   unfold Bc
   rw [List.length_map]
   exact cY.out
theorem Rw {w:World} {v:Value} {L c B:Nat} {A:Option Addr} {t:List (List Nat)} {ac:List Bool} {cl:List Nat} (h:BG w w.heap.size v t ac) (z:DOK L t ac) (C:Sl w B 1 Ai A (Aj cl)) (E:B≤w.heap.size) (F:B6 L ac.length (dnx t) (dac ac) cl) (G:L≤8) (I:ac.length≤250000):
  Calls Tryz.prog 64 #[v,.slice A ac.length c] w (Ret fun r w'=>Below w.heap.size w w'∧∃st:List Nat,(∀s∈st,s<ac.length)∧st.length≤ac.length∧Bc L (Ba (dnx t) cl) (cl.getD 0 0) (st.map fun s=>cl.getD s 0)∧(∀w'',Ae w' w'' (fun k=>k<w.heap.size)→BG w'' w''.heap.size r (BC L (Ba (dnx t) cl) (st.map fun s=>cl.getD s 0) st.length) (st.map (dac ac)))∧Df w' w.heap.size r (BC L (Ba (dnx t) cl) (st.map fun s=>cl.getD s 0) st.length) (st.map (dac ac))):=by
 refine Calls.ret (OT h z C E F G I) ?_
 rintro r w' ⟨J,st,M,O,U,f⟩
 refine⟨J,st,M,O,U,fun w'' hk=>(f.kept hk (fun g e _=>e) (Nat.le_refl _)).read (fun r y=>?_) ?_ ?_,f⟩
 ·unfold BC at y
  obtain⟨s,_,rfl⟩:=List.mem_map.1 y
  simp; omega
 ·rw [F6 (by simp)]; omega
 ·simp; omega
end Go.Proofs.YtlakpndhhelliaaGreatDoor
namespace Go.Proofs.YtlakpndhhelliaaGreatDoor
open Go.RowKit
set_option maxHeartbeats 16000000
set_option maxRecDepth 100000
theorem IE {w:World} {v:Value} {L:Nat} {t:List (List Nat)} {ac:List Bool} (h:BG w w.heap.size v t ac) (I:DOK L t ac) (hL:L≤8) (W:ac.length≤250000) (hT:Ca w):
  Calls Tryz.prog 38 #[v] w (Ret fun r w'=>Below w.heap.size w w'∧∃cl st:List Nat,B6 L ac.length (dnx t) (dac ac) cl∧(∀s∈st,s<ac.length)∧st.length≤ac.length∧Bc L (Ba (dnx t) cl) (cl.getD 0 0) (st.map fun s=>cl.getD s 0)∧(∀w'',Ae w' w'' (fun k=>k<w.heap.size)→BG w'' w''.heap.size r (BC L (Ba (dnx t) cl) (st.map fun s=>cl.getD s 0) st.length) (st.map (dac ac)))∧Df w' w.heap.size r (BC L (Ba (dnx t) cl) (st.map fun s=>cl.getD s 0) st.length) (st.map (dac ac))):=by
 have ad:=hide h
 obtain⟨J,M,O,c2,rfl,h1,h2⟩:=h
 obtain⟨w1,b1,ae,af,b2⟩:=Ag w #[.slice J t.length M,.slice O ac.length c2] 56
 obtain⟨w2,bt,ag,az,b3⟩:=Ag w1 #[sn0,sn0] 56
 have b4:=ae.size
 have Z:Below w.heap.size w w2:=ae.trans (ag.mono b4)
 have aA:=Z.size
 have hD:=hide (af.below ag)
 have hR:=hide az
 have hM:=hide (fun q x (E:q<ac.length) (y:x<L)=>I.lt E y)
 have bu:=af.lt
 have ah:Calls Tryz.prog 62 #[.agg #[.slice J t.length M,.slice O ac.length c2]] w2 (Ret fun r w'=>Below w2.heap.size w2 w'∧∃A c,r=.tuple #[.slice A ac.length c,.int .i64 ((dd ac).length:Int)]∧Sl w' w'.heap.size 1 Ai A (Aj (BD ac))):=QR (ad.out.keep (fun p z=>Z.cell z) aA) W
 have ai:∀(f:World) (A:Option Addr) (c r cnt:Nat) (cl:List Nat),Below w.heap.size w f→Sl f f.heap.size 1 Ai A (Aj cl)→BN L ac.length (dnx t) (dac ac) r cl cnt→Calls Tryz.prog 63 #[.agg #[.slice J t.length M,.slice O ac.length c2],.slice A ac.length c] f (Ret fun r' w'=>Below f.heap.size f w'∧∃(F:Option Addr) (U:Nat) (a3:List Nat) (cnt':Nat),r'=.tuple #[.slice F ac.length U,.int .i64 (cnt':Int)]∧Sl w' w'.heap.size 1 Ai F (Aj a3)∧BN L ac.length (dnx t) (dac ac) (r+1) a3 cnt'):=fun f A c r cnt cl C hS hC=>by
  refine Calls.ret (Le (ad.out.keep (fun p z=>C.cell z) C.size) I hS (Nat.le_refl _) hC.len (fun x y=>by have:=(hC.mem x).1 y; have:=hC.le; omega) hL W (hT.below C)) ?_
  rintro r' w' ⟨b6,F,U,e,b7⟩
  exact⟨b6,F,U,_,_,e,b7,Ld (fun q x E y=>I.lt E y) hC⟩
 have ak:∀(f:World) (A:Option Addr) (c:Nat) (cl:List Nat),Below w.heap.size w f→Sl f f.heap.size 1 Ai A (Aj cl)→B6 L ac.length (dnx t) (dac ac) cl→Calls Tryz.prog 64 #[.agg #[.slice J t.length M,.slice O ac.length c2],.slice A ac.length c] f (Ret fun r w'=>Below f.heap.size f w'∧∃st:List Nat,(∀s∈st,s<ac.length)∧st.length≤ac.length∧Bc L (Ba (dnx t) cl) (cl.getD 0 0) (st.map fun s=>cl.getD s 0)∧(∀w'',Ae w' w'' (fun k=>k<f.heap.size)→BG w'' w''.heap.size r (BC L (Ba (dnx t) cl) (st.map fun s=>cl.getD s 0) st.length) (st.map (dac ac)))∧Df w' f.heap.size r (BC L (Ba (dnx t) cl) (st.map fun s=>cl.getD s 0) st.length) (st.map (dac ac))):=fun f A c cl C hS hW=>
  Rw (ad.out.keep (fun p z=>C.cell z) C.size) I hS (Nat.le_refl _) hW hL W
 have aC:=Pm L (dnx t) ac
 have aD:=hide aC
 obtain⟨n,a6⟩:∃n,n=ac.length:=⟨_,rfl⟩
 have al:=hide a6
 rw [←a6] at b1 hD ah ai ak W ⊢
 have b8:=hide ai
 have b9:=hide ak
 clear ai ak
 clear h1 h2 b2 b3 ae ag af az a6 I hT aC
 go_enter Tryz.func38,Tryz.ntmps38
 have ba:=hD.out.cell
 go_wp2_with fail
 refine Calls.ret ah ?_
 rintro r w3 ⟨a7,A,c,rfl,aE⟩
 have bb:=Z.trans (a7.mono aA)
 have bc:=hide (hD.out.below a7)
 have bd:=hide (hR.out.below a7)
 have be:=hide aE
 clear ah aE ba Z a7 hD hR
 go_wp2_with fail
 go_loopw [3,4] (fun vv cc wr=>∃(r cnt c:Nat) (A:Option Addr) (cl:List Nat),vv=.slice A n c∧cc=.int .i64 (cnt:Int)∧cnt≤n∧Below w.heap.size w wr∧Hid (Blk wr w.heap.size 56 #[.slice J t.length M,.slice O n c2])∧Hid (Blk wr w1.heap.size 56 #[sn0,sn0])∧Hid (Sl wr wr.heap.size 1 Ai A (Aj cl))∧Hid (BN L n (dnx t) (dac ac) r cl cnt)) (fun _ cc _=>n - (intOf cc).toNat)
 case atStart=>exact⟨0,(dd ac).length,c,A,BD ac,rfl,rfl,by have:=aD.out.le; have:=al.out; omega,bb,bc,bd,be,by rw [al.out]; exact aD⟩
 case round=>
  obtain⟨r,cnt,c,A,cl,rfl,rfl,bw,an,aF,bg,aG,ao⟩:=hrel
  have bx:=aF.out.cell
  go_wp2_with fail
  refine Calls.ret (b8.out _ _ _ _ _ _ an aG.out ao.out) ?_
  rintro r' w4 ⟨G,F,U,a3,cnt',rfl,aH,a8⟩
  have a9:=an.trans (G.mono an.size)
  have aJ:=hide (aF.out.below G)
  have ap:=hide (bg.out.below G)
  have aq:=a8.le
  have bi:=ao.out.grow a8
  have bj:=hide aH
  have aK:=hide a8
  have bk:=hide (aG.out.keep (w':=w4) (fun p z=>G.cell z) G.size)
  have bz:=aJ.out.cell
  clear G aH a8
  by_cases he:cnt'=cnt
  ·subst he
   have hW:B6 L n (dnx t) (dac ac) cl:=ao.out.atRest (fun q x E y=>by
    rw [al.out] at E ⊢
    exact hM.out q x E y) aK.out
   have aM:=hide hW
   have bl:=a9.size
   clear bi aq hW
   go_wp2_with fail
   refine Calls.ret (b9.out _ _ _ _ a9 bk.out aM.out) ?_
   rintro d w5 ⟨aa,st,bn,bo,aN,ar,aO⟩
   obtain⟨A5,c5,A6,c6,rfl,-,-⟩:=ar w5 (Ae.refl _ _)
   have V:=ap.out.below aa
   have bA:=V.frozen
   have bB:=V.lt
   have bC:=V.cell
   obtain⟨wF,au,aT,ab⟩:=DA V (.slice A5 (BC L (Ba (dnx t) cl) (st.map fun s=>cl.getD s 0) st.length).length c5) (.slice A6 (st.map (dac ac)).length c6)
   have aU:=aT.cell
   have bD:=hide au
   have bE:=ap.out.lt
   have bq:=hide ((a9.trans (aa.mono bl)).trans (ab.below (by have:=aa.size; omega) fun b C e=>by omega))
   have aV:=hide (fun w'' (hk:Ae wF w'' (fun k=>k<w.heap.size))=>ar w'' ((ab.mono (fun b _ e=>by omega)).trans hk (fun b _ e=>by omega)))
   have aW:=hide (aO.kept (base':=w.heap.size) ab (fun g (e:g=_) _=>by omega) (by omega))
   have br:=hide aN
   clear ar aO V aT ab aa aN
   unfold Dq at au
   obtain⟨lr,aX⟩:∃lr,lr=(BC L (Ba (dnx t) cl) (st.map fun s=>cl.getD s 0) st.length).length:=⟨_,rfl⟩
   obtain⟨la,aY⟩:∃la,la=(st.map (dac ac)).length:=⟨_,rfl⟩
   rw [←aX,←aY] at au aU aV aW ⊢
   clear aX aY
   go_wp2_with fail
   refine bodyPost_ret (v:=.agg #[.slice A5 lr c5,.slice A6 la c6]) (by simp [results,Tryz.results38,go_sem,aU]) rfl ⟨bq.out,cl,st,aM.out,bn,bo,br.out,aV.out,aW.out⟩
  ·have a6:¬(cnt':Int)=(cnt:Int):=by omega
   have bs:cnt'≤n:=aq
   clear he aq
   go_wp2_with fail
   exact⟨⟨r+1,cnt',U,F,a3,rfl,rfl,bs,a9,aJ,ap,bj,aK⟩,by simp [intOf]; omega⟩
theorem RI {w:World} {v:Value} {L:Nat} {t:List (List Nat)} {ac:List Bool} (h:BG w w.heap.size v t ac) (f:DOK L t ac) (y:L≤8) (z:ac.length≤250000) (C:Ca w):
  Calls Tryz.prog 38 #[v] w (Ret fun r w'=>Below w.heap.size w w'∧∃cl st:List Nat,B6 L ac.length (dnx t) (dac ac) cl∧(∀s∈st,s<ac.length)∧st.length≤ac.length∧Bc L (Ba (dnx t) cl) (cl.getD 0 0) (st.map fun s=>cl.getD s 0)∧∀w'',Ae w' w'' (fun k=>k<w.heap.size)→BG w'' w''.heap.size r (BC L (Ba (dnx t) cl) (st.map fun s=>cl.getD s 0) st.length) (st.map (dac ac))):=by
 refine Calls.ret (IE h f y z C) ?_
 rintro r w' ⟨E,cl,st,F,G,I,J,M,-⟩
 exact⟨E,cl,st,F,G,I,J,M⟩
end Go.Proofs.YtlakpndhhelliaaGreatDoor
namespace Go.Proofs.YtlakpndhhelliaaGreatDoor
open Go.RowKit
set_option maxHeartbeats 4000000
theorem RO (a:NF) (all:List (List Bool)) (i:Nat):Bs a all i=BC a.L a.after all i:=rfl
section
variable {S:Type} [DecidableEq S] {L:Nat} {δ:S→Nat→S} {s0:S}
theorem OU {all:List S} {q:Nat} {s:S} (f:all[q]?=some s) {x:Nat} (h:x<L):dnx (BC L δ all all.length) q x=AD all (δ s x):=by
 unfold dnx BC
 rw [List.take_length,getD_some (Bq f),getD_some (Bq (List.getElem?_range h))]
theorem H9 {all:List S} {q x:Nat} (h:q<all.length) (y:x<L):dnx (BC L δ all all.length) q x=CA δ all q x:=by
 obtain⟨s,f⟩:=Ay h
 rw [OU f y]
 unfold CA
 rw [f]
 rfl
theorem Gx {all:List S} (h:Bc L δ s0 all) {ac:List Bool} (z:ac.length=all.length):DOK L (BC L δ all all.length) ac:=by
 have G:all.length≠0:=fun e=>by
  have:=h.run (w:=[]) (okW.nil L)
  rw [List.length_eq_zero_iff.1 e] at this
  simp at this
 refine⟨by rw [F6 (Nat.le_refl _),z],by omega,fun r f=>?_⟩
 unfold BC at f
 rw [List.take_length] at f
 obtain⟨s,C,rfl⟩:=List.mem_map.1 f
 refine⟨by simp,fun y E=>?_⟩
 obtain⟨x,F,rfl⟩:=List.mem_map.1 E
 rw [z]
 exact HQ (h.closed C (List.mem_range.1 F))
end
theorem GZ {L n:Nat} {nx nx':Nat→Nat→Nat} (f:∀q x,q<n→x<L→nx q x<n) (h:∀q x,q<n→x<L→nx' q x=nx q x):∀(w:List Nat) (q:Nat),okW L w→q<n→AG nx' q w=AG nx q w
 | [],_,_,_=>rfl
 | x::w,q,hw,hq=>by
  have z:=hw x List.mem_cons_self
  show AG nx' (nx' q x) w=AG nx (nx q x) w
  rw [h q x hq z]
  exact GZ f h w _ (fun y C=>hw y (List.mem_cons_of_mem _ C)) (f q x hq z)
theorem I7 {S:Type} [DecidableEq S] {δ δ':S→Nat→S} {s:S} {l:List S}:∀(k:Nat),(∀x,x<k→δ' s x=δ s x)→Bh δ' s l k=Bh δ s l k
 | 0,_=>rfl
 | k+1,h=>by rw [C8,C8,I7 k (fun x f=>h x (by omega)),h k (by omega)]
theorem LG {S:Type} [DecidableEq S] {L:Nat} {δ δ':S→Nat→S} {s0:S} {i:Nat} {l:List S} (h:Exp L δ s0 i l) (y:∀s x,s∈l→x<L→δ' s x=δ s x):Exp L δ' s0 i l:=by
 induction h with
 | start=>exact .start
 | @row i l s h1 hs ih=>
  have z:=Ei (δ:=δ) s l L
  have C:=ih fun E x F f=>y E x (z.subset F) f
  rw [←I7 (δ:=δ) (δ':=δ') L fun x f=>y s x (z.subset (List.mem_of_getElem? hs)) f]
  exact .row C hs
theorem Ce.congr {L n:Nat} {nx nx':Nat→Nat→Nat} {acc J:Nat→Bool} {Λ Λ':List Nat→Bool} (h:Ce L n nx acc Λ) (y:∀q x,q<n→x<L→nx' q x=nx q x) (M:∀q,q<n→J q=acc q) (C:∀w,okW L w→Λ' w=Λ w):Ce L n nx' J Λ':=by
 have E:∀w,okW L w→AG nx' 0 w=AG nx 0 w:=fun w f=>GZ (fun q x O y=>h.lt O y) y w 0 f h.pos
 refine⟨fun w f=>?_,fun u v F G U=>?_,?_⟩
 ·rw [E w f,M _ (h.run_lt f),h.lang w f,C w f]
 ·rw [E u F,E v G]
  exact h.sep u v F G fun z I=>by rw [←C _ (F.app I),←C _ (G.app I)]; exact U z I
 ·exact LG h.ord fun s x V W=>y s x (List.mem_range.1 V) W
structure CU (L:Nat) (t:List (List Nat)) (ac:List Bool) (Λ:List Nat→Bool):Prop where
 ok:DOK L t ac
 can:Ce L ac.length (dnx t) (dac ac) Λ
def GJ (t:List (List Nat)) (ac:List Bool) (w:List Nat):Bool:=dac ac (AG (dnx t) 0 w)
theorem MN {a:NF} {all:List (List Bool)} (h:Bc a.L a.after a.st all) {w:List Nat} (z:okW a.L w):GJ (Bs a all all.length) (all.map a.has) w=a.lang w:=by
 have C:=Gx (δ:=a.after) h (ac:=all.map a.has) (by simp)
 have E:=h.num z
 have F:AG (dnx (Bs a all all.length)) 0 w=AG (CA a.after all) 0 w:=by
  have:=GZ (L:=a.L) (n:=all.length) (nx:=dnx (BC a.L a.after all all.length)) (nx':=CA a.after all) (fun q x f y=>by have:=C.lt (by simpa using f) y; simpa using this) (fun q x f y=>(H9 f y).symm) w 0 z (by have:=C.pos; simpa using this)
  exact this.symm
 unfold GJ
 rw [F]
 unfold dac
 rw [getD_some (Bq E)]
 rfl
theorem LA {L:Nat} {t:List (List Nat)} {ac:List Bool} {cl st:List Nat} (y:DOK L t ac) (F:B6 L ac.length (dnx t) (dac ac) cl) (G:∀s∈st,s<ac.length) (z:Bc L (Ba (dnx t) cl) (cl.getD 0 0) (st.map fun s=>cl.getD s 0)):
  CU L (BC L (Ba (dnx t) cl) (st.map fun s=>cl.getD s 0) st.length) (st.map (dac ac)) (GJ t ac):=by
 have I:=F.canon (fun q x f h=>y.lt f h) y.pos G z
 have C:=Gx z (ac:=st.map (dac ac)) (by simp)
 rw [List.length_map] at C
 refine⟨C,?_⟩
 rw [List.length_map]
 refine I.congr (fun q x f h=>?_) (fun q f=>?_) (fun w J=>rfl)
 ·have:=H9 (L:=L) (δ:=Ba (dnx t) cl) (all:=st.map fun s=>cl.getD s 0) (q:=q) (x:=x) (by simpa using f) h
  rw [List.length_map] at this
  exact this
 ·obtain⟨s,E⟩:=Ay f
  show(st.map (dac ac)).getD q false=_
  rw [getD_some (Bq E),getD_some E]
theorem CU.congr {L:Nat} {t:List (List Nat)} {ac:List Bool} {Λ Λ':List Nat→Bool} (h:CU L t ac Λ) (f:∀w,okW L w→Λ' w=Λ w):CU L t ac Λ':=
 ⟨h.ok,h.can.congr (fun _ _ _ _=>rfl) (fun _ _=>rfl) f⟩
theorem CU.unique {L:Nat} {t C:List (List Nat)} {ac E:List Bool} {Λ Λ':List Nat→Bool} (h:CU L t ac Λ) (z:CU L C E Λ') (W:∀w,okW L w→Λ w=Λ' w):t=C∧ac=E:=by
 obtain⟨I,Z,ha⟩:=h.can.unique z.can W
 constructor
 ·apply List.ext_getElem?
  intro q
  by_cases f:q<ac.length
  ·obtain⟨r,F⟩:=Ay (l:=t) (i:=q) (by rw [h.ok.len]; exact f)
   obtain⟨J,G⟩:=Ay (l:=C) (i:=q) (by rw [z.ok.len,←I]; exact f)
   rw [F,G]
   congr 1
   apply List.ext_getElem?
   intro x
   have l1:=(h.ok.row r (List.mem_of_getElem? F)).1
   have l2:=(z.ok.row J (List.mem_of_getElem? G)).1
   by_cases a3:x<L
   ·obtain⟨y,M⟩:=Ay (l:=r) (i:=x) (by omega)
    obtain⟨y',O⟩:=Ay (l:=J) (i:=x) (by omega)
    have:=Z q x f a3
    unfold dnx at this
    rw [getD_some F,getD_some G,getD_some M,getD_some O] at this
    rw [M,O,this]
   ·rw [List.getElem?_eq_none (by omega),List.getElem?_eq_none (by omega)]
  ·rw [List.getElem?_eq_none (by rw [h.ok.len]; omega),List.getElem?_eq_none (by rw [z.ok.len,←I]; omega)]
 ·apply List.ext_getElem?
  intro q
  by_cases f:q<ac.length
  ·obtain⟨b,U⟩:=Ay f
   obtain⟨b',V⟩:=Ay (l:=E) (i:=q) (by omega)
   have:=ha q f
   unfold dac at this
   rw [getD_some U,getD_some V] at this
   rw [U,V,this]
  ·rw [List.getElem?_eq_none (by omega),List.getElem?_eq_none (by omega)]
end Go.Proofs.YtlakpndhhelliaaGreatDoor
namespace Go.Proofs.YtlakpndhhelliaaGreatDoor
open Go.RowKit
set_option maxHeartbeats 16000000
set_option maxRecDepth 100000
theorem JY {E:Type} {p:Nat→E→Bool} (G:∀s y e,p s e=true→p y e=true→s=y) (f:List Nat) (C:f.Nodup):∀es:List E,(f.flatMap fun s=>es.filter (p s)).length≤es.length
 | []=>by
  have:(f.flatMap fun s=>([]:List E).filter (p s))=[]:=List.flatMap_eq_nil_iff.2 fun _ _=>rfl
  rw [this]
  exact Nat.le_refl _
 | e::es=>by
  have I:=JY G f C es
  have M:∀f:List Nat,f.Nodup→(f.flatMap fun s=>(e::es).filter (p s)).length≤(f.flatMap fun s=>es.filter (p s)).length+1∧((∀s∈f,p s e=false)→(f.flatMap fun s=>(e::es).filter (p s)).length≤(f.flatMap fun s=>es.filter (p s)).length):=by
   intro f
   induction f with
   | nil=>simp
   | cons s f I=>
    intro C
    obtain⟨O,U⟩:=List.nodup_cons.1 C
    obtain⟨W,J⟩:=I U
    rw [List.flatMap_cons,List.flatMap_cons,List.length_append,List.length_append,List.filter_cons]
    by_cases z:p s e=true
    ·have V:∀y∈f,p y e=false:=fun y F=>by
      rw [Bool.eq_false_iff]
      intro h
      exact O (by rw [G s y e z h]; exact F)
     have:=J V
     rw [if_pos z,List.length_cons]
     refine⟨by omega,fun h=>?_⟩
     rw [h s List.mem_cons_self] at z
     cases z
    ·rw [if_neg z]
     refine⟨by omega,fun h=>?_⟩
     have:=J fun y F=>h y (List.mem_cons_of_mem _ F)
     omega
  have:=(M f C).1
  rw [List.length_cons]
  omega
theorem Lk (m:List Bool):(AM m).Nodup:=List.nodup_range.filter _
theorem WA.cat_len {a:WA} {m:List Bool} {x:Nat} (f:m.length=a.n) (h:x<a.L):(a.nf.cat (AC m) x).length≤a.edges.length:=by
 have e:a.nf.cat (AC m) x=((AM m).flatMap fun s:Nat=>a.edges.filter fun e=>decide (e.frm=(s:Int))&&decide (e.letter=(x:Int))).map (·.to):=by
  unfold NF.cat
  rw [Es,List.map_flatMap]
  unfold Aj
  rw [List.flatMap_map]
  simp only [List.flatMap]
  congr 1
  refine List.map_congr_left fun s y=>?_
  rw [Int.toNat_natCast,WA.nf_to a (FY f s y) h]
  rfl
 rw [e,List.length_map]
 refine JY (fun(s z:Nat) e h1 h2=>?_) _ (Lk m) _
 simp only [Bool.and_eq_true,decide_eq_true_eq] at h1 h2
 omega
def M1 (w:World) (a:WA) (v:Value) (w':World):Prop:=
 Below w.heap.size w w'∧((a.nf.Large 400∧v=.tuple #[.agg #[sn0,sn0],.int .i64 4])∨
  (¬a.nf.Large 400∧∃t ac d,CU a.L t ac a.lang∧ac.length≤400∧v=.tuple #[d,.int .i64 0]∧(∀w'',Ae w' w'' (fun k=>k<w.heap.size)→BG w'' w''.heap.size d t ac)∧Df w' w.heap.size d t ac))
def Ns (w:World) (a:WA) (v:Value) (w':World):Prop:=
 Below w.heap.size w w'∧((a.nf.Large 400∧v=.tuple #[.agg #[sn0,sn0],.int .i64 4])∨
  (¬a.nf.Large 400∧∃t ac d,CU a.L t ac a.lang∧ac.length≤400∧v=.tuple #[d,.int .i64 0]∧∀w'',Ae w' w'' (fun k=>k<w.heap.size)→BG w'' w''.heap.size d t ac))
theorem M5 {v:Value} {a:WA} {w:World} (h:Cb w w.heap.size v a) (a3:a.In) (hS:0≤a.states∧a.states≤200000) (hL:0≤a.letters∧a.letters≤8) (he:a.edges.length≤3000000) (av:a.start.length≤4000000) (hT:Ca w):
  Calls Tryz.prog 18 #[v] w (Ret fun r w'=>M1 w a r w'):=by
 have b9:=hide h
 obtain⟨A1,c1,A2,c2,A3,c3,rfl,h1,h2,h3,h4⟩:=h
 obtain⟨w1,bN,a5,a6,bj⟩:=Ag w #[.int .i64 a.letters,.int .i64 a.states,.slice A1 a.start.length c1,.slice A2 a.accept.length c2,.slice A3 a.edges.length c3] 39
 obtain⟨w2,bO,a7,aw,bk⟩:=Ag w1 #[sn0,sn0] 56
 have bl:=a5.size
 have a8:Below w.heap.size w w2:=a5.trans (a7.mono bl)
 have ax:=a8.size
 have ay:=(a6.below a7).cell
 have bP:=a6.lt
 have hR:=hide aw
 have az:=Il (b9.out.keep (fun p hp=>a8.cell hp) ax) a3 hS hL he
 have aA:=WA.nf_ok a3
 have hN:a.nf.n≤200000:=by rw [a.nf_n]; unfold WA.n; omega
 have aa:a.nf.L≤8:=by show a.L≤8; unfold WA.L; omega
 have aC:∀m x,m.length=a.nf.n→x<a.nf.L→(a.nf.cat (AC m) x).length≤4000000:=fun m x hm hx=>by
  have:=WA.cat_len (a:=a) (hm.trans a.nf_n) hx
  omega
 have bp:=hide (fun(f:World) (d:Value) (C:Below w.heap.size w f) (hI:Cc f f.heap.size d a.nf)=>PO (k:=400) hI aA hN aa (by omega) (hT.below C) av aC)
 have aD:∀(f:World) (d:Value) (all:List (List Bool)),Below w.heap.size w f→Bc a.nf.L a.nf.after a.nf.st all→all.length≤400→BG f f.heap.size d (Bs a.nf all all.length) (all.map a.nf.has)→
   Calls Tryz.prog 38 #[d] f (Ret fun r w'=>Below f.heap.size f w'∧∃t ac,CU a.L t ac a.lang∧ac.length≤400∧(∀w'',Ae w' w'' (fun k=>k<f.heap.size)→BG w'' w''.heap.size r t ac)∧Df w' f.heap.size r t ac):=fun f d all C hD hl hI=>by
  have hd:=Gx hD (ac:=all.map a.nf.has) (by simp)
  refine Calls.ret (IE (L:=a.nf.L) hI hd aa (by simp; omega) (hT.below C)) ?_
  rintro r w' ⟨bq,cl,st,hW,bs,bt,G,hF,hO⟩
  exact⟨bq,_,_,(LA hd hW bs G).congr fun w hw=>(MN hD hw).symm,by simp at bt ⊢; omega,hF,hO⟩
 have bx:=hide aD
 clear aD
 clear h1 h2 h3 h4 bj bk a5 a7 a6 aw a3 hS hL he av hT aA hN aa aC
 go_enter Tryz.func18,Tryz.ntmps18
 go_wp2_with fail
 refine Calls.ret az ?_
 rintro nf w3 ⟨bz,ab⟩
 have ad:=a8.trans (ab.mono ax)
 have bA:=hide (hR.out.below ab)
 clear az ab
 go_wp2_with fail
 refine Calls.ret (bp.out _ _ ad bz) ?_
 rintro r w4 ⟨O,d,⟨t0,aF,bB⟩,hr⟩
 have aH:=ad.trans (O.mono ad.size)
 have aJ:=hide (bA.out.below O)
 obtain⟨A5,c5,A6,c6,rfl,h5,h6⟩:=bB
 obtain⟨w5,bT,U,E,aQ⟩:=Ag w4 #[sn0,sn0] 56
 have bU:=E.frozen
 have bV:=E.lt
 have bW:=E.cell
 obtain⟨w6,aR,ag,ah⟩:=DA E (.slice A5 t0.length c5) (.slice A6 aF.length c6)
 have bX:=aJ.out.lt
 have bC:=aH.size
 have F:Below w4.heap.size w4 w6:=U.trans (ah.below U.size fun b C e=>by omega)
 have I:=aH.trans (F.mono bC)
 have y:=aJ.out.below F
 have bD:=ag.cell
 have bY:=y.frozen
 have bZ:=y.lt
 have c0:=y.cell
 have bE:=F.size
 obtain⟨bF,ai⟩:∃n,n=t0.length:=⟨_,rfl⟩
 obtain⟨bG,aj⟩:∃n,n=aF.length:=⟨_,rfl⟩
 rw [←ai,←aj] at aR hr bD
 unfold Dq at aR
 rcases hr with⟨aS,rfl⟩ | ⟨all,G,ak,aT,rfl⟩
 ·obtain⟨wF,V,J,z⟩:=DA y sn0 sn0
  have W:=J.cell
  have al:=hide (I.trans (z.below I.size fun b C e=>by omega))
  have bH:=hide aS
  clear aS ai aj h5 h6 E aQ ag ah U F y J z O ay
  unfold Dq at V
  go_wp2_with fail
  refine bodyPost_ret (v:=.tuple #[.agg #[sn0,sn0],.int .i64 4]) (by simp [results,Tryz.results18,go_sem,W]) rfl ⟨al.out,.inl ⟨bH.out,rfl⟩⟩
 ·have aV:¬a.nf.Large 400:=NF.not_large G ak
  have aW:BG w6 w6.heap.size (.agg #[.slice A5 bF c5,.slice A6 bG c6]) (Bs a.nf all all.length) (all.map a.nf.has):=aT.keep (fun p hp=>F.cell hp) bE
  have aX:=bx.out _ _ _ I G ak aW
  have bI:=hide aV
  have Z:=hide I
  have bJ:=hide y
  clear aV ai aj h5 h6 E aQ ag ah U F y O aT aW G ak I ay
  go_wp2_with fail
  refine Calls.ret aX ?_
  rintro d w7 ⟨a2,t',an,aY,aZ,ao,b0⟩
  obtain⟨A7,c7,A8,c8,rfl,-,-⟩:=ao w7 (Ae.refl _ _)
  have M:=bJ.out.below a2
  have c4:=M.frozen
  have c9:=M.lt
  have ca:=M.cell
  obtain⟨wF,V,J,z⟩:=DA M (.slice A7 t'.length c7) (.slice A8 an.length c8)
  have W:=J.cell
  have al:=hide ((Z.out.trans (a2.mono Z.out.size)).trans (z.below (by have:=a2.size; have:=Z.out.size; omega) fun b C e=>by omega))
  have cb:=Z.out.size
  have b5:=hide (fun w'' (hk:Ae wF w'' (fun k=>k<w.heap.size))=>ao w'' ((z.mono (fun b _ e=>by omega)).trans hk (fun b _ e=>by omega)))
  have b6:=hide (b0.kept (base':=w.heap.size) z (fun g (e:g=_) _=>by omega) (by omega))
  have bL:=hide aY
  have bM:=hide aZ
  clear aX ao b0 M J z a2 aY aZ
  unfold Dq at V
  obtain⟨lr,b7⟩:∃lr,lr=t'.length:=⟨_,rfl⟩
  obtain⟨la,b8⟩:∃la,la=an.length:=⟨_,rfl⟩
  rw [←b7,←b8] at V W b5 b6 ⊢
  clear b7 b8
  go_wp2_with fail
  refine bodyPost_ret (v:=.tuple #[.agg #[.slice A7 lr c7,.slice A8 la c8],.int .i64 0]) (by simp [results,Tryz.results18,go_sem,W]) rfl ⟨al.out,.inr ⟨bI.out,t',an,_,bL.out,bM.out,rfl,b5.out,b6.out⟩⟩
theorem PS {v:Value} {a:WA} {w:World} (h:Cb w w.heap.size v a) (z:a.In) (hS:0≤a.states∧a.states≤200000) (C:0≤a.letters∧a.letters≤8) (E:a.edges.length≤3000000) (F:a.start.length≤4000000) (G:Ca w):
  Calls Tryz.prog 18 #[v] w (Ret fun r w'=>Ns w a r w'):=by
 refine Calls.ret (M5 h z hS C E F G) ?_
 rintro r w' ⟨y,f | ⟨f,t,ac,d,I,J,M,O,-⟩⟩
 ·exact⟨y,.inl f⟩
 ·exact⟨y,.inr ⟨f,t,ac,d,I,J,M,O⟩⟩
end Go.Proofs.YtlakpndhhelliaaGreatDoor
namespace Go.Proofs.YtlakpndhhelliaaGreatDoor
open Go.RowKit
set_option maxHeartbeats 16000000
set_option maxRecDepth 100000
def eC (e:Edg):List Value:=[.int .i64 e.frm,.int .i64 e.letter,.int .i64 e.to]
theorem Jo:∀{l:List Edg} {k j:Nat} {e:Edg},l[k]?=some e→j<3→(l.flatMap eC)[k*3+j]?=some (DJ e j)
 | [],_,_,_,h,_=>by simp at h
 | d::l,0,j,e,h,hj=>by
  have:d=e:=by simpa using h
  subst this
  rw [List.flatMap_cons,List.getElem?_append_left (by simp [eC]; omega)]
  match j,hj with
  | 0,_=>rfl
  | 1,_=>rfl
  | 2,_=>rfl
 | d::l,k+1,j,e,h,hj=>by
  rw [List.flatMap_cons,List.getElem?_append_right (by simp [eC]; omega)]
  have f:=Jo (l:=l) (k:=k) (j:=j) (by simpa using h) hj
  have y:(k+1)*3+j - (eC d).length=k*3+j:=by simp [eC]; omega
  rw [y]
  exact f
theorem P5 {w:World} {base n B:Nat} {v:Value} {l:List Edg} (h:w.ownsRow base 84 3 v n (l.flatMap eC)) (y:l.length=n) (G:w.heap.size≤B) (I:n≤9223372036854775807):∃A c,v=.slice A l.length c∧Sl w B 3 DJ A l:=by
 subst y
 rcases h.2 with⟨rfl,z⟩ | ⟨g,C,E,rfl,J,f,M,O,U,ht⟩
 ·have:l=[]:=List.length_eq_zero_iff.1 z
  subst this
  exact⟨none,0,rfl,Sl.nil rfl⟩
 ·refine⟨_,C,rfl,by omega,fun _=>⟨g,0,rfl,?_,fun k d hd j F=>?_⟩⟩
  ·have:=(Array.getElem?_eq_some_iff.1 f).1; omega
  ·rw [cell_of_row w g _ E 84 (0,0) f]
   have:=Jo hd F
   rw [←ht,List.getElem?_take] at this
   split at this
   ·simpa using this
   ·cases this
theorem NZ:(Tryz.prog.info? 84).map (fun i=>(i.zero,i.size,i.bytes))=some (some (.agg #[.int .i64 0,.int .i64 0,.int .i64 0]),3,24):=by kernel_rfl
theorem NO:C4 Tryz.prog 37 84 3:=EH Tryz.underlying37 NZ rfl (by omega) (by omega)
def EI (w:World) (base:Nat) (v:Value) (es:List Edg):Prop:=∃x0 x1 x2 x3 vE:Value,v=.agg #[x0,x1,x2,x3,vE]∧w.ownsRow base 84 3 vE es.length (es.flatMap eC)
theorem EI.kept {w w':World} {base base':Nat} {v:Value} {es:List Edg} {X:Nat→Prop} (h:EI w base v es) (hk:Ae w w' X) (z:∀g,X g→g<w.heap.size→g<base) (C:base'≤base):EI w' base' v es:=by
 obtain⟨E,F,G,I,vE,e,f⟩:=h
 refine⟨E,F,G,I,vE,e,Dz (hk.ownsRow f fun g y e=>?_) C⟩
 have J:=Bm f y
 have M:=z g e (Cm f y)
 omega
abbrev C9:Array Value:=#[.int .i64 0,.int .i64 0,sn0,sn0,sn0]
structure AuM (w0 wr:World) (g2 g4 g5 gs:Nat) (c2:Array Value) (L n:Nat) (vA vE:Value) (as':List Int) (es:List Edg):Prop where
 below:Below w0.heap.size w0 wr
 b2:Blk wr g2 56 c2
 b4:Blk wr g4 39 C9
 b5:Blk wr g5 39 #[.int .i64 (L:Int),.int .i64 (n:Int),.slice (some ⟨gs,0,none⟩) 1 1,vA,vE]
 start:Blk wr gs 3 #[.int .i64 0]
 acc:wr.ownsRow w0.heap.size 3 1 vA as'.length (as'.map (Value.int .i64))
 eds:wr.ownsRow w0.heap.size 84 3 vE es.length (es.flatMap eC)
 sep:vA.ownBlock≠some gs
 ne:g4≠g5
 ge:w0.heap.size≤g2∧w0.heap.size≤g4∧w0.heap.size≤g5∧w0.heap.size≤gs
section
variable {w0 wr w':World} {g2 g4 g5 gs L n:Nat} {c2:Array Value} {vA vE:Value} {as':List Int} {es:List Edg}
theorem AuM.keep (h:AuM w0 wr g2 g4 g5 gs c2 L n vA vE as' es) (f:Below wr.heap.size wr w'):AuM w0 w' g2 g4 g5 gs c2 L n vA vE as' es:=
 ⟨h.below.trans (f.mono h.below.size),h.b2.below f,h.b4.below f,h.b5.below f,h.start.below f,B5 h.acc f,B5 h.eds f,h.sep,h.ne,h.ge⟩
theorem AuM.addA {q:Int} {f:Value} {w1:World} (h:AuM w0 wr g2 g4 g5 gs c2 L n vA vE as' es) (F:Ae wr w1 (fun k=>vA.ownBlock=some k)) (M:w1.ownsRow w0.heap.size 3 1 f (as'.length+1) (as'.map (Value.int .i64)++[.int .i64 q])) (O:BX wr vA f):
  AuM w0 (w1.setCell ⟨g5,3,none⟩ f) g2 g4 g5 gs c2 L n f vE (as'++[q]) es:=by
 have G:=h.b5.kept F (AK h.acc h.b5 (by decide))
 have I:=(Ae.refl w1 (fun k=>k=g5)).setCell (p:=⟨g5,3,none⟩) (fun _=>rfl) f
 have z:Ae wr (w1.setCell ⟨g5,3,none⟩ f) (fun k=>vA.ownBlock=some k∨k=g5):=(F.mono fun _ _ e=>.inl e).trans I fun _ _ e=>.inr e
 have J:∀{e:TypeId},e≠3→e≠39→∀g cs,(vA.ownBlock=some g∨g=g5)→¬Blk wr g e cs:=by
  rintro e U V g cs (E | E) C
  ·exact AK h.acc C (fun y=>U y.symm) E
  ·exact C.ne_ h.b5 V E
 refine⟨h.below.trans (z.below h.below.size ?_),h.b2.kept z fun x=>J (by decide) (by decide) _ _ x h.b2,h.b4.kept z ?_,G.set_ 3 f,h.start.kept z ?_,?_,AX z h.eds (J (by decide) (by decide)),?_,h.ne,h.ge⟩
 ·rintro b W (e | e)
  ·have:=Bm h.acc e; omega
  ·have:=h.ge; omega
 ·rintro(e | e)
  ·exact AK h.acc h.b4 (by decide) e
  ·exact h.ne e
 ·rintro(e | e)
  ·exact h.sep e
  ·exact h.start.ne_ h.b5 (by decide) e
 ·rw [List.length_append,List.map_append]
  exact AX I M (fun g cs e C=>by subst e; exact C.ne_ G (by decide) rfl)
 ·intro e
  rcases O with y | ⟨Z,y,a2⟩
  ·exact h.sep (by rw [←y]; exact e)
  ·rw [e] at y
   have:=Option.some.inj y
   have:=h.start.lt
   omega
theorem AuM.addE {d:Edg} {vE':Value} {w1:World} (h:AuM w0 wr g2 g4 g5 gs c2 L n vA vE as' es) (E:Ae wr w1 (fun k=>vE.ownBlock=some k)) (I:w1.ownsRow w0.heap.size 84 3 vE' (es.length+1) (es.flatMap eC++eC d)):
  AuM w0 (w1.setCell ⟨g5,4,none⟩ vE') g2 g4 g5 gs c2 L n vA vE' as' (es++[d]):=by
 have F:=h.b5.kept E (AK h.eds h.b5 (by decide))
 have G:=(Ae.refl w1 (fun k=>k=g5)).setCell (p:=⟨g5,4,none⟩) (fun _=>rfl) vE'
 have f:Ae wr (w1.setCell ⟨g5,4,none⟩ vE') (fun k=>vE.ownBlock=some k∨k=g5):=(E.mono fun _ _ e=>.inl e).trans G fun _ _ e=>.inr e
 have z:∀{e:TypeId},e≠84→e≠39→∀g cs,(vE.ownBlock=some g∨g=g5)→¬Blk wr g e cs:=by
  rintro e J M g cs (C | C) y
  ·exact AK h.eds y (fun O=>J O.symm) C
  ·exact y.ne_ h.b5 M C
 refine⟨h.below.trans (f.below h.below.size ?_),h.b2.kept f fun x=>z (by decide) (by decide) _ _ x h.b2,h.b4.kept f ?_,F.set_ 4 vE',h.start.kept f fun x=>z (by decide) (by decide) _ _ x h.start,AX f h.acc (z (by decide) (by decide)),?_,h.sep,h.ne,h.ge⟩
 ·rintro b U (e | e)
  ·have:=Bm h.eds e; omega
  ·have:=h.ge; omega
 ·rintro(e | e)
  ·exact AK h.eds h.b4 (by decide) e
  ·exact h.ne e
 ·rw [List.length_append,List.flatMap_append]
  refine AX G ?_ (fun g cs e y=>by subst e; exact y.ne_ F (by decide) rfl)
  simpa using I
theorem AuM.finO {f:World} (h:AuM w0 wr g2 g4 g5 gs c2 L n vA vE as' es) (hk:Ae wr f (fun k=>k=g4)):EI f w0.heap.size (.agg #[.int .i64 (L:Int),.int .i64 (n:Int),.slice (some ⟨gs,0,none⟩) 1 1,vA,vE]) es:=
 ⟨_,_,_,_,_,rfl,hk.ownsRow h.eds fun g y e=>AK h.eds h.b4 (by decide) (by rw [y,e])⟩
theorem AuM.fin {f:World} (h:AuM w0 wr g2 g4 g5 gs c2 L n vA vE as' es) (hk:Ae wr f (fun k=>k=g4∨k<w0.heap.size)) (W:as'.length≤4000000) (Z:es.length≤4000000):
  Cb f f.heap.size (.agg #[.int .i64 (L:Int),.int .i64 (n:Int),.slice (some ⟨gs,0,none⟩) 1 1,vA,vE]) ⟨(L:Int),(n:Int),[0],as',es⟩:=by
 have a2:=h.ge
 have C:=hk.ownsRow h.acc fun g y e=>by
  rcases e with e | e
  ·exact AK h.acc h.b4 (by decide) (by rw [y,e])
  ·have:=Bm h.acc y; omega
 have E:=hk.ownsRow h.eds fun g y e=>by
  rcases e with e | e
  ·exact AK h.eds h.b4 (by decide) (by rw [y,e])
  ·have:=Bm h.eds y; omega
 have hS:=h.start.kept hk fun e=>by
  rcases e with e | e
  ·exact h.start.ne_ h.b4 (by decide) e
  ·omega
 obtain⟨F,c2,G,I⟩:=C2 (B:=f.heap.size) C rfl (Nat.le_refl _) (by omega)
 obtain⟨J,M,O,U⟩:=P5 (B:=f.heap.size) E rfl (Nat.le_refl _) (by omega)
 obtain⟨A1,c1,z,V⟩:=C2 (B:=f.heap.size) (l:=[0]) (base:=0) (EK (n:=1) hS (Nat.zero_le _) rfl (by omega)) rfl (Nat.le_refl _) (by omega)
 injection z with z _ e4
 subst z
 exact⟨_,1,F,c2,J,M,by rw [G,O]; rfl,V,I,U,Nat.le_refl _⟩
end
end Go.Proofs.YtlakpndhhelliaaGreatDoor
