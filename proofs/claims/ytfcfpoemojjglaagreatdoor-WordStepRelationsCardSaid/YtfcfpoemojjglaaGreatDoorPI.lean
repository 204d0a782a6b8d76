/-
  Part PI of a proof.
-/
import Derived.Test.YtfcfpoemojjglaaGreatDoorPA
import Derived.Test.YtfcfpoemojjglaaGreatDoorPH
set_option maxHeartbeats 16000000
set_option maxRecDepth 100000
set_option linter.unusedVariables false
set_option linter.unusedSimpArgs false
namespace Go.Proofs.YtfcfpoemojjglaaGreatDoor
open Go.RowKit
set_option maxHeartbeats 16000000
set_option maxRecDepth 100000
theorem Fj:El Tryz.prog 3 CR:=QK .i64 Tryz.underlying3 (fun n:Nat=>(n:Int)) (fun a b h=>by omega)
theorem RG (w:World) (cs:Array Value) (M:Nat):∃g2 g4 g5 gs gm w1 w2 h y z C,g2=w.heap.size∧g4=w1.heap.size∧g5=w2.heap.size∧gs=z.heap.size∧w.alloc (.cells cs 78)=w1∧w1.alloc (.cells #[sn0,sn0] 78)=w2∧w2.alloc (.cells #[sn0,sn0] 78)=h∧(Instr.makeMap 181 none).run Tryz.prog h=.ok (.map (some gm)) y∧
  (Instr.mapUpdate 181 (.map (some gm)) (.int .i64 (M:Int)) (.int .i64 0)).run Tryz.prog y=.ok () z∧z.alloc (.cells #[.int .i64 0] 3)=C∧Below w.heap.size w y∧
  QM w C g2 g4 g5 gm cs [M] [0] [] [] (.slice (some ⟨gs,0,none⟩) 1 1) sn0 sn0 [] (fun _=>True):=by
 obtain⟨w1,h1,a2,U,ak⟩:=Ae w cs 78
 obtain⟨w2,h2,G,V,al⟩:=Ae w1 #[sn0,sn0] 78
 obtain⟨h,h3,F,W,am⟩:=Ae w2 #[sn0,sn0] 78
 obtain⟨gm,y,h4,ad,I,aj⟩:=F1 181 h
 obtain⟨z,h5,Z,af,ao⟩:=EY Fj Tryz.underlying181 (l:=[]) ad M (by simp)
 have ag:=Ac.of_grown af
 obtain⟨C,h6,J,ab,an⟩:=Ae z #[.int .i64 0] 3
 have s1:=a2.size
 have s2:=G.size
 have s3:=F.size
 have s4:=I.size
 have s6:=J.size
 have l1:=U.lt
 have l2:=V.lt
 have l3:=W.lt
 have O:Below w.heap.size w h:=a2.trans ((G.mono s1).trans (F.mono (by omega)))
 have a4:Below w.heap.size w y:=O.trans (I.mono (by omega))
 have a5:Below h.heap.size y C:=(ag.below s4 fun b hb e=>by have:=Option.some.inj e; omega).trans (J.mono (by omega))
 have E:Below h.heap.size h C:=I.trans a5
 have hO:C.ownsRow w.heap.size 3 1 (.slice (some ⟨z.heap.size,0,none⟩) 1 1) 1 ((Ak [0]).map (Value.int .i64)):=by
  have:=DD (base:=w.heap.size) (n:=1) ab (by omega) rfl (by omega)
  exact this
 exact⟨_,_,_,_,gm,w1,w2,h,y,z,C,rfl,rfl,rfl,rfl,h1,h2,h3,h4,h5,h6,a4,
  ⟨O.trans (E.mono (by omega)),((U.below G).below F).below E,(V.below F).below E,W.below E,Z.keep (J.block _ Z.lt),hO,Cb,Cb,.nil,⟨by omega,by omega⟩,⟨Nat.le_refl _,s1,by omega,by omega⟩⟩⟩
structure Gk (w0 wr:World) (g2 g4 g5 gm:Nat) (c2:Array Value) (L:Nat) (nx:Nat→Nat→Nat) (cl:List Nat) (ac:List Bool) (i:Nat) (st:List Nat) (vS vN vA:Value) (ws:List Value):Prop where
 mem:QM w0 wr g2 g4 g5 gm c2 (st.map fun s=>cl.getD s 0) st (AM L (AF nx cl) (st.map fun s=>cl.getD s 0) i) ((st.take i).map (dac ac)) vS vN vA ws (fun _=>True)
 exp:Exp L (AF nx cl) (cl.getD 0 0) i (st.map fun s=>cl.getD s 0)
 lt:∀s∈st,s<ac.length
theorem Gk.len {w0 wr:World} {g2 g4 g5 gm L i:Nat} {c2:Array Value} {nx:Nat→Nat→Nat} {acc:Nat→Bool} {cl:List Nat} {ac:List Bool} {st:List Nat} {vS vN vA:Value} {ws:List Value} (h:Gk w0 wr g2 g4 g5 gm c2 L nx cl ac i st vS vN vA ws) (y:Ck L ac.length nx acc cl):st.length≤ac.length:=by
 have:=D6 _ (List.range ac.length) h.exp.inv.nodup fun v C=>by
  obtain⟨s,z,rfl⟩:=List.mem_map.1 C
  exact List.mem_range.2 (y.lt s (h.lt s z))
 simpa using this
structure DZ (w0 wr:World) (g2 g4 g5 gm:Nat) (c2:Array Value) (L:Nat) (nx:Nat→Nat→Nat) (cl:List Nat) (ac:List Bool) (i q gr x:Nat) (st st':List Nat) (vS vN vA:Value) (ws:List Value):Prop where
 mem:QM w0 wr g2 g4 g5 gm c2 (st'.map fun s=>cl.getD s 0) st' (AM L (AF nx cl) (st.map fun s=>cl.getD s 0) i) ((st.take (i+1)).map (dac ac)) vS vN vA ws (fun g=>g≠gr)
 eq:(st'.map fun s=>cl.getD s 0)=AZ (AF nx cl) (cl.getD q 0) (st.map fun s=>cl.getD s 0) x
 pre:st<+:st'
 lt:∀s∈st',s<ac.length
 sep:vS.ownBlock≠some gr
 blk:Blk wr gr 3 (Bi L fun y=>if y<x then Value.int .i64 (Ax (st'.map fun s=>cl.getD s 0) (AF nx cl (cl.getD q 0) y):Int) else .int .i64 0)
section
variable {w0 wr:World} {g2 g4 g5 gm L i q gr x:Nat} {c2:Array Value} {nx:Nat→Nat→Nat} {acc:Nat→Bool} {cl:List Nat} {ac:List Bool} {st st':List Nat} {vS vN vA:Value} {ws:List Value}
theorem DZ.len (h:DZ w0 wr g2 g4 g5 gm c2 L nx cl ac i q gr x st st' vS vN vA ws) (y:(st.map fun s=>cl.getD s 0).Nodup) (z:Ck L ac.length nx acc cl):st'.length≤ac.length:=by
 have C:(st'.map fun s=>cl.getD s 0).Nodup:=by rw [h.eq]; exact GN _ y _
 have:=D6 _ (List.range ac.length) C fun v F=>by
  obtain⟨s,E,rfl⟩:=List.mem_map.1 F
  exact List.mem_range.2 (z.lt s (h.lt s E))
 simpa using this
theorem GH {k z:List Nat} {f:Nat→Nat} (E:∀y,y<x→Ax z (f y)=Ax k (f y)) {u:Value} (F:u=.int .i64 (Ax z (f x):Int)) {w1:World} (C:Blk w1 gr 3 (Bi L fun y=>if y<x then Value.int .i64 (Ax k (f y):Int) else .int .i64 0)):
  Blk (w1.setCell ⟨gr,x,none⟩ u) gr 3 (Bi L fun y=>if y<x+1 then Value.int .i64 (Ax z (f y):Int) else .int .i64 0):=by
 have h1:=C.set_ x u
 rw [F7] at h1
 rw [D4 (g:=fun y=>if y=x then u else if y<x then Value.int .i64 (Ax k (f y):Int) else .int .i64 0) (fun y _=>by
  by_cases e:y=x
  ·subst e; rw [if_pos (by omega),if_pos rfl,F]
  ·by_cases h:y<x
   ·rw [if_pos (by omega),if_neg e,if_pos h,E y h]
   ·rw [if_neg (by omega),if_neg e,if_neg h])]
 exact h1
theorem DZ.old (h:DZ w0 wr g2 g4 g5 gm c2 L nx cl ac i q gr x st st' vS vN vA ws) {z:Nat} (y:AF nx cl (cl.getD q 0) x=z) (E:z∈st'.map fun s=>cl.getD s 0) (C:w0.heap.size≤gr):
  DZ w0 (wr.setCell ⟨gr,x,none⟩ (.int .i64 (Ax (st'.map fun s=>cl.getD s 0) z:Int))) g2 g4 g5 gm c2 L nx cl ac i q gr (x+1) st st' vS vN vA ws:=by
 have hk:=(Ac.refl wr (fun k=>k=gr)).setCell (p:=⟨gr,x,none⟩) (fun _=>rfl) (.int .i64 (Ax (st'.map fun s=>cl.getD s 0) z:Int))
 refine⟨h.mem.other (fun _ h=>h) h.sep h.blk C hk,?_,h.pre,h.lt,h.sep,GH (fun _ _=>rfl) (by rw [y]) h.blk⟩
 rw [Cr,←h.eq,y,F0 E]
theorem DZ.new (h:DZ w0 wr g2 g4 g5 gm c2 L nx cl ac i q gr x st st' vS vN vA ws) {s z:Nat} {vS':Value} {E w1:World} (U:AF nx cl (cl.getD q 0) x=z) (hs:cl.getD s 0=z) (a6:s<ac.length) (J:z∉st'.map fun s=>cl.getD s 0) (W:w0.heap.size≤gr)
  (a7:Bw E gm (((st'.map fun s=>cl.getD s 0)++[z]).map CR)) (Z:wr.grownBy E (some gm)) (a2:E.heap.size=wr.heap.size)
  (a3:Ac E w1 (fun k=>vS.ownBlock=some k)) (a4:w1.ownsRow w0.heap.size 3 1 vS' (st'.length+1) ((Ak st').map (Value.int .i64)++[.int .i64 (s:Int)])) (M:BJ E vS vS'):
  Blk w1 gr 3 (Bi L fun y=>if y<x then Value.int .i64 (Ax (st'.map fun s=>cl.getD s 0) (AF nx cl (cl.getD q 0) y):Int) else .int .i64 0)∧
  DZ w0 (w1.setCell ⟨gr,x,none⟩ (.int .i64 (st'.length:Int))) g2 g4 g5 gm c2 L nx cl ac i q gr (x+1) st (st'++[s]) vS' vN vA ws:=by
 obtain⟨hQ,V⟩:=h.mem.addS (kv:=z) (s:=s) a7 Z a2 a3 a4 M
 have I:=h.blk.kept V (by
  rintro(e | e)
  ·exact BT h.blk h.mem.map e.symm
  ·exact h.sep e)
 have G:((st'++[s]).map fun s=>cl.getD s 0)=(st'.map fun s=>cl.getD s 0)++[z]:=by simp [←hs]
 have O:vS'.ownBlock≠some gr:=fun e=>by
  rcases M with F | ⟨g',F,a9⟩
  ·exact h.sep (by rw [←F]; exact e)
  ·rw [e] at F
   have:=Option.some.inj F
   have:=h.blk.lt
   omega
 rw [←G] at hQ
 have hk:=(Ac.refl w1 (fun k=>k=gr)).setCell (p:=⟨gr,x,none⟩) (fun _=>rfl) (.int .i64 (st'.length:Int))
 refine⟨I,hQ.other (fun _ h=>h) O I W hk,?_,h.pre.trans (List.prefix_append _ _),fun y C=>?_,O,GH (k:=st'.map fun s=>cl.getD s 0) (fun y C=>?_) ?_ I⟩
 ·rw [G,Cr,←h.eq,U,FZ J]
 ·rcases List.mem_append.1 C with C | C
  ·exact h.lt y C
  ·rw [List.mem_singleton.1 C]; exact a6
 ·rw [G]
  refine ET (List.prefix_append _ _) ?_
  rw [h.eq]
  exact Gb _ _ C
 ·rw [G,U,ES J,List.length_map]
end
theorem RI {w:World} {v:Value} {L c B:Nat} {A:Option Addr} {t:List (List Nat)} {ac:List Bool} {cl:List Nat} (h:Br w w.heap.size v t ac) (M:DOK L t ac) (aF:Sl w B 1 Ai A (Ak cl)) (hB:B≤w.heap.size) (hW:Ck L ac.length (dnx t) (dac ac) cl) (hL:L≤8) (hn:ac.length≤250000):
  Calls Tryz.prog 167 #[v,.slice A ac.length c] w (Ret fun r w'=>Below w.heap.size w w'∧∃st:List Nat,(∀s∈st,s<ac.length)∧st.length≤ac.length∧Bf L (AF (dnx t) cl) (cl.getD 0 0) (st.map fun s=>cl.getD s 0)∧Do w' w.heap.size r (AM L (AF (dnx t) cl) (st.map fun s=>cl.getD s 0) st.length) (st.map (dac ac))):=by
 obtain⟨A1,c1,A2,c2,rfl,h1,h2⟩:=h
 obtain⟨k0,aL⟩:=An (l:=cl) (i:=0) (by rw [hW.len]; exact M.pos)
 obtain⟨bc,oc,rfl,d5,bd⟩:=Ex aF aL
 obtain⟨g2,g4,g5,gs,gm,w1,w2,w3,w4,w5,w6,c8,c9,ca,cd,bE,dB,dC,dD,dE,dF,bT,hQ⟩:=RG w #[.slice A1 t.length c1,.slice A2 ac.length c2] k0
 subst c8 c9 ca cd
 have Z:=M.len
 rw [Z] at bE hQ ⊢
 have bk:cl.getD 0 0=k0:=getD_some aL
 have b3:=hide (show Gk w w6 w.heap.size w1.heap.size w2.heap.size gm #[.slice A1 ac.length c1,.slice A2 ac.length c2] L (dnx t) cl ac 0 [0] (.slice (some ⟨w5.heap.size,0,none⟩) 1 1) sn0 sn0 [] from by
  refine⟨?_,?_,fun s hs=>by rw [List.mem_singleton.1 hs]; exact M.pos⟩
  ·simp only [List.map_cons,List.map_nil,bk]
   exact hQ
  ·exact .start)
 have dc:w4.cell? ⟨bc,oc,none⟩=some (.int .i64 (k0:Int)):=(bT.cell (by show bc<_; omega)).trans bd
 have dg:=hQ.b5.lt
 obtain⟨n,aO⟩:∃n,n=ac.length:=⟨_,rfl⟩
 have ab:=hide aO
 have dw:n≤250000:=by omega
 have dv:0<n:=by have:=M.pos; omega
 have bN:=hide h1
 have bO:=hide h2
 have co:=hide M
 have c0:=hide aF
 have ai:=hide hW
 have bR:=hide (fun q x (W:q<ac.length) (hx:x<L)=>M.lt W hx)
 rw [←aO] at bE b3 ⊢
 clear h1 h2 aO M aF Z hW hQ aL bk bd hn
 go_enter Tryz.func167,Tryz.ntmps167
 go_wp2_with fail
 go_loopw [7,8] (fun vv O wr=>∃(i:Nat) (st:List Nat) (vN vA:Value) (ws:List Value),O=.int .i64 (i:Int)∧i≤n∧Hid (Gk w wr w.heap.size w1.heap.size w2.heap.size gm #[.slice A1 n c1,.slice A2 n c2] L (dnx t) cl ac i st vv vN vA ws)) (fun _ O _=>n - (intOf O).toNat)
 case atStart=>exact⟨0,[0],_,_,_,rfl,Nat.zero_le _,b3⟩
 case round=>
  obtain⟨i,st,vN,vA,ws,rfl,hi,hI⟩:=hrel
  have C:=hI.out
  have cD:=C.len ai.out
  have cE:st.length≤n:=by rw [ab.out]; exact cD
  obtain⟨AS,cS,rfl⟩:=AH C.mem.sts
  by_cases cg:i<st.length
  ·obtain⟨q,W⟩:=An cg
   have aq:=C.lt q (List.mem_of_getElem? W)
   obtain⟨gS,d1,e,da⟩:=C7 C.mem.sts (AX (f:=Value.int .i64) (AX (f:=fun x:Nat=>(x:Int)) W))
   cases e
   obtain⟨b,hb⟩:=An (l:=ac) (i:=q) aq
   obtain⟨ba,oa,rfl,bV,bb⟩:=Fy bO.out hb
   have db:wr.cell? ⟨ba,oa+q,none⟩=some (.bool b):=(C.mem.below.cell bV).trans bb
   obtain⟨bn,on,Ar,cr,row,rfl,bW,bf,cv,bA,bz,bB⟩:=Gt bN.out co.out aq
   obtain⟨AA,cA,rfl⟩:=AH C.mem.acc
   have V:((st.take i).map (dac ac)).length=i:=by simp; omega
   have d7:=C.mem.b2.cell
   have b9:=C.mem.b5.cell
   have b7:=C.mem.acc
   rw [V] at b9 b7
   have cG:=C.mem.below.size
   have c4:=hide (show dac ac q=b from getD_some hb)
   have dx:q<n:=by rw [ab.out]; exact aq
   have bw:=hide W
   have ct:=hide bz
   have cw:=hide bB
   have cu:=hide bA
   have bm:=hide V
   have c3:=hide bf
   clear C W hb bb cv bz bB bA V bf
   go_wp2_with fail
   refine Reg.cP [0,1,0,4,0,28,60,124,255,511,1023] ?_
   go_wp2_with (
    at_builtin
    refine BP (w:=wr.drew) GM rfl _ _ rfl w.heap.size (.slice AA i cA) i _ rfl b7 [.bool b] 1 rfl rfl (by simp [Value.oneCell']) (by omega) cG ?_
    intro g' ag w7 bt aM ck dm
    have U:=hI.out.mem.keep (Ap wr)
    rw [bm.out] at U
    have G:=U.addA aM (by rw [bm.out]; exact bt)
    have ak:=U.b5.kept aM (Aw U.acc U.b5 (by decide))
    have d9:=ak.cell
    have dk:=ak.frozen 1
    have dr:=ak.lt
    have bY:=G.b2.cell
    have bg:=(G.below.cell (p:=⟨bn,on+q,none⟩) bW).trans c3.out
    obtain⟨w8,cL⟩:∃w8,w7.setCell ⟨w2.heap.size,1,none⟩ (.slice (some ⟨g',0,none⟩) (i+1) ag)=w8:=⟨_,rfl⟩
    rw [cL] at G bY bg
    obtain⟨gr,w9,du,aE,aD,dn⟩:=Et w8 L (by omega)
    have df:=(aD.cell (p:=⟨bn,on+q,none⟩) (by have:=G.below.size; show bn<_; omega)).trans bg
    have d6:=(G.b2.below aD).cell
    rw [Fo] at aE
    have bQ:=hide (show DZ w w9 w.heap.size w1.heap.size w2.heap.size gm #[.slice (some ⟨bn,on,none⟩) n c1,.slice (some ⟨ba,oa,none⟩) n c2] L (dnx t) cl ac i q gr 0 st st (.slice (some ⟨gS,0,none⟩) st.length cS) vN (.slice (some ⟨g',0,none⟩) (i+1) ag) ws from by
     refine⟨?_,rfl,List.prefix_refl _,hI.out.lt,fun e=>?_,?_⟩
     ·rw [B5 bw.out,List.map_append]
      have:=(G.weak (N':=fun g=>g≠gr) (fun g hg _ e=>by omega)).keep aD
      rw [←c4.out] at this
      exact this
     ·have:=Cj G.sts e; omega
     ·rw [D4 (g:=fun _=>Value.int .i64 0) (fun y _=>by rw [if_neg (by omega)])]
      exact aE)
    have dy:=G.below.size
    have aJ:w.heap.size≤gr:=by omega
    clear U G bt aM ck ak aE)
   go_loopw [7,54] (fun vv O wz=>∃(x:Nat) (st':List Nat),O=.int .i64 (x:Int)∧x≤L∧Hid (DZ w wz w.heap.size w1.heap.size w2.heap.size gm #[.slice (some ⟨bn,on,none⟩) n c1,.slice (some ⟨ba,oa,none⟩) n c2] L (dnx t) cl ac i q gr x st st' vv vN (.slice (some ⟨g',0,none⟩) (i+1) ag) ws)) (fun _ O _=>L - (intOf O).toNat)
   case atStart=>exact⟨0,st,rfl,Nat.zero_le _,bQ⟩
   case round=>
    obtain⟨x,st',rfl,hx,F⟩:=hrel
    have E:=F.out
    have ap:=hI.out.exp.inv.nodup
    have dA:=E.len ap ai.out
    obtain⟨bJ,bM,rfl⟩:=AH E.mem.sts
    by_cases au:x<L
    ·obtain⟨y,hy⟩:=An (l:=row) (i:=x) (by rw [cu.out]; exact au)
     obtain⟨br,cR,rfl,bX,aG⟩:=Ex ct.out hy
     obtain⟨aT,aS⟩:=cw.out x y hy
     obtain⟨z,hz⟩:=An (l:=cl) (i:=y) (by rw [ai.out.len]; exact aT)
     obtain⟨b8,aH⟩:=Im c0.out hz
     have dh:wr.cell? ⟨br,cR+x,none⟩=some (.int .i64 (y:Int)):=(E.mem.below.cell bX).trans aG
     have di:wr.cell? ⟨bc,oc+y,none⟩=some (.int .i64 (z:Int)):=(E.mem.below.cell (by show bc<_; omega)).trans aH
     have dG:y<n:=by rw [ab.out]; exact aT
     have av:AF (dnx t) cl (cl.getD q 0) x=z:=by
      rw [ai.out.nxE bR.out aq au,aS]
      exact getD_some hz
     have aU:cl.getD y 0=z:=getD_some hz
     have aa:=E.mem.map
     have aN:=Ft Fj Tryz.underlying181 Fa aa z
     simp only [CR] at aN
     have de:wr.cell? ⟨gr,x,none⟩=some (.int .i64 0):=by rw [E.blk.cell,CV _ au,if_neg (by omega)]
     have dl:=E.blk.frozen x
     have dt:=E.blk.lt
     have bD:=E.mem.below.size
     by_cases J:z∈st'.map fun s=>cl.getD s 0
     ·have cp:=hide (E.old av J aJ)
      simp only [J,if_true,decide_true] at aN
      clear E ap hy aG hz aH b8 av aa J aU aS
      go_wp2_with fail
      exact⟨⟨x+1,st',by go_num,by omega,cp⟩,by simp [intOf]; omega⟩
     ·simp only [J,if_false,decide_false] at aN
      obtain⟨wm,cK,bp,aK,bC⟩:=EY Fj Tryz.underlying181 aa z J
      simp only [CR,List.length_map] at cK
      have bl:Ac wr wm (fun k=>gm=k):=(Ac.of_grown aK).mono fun b _ e=>Option.some.inj e
      have cF:=bl.ownsRow E.mem.sts fun g hg e=>Di E.mem.sts aa (by rw [hg,e])
      have cH:w.heap.size≤wm.heap.size:=by omega
      have dz:st'.length≤250000:=by have:=ab.out; omega
      have cO:=hide av
      have cQ:=hide aU
      have ci:=hide J
      have cj:=hide bp
      have cc:=hide aK
      have cB:=hide bC
      clear E ap hy aG hz aH b8 av aa J aU aS bp aK bC bl
      go_wp2_with (
       at_builtin
       refine BP (w:=wm) C9 rfl _ _ rfl w.heap.size (.slice bJ st'.length bM) st'.length _ rfl cF [.int .i64 (y:Int)] 1 rfl rfl (by simp [Value.oneCell']) (by omega) cH ?_
       intro ga az wa ad a9 ao cb
       obtain⟨am,bq⟩:=F.out.new cO.out cQ.out aT ci.out aJ cj.out cc.out cB.out a9 ad ao
       have be:wa.cell? ⟨gr,x,none⟩=some (.int .i64 0):=by rw [am.cell,CV _ au,if_neg (by omega)]
       have c6:=am.frozen x
       have cf:=am.lt
       have cn:=hide bq
       clear bq am ad a9 ao)
      exact⟨⟨x+1,st'++[y],by go_num,by omega,cn⟩,by simp [intOf]; omega⟩
    ·obtain rfl:x=L:=by omega
     obtain⟨AN,cN,rfl⟩:=AH E.mem.nxt
     have bj:i≤(st.map fun s=>cl.getD s 0).length:=by rw [List.length_map]; omega
     have Z:=D5 (L:=x) (δ:=AF (dnx t) cl) bj
     have bs:=E.mem.nxt
     have bZ:=E.mem.b5.cell
     rw [Z] at bs bZ
     obtain⟨I,ar⟩:∃I,I=(List.range x).map fun y=>Ax (st'.map fun s=>cl.getD s 0) (AF (dnx t) cl (cl.getD q 0) y):=⟨_,rfl⟩
     have aP:I.length=x:=by rw [ar]; simp
     have bu:wr.ownsRow w.heap.size 3 1 (.slice (some ⟨gr,0,none⟩) I.length x) I.length ((Ak I).map (Value.int .i64)):=by
      have:=DD E.blk aJ (Fp _ _) (by omega)
      rw [aP]
      have e:(Bi x fun y=>if y<x then Value.int .i64 (Ax (st'.map fun s=>cl.getD s 0) (AF (dnx t) cl (cl.getD q 0) y):Int) else .int .i64 0).toList=(Ak I).map (Value.int .i64):=by
       rw [ar]
       simp only [Bi,Ak,List.map_map]
       exact List.map_congr_left fun y hy=>by rw [if_pos (List.mem_range.1 hy)]; rfl
      rw [e] at this
      exact this
     have bD:=E.mem.below.size
     have cx:=hide ar
     have cy:=hide aP
     have cq:=hide bu
     have aQ:=hide Z
     clear E ar aP bu Z bj ap
     go_wp2_with (
      at_builtin
      refine BP (w:=wr) F9 rfl _ _ rfl w.heap.size (.slice AN i cN) i _ rfl bs [.slice (some ⟨gr,0,none⟩) x x] 1 rfl rfl (by simp [Value.oneCell']) (by omega) bD ?_
      intro ga az wa ad a9 ao cb
      have an:=a9
      rw [←aQ.out] at an
      have al:=F.out.mem.b5.kept an (Aw F.out.mem.nxt F.out.mem.b5 (by decide))
      have hR:=F.out.mem.addR (vN':=.slice (some ⟨ga,0,none⟩) (i+1) az) cq.out F.out.sep an (by rw [aQ.out,cy.out]; exact ad)
      have be:=al.cell
      rw [aQ.out] at be
      have c6:=al.frozen 0
      have cf:=al.lt
      have bS:=hide hR
      clear hR al ad a9 an ao)
     have cJ:st'.take (i+1)=st.take (i+1):=by
      obtain⟨u,hu⟩:=F.out.pre
      rw [←hu,List.take_append_of_le_length (by omega)]
     have bv:(st.map fun s=>cl.getD s 0)<+:(st'.map fun s=>cl.getD s 0):=by
      obtain⟨u,hu⟩:=F.out.pre
      rw [←hu,List.map_append]
      exact List.prefix_append _ _
     have bx:(st.map fun s=>cl.getD s 0)[i]?=some (cl.getD q 0):=AX (f:=fun s=>cl.getD s 0) bw.out
     refine⟨⟨i+1,st',.slice (some ⟨ga,0,none⟩) (i+1) az,.slice (some ⟨g',0,none⟩) (i+1) ag,ws++[.slice (some ⟨gr,0,none⟩) I.length x],by go_num,by omega,?_⟩,by simp [intOf]; omega⟩
     refine hide ⟨?_,?_,F.out.lt⟩
     ·have:=bS.out
      rw [cJ,GP (Ds bv bx),GO hI.out.exp bv,←cx.out]
      exact this
     ·rw [F.out.eq]
      exact .row hI.out.exp bx
  ·have ce:=C.exp.inv.le
   rw [List.length_map] at ce
   obtain rfl:i=st.length:=by omega
   obtain⟨AN,cN,rfl⟩:=AH C.mem.nxt
   obtain⟨AA,cA,rfl⟩:=AH C.mem.acc
   have bo:(AM L (AF (dnx t) cl) (st.map fun s=>cl.getD s 0) st.length).length=st.length:=D5 (by simp)
   have V:((st.take st.length).map (dac ac)).length=st.length:=by simp
   rw [bo,V] at C
   have b9:=C.mem.b5.cell
   have a8:=C.mem.b4
   have dj:=a8.frozen
   have dq:=a8.lt
   have d8:=a8.cell
   obtain⟨wF,bF,b1,aB⟩:=Dm a8 (.slice AN st.length cN) (.slice AA st.length cA)
   have c7:=hide (C.mem.finO (aB.mono fun _ _ e=>.inl e))
   have bU:=hide (C.mem.below.trans (aB.below C.mem.below.size fun b hb e=>by have:=C.mem.ge; omega))
   have bP:=b1.cell
   have cM:=hide bF
   have c5:=hide C.exp
   have ch:=hide C.lt
   clear C a8 b1 aB bF bo V hI
   go_wp2_with fail
   change bodyPost _ _ _ .ret _ (CY wr w1.heap.size (.slice AN st.length cN) (.slice AA st.length cA))
   rw [cM.out]
   have hf:=c7.out
   rw [List.take_length] at hf
   refine bodyPost_ret (v:=.agg #[.slice AN st.length cN,.slice AA st.length cA]) (by simp [results,Tryz.results167,go_sem,bP]) rfl ⟨bU.out,st,by rw [ab.out]; exact ch.out,cE,?_,hf⟩
   unfold Bf
   rw [List.length_map]
   exact c5.out
theorem RH {w:World} {v:Value} {L c B:Nat} {A:Option Addr} {t:List (List Nat)} {ac:List Bool} {cl:List Nat} (h:Br w w.heap.size v t ac) (U:DOK L t ac) (M:Sl w B 1 Ai A (Ak cl)) (F:B≤w.heap.size) (I:Ck L ac.length (dnx t) (dac ac) cl) (G:L≤8) (O:ac.length≤250000):
  Calls Tryz.prog 167 #[v,.slice A ac.length c] w (Ret fun r w'=>Below w.heap.size w w'∧∃st:List Nat,(∀s∈st,s<ac.length)∧st.length≤ac.length∧Bf L (AF (dnx t) cl) (cl.getD 0 0) (st.map fun s=>cl.getD s 0)∧(∀w'',Ac w' w'' (fun k=>k<w.heap.size)→Br w'' w''.heap.size r (AM L (AF (dnx t) cl) (st.map fun s=>cl.getD s 0) st.length) (st.map (dac ac)))∧Do w' w.heap.size r (AM L (AF (dnx t) cl) (st.map fun s=>cl.getD s 0) st.length) (st.map (dac ac))):=by
 refine Calls.ret (RI h U M F I G O) ?_
 rintro r w' ⟨J,st,h1,C,E,y⟩
 refine⟨J,st,h1,C,E,fun w'' hk=>(y.kept hk (fun g e _=>e) (Nat.le_refl _)).read (fun r z=>?_) ?_ ?_,y⟩
 ·unfold AM at z
  obtain⟨s,_,rfl⟩:=List.mem_map.1 z
  simp; omega
 ·rw [D5 (by simp)]; omega
 ·simp; omega
end Go.Proofs.YtfcfpoemojjglaaGreatDoor
namespace Go.Proofs.YtfcfpoemojjglaaGreatDoor
open Go.RowKit
set_option maxHeartbeats 16000000
set_option maxRecDepth 100000
theorem J4 {w:World} {v:Value} {L:Nat} {t:List (List Nat)} {ac:List Bool} (h:Br w w.heap.size v t ac) (V:DOK L t ac) (hL:L≤8) (hn:ac.length≤250000) (hT:BV w):
  Calls Tryz.prog 112 #[v] w (Ret fun r w'=>Below w.heap.size w w'∧∃cl st:List Nat,Ck L ac.length (dnx t) (dac ac) cl∧(∀s∈st,s<ac.length)∧st.length≤ac.length∧Bf L (AF (dnx t) cl) (cl.getD 0 0) (st.map fun s=>cl.getD s 0)∧(∀w'',Ac w' w'' (fun k=>k<w.heap.size)→Br w'' w''.heap.size r (AM L (AF (dnx t) cl) (st.map fun s=>cl.getD s 0) st.length) (st.map (dac ac)))∧Do w' w.heap.size r (AM L (AF (dnx t) cl) (st.map fun s=>cl.getD s 0) st.length) (st.map (dac ac))):=by
 have ah:=hide h
 obtain⟨J,O,M,c2,rfl,h1,h2⟩:=h
 obtain⟨w1,bn,ak,ae,bf⟩:=Ae w #[.slice J t.length O,.slice M ac.length c2] 78
 obtain⟨w2,bB,al,aB,bg⟩:=Ae w1 #[sn0,sn0] 78
 have bi:=ak.size
 have a7:Below w.heap.size w w2:=ak.trans (al.mono bi)
 have aY:=a7.size
 have hD:=hide (ae.below al)
 have hR:=hide aB
 have hM:=hide (fun q x (I:q<ac.length) (E:x<L)=>V.lt I E)
 have bA:=ae.lt
 have ao:Calls Tryz.prog 165 #[.agg #[.slice J t.length O,.slice M ac.length c2]] w2 (Ret fun r w'=>Below w2.heap.size w2 w'∧∃A c,r=.tuple #[.slice A ac.length c,.int .i64 ((dd ac).length:Int)]∧Sl w' w'.heap.size 1 Ai A (Ak (BD ac))):=Ro (ah.out.keep (fun p C=>a7.cell C) aY) hn
 have aq:∀(y:World) (A:Option Addr) (c r cnt:Nat) (cl:List Nat),Below w.heap.size w y→Sl y y.heap.size 1 Ai A (Ak cl)→BU L ac.length (dnx t) (dac ac) r cl cnt→Calls Tryz.prog 166 #[.agg #[.slice J t.length O,.slice M ac.length c2],.slice A ac.length c] y (Ret fun r' w'=>Below y.heap.size y w'∧∃(F:Option Addr) (c':Nat) (W:List Nat) (cnt':Nat),r'=.tuple #[.slice F ac.length c',.int .i64 (cnt':Int)]∧Sl w' w'.heap.size 1 Ai F (Ak W)∧BU L ac.length (dnx t) (dac ac) (r+1) W cnt'):=fun y A c r cnt cl z hS hC=>by
  refine Calls.ret (Tf (ah.out.keep (fun p C=>z.cell C) z.size) V hS (Nat.le_refl _) hC.len (fun x E=>by have:=(hC.mem x).1 E; have:=hC.le; omega) hL hn (hT.below z)) ?_
  rintro r' w' ⟨b9,F,c',e,b5⟩
  exact⟨b9,F,c',_,_,e,b5,Th (fun q x I E=>V.lt I E) hC⟩
 have ap:∀(y:World) (A:Option Addr) (c:Nat) (cl:List Nat),Below w.heap.size w y→Sl y y.heap.size 1 Ai A (Ak cl)→Ck L ac.length (dnx t) (dac ac) cl→Calls Tryz.prog 167 #[.agg #[.slice J t.length O,.slice M ac.length c2],.slice A ac.length c] y (Ret fun r w'=>Below y.heap.size y w'∧∃st:List Nat,(∀s∈st,s<ac.length)∧st.length≤ac.length∧Bf L (AF (dnx t) cl) (cl.getD 0 0) (st.map fun s=>cl.getD s 0)∧(∀w'',Ac w' w'' (fun k=>k<y.heap.size)→Br w'' w''.heap.size r (AM L (AF (dnx t) cl) (st.map fun s=>cl.getD s 0) st.length) (st.map (dac ac)))∧Do w' y.heap.size r (AM L (AF (dnx t) cl) (st.map fun s=>cl.getD s 0) st.length) (st.map (dac ac))):=fun y A c cl z hS hW=>
  RH (ah.out.keep (fun p C=>z.cell C) z.size) V hS (Nat.le_refl _) hW hL hn
 have aE:=Rp L (dnx t) ac
 have aF:=hide aE
 obtain⟨n,ab⟩:∃n,n=ac.length:=⟨_,rfl⟩
 have an:=hide ab
 rw [←ab] at bn hD ao aq ap hn ⊢
 have bl:=hide aq
 have bh:=hide ap
 clear aq ap
 clear h1 h2 bf bg ak al ae aB ab V hT aE
 go_enter Tryz.func112,Tryz.ntmps112
 have bc:=hD.out.cell
 go_wp2_with fail
 refine Calls.ret ao ?_
 rintro r w3 ⟨a8,A,c,rfl,aO⟩
 have ba:=a7.trans (a8.mono aY)
 have b0:=hide (hD.out.below a8)
 have b3:=hide (hR.out.below a8)
 have b6:=hide aO
 clear ao aO bc a7 a8 hD hR
 go_wp2_with fail
 go_loopw [3,4] (fun vv cc wr=>∃(r cnt c:Nat) (A:Option Addr) (cl:List Nat),vv=.slice A n c∧cc=.int .i64 (cnt:Int)∧cnt≤n∧Below w.heap.size w wr∧Hid (Blk wr w.heap.size 78 #[.slice J t.length O,.slice M n c2])∧Hid (Blk wr w1.heap.size 78 #[sn0,sn0])∧Hid (Sl wr wr.heap.size 1 Ai A (Ak cl))∧Hid (BU L n (dnx t) (dac ac) r cl cnt)) (fun _ cc _=>n - (intOf cc).toNat)
 case atStart=>exact⟨0,(dd ac).length,c,A,BD ac,rfl,rfl,by have:=aF.out.le; have:=an.out; omega,ba,b0,b3,b6,by rw [an.out]; exact aF⟩
 case round=>
  obtain⟨r,cnt,c,A,cl,rfl,rfl,bu,af,aK,b4,aQ,ag⟩:=hrel
  have bv:=aK.out.cell
  go_wp2_with fail
  refine Calls.ret (bl.out _ _ _ _ _ _ af aQ.out ag.out) ?_
  rintro r' w4 ⟨G,F,c',W,cnt',rfl,aP,a3⟩
  have Z:=af.trans (G.mono af.size)
  have aH:=hide (aK.out.below G)
  have aj:=hide (b4.out.below G)
  have am:=a3.le
  have be:=ag.out.grow a3
  have b7:=hide aP
  have aG:=hide a3
  have b8:=hide (aQ.out.keep (w':=w4) (fun p C=>G.cell C) G.size)
  have bs:=aH.out.cell
  clear G aP a3
  by_cases he:cnt'=cnt
  ·subst he
   have hW:Ck L n (dnx t) (dac ac) cl:=ag.out.atRest (fun q x I E=>by
    rw [an.out] at I ⊢
    exact hM.out q x I E) aG.out
   have aS:=hide hW
   have bj:=Z.size
   clear be am hW
   go_wp2_with fail
   refine Calls.ret (bh.out _ _ _ _ Z b8.out aS.out) ?_
   rintro d w5 ⟨a9,st,bm,bk,aJ,ai,aM⟩
   obtain⟨A5,c5,A6,c6,rfl,-,-⟩:=ai w5 (Ac.refl _ _)
   have U:=aj.out.below a9
   have bw:=U.frozen
   have bz:=U.lt
   have bt:=U.cell
   obtain⟨wF,ar,aC,a5⟩:=Dm U (.slice A5 (AM L (AF (dnx t) cl) (st.map fun s=>cl.getD s 0) st.length).length c5) (.slice A6 (st.map (dac ac)).length c6)
   have aD:=aC.cell
   have bC:=hide ar
   have bx:=aj.out.lt
   have bb:=hide ((Z.trans (a9.mono bj)).trans (a5.below (by have:=a9.size; omega) fun b z e=>by omega))
   have aU:=hide (fun w'' (hk:Ac wF w'' (fun k=>k<w.heap.size))=>ai w'' ((a5.mono (fun b _ e=>by omega)).trans hk (fun b _ e=>by omega)))
   have aX:=hide (aM.kept (base':=w.heap.size) a5 (fun g (e:g=_) _=>by omega) (by omega))
   have b1:=hide aJ
   clear ai aM U aC a5 a9 aJ
   unfold CY at ar
   obtain⟨lr,aW⟩:∃lr,lr=(AM L (AF (dnx t) cl) (st.map fun s=>cl.getD s 0) st.length).length:=⟨_,rfl⟩
   obtain⟨la,aV⟩:∃la,la=(st.map (dac ac)).length:=⟨_,rfl⟩
   rw [←aW,←aV] at ar aD aU aX ⊢
   clear aW aV
   go_wp2_with fail
   refine bodyPost_ret (v:=.agg #[.slice A5 lr c5,.slice A6 la c6]) (by simp [results,Tryz.results112,go_sem,aD]) rfl ⟨bb.out,cl,st,aS.out,bm,bk,b1.out,aU.out,aX.out⟩
  ·have ab:¬(cnt':Int)=(cnt:Int):=by omega
   have bd:cnt'≤n:=am
   clear he am
   go_wp2_with fail
   exact⟨⟨r+1,cnt',c',F,W,rfl,rfl,bd,Z,aH,aj,b7,aG⟩,by simp [intOf]; omega⟩
end Go.Proofs.YtfcfpoemojjglaaGreatDoor
namespace Go.Proofs.YtfcfpoemojjglaaGreatDoor
open Go.RowKit
set_option maxHeartbeats 4000000
section
variable {S:Type} [DecidableEq S] {L:Nat} {δ:S→Nat→S} {s0:S}
theorem Su {all:List S} {q:Nat} {s:S} (h:all[q]?=some s) {x:Nat} (y:x<L):dnx (AM L δ all all.length) q x=Ax all (δ s x):=by
 unfold dnx AM
 rw [List.take_length,getD_some (AX h),getD_some (AX (List.getElem?_range y))]
theorem Ie {all:List S} {q x:Nat} (y:q<all.length) (z:x<L):dnx (AM L δ all all.length) q x=Cy δ all q x:=by
 obtain⟨s,h⟩:=An y
 rw [Su h z]
 unfold Cy
 rw [h]
 rfl
theorem Fq {all:List S} (h:Bf L δ s0 all) {ac:List Bool} (C:ac.length=all.length):DOK L (AM L δ all all.length) ac:=by
 have h0:all.length≠0:=fun e=>by
  have:=h.run (w:=[]) (okW.nil L)
  rw [List.length_eq_zero_iff.1 e] at this
  simp at this
 refine⟨by rw [D5 (Nat.le_refl _),C],by omega,fun r z=>?_⟩
 unfold AM at z
 rw [List.take_length] at z
 obtain⟨s,E,rfl⟩:=List.mem_map.1 z
 refine⟨by simp,fun y G=>?_⟩
 obtain⟨x,F,rfl⟩:=List.mem_map.1 G
 rw [C]
 exact Kr (h.closed E (List.mem_range.1 F))
end
theorem GR {L n:Nat} {nx nx':Nat→Nat→Nat} (z:∀q x,q<n→x<L→nx q x<n) (h:∀q x,q<n→x<L→nx' q x=nx q x):∀(w:List Nat) (q:Nat),okW L w→q<n→Ay nx' q w=Ay nx q w
 | [],_,_,_=>rfl
 | x::w,q,hw,hq=>by
  have C:=hw x List.mem_cons_self
  show Ay nx' (nx' q x) w=Ay nx (nx q x) w
  rw [h q x hq C]
  exact GR z h w _ (fun y E=>hw y (List.mem_cons_of_mem _ E)) (z q x hq C)
theorem KM {S:Type} [DecidableEq S] {δ δ':S→Nat→S} {s:S} {l:List S}:∀(k:Nat),(∀x,x<k→δ' s x=δ s x)→AZ δ' s l k=AZ δ s l k
 | 0,_=>rfl
 | k+1,h=>by rw [Cr,Cr,KM k (fun x y=>h x (by omega)),h k (by omega)]
theorem PP {S:Type} [DecidableEq S] {L:Nat} {δ δ':S→Nat→S} {s0:S} {i:Nat} {l:List S} (h:Exp L δ s0 i l) (z:∀s x,s∈l→x<L→δ' s x=δ s x):Exp L δ' s0 i l:=by
 induction h with
 | start=>exact .start
 | @row i l s h1 hs ih=>
  have C:=DK (δ:=δ) s l L
  have E:=ih fun G x F y=>z G x (C.subset F) y
  rw [←KM (δ:=δ) (δ':=δ') L fun x y=>z s x (C.subset (List.mem_of_getElem? hs)) y]
  exact .row E hs
theorem Cz.congr {L n:Nat} {nx nx':Nat→Nat→Nat} {acc M:Nat→Bool} {Λ Λ':List Nat→Bool} (h:Cz L n nx acc Λ) (C:∀q x,q<n→x<L→nx' q x=nx q x) (O:∀q,q<n→M q=acc q) (J:∀w,okW L w→Λ' w=Λ w):Cz L n nx' M Λ':=by
 have E:∀w,okW L w→Ay nx' 0 w=Ay nx 0 w:=fun w y=>GR (fun q x U C=>h.lt U C) C w 0 y h.pos
 refine⟨fun w y=>?_,fun u v F G Z=>?_,?_⟩
 ·rw [E w y,O _ (h.run_lt y),h.lang w y,J w y]
 ·rw [E u F,E v G]
  exact h.sep u v F G fun z I=>by rw [←J _ (F.app I),←J _ (G.app I)]; exact Z z I
 ·exact PP h.ord fun s x V W=>C s x (List.mem_range.1 V) W
structure BH (L:Nat) (t:List (List Nat)) (ac:List Bool) (Λ:List Nat→Bool):Prop where
 ok:DOK L t ac
 can:Cz L ac.length (dnx t) (dac ac) Λ
def EI (t:List (List Nat)) (ac:List Bool) (w:List Nat):Bool:=dac ac (Ay (dnx t) 0 w)
theorem Tt {a:NF} {all:List (List Bool)} (h:Bf a.L a.after a.st all) {w:List Nat} (E:okW a.L w):EI (BG a all all.length) (all.map a.has) w=a.lang w:=by
 have C:=Fq (δ:=a.after) h (ac:=all.map a.has) (by simp)
 have h1:=h.num E
 have F:Ay (dnx (BG a all all.length)) 0 w=Ay (Cy a.after all) 0 w:=by
  have:=GR (L:=a.L) (n:=all.length) (nx:=dnx (AM a.L a.after all all.length)) (nx':=Cy a.after all) (fun q x y z=>by have:=C.lt (by simpa using y) z; simpa using this) (fun q x y z=>(Ie y z).symm) w 0 E (by have:=C.pos; simpa using this)
  exact this.symm
 unfold EI
 rw [F]
 unfold dac
 rw [getD_some (AX h1)]
 rfl
theorem HG {L:Nat} {t:List (List Nat)} {ac:List Bool} {cl st:List Nat} (E:DOK L t ac) (G:Ck L ac.length (dnx t) (dac ac) cl) (I:∀s∈st,s<ac.length) (C:Bf L (AF (dnx t) cl) (cl.getD 0 0) (st.map fun s=>cl.getD s 0)):
  BH L (AM L (AF (dnx t) cl) (st.map fun s=>cl.getD s 0) st.length) (st.map (dac ac)) (EI t ac):=by
 have h1:=G.canon (fun q x h y=>E.lt h y) E.pos I C
 have z:=Fq C (ac:=st.map (dac ac)) (by simp)
 rw [List.length_map] at z
 refine⟨z,?_⟩
 rw [List.length_map]
 refine h1.congr (fun q x h y=>?_) (fun q h=>?_) (fun w J=>rfl)
 ·have:=Ie (L:=L) (δ:=AF (dnx t) cl) (all:=st.map fun s=>cl.getD s 0) (q:=q) (x:=x) (by simpa using h) y
  rw [List.length_map] at this
  exact this
 ·obtain⟨s,F⟩:=An h
  show(st.map (dac ac)).getD q false=_
  rw [getD_some (AX F),getD_some F]
theorem BH.congr {L:Nat} {t:List (List Nat)} {ac:List Bool} {Λ Λ':List Nat→Bool} (h:BH L t ac Λ) (y:∀w,okW L w→Λ' w=Λ w):BH L t ac Λ':=
 ⟨h.ok,h.can.congr (fun _ _ _ _=>rfl) (fun _ _=>rfl) y⟩
theorem BH.unique {L:Nat} {t I:List (List Nat)} {ac E:List Bool} {Λ Λ':List Nat→Bool} (h:BH L t ac Λ) (C:BH L I E Λ') (hΛ:∀w,okW L w→Λ w=Λ' w):t=I∧ac=E:=by
 obtain⟨O,hx,Z⟩:=h.can.unique C.can hΛ
 constructor
 ·apply List.ext_getElem?
  intro q
  by_cases z:q<ac.length
  ·obtain⟨r,F⟩:=An (l:=t) (i:=q) (by rw [h.ok.len]; exact z)
   obtain⟨W,G⟩:=An (l:=I) (i:=q) (by rw [C.ok.len,←O]; exact z)
   rw [F,G]
   congr 1
   apply List.ext_getElem?
   intro x
   have l1:=(h.ok.row r (List.mem_of_getElem? F)).1
   have l2:=(C.ok.row W (List.mem_of_getElem? G)).1
   by_cases a3:x<L
   ·obtain⟨y,U⟩:=An (l:=r) (i:=x) (by omega)
    obtain⟨y',V⟩:=An (l:=W) (i:=x) (by omega)
    have:=hx q x z a3
    unfold dnx at this
    rw [getD_some F,getD_some G,getD_some U,getD_some V] at this
    rw [U,V,this]
   ·rw [List.getElem?_eq_none (by omega),List.getElem?_eq_none (by omega)]
  ·rw [List.getElem?_eq_none (by rw [h.ok.len]; omega),List.getElem?_eq_none (by rw [C.ok.len,←O]; omega)]
 ·apply List.ext_getElem?
  intro q
  by_cases z:q<ac.length
  ·obtain⟨b,J⟩:=An z
   obtain⟨b',M⟩:=An (l:=E) (i:=q) (by omega)
   have:=Z q z
   unfold dac at this
   rw [getD_some J,getD_some M] at this
   rw [J,M,this]
  ·rw [List.getElem?_eq_none (by omega),List.getElem?_eq_none (by omega)]
end Go.Proofs.YtfcfpoemojjglaaGreatDoor
namespace Go.Proofs.YtfcfpoemojjglaaGreatDoor
open Go.RowKit
set_option maxHeartbeats 16000000
set_option maxRecDepth 100000
theorem Jy {E:Type} {p:Nat→E→Bool} (G:∀s y e,p s e=true→p y e=true→s=y) (ls:List Nat) (C:ls.Nodup):∀es:List E,(ls.flatMap fun s=>es.filter (p s)).length≤es.length
 | []=>by
  have:(ls.flatMap fun s=>([]:List E).filter (p s))=[]:=List.flatMap_eq_nil_iff.2 fun _ _=>rfl
  rw [this]
  exact Nat.le_refl _
 | e::es=>by
  have J:=Jy G ls C es
  have h1:∀ls:List Nat,ls.Nodup→(ls.flatMap fun s=>(e::es).filter (p s)).length≤(ls.flatMap fun s=>es.filter (p s)).length+1∧((∀s∈ls,p s e=false)→(ls.flatMap fun s=>(e::es).filter (p s)).length≤(ls.flatMap fun s=>es.filter (p s)).length):=by
   intro ls
   induction ls with
   | nil=>simp
   | cons s ls J=>
    intro C
    obtain⟨U,M⟩:=List.nodup_cons.1 C
    obtain⟨V,I⟩:=J M
    rw [List.flatMap_cons,List.flatMap_cons,List.length_append,List.length_append,List.filter_cons]
    by_cases z:p s e=true
    ·have O:∀y∈ls,p y e=false:=fun y F=>by
      rw [Bool.eq_false_iff]
      intro h
      exact U (by rw [G s y e z h]; exact F)
     have:=I O
     rw [if_pos z,List.length_cons]
     refine⟨by omega,fun h=>?_⟩
     rw [h s List.mem_cons_self] at z
     cases z
    ·rw [if_neg z]
     refine⟨by omega,fun h=>?_⟩
     have:=I fun y F=>h y (List.mem_cons_of_mem _ F)
     omega
  have:=(h1 ls C).1
  rw [List.length_cons]
  omega
theorem SZ (m:List Bool):(Bc m).Nodup:=List.nodup_range.filter _
theorem WA.cat_len {a:WA} {m:List Bool} {x:Nat} (h:m.length=a.n) (z:x<a.L):(a.nf.cat (AJ m) x).length≤a.edges.length:=by
 have e:a.nf.cat (AJ m) x=((Bc m).flatMap fun s:Nat=>a.edges.filter fun e=>decide (e.frm=(s:Int))&&decide (e.letter=(x:Int))).map (·.to):=by
  unfold NF.cat
  rw [Fx,List.map_flatMap]
  unfold Ak
  rw [List.flatMap_map]
  simp only [List.flatMap]
  congr 1
  refine List.map_congr_left fun s y=>?_
  rw [Int.toNat_natCast,WA.nf_to a (GW h s y) z]
  rfl
 rw [e,List.length_map]
 refine Jy (fun(s C:Nat) e h1 h2=>?_) _ (SZ m) _
 simp only [Bool.and_eq_true,decide_eq_true_eq] at h1 h2
 omega
def LP (w:World) (a:WA) (v:Value) (w':World):Prop:=
 Below w.heap.size w w'∧((a.nf.Large 400∧v=.tuple #[.agg #[sn0,sn0],.int .i64 4])∨
  (¬a.nf.Large 400∧∃t ac d,BH a.L t ac a.lang∧ac.length≤400∧v=.tuple #[d,.int .i64 0]∧(∀w'',Ac w' w'' (fun k=>k<w.heap.size)→Br w'' w''.heap.size d t ac)∧Do w' w.heap.size d t ac))
def LO (w:World) (a:WA) (v:Value) (w':World):Prop:=
 Below w.heap.size w w'∧((a.nf.Large 400∧v=.tuple #[.agg #[sn0,sn0],.int .i64 4])∨
  (¬a.nf.Large 400∧∃t ac d,BH a.L t ac a.lang∧ac.length≤400∧v=.tuple #[d,.int .i64 0]∧∀w'',Ac w' w'' (fun k=>k<w.heap.size)→Br w'' w''.heap.size d t ac))
theorem MO {v:Value} {a:WA} {w:World} (h:Bj w w.heap.size v a) (aj:a.In) (hS:0≤a.states∧a.states≤200000) (hL:0≤a.letters∧a.letters≤8) (he:a.edges.length≤3000000) (b7:a.start.length≤4000000) (hT:BV w):
  Calls Tryz.prog 69 #[v] w (Ret fun r w'=>LP w a r w'):=by
 have bs:=hide h
 obtain⟨A1,c1,A2,c2,A3,c3,rfl,h1,h2,h3,h4⟩:=h
 obtain⟨w1,c0,af,a5,bw⟩:=Ae w #[.int .i64 a.letters,.int .i64 a.states,.slice A1 a.start.length c1,.slice A2 a.accept.length c2,.slice A3 a.edges.length c3] 35
 obtain⟨w2,c4,ag,aF,bx⟩:=Ae w1 #[sn0,sn0] 78
 have bC:=af.size
 have ad:Below w.heap.size w w2:=af.trans (ag.mono bC)
 have b6:=ad.size
 have aS:=(a5.below ag).cell
 have bU:=a5.lt
 have hR:=hide aF
 have b1:=HM (bs.out.keep (fun p hp=>ad.cell hp) b6) aj hS hL he
 have b3:=WA.nf_ok aj
 have hN:a.nf.n≤200000:=by rw [a.nf_n]; unfold WA.n; omega
 have a9:a.nf.L≤8:=by show a.L≤8; unfold WA.L; omega
 have aU:∀m x,m.length=a.nf.n→x<a.nf.L→(a.nf.cat (AJ m) x).length≤4000000:=fun m x hm hx=>by
  have:=WA.cat_len (a:=a) (hm.trans a.nf_n) hx
  omega
 have bH:=hide (fun(y:World) (d:Value) (F:Below w.heap.size w y) (hI:Cn y y.heap.size d a.nf)=>Tv (k:=400) hI b3 hN a9 (by omega) (hT.below F) b7 aU)
 have b0:∀(y:World) (d:Value) (all:List (List Bool)),Below w.heap.size w y→Bf a.nf.L a.nf.after a.nf.st all→all.length≤400→Br y y.heap.size d (BG a.nf all all.length) (all.map a.nf.has)→
   Calls Tryz.prog 112 #[d] y (Ret fun r w'=>Below y.heap.size y w'∧∃t ac,BH a.L t ac a.lang∧ac.length≤400∧(∀w'',Ac w' w'' (fun k=>k<y.heap.size)→Br w'' w''.heap.size r t ac)∧Do w' y.heap.size r t ac):=fun y d all F hD hl hI=>by
  have hd:=Fq hD (ac:=all.map a.nf.has) (by simp)
  refine Calls.ret (J4 (L:=a.nf.L) hI hd a9 (by simp; omega) (hT.below F)) ?_
  rintro r w' ⟨bu,cl,st,hW,bG,bF,J,hF,hO⟩
  exact⟨bu,_,_,(HG hd hW bG J).congr fun w hw=>(Tt hD hw).symm,by simp at bF ⊢; omega,hF,hO⟩
 have bA:=hide b0
 clear b0
 clear h1 h2 h3 h4 bw bx af ag a5 aF aj hS hL he b7 hT b3 hN a9 aU
 go_enter Tryz.func69,Tryz.ntmps69
 go_wp2_with fail
 refine Calls.ret b1 ?_
 rintro nf w3 ⟨bm,ah⟩
 have ae:=ad.trans (ah.mono b6)
 have bp:=hide (hR.out.below ah)
 clear b1 ah
 go_wp2_with fail
 refine Calls.ret (bH.out _ _ ae bm) ?_
 rintro r w4 ⟨W,d,⟨t0,ay,bj⟩,hr⟩
 have aR:=ae.trans (W.mono ae.size)
 have aP:=hide (bp.out.below W)
 obtain⟨A5,c5,A6,c6,rfl,h5,h6⟩:=bj
 obtain⟨w5,c9,Z,E,aX⟩:=Ae w4 #[sn0,sn0] 78
 have bQ:=E.frozen
 have bW:=E.lt
 have bN:=E.cell
 obtain⟨w6,b8,a6,a8⟩:=Dm E (.slice A5 t0.length c5) (.slice A6 ay.length c6)
 have bV:=aP.out.lt
 have bD:=aR.size
 have G:Below w4.heap.size w4 w6:=Z.trans (a8.below Z.size fun b F e=>by omega)
 have O:=aR.trans (G.mono bD)
 have C:=aP.out.below G
 have bv:=a6.cell
 have bR:=C.frozen
 have bX:=C.lt
 have bP:=C.cell
 have bE:=G.size
 obtain⟨bL,al⟩:∃n,n=t0.length:=⟨_,rfl⟩
 obtain⟨bK,ak⟩:∃n,n=ay.length:=⟨_,rfl⟩
 rw [←al,←ak] at b8 hr bv
 unfold CY at b8
 rcases hr with⟨aM,rfl⟩ | ⟨all,J,ab,aJ,rfl⟩
 ·obtain⟨wF,a3,I,z⟩:=Dm C sn0 sn0
  have U:=I.cell
  have ai:=hide (O.trans (z.below O.size fun b F e=>by omega))
  have bl:=hide aM
  clear aM al ak h5 h6 E aX a6 a8 Z G C I z W aS
  unfold CY at a3
  go_wp2_with fail
  refine bodyPost_ret (v:=.tuple #[.agg #[sn0,sn0],.int .i64 4]) (by simp [results,Tryz.results69,go_sem,U]) rfl ⟨ai.out,.inl ⟨bl.out,rfl⟩⟩
 ·have b2:¬a.nf.Large 400:=NF.not_large J ab
  have aK:Br w6 w6.heap.size (.agg #[.slice A5 bL c5,.slice A6 bK c6]) (BG a.nf all all.length) (all.map a.nf.has):=aJ.keep (fun p hp=>G.cell hp) bE
  have aT:=bA.out _ _ _ O J ab aK
  have bB:=hide b2
  have V:=hide O
  have bq:=hide C
  clear b2 al ak h5 h6 E aX a6 a8 Z G C W aJ aK J ab O aS
  go_wp2_with fail
  refine Calls.ret aT ?_
  rintro d w7 ⟨a2,t',a4,aG,aQ,a7,aO⟩
  obtain⟨A7,c7,A8,c8,rfl,-,-⟩:=a7 w7 (Ac.refl _ _)
  have M:=bq.out.below a2
  have bS:=M.frozen
  have bY:=M.lt
  have bO:=M.cell
  obtain⟨wF,a3,I,z⟩:=Dm M (.slice A7 t'.length c7) (.slice A8 a4.length c8)
  have U:=I.cell
  have ai:=hide ((V.out.trans (a2.mono V.out.size)).trans (z.below (by have:=a2.size; have:=V.out.size; omega) fun b F e=>by omega))
  have bZ:=V.out.size
  have aW:=hide (fun w'' (hk:Ac wF w'' (fun k=>k<w.heap.size))=>a7 w'' ((z.mono (fun b _ e=>by omega)).trans hk (fun b _ e=>by omega)))
  have b4:=hide (aO.kept (base':=w.heap.size) z (fun g (e:g=_) _=>by omega) (by omega))
  have bi:=hide aG
  have bt:=hide aQ
  clear aT a7 aO M I z a2 aG aQ
  unfold CY at a3
  obtain⟨lr,aZ⟩:∃lr,lr=t'.length:=⟨_,rfl⟩
  obtain⟨la,aY⟩:∃la,la=a4.length:=⟨_,rfl⟩
  rw [←aZ,←aY] at a3 U aW b4 ⊢
  clear aZ aY
  go_wp2_with fail
  refine bodyPost_ret (v:=.tuple #[.agg #[.slice A7 lr c7,.slice A8 la c8],.int .i64 0]) (by simp [results,Tryz.results69,go_sem,U]) rfl ⟨ai.out,.inr ⟨bB.out,t',a4,_,bi.out,bt.out,rfl,aW.out,b4.out⟩⟩
theorem MN {v:Value} {a:WA} {w:World} (h:Bj w w.heap.size v a) (M:a.In) (hS:0≤a.states∧a.states≤200000) (G:0≤a.letters∧a.letters≤8) (J:a.edges.length≤3000000) (O:a.start.length≤4000000) (I:BV w):
  Calls Tryz.prog 69 #[v] w (Ret fun r w'=>LO w a r w'):=by
 refine Calls.ret (MO h M hS G J O I) ?_
 rintro r w' ⟨y,h1 | ⟨h1,t,ac,d,z,C,E,F,-⟩⟩
 ·exact⟨y,.inl h1⟩
 ·exact⟨y,.inr ⟨h1,t,ac,d,z,C,E,F⟩⟩
end Go.Proofs.YtfcfpoemojjglaaGreatDoor
namespace Go.Proofs.YtfcfpoemojjglaaGreatDoor
open Go.RowKit
set_option maxHeartbeats 16000000
set_option maxRecDepth 100000
def eC (e:Edg):List Value:=[.int .i64 e.frm,.int .i64 e.letter,.int .i64 e.to]
theorem Jt:∀{l:List Edg} {k j:Nat} {e:Edg},l[k]?=some e→j<3→(l.flatMap eC)[k*3+j]?=some (DP e j)
 | [],_,_,_,h,_=>by simp at h
 | d::l,0,j,e,h,hj=>by
  have:d=e:=by simpa using h
  subst this
  rw [List.flatMap_cons,List.getElem?_append_left (by simp [eC]; omega)]
  match j,hj with
  | 0,_=>rfl
  | 1,_=>rfl
  | 2,_=>rfl
 | d::l,k+1,j,e,h,hj=>by
  rw [List.flatMap_cons,List.getElem?_append_right (by simp [eC]; omega)]
  have z:=Jt (l:=l) (k:=k) (j:=j) (by simpa using h) hj
  have y:(k+1)*3+j - (eC d).length=k*3+j:=by simp [eC]; omega
  rw [y]
  exact z
theorem HU {w:World} {base n B:Nat} {v:Value} {l:List Edg} (h:w.ownsRow base 83 3 v n (l.flatMap eC)) (F:l.length=n) (G:w.heap.size≤B) (M:n≤9223372036854775807):∃A c,v=.slice A l.length c∧Sl w B 3 DP A l:=by
 subst F
 rcases h.2 with⟨rfl,h0⟩ | ⟨g,z,C,rfl,I,y,J,O,U,ht⟩
 ·have:l=[]:=List.length_eq_zero_iff.1 h0
  subst this
  exact⟨none,0,rfl,Sl.nil rfl⟩
 ·refine⟨_,z,rfl,by omega,fun _=>⟨g,0,rfl,?_,fun k d hd j E=>?_⟩⟩
  ·have:=(Array.getElem?_eq_some_iff.1 y).1; omega
  ·rw [cell_of_row w g _ C 83 (0,0) y]
   have:=Jt hd E
   rw [←ht,List.getElem?_take] at this
   split at this
   ·simpa using this
   ·cases this
theorem Qj:(Tryz.prog.info? 83).map (fun i=>(i.zero,i.size,i.bytes))=some (some (.agg #[.int .i64 0,.int .i64 0,.int .i64 0]),3,24):=by kernel_rfl
theorem Ga:Dd Tryz.prog 33 83 3:=EX Tryz.underlying33 Qj rfl (by omega) (by omega)
def ED (w:World) (base:Nat) (v:Value) (es:List Edg):Prop:=∃x0 x1 x2 x3 vE:Value,v=.agg #[x0,x1,x2,x3,vE]∧w.ownsRow base 83 3 vE es.length (es.flatMap eC)
theorem ED.kept {w w':World} {base base':Nat} {v:Value} {es:List Edg} {X:Nat→Prop} (h:ED w base v es) (hk:Ac w w' X) (C:∀g,X g→g<w.heap.size→g<base) (E:base'≤base):ED w' base' v es:=by
 obtain⟨F,G,I,J,vE,e,y⟩:=h
 refine⟨F,G,I,J,vE,e,DC (hk.ownsRow y fun g z e=>?_) E⟩
 have h1:=Bb y z
 have M:=C g e (Cj y z)
 omega
abbrev BQ:Array Value:=#[.int .i64 0,.int .i64 0,sn0,sn0,sn0]
structure AuM (w0 wr:World) (g2 g4 g5 gs:Nat) (c2:Array Value) (L n:Nat) (vA vE:Value) (as':List Int) (es:List Edg):Prop where
 below:Below w0.heap.size w0 wr
 b2:Blk wr g2 78 c2
 b4:Blk wr g4 35 BQ
 b5:Blk wr g5 35 #[.int .i64 (L:Int),.int .i64 (n:Int),.slice (some ⟨gs,0,none⟩) 1 1,vA,vE]
 start:Blk wr gs 3 #[.int .i64 0]
 acc:wr.ownsRow w0.heap.size 3 1 vA as'.length (as'.map (Value.int .i64))
 eds:wr.ownsRow w0.heap.size 83 3 vE es.length (es.flatMap eC)
 sep:vA.ownBlock≠some gs
 ne:g4≠g5
 ge:w0.heap.size≤g2∧w0.heap.size≤g4∧w0.heap.size≤g5∧w0.heap.size≤gs
section
variable {w0 wr w':World} {g2 g4 g5 gs L n:Nat} {c2:Array Value} {vA vE:Value} {as':List Int} {es:List Edg}
theorem AuM.keep (h:AuM w0 wr g2 g4 g5 gs c2 L n vA vE as' es) (y:Below wr.heap.size wr w'):AuM w0 w' g2 g4 g5 gs c2 L n vA vE as' es:=
 ⟨h.below.trans (y.mono h.below.size),h.b2.below y,h.b4.below y,h.b5.below y,h.start.below y,Bt h.acc y,Bt h.eds y,h.sep,h.ne,h.ge⟩
theorem AuM.addA {q:Int} {vA':Value} {w1:World} (h:AuM w0 wr g2 g4 g5 gs c2 L n vA vE as' es) (F:Ac wr w1 (fun k=>vA.ownBlock=some k)) (ho:w1.ownsRow w0.heap.size 3 1 vA' (as'.length+1) (as'.map (Value.int .i64)++[.int .i64 q])) (O:BJ wr vA vA'):
  AuM w0 (w1.setCell ⟨g5,3,none⟩ vA') g2 g4 g5 gs c2 L n vA' vE (as'++[q]) es:=by
 have J:=h.b5.kept F (Aw h.acc h.b5 (by decide))
 have G:=(Ac.refl w1 (fun k=>k=g5)).setCell (p:=⟨g5,3,none⟩) (fun _=>rfl) vA'
 have z:Ac wr (w1.setCell ⟨g5,3,none⟩ vA') (fun k=>vA.ownBlock=some k∨k=g5):=(F.mono fun _ _ e=>.inl e).trans G fun _ _ e=>.inr e
 have I:∀{e:TypeId},e≠3→e≠35→∀g cs,(vA.ownBlock=some g∨g=g5)→¬Blk wr g e cs:=by
  rintro e h1 M g cs (E | E) C
  ·exact Aw h.acc C (fun y=>h1 y.symm) E
  ·exact C.ne_ h.b5 M E
 refine⟨h.below.trans (z.below h.below.size ?_),h.b2.kept z fun x=>I (by decide) (by decide) _ _ x h.b2,h.b4.kept z ?_,J.set_ 3 vA',h.start.kept z ?_,?_,AK z h.eds (I (by decide) (by decide)),?_,h.ne,h.ge⟩
 ·rintro b V (e | e)
  ·have:=Bb h.acc e; omega
  ·have:=h.ge; omega
 ·rintro(e | e)
  ·exact Aw h.acc h.b4 (by decide) e
  ·exact h.ne e
 ·rintro(e | e)
  ·exact h.sep e
  ·exact h.start.ne_ h.b5 (by decide) e
 ·rw [List.length_append,List.map_append]
  exact AK G ho (fun g cs e C=>by subst e; exact C.ne_ J (by decide) rfl)
 ·intro e
  rcases O with y | ⟨U,y,W⟩
  ·exact h.sep (by rw [←y]; exact e)
  ·rw [e] at y
   have:=Option.some.inj y
   have:=h.start.lt
   omega
theorem AuM.addE {d:Edg} {vE':Value} {w1:World} (h:AuM w0 wr g2 g4 g5 gs c2 L n vA vE as' es) (F:Ac wr w1 (fun k=>vE.ownBlock=some k)) (ho:w1.ownsRow w0.heap.size 83 3 vE' (es.length+1) (es.flatMap eC++eC d)):
  AuM w0 (w1.setCell ⟨g5,4,none⟩ vE') g2 g4 g5 gs c2 L n vA vE' as' (es++[d]):=by
 have I:=h.b5.kept F (Aw h.eds h.b5 (by decide))
 have G:=(Ac.refl w1 (fun k=>k=g5)).setCell (p:=⟨g5,4,none⟩) (fun _=>rfl) vE'
 have y:Ac wr (w1.setCell ⟨g5,4,none⟩ vE') (fun k=>vE.ownBlock=some k∨k=g5):=(F.mono fun _ _ e=>.inl e).trans G fun _ _ e=>.inr e
 have E:∀{e:TypeId},e≠83→e≠35→∀g cs,(vE.ownBlock=some g∨g=g5)→¬Blk wr g e cs:=by
  rintro e h1 J g cs (C | C) z
  ·exact Aw h.eds z (fun M=>h1 M.symm) C
  ·exact z.ne_ h.b5 J C
 refine⟨h.below.trans (y.below h.below.size ?_),h.b2.kept y fun x=>E (by decide) (by decide) _ _ x h.b2,h.b4.kept y ?_,I.set_ 4 vE',h.start.kept y fun x=>E (by decide) (by decide) _ _ x h.start,AK y h.acc (E (by decide) (by decide)),?_,h.sep,h.ne,h.ge⟩
 ·rintro b O (e | e)
  ·have:=Bb h.eds e; omega
  ·have:=h.ge; omega
 ·rintro(e | e)
  ·exact Aw h.eds h.b4 (by decide) e
  ·exact h.ne e
 ·rw [List.length_append,List.flatMap_append]
  refine AK G ?_ (fun g cs e z=>by subst e; exact z.ne_ I (by decide) rfl)
  simpa using ho
theorem AuM.finO {y:World} (h:AuM w0 wr g2 g4 g5 gs c2 L n vA vE as' es) (hk:Ac wr y (fun k=>k=g4)):ED y w0.heap.size (.agg #[.int .i64 (L:Int),.int .i64 (n:Int),.slice (some ⟨gs,0,none⟩) 1 1,vA,vE]) es:=
 ⟨_,_,_,_,_,rfl,hk.ownsRow h.eds fun g z e=>Aw h.eds h.b4 (by decide) (by rw [z,e])⟩
theorem AuM.fin {y:World} (h:AuM w0 wr g2 g4 g5 gs c2 L n vA vE as' es) (hk:Ac wr y (fun k=>k=g4∨k<w0.heap.size)) (ha:as'.length≤4000000) (he:es.length≤4000000):
  Bj y y.heap.size (.agg #[.int .i64 (L:Int),.int .i64 (n:Int),.slice (some ⟨gs,0,none⟩) 1 1,vA,vE]) ⟨(L:Int),(n:Int),[0],as',es⟩:=by
 have a5:=h.ge
 have U:=hk.ownsRow h.acc fun g z e=>by
  rcases e with e | e
  ·exact Aw h.acc h.b4 (by decide) (by rw [z,e])
  ·have:=Bb h.acc z; omega
 have V:=hk.ownsRow h.eds fun g z e=>by
  rcases e with e | e
  ·exact Aw h.eds h.b4 (by decide) (by rw [z,e])
  ·have:=Bb h.eds z; omega
 have hS:=h.start.kept hk fun e=>by
  rcases e with e | e
  ·exact h.start.ne_ h.b4 (by decide) e
  ·omega
 obtain⟨E,c2,I,M⟩:=B8 (B:=y.heap.size) U rfl (Nat.le_refl _) (by omega)
 obtain⟨F,G,J,O⟩:=HU (B:=y.heap.size) V rfl (Nat.le_refl _) (by omega)
 obtain⟨W,Z,C,h1⟩:=B8 (B:=y.heap.size) (l:=[0]) (base:=0) (DD (n:=1) hS (Nat.zero_le _) rfl (by omega)) rfl (Nat.le_refl _) (by omega)
 injection C with C _ e4
 subst C
 exact⟨_,1,E,c2,F,G,by rw [I,J]; rfl,h1,M,O,Nat.le_refl _⟩
end
end Go.Proofs.YtfcfpoemojjglaaGreatDoor
