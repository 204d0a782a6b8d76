/-
  Part PI of a proof.
-/
import Derived.Test.YtfcfpoemojjglaaGreatDoorPA
import Derived.Test.YtfcfpoemojjglaaGreatDoorPH
set_option maxHeartbeats 16000000
set_option maxRecDepth 100000
set_option linter.unusedVariables false
set_option linter.unusedSimpArgs false
namespace Go.Proofs.YtfcfpoemojjglaaGreatDoor
open Go.RowKit
set_option maxHeartbeats 16000000
set_option maxRecDepth 100000
theorem Fj:El Tryz.prog 3 CR:=QK .i64 Tryz.underlying3 (fun n:Nat=>(n:Int)) (fun a b h=>by omega)
theorem RG (w:World) (cs:Array Value) (O:Nat):∃g2 g4 g5 gs gm w1 w2 h y z C,g2=w.heap.size∧g4=w1.heap.size∧g5=w2.heap.size∧gs=z.heap.size∧w.alloc (.cells cs 78)=w1∧w1.alloc (.cells #[sn0,sn0] 78)=w2∧w2.alloc (.cells #[sn0,sn0] 78)=h∧(Instr.makeMap 181 none).run Tryz.prog h=.ok (.map (some gm)) y∧
  (Instr.mapUpdate 181 (.map (some gm)) (.int .i64 (O:Int)) (.int .i64 0)).run Tryz.prog y=.ok () z∧z.alloc (.cells #[.int .i64 0] 3)=C∧Below w.heap.size w y∧
  QM w C g2 g4 g5 gm cs [O] [0] [] [] (.slice (some ⟨gs,0,none⟩) 1 1) sn0 sn0 [] (fun _=>True):=by
 obtain⟨w1,h1,a3,V,am⟩:=Ae w cs 78
 obtain⟨w2,h2,I,W,an⟩:=Ae w1 #[sn0,sn0] 78
 obtain⟨h,h3,G,Z,ao⟩:=Ae w2 #[sn0,sn0] 78
 obtain⟨gm,y,h4,af,J,al⟩:=F1 181 h
 obtain⟨z,h5,a2,ah,aq⟩:=EY Fj Tryz.underlying181 (l:=[]) af O (by simp)
 have ai:=Ac.of_grown ah
 obtain⟨C,h6,M,ae,ap⟩:=Ae z #[.int .i64 0] 3
 have s1:=a3.size
 have s2:=I.size
 have s3:=G.size
 have s4:=J.size
 have s6:=M.size
 have l1:=V.lt
 have l2:=W.lt
 have l3:=Z.lt
 have U:Below w.heap.size w h:=a3.trans ((I.mono s1).trans (G.mono (by omega)))
 have a5:Below w.heap.size w y:=U.trans (J.mono (by omega))
 have a6:Below h.heap.size y C:=(ai.below s4 fun b hb e=>by have:=Option.some.inj e; omega).trans (M.mono (by omega))
 have E:Below h.heap.size h C:=J.trans a6
 have hO:C.ownsRow w.heap.size 3 1 (.slice (some ⟨z.heap.size,0,none⟩) 1 1) 1 ((Ak [0]).map (Value.int .i64)):=by
  have:=DD (base:=w.heap.size) (n:=1) ae (by omega) rfl (by omega)
  exact this
 exact⟨_,_,_,_,gm,w1,w2,h,y,z,C,rfl,rfl,rfl,rfl,h1,h2,h3,h4,h5,h6,a5,
  ⟨U.trans (E.mono (by omega)),((V.below I).below G).below E,(W.below G).below E,Z.below E,a2.keep (M.block _ a2.lt),hO,Cb,Cb,.nil,⟨by omega,by omega⟩,⟨Nat.le_refl _,s1,by omega,by omega⟩⟩⟩
structure Gk (w0 wr:World) (g2 g4 g5 gm:Nat) (c2:Array Value) (L:Nat) (nx:Nat→Nat→Nat) (cl:List Nat) (ac:List Bool) (i:Nat) (st:List Nat) (vS vN vA:Value) (ws:List Value):Prop where
 mem:QM w0 wr g2 g4 g5 gm c2 (st.map fun s=>cl.getD s 0) st (AM L (AF nx cl) (st.map fun s=>cl.getD s 0) i) ((st.take i).map (dac ac)) vS vN vA ws (fun _=>True)
 exp:Exp L (AF nx cl) (cl.getD 0 0) i (st.map fun s=>cl.getD s 0)
 lt:∀s∈st,s<ac.length
theorem Gk.len {w0 wr:World} {g2 g4 g5 gm L i:Nat} {c2:Array Value} {nx:Nat→Nat→Nat} {acc:Nat→Bool} {cl:List Nat} {ac:List Bool} {st:List Nat} {vS vN vA:Value} {ws:List Value} (h:Gk w0 wr g2 g4 g5 gm c2 L nx cl ac i st vS vN vA ws) (y:Ck L ac.length nx acc cl):st.length≤ac.length:=by
 have:=D6 _ (List.range ac.length) h.exp.inv.nodup fun v C=>by
  obtain⟨s,z,rfl⟩:=List.mem_map.1 C
  exact List.mem_range.2 (y.lt s (h.lt s z))
 simpa using this
structure DZ (w0 wr:World) (g2 g4 g5 gm:Nat) (c2:Array Value) (L:Nat) (nx:Nat→Nat→Nat) (cl:List Nat) (ac:List Bool) (i q gr x:Nat) (st st':List Nat) (vS vN vA:Value) (ws:List Value):Prop where
 mem:QM w0 wr g2 g4 g5 gm c2 (st'.map fun s=>cl.getD s 0) st' (AM L (AF nx cl) (st.map fun s=>cl.getD s 0) i) ((st.take (i+1)).map (dac ac)) vS vN vA ws (fun g=>g≠gr)
 eq:(st'.map fun s=>cl.getD s 0)=AZ (AF nx cl) (cl.getD q 0) (st.map fun s=>cl.getD s 0) x
 pre:st<+:st'
 lt:∀s∈st',s<ac.length
 sep:vS.ownBlock≠some gr
 blk:Blk wr gr 3 (Bi L fun y=>if y<x then Value.int .i64 (Ax (st'.map fun s=>cl.getD s 0) (AF nx cl (cl.getD q 0) y):Int) else .int .i64 0)
section
variable {w0 wr:World} {g2 g4 g5 gm L i q gr x:Nat} {c2:Array Value} {nx:Nat→Nat→Nat} {acc:Nat→Bool} {cl:List Nat} {ac:List Bool} {st st':List Nat} {vS vN vA:Value} {ws:List Value}
theorem DZ.len (h:DZ w0 wr g2 g4 g5 gm c2 L nx cl ac i q gr x st st' vS vN vA ws) (y:(st.map fun s=>cl.getD s 0).Nodup) (z:Ck L ac.length nx acc cl):st'.length≤ac.length:=by
 have C:(st'.map fun s=>cl.getD s 0).Nodup:=by rw [h.eq]; exact GN _ y _
 have:=D6 _ (List.range ac.length) C fun v G=>by
  obtain⟨s,E,rfl⟩:=List.mem_map.1 G
  exact List.mem_range.2 (z.lt s (h.lt s E))
 simpa using this
theorem GH {k z:List Nat} {f:Nat→Nat} (G:∀y,y<x→Ax z (f y)=Ax k (f y)) {u:Value} (I:u=.int .i64 (Ax z (f x):Int)) {w1:World} (E:Blk w1 gr 3 (Bi L fun y=>if y<x then Value.int .i64 (Ax k (f y):Int) else .int .i64 0)):
  Blk (w1.setCell ⟨gr,x,none⟩ u) gr 3 (Bi L fun y=>if y<x+1 then Value.int .i64 (Ax z (f y):Int) else .int .i64 0):=by
 have C:=E.set_ x u
 rw [F7] at C
 rw [D4 (g:=fun y=>if y=x then u else if y<x then Value.int .i64 (Ax k (f y):Int) else .int .i64 0) (fun y _=>by
  by_cases e:y=x
  ·subst e; rw [if_pos (by omega),if_pos rfl,I]
  ·by_cases h:y<x
   ·rw [if_pos (by omega),if_neg e,if_pos h,G y h]
   ·rw [if_neg (by omega),if_neg e,if_neg h])]
 exact C
theorem DZ.old (h:DZ w0 wr g2 g4 g5 gm c2 L nx cl ac i q gr x st st' vS vN vA ws) {z:Nat} (y:AF nx cl (cl.getD q 0) x=z) (E:z∈st'.map fun s=>cl.getD s 0) (C:w0.heap.size≤gr):
  DZ w0 (wr.setCell ⟨gr,x,none⟩ (.int .i64 (Ax (st'.map fun s=>cl.getD s 0) z:Int))) g2 g4 g5 gm c2 L nx cl ac i q gr (x+1) st st' vS vN vA ws:=by
 have hk:=(Ac.refl wr (fun k=>k=gr)).setCell (p:=⟨gr,x,none⟩) (fun _=>rfl) (.int .i64 (Ax (st'.map fun s=>cl.getD s 0) z:Int))
 refine⟨h.mem.other (fun _ h=>h) h.sep h.blk C hk,?_,h.pre,h.lt,h.sep,GH (fun _ _=>rfl) (by rw [y]) h.blk⟩
 rw [Cr,←h.eq,y,F0 E]
theorem DZ.new (h:DZ w0 wr g2 g4 g5 gm c2 L nx cl ac i q gr x st st' vS vN vA ws) {s z:Nat} {vS':Value} {E w1:World} (V:AF nx cl (cl.getD q 0) x=z) (hs:cl.getD s 0=z) (a7:s<ac.length) (M:z∉st'.map fun s=>cl.getD s 0) (Z:w0.heap.size≤gr)
  (a8:Bw E gm (((st'.map fun s=>cl.getD s 0)++[z]).map CR)) (a2:wr.grownBy E (some gm)) (a3:E.heap.size=wr.heap.size)
  (a4:Ac E w1 (fun k=>vS.ownBlock=some k)) (a5:w1.ownsRow w0.heap.size 3 1 vS' (st'.length+1) ((Ak st').map (Value.int .i64)++[.int .i64 (s:Int)])) (O:BJ E vS vS'):
  Blk w1 gr 3 (Bi L fun y=>if y<x then Value.int .i64 (Ax (st'.map fun s=>cl.getD s 0) (AF nx cl (cl.getD q 0) y):Int) else .int .i64 0)∧
  DZ w0 (w1.setCell ⟨gr,x,none⟩ (.int .i64 (st'.length:Int))) g2 g4 g5 gm c2 L nx cl ac i q gr (x+1) st (st'++[s]) vS' vN vA ws:=by
 obtain⟨hQ,W⟩:=h.mem.addS (kv:=z) (s:=s) a8 a2 a3 a4 a5 O
 have J:=h.blk.kept W (by
  rintro(e | e)
  ·exact BT h.blk h.mem.map e.symm
  ·exact h.sep e)
 have I:((st'++[s]).map fun s=>cl.getD s 0)=(st'.map fun s=>cl.getD s 0)++[z]:=by simp [←hs]
 have U:vS'.ownBlock≠some gr:=fun e=>by
  rcases O with G | ⟨g',G,aa⟩
  ·exact h.sep (by rw [←G]; exact e)
  ·rw [e] at G
   have:=Option.some.inj G
   have:=h.blk.lt
   omega
 rw [←I] at hQ
 have hk:=(Ac.refl w1 (fun k=>k=gr)).setCell (p:=⟨gr,x,none⟩) (fun _=>rfl) (.int .i64 (st'.length:Int))
 refine⟨J,hQ.other (fun _ h=>h) U J Z hk,?_,h.pre.trans (List.prefix_append _ _),fun y C=>?_,U,GH (k:=st'.map fun s=>cl.getD s 0) (fun y C=>?_) ?_ J⟩
 ·rw [I,Cr,←h.eq,V,FZ M]
 ·rcases List.mem_append.1 C with C | C
  ·exact h.lt y C
  ·rw [List.mem_singleton.1 C]; exact a7
 ·rw [I]
  refine ET (List.prefix_append _ _) ?_
  rw [h.eq]
  exact Gb _ _ C
 ·rw [I,V,ES M,List.length_map]
end
theorem RI {w:World} {v:Value} {L c B:Nat} {A:Option Addr} {t:List (List Nat)} {ac:List Bool} {cl:List Nat} (h:Br w w.heap.size v t ac) (O:DOK L t ac) (aE:Sl w B 1 Ai A (Ak cl)) (hB:B≤w.heap.size) (hW:Ck L ac.length (dnx t) (dac ac) cl) (hL:L≤8) (hn:ac.length≤250000):
  Calls Tryz.prog 167 #[v,.slice A ac.length c] w (Ret fun r w'=>Below w.heap.size w w'∧∃st:List Nat,(∀s∈st,s<ac.length)∧st.length≤ac.length∧Bf L (AF (dnx t) cl) (cl.getD 0 0) (st.map fun s=>cl.getD s 0)∧Do w' w.heap.size r (AM L (AF (dnx t) cl) (st.map fun s=>cl.getD s 0) st.length) (st.map (dac ac))):=by
 obtain⟨A1,c1,A2,c2,rfl,h1,h2⟩:=h
 obtain⟨k0,aK⟩:=An (l:=cl) (i:=0) (by rw [hW.len]; exact O.pos)
 obtain⟨bc,oc,rfl,d5,bd⟩:=Ex aE aK
 obtain⟨g2,g4,g5,gs,gm,w1,w2,w3,w4,w5,w6,c8,c9,ca,cd,bE,dB,dC,dD,dE,dF,bT,hQ⟩:=RG w #[.slice A1 t.length c1,.slice A2 ac.length c2] k0
 subst c8 c9 ca cd
 have a2:=O.len
 rw [a2] at bE hQ ⊢
 have bk:cl.getD 0 0=k0:=getD_some aK
 have b3:=hide (show Gk w w6 w.heap.size w1.heap.size w2.heap.size gm #[.slice A1 ac.length c1,.slice A2 ac.length c2] L (dnx t) cl ac 0 [0] (.slice (some ⟨w5.heap.size,0,none⟩) 1 1) sn0 sn0 [] from by
  refine⟨?_,?_,fun s hs=>by rw [List.mem_singleton.1 hs]; exact O.pos⟩
  ·simp only [List.map_cons,List.map_nil,bk]
   exact hQ
  ·exact .start)
 have dc:w4.cell? ⟨bc,oc,none⟩=some (.int .i64 (k0:Int)):=(bT.cell (by show bc<_; omega)).trans bd
 have dg:=hQ.b5.lt
 obtain⟨n,aN⟩:∃n,n=ac.length:=⟨_,rfl⟩
 have ab:=hide aN
 have dw:n≤250000:=by omega
 have dv:0<n:=by have:=O.pos; omega
 have bN:=hide h1
 have bO:=hide h2
 have co:=hide O
 have c0:=hide aE
 have ah:=hide hW
 have bR:=hide (fun q x (Z:q<ac.length) (hx:x<L)=>O.lt Z hx)
 rw [←aN] at bE b3 ⊢
 clear h1 h2 aN O aE a2 hW hQ aK bk bd hn
 go_enter Tryz.func167,Tryz.ntmps167
 go_wp2_with fail
 go_loopw [7,8] (fun vv U wr=>∃(i:Nat) (st:List Nat) (vN vA:Value) (ws:List Value),U=.int .i64 (i:Int)∧i≤n∧Hid (Gk w wr w.heap.size w1.heap.size w2.heap.size gm #[.slice A1 n c1,.slice A2 n c2] L (dnx t) cl ac i st vv vN vA ws)) (fun _ U _=>n - (intOf U).toNat)
 case atStart=>exact⟨0,[0],_,_,_,rfl,Nat.zero_le _,b3⟩
 case round=>
  obtain⟨i,st,vN,vA,ws,rfl,hi,hI⟩:=hrel
  have C:=hI.out
  have cD:=C.len ah.out
  have cE:st.length≤n:=by rw [ab.out]; exact cD
  obtain⟨AS,cS,rfl⟩:=AH C.mem.sts
  by_cases cg:i<st.length
  ·obtain⟨q,Z⟩:=An cg
   have ap:=C.lt q (List.mem_of_getElem? Z)
   obtain⟨gS,d1,e,da⟩:=C7 C.mem.sts (AX (f:=Value.int .i64) (AX (f:=fun x:Nat=>(x:Int)) Z))
   cases e
   obtain⟨b,hb⟩:=An (l:=ac) (i:=q) ap
   obtain⟨ba,oa,rfl,bV,bb⟩:=Fy bO.out hb
   have db:wr.cell? ⟨ba,oa+q,none⟩=some (.bool b):=(C.mem.below.cell bV).trans bb
   obtain⟨bn,on,Ar,cr,row,rfl,bW,bf,cv,bA,bz,bB⟩:=Gt bN.out co.out ap
   obtain⟨AA,cA,rfl⟩:=AH C.mem.acc
   have W:((st.take i).map (dac ac)).length=i:=by simp; omega
   have d7:=C.mem.b2.cell
   have b9:=C.mem.b5.cell
   have b7:=C.mem.acc
   rw [W] at b9 b7
   have cG:=C.mem.below.size
   have c4:=hide (show dac ac q=b from getD_some hb)
   have dx:q<n:=by rw [ab.out]; exact ap
   have bw:=hide Z
   have ct:=hide bz
   have cw:=hide bB
   have cu:=hide bA
   have bm:=hide W
   have c3:=hide bf
   clear C Z hb bb cv bz bB bA W bf
   go_wp2_with fail
   refine Reg.cP [0,1,0,4,0,28,60,124,255,511,1023] ?_
   go_wp2_with (
    at_builtin
    refine BP (w:=wr.drew) GM rfl _ _ rfl w.heap.size (.slice AA i cA) i _ rfl b7 [.bool b] 1 rfl rfl (by simp [Value.oneCell']) (by omega) cG ?_
    intro g' af w7 bt aL ck dm
    have V:=hI.out.mem.keep (Ap wr)
    rw [bm.out] at V
    have I:=V.addA aL (by rw [bm.out]; exact bt)
    have aj:=V.b5.kept aL (Aw V.acc V.b5 (by decide))
    have d9:=aj.cell
    have dk:=aj.frozen 1
    have dr:=aj.lt
    have bY:=I.b2.cell
    have bg:=(I.below.cell (p:=⟨bn,on+q,none⟩) bW).trans c3.out
    obtain⟨w8,cL⟩:∃w8,w7.setCell ⟨w2.heap.size,1,none⟩ (.slice (some ⟨g',0,none⟩) (i+1) af)=w8:=⟨_,rfl⟩
    rw [cL] at I bY bg
    obtain⟨gr,w9,du,aD,aC,dn⟩:=Et w8 L (by omega)
    have df:=(aC.cell (p:=⟨bn,on+q,none⟩) (by have:=I.below.size; show bn<_; omega)).trans bg
    have d6:=(I.b2.below aC).cell
    rw [Fo] at aD
    have bQ:=hide (show DZ w w9 w.heap.size w1.heap.size w2.heap.size gm #[.slice (some ⟨bn,on,none⟩) n c1,.slice (some ⟨ba,oa,none⟩) n c2] L (dnx t) cl ac i q gr 0 st st (.slice (some ⟨gS,0,none⟩) st.length cS) vN (.slice (some ⟨g',0,none⟩) (i+1) af) ws from by
     refine⟨?_,rfl,List.prefix_refl _,hI.out.lt,fun e=>?_,?_⟩
     ·rw [B5 bw.out,List.map_append]
      have:=(I.weak (N':=fun g=>g≠gr) (fun g hg _ e=>by omega)).keep aC
      rw [←c4.out] at this
      exact this
     ·have:=Cj I.sts e; omega
     ·rw [D4 (g:=fun _=>Value.int .i64 0) (fun y _=>by rw [if_neg (by omega)])]
      exact aD)
    have dy:=I.below.size
    have aH:w.heap.size≤gr:=by omega
    clear V I bt aL ck aj aD)
   go_loopw [7,54] (fun vv U wz=>∃(x:Nat) (st':List Nat),U=.int .i64 (x:Int)∧x≤L∧Hid (DZ w wz w.heap.size w1.heap.size w2.heap.size gm #[.slice (some ⟨bn,on,none⟩) n c1,.slice (some ⟨ba,oa,none⟩) n c2] L (dnx t) cl ac i q gr x st st' vv vN (.slice (some ⟨g',0,none⟩) (i+1) af) ws)) (fun _ U _=>L - (intOf U).toNat)
   case atStart=>exact⟨0,st,rfl,Nat.zero_le _,bQ⟩
   case round=>
    obtain⟨x,st',rfl,hx,G⟩:=hrel
    have E:=G.out
    have ao:=hI.out.exp.inv.nodup
    have dA:=E.len ao ah.out
    obtain⟨bJ,bM,rfl⟩:=AH E.mem.sts
    by_cases ar:x<L
    ·obtain⟨y,hy⟩:=An (l:=row) (i:=x) (by rw [cu.out]; exact ar)
     obtain⟨br,cR,rfl,bX,aF⟩:=Ex ct.out hy
     obtain⟨aS,aR⟩:=cw.out x y hy
     obtain⟨z,hz⟩:=An (l:=cl) (i:=y) (by rw [ah.out.len]; exact aS)
     obtain⟨b8,aG⟩:=Im c0.out hz
     have dh:wr.cell? ⟨br,cR+x,none⟩=some (.int .i64 (y:Int)):=(E.mem.below.cell bX).trans aF
     have di:wr.cell? ⟨bc,oc+y,none⟩=some (.int .i64 (z:Int)):=(E.mem.below.cell (by show bc<_; omega)).trans aG
     have dG:y<n:=by rw [ab.out]; exact aS
     have au:AF (dnx t) cl (cl.getD q 0) x=z:=by
      rw [ah.out.nxE bR.out ap ar,aR]
      exact getD_some hz
     have aT:cl.getD y 0=z:=getD_some hz
     have aa:=E.mem.map
     have aM:=Ft Fj Tryz.underlying181 Fa aa z
     simp only [CR] at aM
     have de:wr.cell? ⟨gr,x,none⟩=some (.int .i64 0):=by rw [E.blk.cell,CV _ ar,if_neg (by omega)]
     have dl:=E.blk.frozen x
     have dt:=E.blk.lt
     have bD:=E.mem.below.size
     by_cases M:z∈st'.map fun s=>cl.getD s 0
     ·have cp:=hide (E.old au M aH)
      simp only [M,if_true,decide_true] at aM
      clear E ao hy aF hz aG b8 au aa M aT aR
      go_wp2_with fail
      exact⟨⟨x+1,st',by go_num,by omega,cp⟩,by simp [intOf]; omega⟩
     ·simp only [M,if_false,decide_false] at aM
      obtain⟨wm,cK,bp,aJ,bC⟩:=EY Fj Tryz.underlying181 aa z M
      simp only [CR,List.length_map] at cK
      have bl:Ac wr wm (fun k=>gm=k):=(Ac.of_grown aJ).mono fun b _ e=>Option.some.inj e
      have cF:=bl.ownsRow E.mem.sts fun g hg e=>Di E.mem.sts aa (by rw [hg,e])
      have cH:w.heap.size≤wm.heap.size:=by omega
      have dz:st'.length≤250000:=by have:=ab.out; omega
      have cO:=hide au
      have cQ:=hide aT
      have ci:=hide M
      have cj:=hide bp
      have cc:=hide aJ
      have cB:=hide bC
      clear E ao hy aF hz aG b8 au aa M aT aR bp aJ bC bl
      go_wp2_with (
       at_builtin
       refine BP (w:=wm) C9 rfl _ _ rfl w.heap.size (.slice bJ st'.length bM) st'.length _ rfl cF [.int .i64 (y:Int)] 1 rfl rfl (by simp [Value.oneCell']) (by omega) cH ?_
       intro ga ay wa ad a9 an cb
       obtain⟨al,bq⟩:=G.out.new cO.out cQ.out aS ci.out aH cj.out cc.out cB.out a9 ad an
       have be:wa.cell? ⟨gr,x,none⟩=some (.int .i64 0):=by rw [al.cell,CV _ ar,if_neg (by omega)]
       have c6:=al.frozen x
       have cf:=al.lt
       have cn:=hide bq
       clear bq al ad a9 an)
      exact⟨⟨x+1,st'++[y],by go_num,by omega,cn⟩,by simp [intOf]; omega⟩
    ·obtain rfl:x=L:=by omega
     obtain⟨AN,cN,rfl⟩:=AH E.mem.nxt
     have bj:i≤(st.map fun s=>cl.getD s 0).length:=by rw [List.length_map]; omega
     have a2:=D5 (L:=x) (δ:=AF (dnx t) cl) bj
     have bs:=E.mem.nxt
     have bZ:=E.mem.b5.cell
     rw [a2] at bs bZ
     obtain⟨J,aq⟩:∃J,J=(List.range x).map fun y=>Ax (st'.map fun s=>cl.getD s 0) (AF (dnx t) cl (cl.getD q 0) y):=⟨_,rfl⟩
     have aO:J.length=x:=by rw [aq]; simp
     have bu:wr.ownsRow w.heap.size 3 1 (.slice (some ⟨gr,0,none⟩) J.length x) J.length ((Ak J).map (Value.int .i64)):=by
      have:=DD E.blk aH (Fp _ _) (by omega)
      rw [aO]
      have e:(Bi x fun y=>if y<x then Value.int .i64 (Ax (st'.map fun s=>cl.getD s 0) (AF (dnx t) cl (cl.getD q 0) y):Int) else .int .i64 0).toList=(Ak J).map (Value.int .i64):=by
       rw [aq]
       simp only [Bi,Ak,List.map_map]
       exact List.map_congr_left fun y hy=>by rw [if_pos (List.mem_range.1 hy)]; rfl
      rw [e] at this
      exact this
     have bD:=E.mem.below.size
     have cx:=hide aq
     have cy:=hide aO
     have cq:=hide bu
     have aP:=hide a2
     clear E aq aO bu a2 bj ao
     go_wp2_with (
      at_builtin
      refine BP (w:=wr) F9 rfl _ _ rfl w.heap.size (.slice AN i cN) i _ rfl bs [.slice (some ⟨gr,0,none⟩) x x] 1 rfl rfl (by simp [Value.oneCell']) (by omega) bD ?_
      intro ga ay wa ad a9 an cb
      have am:=a9
      rw [←aP.out] at am
      have ak:=G.out.mem.b5.kept am (Aw G.out.mem.nxt G.out.mem.b5 (by decide))
      have hR:=G.out.mem.addR (vN':=.slice (some ⟨ga,0,none⟩) (i+1) ay) cq.out G.out.sep am (by rw [aP.out,cy.out]; exact ad)
      have be:=ak.cell
      rw [aP.out] at be
      have c6:=ak.frozen 0
      have cf:=ak.lt
      have bS:=hide hR
      clear hR ak ad a9 am an)
     have cJ:st'.take (i+1)=st.take (i+1):=by
      obtain⟨u,hu⟩:=G.out.pre
      rw [←hu,List.take_append_of_le_length (by omega)]
     have bv:(st.map fun s=>cl.getD s 0)<+:(st'.map fun s=>cl.getD s 0):=by
      obtain⟨u,hu⟩:=G.out.pre
      rw [←hu,List.map_append]
      exact List.prefix_append _ _
     have bx:(st.map fun s=>cl.getD s 0)[i]?=some (cl.getD q 0):=AX (f:=fun s=>cl.getD s 0) bw.out
     refine⟨⟨i+1,st',.slice (some ⟨ga,0,none⟩) (i+1) ay,.slice (some ⟨g',0,none⟩) (i+1) af,ws++[.slice (some ⟨gr,0,none⟩) J.length x],by go_num,by omega,?_⟩,by simp [intOf]; omega⟩
     refine hide ⟨?_,?_,G.out.lt⟩
     ·have:=bS.out
      rw [cJ,GP (Ds bv bx),GO hI.out.exp bv,←cx.out]
      exact this
     ·rw [G.out.eq]
      exact .row hI.out.exp bx
  ·have ce:=C.exp.inv.le
   rw [List.length_map] at ce
   obtain rfl:i=st.length:=by omega
   obtain⟨AN,cN,rfl⟩:=AH C.mem.nxt
   obtain⟨AA,cA,rfl⟩:=AH C.mem.acc
   have bo:(AM L (AF (dnx t) cl) (st.map fun s=>cl.getD s 0) st.length).length=st.length:=D5 (by simp)
   have W:((st.take st.length).map (dac ac)).length=st.length:=by simp
   rw [bo,W] at C
   have b9:=C.mem.b5.cell
   have a8:=C.mem.b4
   have dj:=a8.frozen
   have dq:=a8.lt
   have d8:=a8.cell
   obtain⟨wF,bF,b1,aA⟩:=Dm a8 (.slice AN st.length cN) (.slice AA st.length cA)
   have c7:=hide (C.mem.finO (aA.mono fun _ _ e=>.inl e))
   have bU:=hide (C.mem.below.trans (aA.below C.mem.below.size fun b hb e=>by have:=C.mem.ge; omega))
   have bP:=b1.cell
   have cM:=hide bF
   have c5:=hide C.exp
   have ch:=hide C.lt
   clear C a8 b1 aA bF bo W hI
   go_wp2_with fail
   change bodyPost _ _ _ .ret _ (CY wr w1.heap.size (.slice AN st.length cN) (.slice AA st.length cA))
   rw [cM.out]
   have hf:=c7.out
   rw [List.take_length] at hf
   refine bodyPost_ret (v:=.agg #[.slice AN st.length cN,.slice AA st.length cA]) (by simp [results,Tryz.results167,go_sem,bP]) rfl ⟨bU.out,st,by rw [ab.out]; exact ch.out,cE,?_,hf⟩
   unfold Bf
   rw [List.length_map]
   exact c5.out
theorem RH {w:World} {v:Value} {L c B:Nat} {A:Option Addr} {t:List (List Nat)} {ac:List Bool} {cl:List Nat} (h:Br w w.heap.size v t ac) (W:DOK L t ac) (U:Sl w B 1 Ai A (Ak cl)) (I:B≤w.heap.size) (M:Ck L ac.length (dnx t) (dac ac) cl) (J:L≤8) (V:ac.length≤250000):
  Calls Tryz.prog 167 #[v,.slice A ac.length c] w (Ret fun r w'=>Below w.heap.size w w'∧∃st:List Nat,(∀s∈st,s<ac.length)∧st.length≤ac.length∧Bf L (AF (dnx t) cl) (cl.getD 0 0) (st.map fun s=>cl.getD s 0)∧(∀w'',Ac w' w'' (fun k=>k<w.heap.size)→Br w'' w''.heap.size r (AM L (AF (dnx t) cl) (st.map fun s=>cl.getD s 0) st.length) (st.map (dac ac)))∧Do w' w.heap.size r (AM L (AF (dnx t) cl) (st.map fun s=>cl.getD s 0) st.length) (st.map (dac ac))):=by
 refine Calls.ret (RI h W U I M J V) ?_
 rintro r w' ⟨O,st,C,E,G,y⟩
 refine⟨O,st,C,E,G,fun w'' hk=>(y.kept hk (fun g e _=>e) (Nat.le_refl _)).read (fun r z=>?_) ?_ ?_,y⟩
 ·unfold AM at z
  obtain⟨s,_,rfl⟩:=List.mem_map.1 z
  simp; omega
 ·rw [D5 (by simp)]; omega
 ·simp; omega
end Go.Proofs.YtfcfpoemojjglaaGreatDoor
namespace Go.Proofs.YtfcfpoemojjglaaGreatDoor
open Go.RowKit
set_option maxHeartbeats 16000000
set_option maxRecDepth 100000
theorem J4 {w:World} {v:Value} {L:Nat} {t:List (List Nat)} {ac:List Bool} (h:Br w w.heap.size v t ac) (W:DOK L t ac) (hL:L≤8) (hn:ac.length≤250000) (hT:BV w):
  Calls Tryz.prog 112 #[v] w (Ret fun r w'=>Below w.heap.size w w'∧∃cl st:List Nat,Ck L ac.length (dnx t) (dac ac) cl∧(∀s∈st,s<ac.length)∧st.length≤ac.length∧Bf L (AF (dnx t) cl) (cl.getD 0 0) (st.map fun s=>cl.getD s 0)∧(∀w'',Ac w' w'' (fun k=>k<w.heap.size)→Br w'' w''.heap.size r (AM L (AF (dnx t) cl) (st.map fun s=>cl.getD s 0) st.length) (st.map (dac ac)))∧Do w' w.heap.size r (AM L (AF (dnx t) cl) (st.map fun s=>cl.getD s 0) st.length) (st.map (dac ac))):=by
 have ai:=hide h
 obtain⟨M,c1,O,c2,rfl,h1,h2⟩:=h
 obtain⟨w1,bq,al,af,bi⟩:=Ae w #[.slice M t.length c1,.slice O ac.length c2] 78
 obtain⟨w2,bD,am,aC,bj⟩:=Ae w1 #[sn0,sn0] 78
 have bl:=al.size
 have a8:Below w.heap.size w w2:=al.trans (am.mono bl)
 have aZ:=a8.size
 have hD:=hide (af.below am)
 have hR:=hide aC
 have hM:=hide (fun q x (J:q<ac.length) (E:x<L)=>W.lt J E)
 have bC:=af.lt
 have ap:Calls Tryz.prog 165 #[.agg #[.slice M t.length c1,.slice O ac.length c2]] w2 (Ret fun r w'=>Below w2.heap.size w2 w'∧∃A c,r=.tuple #[.slice A ac.length c,.int .i64 ((dd ac).length:Int)]∧Sl w' w'.heap.size 1 Ai A (Ak (BD ac))):=Ro (ai.out.keep (fun p C=>a8.cell C) aZ) hn
 have ar:∀(y:World) (A:Option Addr) (c r cnt:Nat) (cl:List Nat),Below w.heap.size w y→Sl y y.heap.size 1 Ai A (Ak cl)→BU L ac.length (dnx t) (dac ac) r cl cnt→Calls Tryz.prog 166 #[.agg #[.slice M t.length c1,.slice O ac.length c2],.slice A ac.length c] y (Ret fun r' w'=>Below y.heap.size y w'∧∃(G:Option Addr) (U:Nat) (Z:List Nat) (cnt':Nat),r'=.tuple #[.slice G ac.length U,.int .i64 (cnt':Int)]∧Sl w' w'.heap.size 1 Ai G (Ak Z)∧BU L ac.length (dnx t) (dac ac) (r+1) Z cnt'):=fun y A c r cnt cl z hS hC=>by
  refine Calls.ret (Tf (ai.out.keep (fun p C=>z.cell C) z.size) W hS (Nat.le_refl _) hC.len (fun x E=>by have:=(hC.mem x).1 E; have:=hC.le; omega) hL hn (hT.below z)) ?_
  rintro r' w' ⟨bb,G,U,e,b7⟩
  exact⟨bb,G,U,_,_,e,b7,Th (fun q x J E=>W.lt J E) hC⟩
 have aq:∀(y:World) (A:Option Addr) (c:Nat) (cl:List Nat),Below w.heap.size w y→Sl y y.heap.size 1 Ai A (Ak cl)→Ck L ac.length (dnx t) (dac ac) cl→Calls Tryz.prog 167 #[.agg #[.slice M t.length c1,.slice O ac.length c2],.slice A ac.length c] y (Ret fun r w'=>Below y.heap.size y w'∧∃st:List Nat,(∀s∈st,s<ac.length)∧st.length≤ac.length∧Bf L (AF (dnx t) cl) (cl.getD 0 0) (st.map fun s=>cl.getD s 0)∧(∀w'',Ac w' w'' (fun k=>k<y.heap.size)→Br w'' w''.heap.size r (AM L (AF (dnx t) cl) (st.map fun s=>cl.getD s 0) st.length) (st.map (dac ac)))∧Do w' y.heap.size r (AM L (AF (dnx t) cl) (st.map fun s=>cl.getD s 0) st.length) (st.map (dac ac))):=fun y A c cl z hS hW=>
  RH (ai.out.keep (fun p C=>z.cell C) z.size) W hS (Nat.le_refl _) hW hL hn
 have aF:=Rp L (dnx t) ac
 have aG:=hide aF
 obtain⟨n,ad⟩:∃n,n=ac.length:=⟨_,rfl⟩
 have ao:=hide ad
 rw [←ad] at bq hD ap ar aq hn ⊢
 have bo:=hide ar
 have bk:=hide aq
 clear ar aq
 clear h1 h2 bi bj al am af aC ad W hT aF
 go_enter Tryz.func112,Tryz.ntmps112
 have bf:=hD.out.cell
 go_wp2_with fail
 refine Calls.ret ap ?_
 rintro r w3 ⟨a9,A,c,rfl,aP⟩
 have bd:=a8.trans (a9.mono aZ)
 have b2:=hide (hD.out.below a9)
 have b5:=hide (hR.out.below a9)
 have b8:=hide aP
 clear ap aP bf a8 a9 hD hR
 go_wp2_with fail
 go_loopw [3,4] (fun vv cc wr=>∃(r cnt c:Nat) (A:Option Addr) (cl:List Nat),vv=.slice A n c∧cc=.int .i64 (cnt:Int)∧cnt≤n∧Below w.heap.size w wr∧Hid (Blk wr w.heap.size 78 #[.slice M t.length c1,.slice O n c2])∧Hid (Blk wr w1.heap.size 78 #[sn0,sn0])∧Hid (Sl wr wr.heap.size 1 Ai A (Ak cl))∧Hid (BU L n (dnx t) (dac ac) r cl cnt)) (fun _ cc _=>n - (intOf cc).toNat)
 case atStart=>exact⟨0,(dd ac).length,c,A,BD ac,rfl,rfl,by have:=aG.out.le; have:=ao.out; omega,bd,b2,b5,b8,by rw [ao.out]; exact aG⟩
 case round=>
  obtain⟨r,cnt,c,A,cl,rfl,rfl,bw,ag,aL,b6,aR,ah⟩:=hrel
  have bx:=aL.out.cell
  go_wp2_with fail
  refine Calls.ret (bo.out _ _ _ _ _ _ ag aR.out ah.out) ?_
  rintro r' w4 ⟨I,G,U,Z,cnt',rfl,aQ,a4⟩
  have a2:=ag.trans (I.mono ag.size)
  have aJ:=hide (aL.out.below I)
  have ak:=hide (b6.out.below I)
  have an:=a4.le
  have bh:=ah.out.grow a4
  have b9:=hide aQ
  have aH:=hide a4
  have ba:=hide (aR.out.keep (w':=w4) (fun p C=>I.cell C) I.size)
  have bu:=aJ.out.cell
  clear I aQ a4
  by_cases he:cnt'=cnt
  ·subst he
   have hW:Ck L n (dnx t) (dac ac) cl:=ah.out.atRest (fun q x J E=>by
    rw [ao.out] at J ⊢
    exact hM.out q x J E) aH.out
   have aT:=hide hW
   have bm:=a2.size
   clear bh an hW
   go_wp2_with fail
   refine Calls.ret (bk.out _ _ _ _ a2 ba.out aT.out) ?_
   rintro d w5 ⟨aa,st,bp,bn,aK,aj,aN⟩
   obtain⟨A5,c5,A6,c6,rfl,-,-⟩:=aj w5 (Ac.refl _ _)
   have V:=ak.out.below aa
   have bz:=V.frozen
   have bB:=V.lt
   have bv:=V.cell
   obtain⟨wF,au,aD,a6⟩:=Dm V (.slice A5 (AM L (AF (dnx t) cl) (st.map fun s=>cl.getD s 0) st.length).length c5) (.slice A6 (st.map (dac ac)).length c6)
   have aE:=aD.cell
   have bE:=hide au
   have bA:=ak.out.lt
   have be:=hide ((a2.trans (aa.mono bm)).trans (a6.below (by have:=aa.size; omega) fun b z e=>by omega))
   have aV:=hide (fun w'' (hk:Ac wF w'' (fun k=>k<w.heap.size))=>aj w'' ((a6.mono (fun b _ e=>by omega)).trans hk (fun b _ e=>by omega)))
   have aY:=hide (aN.kept (base':=w.heap.size) a6 (fun g (e:g=_) _=>by omega) (by omega))
   have b3:=hide aK
   clear aj aN V aD a6 aa aK
   unfold CY at au
   obtain⟨lr,aX⟩:∃lr,lr=(AM L (AF (dnx t) cl) (st.map fun s=>cl.getD s 0) st.length).length:=⟨_,rfl⟩
   obtain⟨la,aW⟩:∃la,la=(st.map (dac ac)).length:=⟨_,rfl⟩
   rw [←aX,←aW] at au aE aV aY ⊢
   clear aX aW
   go_wp2_with fail
   refine bodyPost_ret (v:=.agg #[.slice A5 lr c5,.slice A6 la c6]) (by simp [results,Tryz.results112,go_sem,aE]) rfl ⟨be.out,cl,st,aT.out,bp,bn,b3.out,aV.out,aY.out⟩
  ·have ad:¬(cnt':Int)=(cnt:Int):=by omega
   have bg:cnt'≤n:=an
   clear he an
   go_wp2_with fail
   exact⟨⟨r+1,cnt',U,G,Z,rfl,rfl,bg,a2,aJ,ak,b9,aH⟩,by simp [intOf]; omega⟩
theorem Q8 {w:World} {v:Value} {L:Nat} {t:List (List Nat)} {ac:List Bool} (h:Br w w.heap.size v t ac) (U:DOK L t ac) (I:L≤8) (O:ac.length≤250000) (J:BV w):
  Calls Tryz.prog 112 #[v] w (Ret fun r w'=>Below w.heap.size w w'∧∃cl st:List Nat,Ck L ac.length (dnx t) (dac ac) cl∧(∀s∈st,s<ac.length)∧st.length≤ac.length∧Bf L (AF (dnx t) cl) (cl.getD 0 0) (st.map fun s=>cl.getD s 0)∧∀w'',Ac w' w'' (fun k=>k<w.heap.size)→Br w'' w''.heap.size r (AM L (AF (dnx t) cl) (st.map fun s=>cl.getD s 0) st.length) (st.map (dac ac))):=by
 refine Calls.ret (J4 h U I O J) ?_
 rintro r w' ⟨M,cl,st,y,z,C,E,G,-⟩
 exact⟨M,cl,st,y,z,C,E,G⟩
end Go.Proofs.YtfcfpoemojjglaaGreatDoor
namespace Go.Proofs.YtfcfpoemojjglaaGreatDoor
open Go.RowKit
set_option maxHeartbeats 4000000
section
variable {S:Type} [DecidableEq S] {L:Nat} {δ:S→Nat→S} {s0:S}
theorem Su {all:List S} {q:Nat} {s:S} (h:all[q]?=some s) {x:Nat} (y:x<L):dnx (AM L δ all all.length) q x=Ax all (δ s x):=by
 unfold dnx AM
 rw [List.take_length,getD_some (AX h),getD_some (AX (List.getElem?_range y))]
theorem Ie {all:List S} {q x:Nat} (y:q<all.length) (z:x<L):dnx (AM L δ all all.length) q x=Cy δ all q x:=by
 obtain⟨s,h⟩:=An y
 rw [Su h z]
 unfold Cy
 rw [h]
 rfl
theorem Fq {all:List S} (h:Bf L δ s0 all) {ac:List Bool} (C:ac.length=all.length):DOK L (AM L δ all all.length) ac:=by
 have J:all.length≠0:=fun e=>by
  have:=h.run (w:=[]) (okW.nil L)
  rw [List.length_eq_zero_iff.1 e] at this
  simp at this
 refine⟨by rw [D5 (Nat.le_refl _),C],by omega,fun r z=>?_⟩
 unfold AM at z
 rw [List.take_length] at z
 obtain⟨s,E,rfl⟩:=List.mem_map.1 z
 refine⟨by simp,fun y I=>?_⟩
 obtain⟨x,G,rfl⟩:=List.mem_map.1 I
 rw [C]
 exact Kr (h.closed E (List.mem_range.1 G))
end
theorem GR {L n:Nat} {nx nx':Nat→Nat→Nat} (z:∀q x,q<n→x<L→nx q x<n) (h:∀q x,q<n→x<L→nx' q x=nx q x):∀(w:List Nat) (q:Nat),okW L w→q<n→Ay nx' q w=Ay nx q w
 | [],_,_,_=>rfl
 | x::w,q,hw,hq=>by
  have C:=hw x List.mem_cons_self
  show Ay nx' (nx' q x) w=Ay nx (nx q x) w
  rw [h q x hq C]
  exact GR z h w _ (fun y E=>hw y (List.mem_cons_of_mem _ E)) (z q x hq C)
theorem KM {S:Type} [DecidableEq S] {δ δ':S→Nat→S} {s:S} {l:List S}:∀(k:Nat),(∀x,x<k→δ' s x=δ s x)→AZ δ' s l k=AZ δ s l k
 | 0,_=>rfl
 | k+1,h=>by rw [Cr,Cr,KM k (fun x y=>h x (by omega)),h k (by omega)]
theorem PP {S:Type} [DecidableEq S] {L:Nat} {δ δ':S→Nat→S} {s0:S} {i:Nat} {l:List S} (h:Exp L δ s0 i l) (z:∀s x,s∈l→x<L→δ' s x=δ s x):Exp L δ' s0 i l:=by
 induction h with
 | start=>exact .start
 | @row i l s h1 hs ih=>
  have C:=DK (δ:=δ) s l L
  have E:=ih fun I x G y=>z I x (C.subset G) y
  rw [←KM (δ:=δ) (δ':=δ') L fun x y=>z s x (C.subset (List.mem_of_getElem? hs)) y]
  exact .row E hs
theorem Cz.congr {L n:Nat} {nx nx':Nat→Nat→Nat} {acc O:Nat→Bool} {Λ Λ':List Nat→Bool} (h:Cz L n nx acc Λ) (C:∀q x,q<n→x<L→nx' q x=nx q x) (U:∀q,q<n→O q=acc q) (M:∀w,okW L w→Λ' w=Λ w):Cz L n nx' O Λ':=by
 have E:∀w,okW L w→Ay nx' 0 w=Ay nx 0 w:=fun w y=>GR (fun q x V C=>h.lt V C) C w 0 y h.pos
 refine⟨fun w y=>?_,fun u v G I hz=>?_,?_⟩
 ·rw [E w y,U _ (h.run_lt y),h.lang w y,M w y]
 ·rw [E u G,E v I]
  exact h.sep u v G I fun z J=>by rw [←M _ (G.app J),←M _ (I.app J)]; exact hz z J
 ·exact PP h.ord fun s x W Z=>C s x (List.mem_range.1 W) Z
structure BH (L:Nat) (t:List (List Nat)) (ac:List Bool) (Λ:List Nat→Bool):Prop where
 ok:DOK L t ac
 can:Cz L ac.length (dnx t) (dac ac) Λ
def EI (t:List (List Nat)) (ac:List Bool) (w:List Nat):Bool:=dac ac (Ay (dnx t) 0 w)
theorem Tt {a:NF} {all:List (List Bool)} (h:Bf a.L a.after a.st all) {w:List Nat} (E:okW a.L w):EI (BG a all all.length) (all.map a.has) w=a.lang w:=by
 have C:=Fq (δ:=a.after) h (ac:=all.map a.has) (by simp)
 have G:=h.num E
 have I:Ay (dnx (BG a all all.length)) 0 w=Ay (Cy a.after all) 0 w:=by
  have:=GR (L:=a.L) (n:=all.length) (nx:=dnx (AM a.L a.after all all.length)) (nx':=Cy a.after all) (fun q x y z=>by have:=C.lt (by simpa using y) z; simpa using this) (fun q x y z=>(Ie y z).symm) w 0 E (by have:=C.pos; simpa using this)
  exact this.symm
 unfold EI
 rw [I]
 unfold dac
 rw [getD_some (AX G)]
 rfl
theorem HG {L:Nat} {t:List (List Nat)} {ac:List Bool} {cl st:List Nat} (E:DOK L t ac) (J:Ck L ac.length (dnx t) (dac ac) cl) (M:∀s∈st,s<ac.length) (C:Bf L (AF (dnx t) cl) (cl.getD 0 0) (st.map fun s=>cl.getD s 0)):
  BH L (AM L (AF (dnx t) cl) (st.map fun s=>cl.getD s 0) st.length) (st.map (dac ac)) (EI t ac):=by
 have I:=J.canon (fun q x h y=>E.lt h y) E.pos M C
 have z:=Fq C (ac:=st.map (dac ac)) (by simp)
 rw [List.length_map] at z
 refine⟨z,?_⟩
 rw [List.length_map]
 refine I.congr (fun q x h y=>?_) (fun q h=>?_) (fun w O=>rfl)
 ·have:=Ie (L:=L) (δ:=AF (dnx t) cl) (all:=st.map fun s=>cl.getD s 0) (q:=q) (x:=x) (by simpa using h) y
  rw [List.length_map] at this
  exact this
 ·obtain⟨s,G⟩:=An h
  show(st.map (dac ac)).getD q false=_
  rw [getD_some (AX G),getD_some G]
theorem BH.congr {L:Nat} {t:List (List Nat)} {ac:List Bool} {Λ Λ':List Nat→Bool} (h:BH L t ac Λ) (y:∀w,okW L w→Λ' w=Λ w):BH L t ac Λ':=
 ⟨h.ok,h.can.congr (fun _ _ _ _=>rfl) (fun _ _=>rfl) y⟩
theorem BH.unique {L:Nat} {t J:List (List Nat)} {ac E:List Bool} {Λ Λ':List Nat→Bool} (h:BH L t ac Λ) (C:BH L J E Λ') (hΛ:∀w,okW L w→Λ w=Λ' w):t=J∧ac=E:=by
 obtain⟨U,hx,ha⟩:=h.can.unique C.can hΛ
 constructor
 ·apply List.ext_getElem?
  intro q
  by_cases z:q<ac.length
  ·obtain⟨r,G⟩:=An (l:=t) (i:=q) (by rw [h.ok.len]; exact z)
   obtain⟨Z,I⟩:=An (l:=J) (i:=q) (by rw [C.ok.len,←U]; exact z)
   rw [G,I]
   congr 1
   apply List.ext_getElem?
   intro x
   have l1:=(h.ok.row r (List.mem_of_getElem? G)).1
   have l2:=(C.ok.row Z (List.mem_of_getElem? I)).1
   by_cases a4:x<L
   ·obtain⟨y,V⟩:=An (l:=r) (i:=x) (by omega)
    obtain⟨y',W⟩:=An (l:=Z) (i:=x) (by omega)
    have:=hx q x z a4
    unfold dnx at this
    rw [getD_some G,getD_some I,getD_some V,getD_some W] at this
    rw [V,W,this]
   ·rw [List.getElem?_eq_none (by omega),List.getElem?_eq_none (by omega)]
  ·rw [List.getElem?_eq_none (by rw [h.ok.len]; omega),List.getElem?_eq_none (by rw [C.ok.len,←U]; omega)]
 ·apply List.ext_getElem?
  intro q
  by_cases z:q<ac.length
  ·obtain⟨b,M⟩:=An z
   obtain⟨b',O⟩:=An (l:=E) (i:=q) (by omega)
   have:=ha q z
   unfold dac at this
   rw [getD_some M,getD_some O] at this
   rw [M,O,this]
  ·rw [List.getElem?_eq_none (by omega),List.getElem?_eq_none (by omega)]
end Go.Proofs.YtfcfpoemojjglaaGreatDoor
namespace Go.Proofs.YtfcfpoemojjglaaGreatDoor
open Go.RowKit
set_option maxHeartbeats 16000000
set_option maxRecDepth 100000
theorem Jy {E:Type} {p:Nat→E→Bool} (J:∀s z e,p s e=true→p z e=true→s=z) (y:List Nat) (G:y.Nodup):∀es:List E,(y.flatMap fun s=>es.filter (p s)).length≤es.length
 | []=>by
  have:(y.flatMap fun s=>([]:List E).filter (p s))=[]:=List.flatMap_eq_nil_iff.2 fun _ _=>rfl
  rw [this]
  exact Nat.le_refl _
 | e::es=>by
  have O:=Jy J y G es
  have U:∀y:List Nat,y.Nodup→(y.flatMap fun s=>(e::es).filter (p s)).length≤(y.flatMap fun s=>es.filter (p s)).length+1∧((∀s∈y,p s e=false)→(y.flatMap fun s=>(e::es).filter (p s)).length≤(y.flatMap fun s=>es.filter (p s)).length):=by
   intro y
   induction y with
   | nil=>simp
   | cons s y O=>
    intro G
    obtain⟨Z,V⟩:=List.nodup_cons.1 G
    obtain⟨i1,M⟩:=O V
    rw [List.flatMap_cons,List.flatMap_cons,List.length_append,List.length_append,List.filter_cons]
    by_cases C:p s e=true
    ·have W:∀z∈y,p z e=false:=fun z I=>by
      rw [Bool.eq_false_iff]
      intro h
      exact Z (by rw [J s z e C h]; exact I)
     have:=M W
     rw [if_pos C,List.length_cons]
     refine⟨by omega,fun h=>?_⟩
     rw [h s List.mem_cons_self] at C
     cases C
    ·rw [if_neg C]
     refine⟨by omega,fun h=>?_⟩
     have:=M fun z I=>h z (List.mem_cons_of_mem _ I)
     omega
  have:=(U y G).1
  rw [List.length_cons]
  omega
theorem SZ (m:List Bool):(Bc m).Nodup:=List.nodup_range.filter _
theorem WA.cat_len {a:WA} {m:List Bool} {x:Nat} (h:m.length=a.n) (z:x<a.L):(a.nf.cat (AJ m) x).length≤a.edges.length:=by
 have e:a.nf.cat (AJ m) x=((Bc m).flatMap fun s:Nat=>a.edges.filter fun e=>decide (e.frm=(s:Int))&&decide (e.letter=(x:Int))).map (·.to):=by
  unfold NF.cat
  rw [Fx,List.map_flatMap]
  unfold Ak
  rw [List.flatMap_map]
  simp only [List.flatMap]
  congr 1
  refine List.map_congr_left fun s y=>?_
  rw [Int.toNat_natCast,WA.nf_to a (GW h s y) z]
  rfl
 rw [e,List.length_map]
 refine Jy (fun(s C:Nat) e h1 h2=>?_) _ (SZ m) _
 simp only [Bool.and_eq_true,decide_eq_true_eq] at h1 h2
 omega
def LP (w:World) (a:WA) (v:Value) (w':World):Prop:=
 Below w.heap.size w w'∧((a.nf.Large 400∧v=.tuple #[.agg #[sn0,sn0],.int .i64 4])∨
  (¬a.nf.Large 400∧∃t ac d,BH a.L t ac a.lang∧ac.length≤400∧v=.tuple #[d,.int .i64 0]∧(∀w'',Ac w' w'' (fun k=>k<w.heap.size)→Br w'' w''.heap.size d t ac)∧Do w' w.heap.size d t ac))
def LO (w:World) (a:WA) (v:Value) (w':World):Prop:=
 Below w.heap.size w w'∧((a.nf.Large 400∧v=.tuple #[.agg #[sn0,sn0],.int .i64 4])∨
  (¬a.nf.Large 400∧∃t ac d,BH a.L t ac a.lang∧ac.length≤400∧v=.tuple #[d,.int .i64 0]∧∀w'',Ac w' w'' (fun k=>k<w.heap.size)→Br w'' w''.heap.size d t ac))
theorem MO {v:Value} {a:WA} {w:World} (h:Bj w w.heap.size v a) (ak:a.In) (hS:0≤a.states∧a.states≤200000) (hL:0≤a.letters∧a.letters≤8) (he:a.edges.length≤3000000) (b8:a.start.length≤4000000) (hT:BV w):
  Calls Tryz.prog 69 #[v] w (Ret fun r w'=>LP w a r w'):=by
 have bt:=hide h
 obtain⟨A1,c1,A2,c2,A3,c3,rfl,h1,h2,h3,h4⟩:=h
 obtain⟨w1,c4,ag,a6,bx⟩:=Ae w #[.int .i64 a.letters,.int .i64 a.states,.slice A1 a.start.length c1,.slice A2 a.accept.length c2,.slice A3 a.edges.length c3] 35
 obtain⟨w2,c9,ah,aG,bz⟩:=Ae w1 #[sn0,sn0] 78
 have bD:=ag.size
 have ae:Below w.heap.size w w2:=ag.trans (ah.mono bD)
 have b7:=ae.size
 have aT:=(a6.below ah).cell
 have bV:=a6.lt
 have hR:=hide aG
 have b2:=HM (bt.out.keep (fun p hp=>ae.cell hp) b7) ak hS hL he
 have b4:=WA.nf_ok ak
 have hN:a.nf.n≤200000:=by rw [a.nf_n]; unfold WA.n; omega
 have aa:a.nf.L≤8:=by show a.L≤8; unfold WA.L; omega
 have aV:∀m x,m.length=a.nf.n→x<a.nf.L→(a.nf.cat (AJ m) x).length≤4000000:=fun m x hm hx=>by
  have:=WA.cat_len (a:=a) (hm.trans a.nf_n) hx
  omega
 have bI:=hide (fun(y:World) (d:Value) (G:Below w.heap.size w y) (hI:Cn y y.heap.size d a.nf)=>Tv (k:=400) hI b4 hN aa (by omega) (hT.below G) b8 aV)
 have b1:∀(y:World) (d:Value) (all:List (List Bool)),Below w.heap.size w y→Bf a.nf.L a.nf.after a.nf.st all→all.length≤400→Br y y.heap.size d (BG a.nf all all.length) (all.map a.nf.has)→
   Calls Tryz.prog 112 #[d] y (Ret fun r w'=>Below y.heap.size y w'∧∃t ac,BH a.L t ac a.lang∧ac.length≤400∧(∀w'',Ac w' w'' (fun k=>k<y.heap.size)→Br w'' w''.heap.size r t ac)∧Do w' y.heap.size r t ac):=fun y d all G hD hl hI=>by
  have hd:=Fq hD (ac:=all.map a.nf.has) (by simp)
  refine Calls.ret (J4 (L:=a.nf.L) hI hd aa (by simp; omega) (hT.below G)) ?_
  rintro r w' ⟨bv,cl,st,hW,bH,bG,M,hF,hO⟩
  exact⟨bv,_,_,(HG hd hW bH M).congr fun w hw=>(Tt hD hw).symm,by simp at bG ⊢; omega,hF,hO⟩
 have bB:=hide b1
 clear b1
 clear h1 h2 h3 h4 bx bz ag ah a6 aG ak hS hL he b8 hT b4 hN aa aV
 go_enter Tryz.func69,Tryz.ntmps69
 go_wp2_with fail
 refine Calls.ret b2 ?_
 rintro nf w3 ⟨bn,ai⟩
 have af:=ae.trans (ai.mono b7)
 have bq:=hide (hR.out.below ai)
 clear b2 ai
 go_wp2_with fail
 refine Calls.ret (bI.out _ _ af bn) ?_
 rintro r w4 ⟨Z,d,⟨t0,az,bk⟩,hr⟩
 have aS:=af.trans (Z.mono af.size)
 have aQ:=hide (bq.out.below Z)
 obtain⟨A5,c5,A6,c6,rfl,h5,h6⟩:=bk
 obtain⟨w5,ca,a2,E,aY⟩:=Ae w4 #[sn0,sn0] 78
 have bR:=E.frozen
 have bX:=E.lt
 have bO:=E.cell
 obtain⟨w6,b9,a7,a9⟩:=Dm E (.slice A5 t0.length c5) (.slice A6 az.length c6)
 have bW:=aQ.out.lt
 have bE:=aS.size
 have I:Below w4.heap.size w4 w6:=a2.trans (a9.below a2.size fun b G e=>by omega)
 have U:=aS.trans (I.mono bE)
 have C:=aQ.out.below I
 have bw:=a7.cell
 have bS:=C.frozen
 have bY:=C.lt
 have bQ:=C.cell
 have bF:=I.size
 obtain⟨bM,am⟩:∃n,n=t0.length:=⟨_,rfl⟩
 obtain⟨bL,al⟩:∃n,n=az.length:=⟨_,rfl⟩
 rw [←am,←al] at b9 hr bw
 unfold CY at b9
 rcases hr with⟨aN,rfl⟩ | ⟨all,M,ad,aK,rfl⟩
 ·obtain⟨wF,a4,J,z⟩:=Dm C sn0 sn0
  have V:=J.cell
  have aj:=hide (U.trans (z.below U.size fun b G e=>by omega))
  have bm:=hide aN
  clear aN am al h5 h6 E aY a7 a9 a2 I C J z Z aT
  unfold CY at a4
  go_wp2_with fail
  refine bodyPost_ret (v:=.tuple #[.agg #[sn0,sn0],.int .i64 4]) (by simp [results,Tryz.results69,go_sem,V]) rfl ⟨aj.out,.inl ⟨bm.out,rfl⟩⟩
 ·have b3:¬a.nf.Large 400:=NF.not_large M ad
  have aL:Br w6 w6.heap.size (.agg #[.slice A5 bM c5,.slice A6 bL c6]) (BG a.nf all all.length) (all.map a.nf.has):=aK.keep (fun p hp=>I.cell hp) bF
  have aU:=bB.out _ _ _ U M ad aL
  have bC:=hide b3
  have W:=hide U
  have br:=hide C
  clear b3 am al h5 h6 E aY a7 a9 a2 I C Z aK aL M ad U aT
  go_wp2_with fail
  refine Calls.ret aU ?_
  rintro d w7 ⟨a3,t',a5,aH,aR,a8,aP⟩
  obtain⟨A7,c7,A8,c8,rfl,-,-⟩:=a8 w7 (Ac.refl _ _)
  have O:=br.out.below a3
  have bT:=O.frozen
  have bZ:=O.lt
  have bP:=O.cell
  obtain⟨wF,a4,J,z⟩:=Dm O (.slice A7 t'.length c7) (.slice A8 a5.length c8)
  have V:=J.cell
  have aj:=hide ((W.out.trans (a3.mono W.out.size)).trans (z.below (by have:=a3.size; have:=W.out.size; omega) fun b G e=>by omega))
  have c0:=W.out.size
  have aX:=hide (fun w'' (hk:Ac wF w'' (fun k=>k<w.heap.size))=>a8 w'' ((z.mono (fun b _ e=>by omega)).trans hk (fun b _ e=>by omega)))
  have b5:=hide (aP.kept (base':=w.heap.size) z (fun g (e:g=_) _=>by omega) (by omega))
  have bj:=hide aH
  have bu:=hide aR
  clear aU a8 aP O J z a3 aH aR
  unfold CY at a4
  obtain⟨lr,b0⟩:∃lr,lr=t'.length:=⟨_,rfl⟩
  obtain⟨la,aZ⟩:∃la,la=a5.length:=⟨_,rfl⟩
  rw [←b0,←aZ] at a4 V aX b5 ⊢
  clear b0 aZ
  go_wp2_with fail
  refine bodyPost_ret (v:=.tuple #[.agg #[.slice A7 lr c7,.slice A8 la c8],.int .i64 0]) (by simp [results,Tryz.results69,go_sem,V]) rfl ⟨aj.out,.inr ⟨bC.out,t',a5,_,bj.out,bu.out,rfl,aX.out,b5.out⟩⟩
theorem MN {v:Value} {a:WA} {w:World} (h:Bj w w.heap.size v a) (U:a.In) (hS:0≤a.states∧a.states≤200000) (J:0≤a.letters∧a.letters≤8) (O:a.edges.length≤3000000) (V:a.start.length≤4000000) (M:BV w):
  Calls Tryz.prog 69 #[v] w (Ret fun r w'=>LO w a r w'):=by
 refine Calls.ret (MO h U hS J O V M) ?_
 rintro r w' ⟨z,y | ⟨y,t,ac,d,C,E,G,I,-⟩⟩
 ·exact⟨z,.inl y⟩
 ·exact⟨z,.inr ⟨y,t,ac,d,C,E,G,I⟩⟩
end Go.Proofs.YtfcfpoemojjglaaGreatDoor
namespace Go.Proofs.YtfcfpoemojjglaaGreatDoor
open Go.RowKit
set_option maxHeartbeats 16000000
set_option maxRecDepth 100000
def eC (e:Edg):List Value:=[.int .i64 e.frm,.int .i64 e.letter,.int .i64 e.to]
theorem Jt:∀{l:List Edg} {k j:Nat} {e:Edg},l[k]?=some e→j<3→(l.flatMap eC)[k*3+j]?=some (DP e j)
 | [],_,_,_,h,_=>by simp at h
 | d::l,0,j,e,h,hj=>by
  have:d=e:=by simpa using h
  subst this
  rw [List.flatMap_cons,List.getElem?_append_left (by simp [eC]; omega)]
  match j,hj with
  | 0,_=>rfl
  | 1,_=>rfl
  | 2,_=>rfl
 | d::l,k+1,j,e,h,hj=>by
  rw [List.flatMap_cons,List.getElem?_append_right (by simp [eC]; omega)]
  have z:=Jt (l:=l) (k:=k) (j:=j) (by simpa using h) hj
  have y:(k+1)*3+j - (eC d).length=k*3+j:=by simp [eC]; omega
  rw [y]
  exact z
theorem HU {w:World} {base n B:Nat} {v:Value} {l:List Edg} (h:w.ownsRow base 83 3 v n (l.flatMap eC)) (I:l.length=n) (J:w.heap.size≤B) (U:n≤9223372036854775807):∃A c,v=.slice A l.length c∧Sl w B 3 DP A l:=by
 subst I
 rcases h.2 with⟨rfl,E⟩ | ⟨g,z,C,rfl,M,y,O,V,W,ht⟩
 ·have:l=[]:=List.length_eq_zero_iff.1 E
  subst this
  exact⟨none,0,rfl,Sl.nil rfl⟩
 ·refine⟨_,z,rfl,by omega,fun _=>⟨g,0,rfl,?_,fun k d hd j G=>?_⟩⟩
  ·have:=(Array.getElem?_eq_some_iff.1 y).1; omega
  ·rw [cell_of_row w g _ C 83 (0,0) y]
   have:=Jt hd G
   rw [←ht,List.getElem?_take] at this
   split at this
   ·simpa using this
   ·cases this
theorem Qj:(Tryz.prog.info? 83).map (fun i=>(i.zero,i.size,i.bytes))=some (some (.agg #[.int .i64 0,.int .i64 0,.int .i64 0]),3,24):=by kernel_rfl
theorem Ga:Dd Tryz.prog 33 83 3:=EX Tryz.underlying33 Qj rfl (by omega) (by omega)
def ED (w:World) (base:Nat) (v:Value) (es:List Edg):Prop:=∃x0 x1 x2 x3 vE:Value,v=.agg #[x0,x1,x2,x3,vE]∧w.ownsRow base 83 3 vE es.length (es.flatMap eC)
theorem ED.kept {w w':World} {base base':Nat} {v:Value} {es:List Edg} {X:Nat→Prop} (h:ED w base v es) (hk:Ac w w' X) (C:∀g,X g→g<w.heap.size→g<base) (E:base'≤base):ED w' base' v es:=by
 obtain⟨G,I,J,M,vE,e,y⟩:=h
 refine⟨G,I,J,M,vE,e,DC (hk.ownsRow y fun g z e=>?_) E⟩
 have O:=Bb y z
 have U:=C g e (Cj y z)
 omega
abbrev BQ:Array Value:=#[.int .i64 0,.int .i64 0,sn0,sn0,sn0]
structure AuM (w0 wr:World) (g2 g4 g5 gs:Nat) (c2:Array Value) (L n:Nat) (vA vE:Value) (as':List Int) (es:List Edg):Prop where
 below:Below w0.heap.size w0 wr
 b2:Blk wr g2 78 c2
 b4:Blk wr g4 35 BQ
 b5:Blk wr g5 35 #[.int .i64 (L:Int),.int .i64 (n:Int),.slice (some ⟨gs,0,none⟩) 1 1,vA,vE]
 start:Blk wr gs 3 #[.int .i64 0]
 acc:wr.ownsRow w0.heap.size 3 1 vA as'.length (as'.map (Value.int .i64))
 eds:wr.ownsRow w0.heap.size 83 3 vE es.length (es.flatMap eC)
 sep:vA.ownBlock≠some gs
 ne:g4≠g5
 ge:w0.heap.size≤g2∧w0.heap.size≤g4∧w0.heap.size≤g5∧w0.heap.size≤gs
section
variable {w0 wr w':World} {g2 g4 g5 gs L n:Nat} {c2:Array Value} {vA vE:Value} {as':List Int} {es:List Edg}
theorem AuM.keep (h:AuM w0 wr g2 g4 g5 gs c2 L n vA vE as' es) (y:Below wr.heap.size wr w'):AuM w0 w' g2 g4 g5 gs c2 L n vA vE as' es:=
 ⟨h.below.trans (y.mono h.below.size),h.b2.below y,h.b4.below y,h.b5.below y,h.start.below y,Bt h.acc y,Bt h.eds y,h.sep,h.ne,h.ge⟩
theorem AuM.addA {q:Int} {vA':Value} {w1:World} (h:AuM w0 wr g2 g4 g5 gs c2 L n vA vE as' es) (G:Ac wr w1 (fun k=>vA.ownBlock=some k)) (W:w1.ownsRow w0.heap.size 3 1 vA' (as'.length+1) (as'.map (Value.int .i64)++[.int .i64 q])) (V:BJ wr vA vA'):
  AuM w0 (w1.setCell ⟨g5,3,none⟩ vA') g2 g4 g5 gs c2 L n vA' vE (as'++[q]) es:=by
 have M:=h.b5.kept G (Aw h.acc h.b5 (by decide))
 have I:=(Ac.refl w1 (fun k=>k=g5)).setCell (p:=⟨g5,3,none⟩) (fun _=>rfl) vA'
 have z:Ac wr (w1.setCell ⟨g5,3,none⟩ vA') (fun k=>vA.ownBlock=some k∨k=g5):=(G.mono fun _ _ e=>.inl e).trans I fun _ _ e=>.inr e
 have J:∀{e:TypeId},e≠3→e≠35→∀g cs,(vA.ownBlock=some g∨g=g5)→¬Blk wr g e cs:=by
  rintro e O U g cs (E | E) C
  ·exact Aw h.acc C (fun y=>O y.symm) E
  ·exact C.ne_ h.b5 U E
 refine⟨h.below.trans (z.below h.below.size ?_),h.b2.kept z fun x=>J (by decide) (by decide) _ _ x h.b2,h.b4.kept z ?_,M.set_ 3 vA',h.start.kept z ?_,?_,AK z h.eds (J (by decide) (by decide)),?_,h.ne,h.ge⟩
 ·rintro b hb (e | e)
  ·have:=Bb h.acc e; omega
  ·have:=h.ge; omega
 ·rintro(e | e)
  ·exact Aw h.acc h.b4 (by decide) e
  ·exact h.ne e
 ·rintro(e | e)
  ·exact h.sep e
  ·exact h.start.ne_ h.b5 (by decide) e
 ·rw [List.length_append,List.map_append]
  exact AK I W (fun g cs e C=>by subst e; exact C.ne_ M (by decide) rfl)
 ·intro e
  rcases V with y | ⟨Z,y,a3⟩
  ·exact h.sep (by rw [←y]; exact e)
  ·rw [e] at y
   have:=Option.some.inj y
   have:=h.start.lt
   omega
theorem AuM.addE {d:Edg} {vE':Value} {w1:World} (h:AuM w0 wr g2 g4 g5 gs c2 L n vA vE as' es) (G:Ac wr w1 (fun k=>vE.ownBlock=some k)) (V:w1.ownsRow w0.heap.size 83 3 vE' (es.length+1) (es.flatMap eC++eC d)):
  AuM w0 (w1.setCell ⟨g5,4,none⟩ vE') g2 g4 g5 gs c2 L n vA vE' as' (es++[d]):=by
 have J:=h.b5.kept G (Aw h.eds h.b5 (by decide))
 have I:=(Ac.refl w1 (fun k=>k=g5)).setCell (p:=⟨g5,4,none⟩) (fun _=>rfl) vE'
 have y:Ac wr (w1.setCell ⟨g5,4,none⟩ vE') (fun k=>vE.ownBlock=some k∨k=g5):=(G.mono fun _ _ e=>.inl e).trans I fun _ _ e=>.inr e
 have E:∀{e:TypeId},e≠83→e≠35→∀g cs,(vE.ownBlock=some g∨g=g5)→¬Blk wr g e cs:=by
  rintro e M O g cs (C | C) z
  ·exact Aw h.eds z (fun U=>M U.symm) C
  ·exact z.ne_ h.b5 O C
 refine⟨h.below.trans (y.below h.below.size ?_),h.b2.kept y fun x=>E (by decide) (by decide) _ _ x h.b2,h.b4.kept y ?_,J.set_ 4 vE',h.start.kept y fun x=>E (by decide) (by decide) _ _ x h.start,AK y h.acc (E (by decide) (by decide)),?_,h.sep,h.ne,h.ge⟩
 ·rintro b W (e | e)
  ·have:=Bb h.eds e; omega
  ·have:=h.ge; omega
 ·rintro(e | e)
  ·exact Aw h.eds h.b4 (by decide) e
  ·exact h.ne e
 ·rw [List.length_append,List.flatMap_append]
  refine AK I ?_ (fun g cs e z=>by subst e; exact z.ne_ J (by decide) rfl)
  simpa using V
theorem AuM.finO {wF:World} (h:AuM w0 wr g2 g4 g5 gs c2 L n vA vE as' es) (hk:Ac wr wF (fun k=>k=g4)):ED wF w0.heap.size (.agg #[.int .i64 (L:Int),.int .i64 (n:Int),.slice (some ⟨gs,0,none⟩) 1 1,vA,vE]) es:=
 ⟨_,_,_,_,_,rfl,hk.ownsRow h.eds fun g y e=>Aw h.eds h.b4 (by decide) (by rw [y,e])⟩
theorem AuM.fin {wF:World} (h:AuM w0 wr g2 g4 g5 gs c2 L n vA vE as' es) (hk:Ac wr wF (fun k=>k=g4∨k<w0.heap.size)) (ha:as'.length≤4000000) (he:es.length≤4000000):
  Bj wF wF.heap.size (.agg #[.int .i64 (L:Int),.int .i64 (n:Int),.slice (some ⟨gs,0,none⟩) 1 1,vA,vE]) ⟨(L:Int),(n:Int),[0],as',es⟩:=by
 have a5:=h.ge
 have V:=hk.ownsRow h.acc fun g y e=>by
  rcases e with e | e
  ·exact Aw h.acc h.b4 (by decide) (by rw [y,e])
  ·have:=Bb h.acc y; omega
 have W:=hk.ownsRow h.eds fun g y e=>by
  rcases e with e | e
  ·exact Aw h.eds h.b4 (by decide) (by rw [y,e])
  ·have:=Bb h.eds y; omega
 have hS:=h.start.kept hk fun e=>by
  rcases e with e | e
  ·exact h.start.ne_ h.b4 (by decide) e
  ·omega
 obtain⟨C,c2,I,O⟩:=B8 (B:=wF.heap.size) V rfl (Nat.le_refl _) (by omega)
 obtain⟨E,G,J,U⟩:=HU (B:=wF.heap.size) W rfl (Nat.le_refl _) (by omega)
 obtain⟨Z,c1,z,M⟩:=B8 (B:=wF.heap.size) (l:=[0]) (base:=0) (DD (n:=1) hS (Nat.zero_le _) rfl (by omega)) rfl (Nat.le_refl _) (by omega)
 injection z with z _ e4
 subst z
 exact⟨_,1,C,c2,E,G,by rw [I,J]; rfl,M,O,U,Nat.le_refl _⟩
end
end Go.Proofs.YtfcfpoemojjglaaGreatDoor
