/-
  Part PI of a proof.
-/
import Derived.Test.YtfcfpoemojjglaaGreatDoorPA
import Derived.Test.YtfcfpoemojjglaaGreatDoorPH
set_option maxHeartbeats 16000000
set_option maxRecDepth 100000
set_option linter.unusedVariables false
set_option linter.unusedSimpArgs false
namespace Go.Proofs.YtfcfpoemojjglaaGreatDoor
open Go.RowKit
set_option maxHeartbeats 16000000
set_option maxRecDepth 100000
theorem Fj:El Tryz.prog 3 CR:=QK .i64 Tryz.underlying3 (fun n:Nat=>(n:Int)) (fun a b h=>by omega)
theorem RG (w:World) (cs:Array Value) (M:Nat):∃g2 g4 g5 gs gm w1 w2 d h j y,g2=w.heap.size/\g4=w1.heap.size/\g5=w2.heap.size/\gs=j.heap.size/\w.alloc (.cells cs 78)=w1/\w1.alloc (.cells #[sn0,sn0] 78)=w2/\w2.alloc (.cells #[sn0,sn0] 78)=d/\(Instr.makeMap 181 none).run Tryz.prog d=.ok (.map (some gm)) h/\
  (Instr.mapUpdate 181 (.map (some gm)) (.int .i64 (M:Int)) (.int .i64 0)).run Tryz.prog h=.ok () j/\j.alloc (.cells #[.int .i64 0] 3)=y/\Below w.heap.size w h/\
  QM w y g2 g4 g5 gm cs [M] [0] [] [] (.slice (some ⟨gs,0,none⟩) 1 1) sn0 sn0 [] (fun _=>True):=by
 obtain⟨w1,h1,a2,U,al⟩:=Ae w cs 78;obtain⟨w2,h2,G,V,am⟩:=Ae w1 #[sn0,sn0] 78;obtain⟨d,h3,E,W,an⟩:=Ae w2 #[sn0,sn0] 78;obtain⟨gm,h,h4,ae,I,ak⟩:=F1 181 d;obtain⟨j,h5,Z,ag,ap⟩:=EY Fj Tryz.underlying181 (l:=[]) ae M (by simp);have ah:=Ac.of_grown ag;obtain⟨y,h6,J,ad,ao⟩:=Ae j #[.int .i64 0] 3;have s1:=a2.size;have s2:=G.size;have s3:=E.size;have s4:=I.size;have s6:=J.size;have l1:=U.lt;have l2:=V.lt;have l3:=W.lt;have O:Below w.heap.size w d:=a2.trans ((G.mono s1).trans (E.mono (by omega)));have a4:Below w.heap.size w h:=O.trans (I.mono (by omega));have a5:Below d.heap.size h y:=(ah.below s4 fun b hb e=>by have:=Option.some.inj e; omega).trans (J.mono (by omega));have C:Below d.heap.size d y:=I.trans a5;have hO:y.ownsRow w.heap.size 3 1 (.slice (some ⟨j.heap.size,0,none⟩) 1 1) 1 ((Ak [0]).map (Value.int .i64)):=by
  have:=DD (base:=w.heap.size) (n:=1) ad (by omega) rfl (by omega);exact this
 exact⟨_,_,_,_,gm,w1,w2,d,h,j,y,rfl,rfl,rfl,rfl,h1,h2,h3,h4,h5,h6,a4,
  ⟨O.trans (C.mono (by omega)),((U.below G).below E).below C,(V.below E).below C,W.below C,Z.keep (J.block _ Z.lt),hO,Cb,Cb,.nil,⟨by omega,by omega⟩,⟨Nat.le_refl _,s1,by omega,by omega⟩⟩⟩
structure Gk (w0 wr:World) (g2 g4 g5 gm:Nat) (c2:Array Value) (L:Nat) (nx:Nat->Nat->Nat) (cl:List Nat) (ac:List Bool) (i:Nat) (st:List Nat) (vS vN vA:Value) (ws:List Value):Prop where
 mem:QM w0 wr g2 g4 g5 gm c2 (st.map fun s=>cl.getD s 0) st (AM L (AF nx cl) (st.map fun s=>cl.getD s 0) i) ((st.take i).map (dac ac)) vS vN vA ws (fun _=>True)
 exp:Exp L (AF nx cl) (cl.getD 0 0) i (st.map fun s=>cl.getD s 0)
 lt:∀s∈st,s<ac.length
theorem Gk.len {w0 wr:World} {g2 g4 g5 gm L i:Nat} {c2:Array Value} {nx:Nat->Nat->Nat} {acc:Nat->Bool} {cl:List Nat} {ac:List Bool} {st:List Nat} {vS vN vA:Value} {ws:List Value} (h:Gk w0 wr g2 g4 g5 gm c2 L nx cl ac i st vS vN vA ws) (d:Ck L ac.length nx acc cl):st.length<=ac.length:=by
 have:=D6 _ (List.range ac.length) h.exp.inv.nodup fun v l=>by
  obtain⟨s,j,rfl⟩:=List.mem_map.1 l;exact List.mem_range.2 (d.lt s (h.lt s j))
 simpa using this
structure DZ (w0 wr:World) (g2 g4 g5 gm:Nat) (c2:Array Value) (L:Nat) (nx:Nat->Nat->Nat) (cl:List Nat) (ac:List Bool) (i q gr x:Nat) (st st':List Nat) (vS vN vA:Value) (ws:List Value):Prop where
 mem:QM w0 wr g2 g4 g5 gm c2 (st'.map fun s=>cl.getD s 0) st' (AM L (AF nx cl) (st.map fun s=>cl.getD s 0) i) ((st.take (i+1)).map (dac ac)) vS vN vA ws (fun g=>g≠gr)
 eq:(st'.map fun s=>cl.getD s 0)=AZ (AF nx cl) (cl.getD q 0) (st.map fun s=>cl.getD s 0) x
 pre:st<+:st'
 lt:∀s∈st',s<ac.length
 sep:vS.ownBlock≠some gr
 blk:Blk wr gr 3 (Bi L fun y=>if y<x then Value.int .i64 (Ax (st'.map fun s=>cl.getD s 0) (AF nx cl (cl.getD q 0) y):Int) else .int .i64 0)
section
variable {w0 wr:World} {g2 g4 g5 gm L i q gr x:Nat} {c2:Array Value} {nx:Nat->Nat->Nat} {acc:Nat->Bool} {cl:List Nat} {ac:List Bool} {st st':List Nat} {vS vN vA:Value} {ws:List Value}
theorem DZ.len (h:DZ w0 wr g2 g4 g5 gm c2 L nx cl ac i q gr x st st' vS vN vA ws) (d:(st.map fun s=>cl.getD s 0).Nodup) (j:Ck L ac.length nx acc cl):st'.length<=ac.length:=by
 have l:(st'.map fun s=>cl.getD s 0).Nodup:=by rw [h.eq]; exact GN _ d _
 have:=D6 _ (List.range ac.length) l fun v C=>by
  obtain⟨s,y,rfl⟩:=List.mem_map.1 C;exact List.mem_range.2 (j.lt s (h.lt s y))
 simpa using this
theorem GH {k h:List Nat} {f:Nat->Nat} (C:∀y,y<x->Ax h (f y)=Ax k (f y)) {u:Value} (E:u=.int .i64 (Ax h (f x):Int)) {w1:World} (l:Blk w1 gr 3 (Bi L fun y=>if y<x then Value.int .i64 (Ax k (f y):Int) else .int .i64 0)):
  Blk (w1.setCell ⟨gr,x,none⟩ u) gr 3 (Bi L fun y=>if y<x+1 then Value.int .i64 (Ax h (f y):Int) else .int .i64 0):=by
 have j:=l.set_ x u;rw [F7] at j;rw [D4 (g:=fun y=>if y=x then u else if y<x then Value.int .i64 (Ax k (f y):Int) else .int .i64 0) (fun y _=>by
  by_cases e:y=x
  ·subst e; rw [if_pos (by omega),if_pos rfl,E]
  ·by_cases d:y<x
   ·rw [if_pos (by omega),if_neg e,if_pos d,C y d]
   ·rw [if_neg (by omega),if_neg e,if_neg d])]
 exact j
theorem DZ.old (h:DZ w0 wr g2 g4 g5 gm c2 L nx cl ac i q gr x st st' vS vN vA ws) {z:Nat} (d:AF nx cl (cl.getD q 0) x=z) (y:z∈st'.map fun s=>cl.getD s 0) (j:w0.heap.size<=gr):
  DZ w0 (wr.setCell ⟨gr,x,none⟩ (.int .i64 (Ax (st'.map fun s=>cl.getD s 0) z:Int))) g2 g4 g5 gm c2 L nx cl ac i q gr (x+1) st st' vS vN vA ws:=by
 have l:=(Ac.refl wr (fun k=>k=gr)).setCell (p:=⟨gr,x,none⟩) (fun _=>rfl) (.int .i64 (Ax (st'.map fun s=>cl.getD s 0) z:Int));refine⟨h.mem.other (fun _ h=>h) h.sep h.blk j l,?_,h.pre,h.lt,h.sep,GH (fun _ _=>rfl) (by rw [d]) h.blk⟩;rw [Cr,<-h.eq,d,F0 y]
theorem DZ.new (h:DZ w0 wr g2 g4 g5 gm c2 L nx cl ac i q gr x st st' vS vN vA ws) {s z:Nat} {vS':Value} {j w1:World} (M:AF nx cl (cl.getD q 0) x=z) (hs:cl.getD s 0=z) (a5:s<ac.length) (G:z∉st'.map fun s=>cl.getD s 0) (U:w0.heap.size<=gr)
  (a6:Bw j gm (((st'.map fun s=>cl.getD s 0)++[z]).map CR)) (V:wr.grownBy j (some gm)) (W:j.heap.size=wr.heap.size)
  (a2:Ac j w1 (fun k=>vS.ownBlock=some k)) (a3:w1.ownsRow w0.heap.size 3 1 vS' (st'.length+1) ((Ak st').map (Value.int .i64)++[.int .i64 (s:Int)])) (I:BJ j vS vS'):
  Blk w1 gr 3 (Bi L fun y=>if y<x then Value.int .i64 (Ax (st'.map fun s=>cl.getD s 0) (AF nx cl (cl.getD q 0) y):Int) else .int .i64 0)/\
  DZ w0 (w1.setCell ⟨gr,x,none⟩ (.int .i64 (st'.length:Int))) g2 g4 g5 gm c2 L nx cl ac i q gr (x+1) st (st'++[s]) vS' vN vA ws:=by
 obtain⟨hQ,O⟩:=h.mem.addS (kv:=z) (s:=s) a6 V W a2 a3 I;have E:=h.blk.kept O (by
  rintro(e | e)
  ·exact BT h.blk h.mem.map e.symm
  ·exact h.sep e)
 have C:((st'++[s]).map fun s=>cl.getD s 0)=(st'.map fun s=>cl.getD s 0)++[z]:=by simp [<-hs]
 have J:vS'.ownBlock≠some gr:=fun e=>by
  rcases I with l | ⟨g',l,a8⟩
  ·exact h.sep (by rw [<-l]; exact e)
  ·rw [e] at l;have:=Option.some.inj l;have:=h.blk.lt;omega
 rw [<-C] at hQ;have Z:=(Ac.refl w1 (fun k=>k=gr)).setCell (p:=⟨gr,x,none⟩) (fun _=>rfl) (.int .i64 (st'.length:Int));refine⟨E,hQ.other (fun _ h=>h) J E U Z,?_,h.pre.trans (List.prefix_append _ _),fun y d=>?_,J,GH (k:=st'.map fun s=>cl.getD s 0) (fun y d=>?_) ?_ E⟩
 ·rw [C,Cr,<-h.eq,M,FZ G]
 ·rcases List.mem_append.1 d with d | d
  ·exact h.lt y d
  ·rw [List.mem_singleton.1 d]; exact a5
 ·rw [C];refine ET (List.prefix_append _ _) ?_;rw [h.eq];exact Gb _ _ d
 ·rw [C,M,ES G,List.length_map]
end
theorem RI {w:World} {v:Value} {L c B:Nat} {A:Option Addr} {t:List (List Nat)} {ac:List Bool} {cl:List Nat} (h:Br w w.heap.size v t ac) (M:DOK L t ac) (aB:Sl w B 1 Ai A (Ak cl)) (hB:B<=w.heap.size) (hW:Ck L ac.length (dnx t) (dac ac) cl) (hL:L<=8) (hn:ac.length<=250000):
  Calls Tryz.prog 167 #[v,.slice A ac.length c] w (Ret fun r w'=>Below w.heap.size w w'/\∃st:List Nat,(∀s∈st,s<ac.length)/\st.length<=ac.length/\Bf L (AF (dnx t) cl) (cl.getD 0 0) (st.map fun s=>cl.getD s 0)/\Do w' w.heap.size r (AM L (AF (dnx t) cl) (st.map fun s=>cl.getD s 0) st.length) (st.map (dac ac))):=by
 obtain⟨A1,c1,A2,c2,rfl,h1,h2⟩:=h;obtain⟨k0,aG⟩:=An (l:=cl) (i:=0) (by rw [hW.len]; exact M.pos);obtain⟨bc,oc,rfl,d7,bd⟩:=Ex aB aG;obtain⟨g2,g4,g5,gs,gm,w1,w2,w3,w4,w5,w6,ca,cb,cc,cf,bE,dD,dE,dF,dG,dH,bT,hQ⟩:=RG w #[.slice A1 t.length c1,.slice A2 ac.length c2] k0;subst ca cb cc cf;have Z:=M.len;rw [Z] at bE hQ ⊢;have bk:cl.getD 0 0=k0:=getD_some aG;have aZ:=hide (show Gk w w6 w.heap.size w1.heap.size w2.heap.size gm #[.slice A1 ac.length c1,.slice A2 ac.length c2] L (dnx t) cl ac 0 [0] (.slice (some ⟨w5.heap.size,0,none⟩) 1 1) sn0 sn0 [] from by
  refine⟨?_,?_,fun s hs=>by rw [List.mem_singleton.1 hs]; exact M.pos⟩
  ·simp only [List.map_cons,List.map_nil,bk];exact hQ
  ·exact .start)
 have df:w4.cell? ⟨bc,oc,none⟩=some (.int .i64 (k0:Int)):=(bT.cell (by show bc<_; omega)).trans bd;have di:=hQ.b5.lt;obtain⟨n,aK⟩:∃n,n=ac.length:=⟨_,rfl⟩;have aa:=hide aK;have dy:n<=250000:=by omega
 have dx:0<n:=by have:=M.pos; omega
 have bN:=hide h1;have bO:=hide h2;have cq:=hide M;have c0:=hide aB;have ag:=hide hW;have bR:=hide (fun q x (W:q<ac.length) (hx:x<L)=>M.lt W hx);rw [<-aK] at bE aZ ⊢;clear h1 h2 aK M aB Z hW hQ aG bk bd hn;go_enter Tryz.func167,Tryz.ntmps167;go_wp2_with fail;go_loopw [7,8] (fun vv O wr=>∃(i:Nat) (st:List Nat) (vN vA:Value) (ws:List Value),O=.int .i64 (i:Int)/\i<=n/\Hid (Gk w wr w.heap.size w1.heap.size w2.heap.size gm #[.slice A1 n c1,.slice A2 n c2] L (dnx t) cl ac i st vv vN vA ws)) (fun _ O _=>n - (intOf O).toNat)
 case atStart=>exact⟨0,[0],_,_,_,rfl,Nat.zero_le _,aZ⟩
 case round=>
  obtain⟨i,st,vN,vA,ws,rfl,hi,I⟩:=hrel;have d:=I.out;have cF:=d.len ag.out;have cG:st.length<=n:=by rw [aa.out]; exact cF
  obtain⟨AS,cS,rfl⟩:=AH d.mem.sts;by_cases ci:i<st.length
  ·obtain⟨q,W⟩:=An ci;have ao:=d.lt q (List.mem_of_getElem? W);obtain⟨gS,d3,e,dc⟩:=C7 d.mem.sts (AX (f:=Value.int .i64) (AX (f:=fun x:Nat=>(x:Int)) W));cases e;obtain⟨b,hb⟩:=An (l:=ac) (i:=q) ao;obtain⟨ba,oa,rfl,bV,b9⟩:=Fy bO.out hb;have de:wr.cell? ⟨ba,oa+q,none⟩=some (.bool b):=(d.mem.below.cell bV).trans b9;obtain⟨bn,on,Ar,cr,row,rfl,bW,bf,cx,bA,bz,bB⟩:=Gt bN.out cq.out ao;obtain⟨AA,cA,rfl⟩:=AH d.mem.acc;have V:((st.take i).map (dac ac)).length=i:=by simp; omega
   have d9:=d.mem.b2.cell;have b8:=d.mem.b5.cell;have b6:=d.mem.acc;rw [V] at b8 b6;have cJ:=d.mem.below.size;have c6:=hide (show dac ac q=b from getD_some hb);have dz:q<n:=by rw [aa.out]; exact ao
   have bw:=hide W;have cv:=hide bz;have cy:=hide bB;have cw:=hide bA;have bm:=hide V;have c5:=hide bf;clear d W hb b9 cx bz bB bA V bf;go_wp2_with fail;refine Reg.cP [0,1,0,4,0,28,60,124,255,511,1023] ?_
   go_wp2_with (
    at_builtin;refine BP (w:=wr.drew) GM rfl _ _ rfl w.heap.size (.slice AA i cA) i _ rfl b6 [.bool b] 1 rfl rfl (by simp [Value.oneCell']) (by omega) cJ ?_;intro g' ae w7 bt aH cn dp;have U:=I.out.mem.keep (Ap wr);rw [bm.out] at U;have E:=U.addA aH (by rw [bm.out]; exact bt);have ai:=U.b5.kept aH (Aw U.acc U.b5 (by decide));have db:=ai.cell;have dm:=ai.frozen 1;have du:=ai.lt;have bY:=E.b2.cell;have bg:=(E.below.cell (p:=⟨bn,on+q,none⟩) bW).trans c5.out;obtain⟨w8,cO⟩:∃w8,w7.setCell ⟨w2.heap.size,1,none⟩ (.slice (some ⟨g',0,none⟩) (i+1) ae)=w8:=⟨_,rfl⟩;rw [cO] at E bY bg;obtain⟨gr,w9,dw,aA,az,dq⟩:=Et w8 L (by omega);have dh:=(az.cell (p:=⟨bn,on+q,none⟩) (by have:=E.below.size; show bn<_; omega)).trans bg;have d8:=(E.b2.below az).cell;rw [Fo] at aA;have bQ:=hide (show DZ w w9 w.heap.size w1.heap.size w2.heap.size gm #[.slice (some ⟨bn,on,none⟩) n c1,.slice (some ⟨ba,oa,none⟩) n c2] L (dnx t) cl ac i q gr 0 st st (.slice (some ⟨gS,0,none⟩) st.length cS) vN (.slice (some ⟨g',0,none⟩) (i+1) ae) ws from by
     refine⟨?_,rfl,List.prefix_refl _,I.out.lt,fun e=>?_,?_⟩
     ·rw [B5 bw.out,List.map_append];have:=(E.weak (N':=fun g=>g≠gr) (fun g hg _ e=>by omega)).keep az;rw [<-c6.out] at this;exact this
     ·have:=Cj E.sts e; omega
     ·rw [D4 (g:=fun _=>Value.int .i64 0) (fun y _=>by rw [if_neg (by omega)])];exact aA)
    have dA:=E.below.size;have aE:w.heap.size<=gr:=by omega
    clear U E bt aH cn ai aA)
   go_loopw [7,54] (fun vv O wz=>∃(x:Nat) (st':List Nat),O=.int .i64 (x:Int)/\x<=L/\Hid (DZ w wz w.heap.size w1.heap.size w2.heap.size gm #[.slice (some ⟨bn,on,none⟩) n c1,.slice (some ⟨ba,oa,none⟩) n c2] L (dnx t) cl ac i q gr x st st' vv vN (.slice (some ⟨g',0,none⟩) (i+1) ae) ws)) (fun _ O _=>L - (intOf O).toNat)
   case atStart=>exact⟨0,st,rfl,Nat.zero_le _,bQ⟩
   case round=>
    obtain⟨x,st',rfl,hx,C⟩:=hrel;have j:=C.out;have an:=I.out.exp.inv.nodup;have dC:=j.len an ag.out;obtain⟨bJ,bM,rfl⟩:=AH j.mem.sts;by_cases aq:x<L
    ·obtain⟨y,hy⟩:=An (l:=row) (i:=x) (by rw [cw.out]; exact aq);obtain⟨br,cU,rfl,bX,aC⟩:=Ex cv.out hy;obtain⟨aP,aO⟩:=cy.out x y hy;obtain⟨z,hz⟩:=An (l:=cl) (i:=y) (by rw [ag.out.len]; exact aP);obtain⟨b7,aD⟩:=Im c0.out hz;have dj:wr.cell? ⟨br,cU+x,none⟩=some (.int .i64 (y:Int)):=(j.mem.below.cell bX).trans aC;have dk:wr.cell? ⟨bc,oc+y,none⟩=some (.int .i64 (z:Int)):=(j.mem.below.cell (by show bc<_; omega)).trans aD;have dI:y<n:=by rw [aa.out]; exact aP
     have ar:AF (dnx t) cl (cl.getD q 0) x=z:=by
      rw [ag.out.nxE bR.out ao aq,aO];exact getD_some hz
     have aQ:cl.getD y 0=z:=getD_some hz;have a9:=j.mem.map;have aJ:=Ft Fj Tryz.underlying181 Fa a9 z;simp only [CR] at aJ;have dg:wr.cell? ⟨gr,x,none⟩=some (.int .i64 0):=by rw [j.blk.cell,CV _ aq,if_neg (by omega)]
     have dn:=j.blk.frozen x;have dv:=j.blk.lt;have bD:=j.mem.below.size;by_cases J:z∈st'.map fun s=>cl.getD s 0
     ·have ct:=hide (j.old ar J aE);simp only [J,if_true,decide_true] at aJ;clear j an hy aC hz aD b7 ar a9 J aQ aO;go_wp2_with fail;exact⟨⟨x+1,st',by go_num,by omega,ct⟩,by simp [intOf]; omega⟩
     ·simp only [J,if_false,decide_false] at aJ;obtain⟨wm,cM,bp,aF,bC⟩:=EY Fj Tryz.underlying181 a9 z J;simp only [CR,List.length_map] at cM;have bl:Ac wr wm (fun k=>gm=k):=(Ac.of_grown aF).mono fun b _ e=>Option.some.inj e;have cH:=bl.ownsRow j.mem.sts fun g hg e=>Di j.mem.sts a9 (by rw [hg,e]);have cK:w.heap.size<=wm.heap.size:=by omega
      have dB:st'.length<=250000:=by have:=aa.out; omega
      have cR:=hide ar;have cT:=hide aQ;have ck:=hide J;have cm:=hide bp;have ce:=hide aF;have cE:=hide bC;clear j an hy aC hz aD b7 ar a9 J aQ aO bp aF bC bl
      go_wp2_with (
       at_builtin;refine BP (w:=wm) C9 rfl _ _ rfl w.heap.size (.slice bJ st'.length bM) st'.length _ rfl cH [.int .i64 (y:Int)] 1 rfl rfl (by simp [Value.oneCell']) (by omega) cK ?_;intro ga av wa ab a8 am cd;obtain⟨ak,bq⟩:=C.out.new cR.out cT.out aP ck.out aE cm.out ce.out cE.out a8 ab am;have be:wa.cell? ⟨gr,x,none⟩=some (.int .i64 0):=by rw [ak.cell,CV _ aq,if_neg (by omega)]
       have c8:=ak.frozen x;have ch:=ak.lt;have cp:=hide bq;clear bq ak ab a8 am)
      exact⟨⟨x+1,st'++[y],by go_num,by omega,cp⟩,by simp [intOf]; omega⟩
    ·obtain rfl:x=L:=by omega
     obtain⟨AN,cN,rfl⟩:=AH j.mem.nxt;have bj:i<=(st.map fun s=>cl.getD s 0).length:=by rw [List.length_map]; omega
     have Z:=D5 (L:=x) (δ:=AF (dnx t) cl) bj;have bs:=j.mem.nxt;have bZ:=j.mem.b5.cell;rw [Z] at bs bZ;obtain⟨G,ap⟩:∃G,G=(List.range x).map fun y=>Ax (st'.map fun s=>cl.getD s 0) (AF (dnx t) cl (cl.getD q 0) y):=⟨_,rfl⟩;have aL:G.length=x:=by rw [ap]; simp
     have bu:wr.ownsRow w.heap.size 3 1 (.slice (some ⟨gr,0,none⟩) G.length x) G.length ((Ak G).map (Value.int .i64)):=by
      have:=DD j.blk aE (Fp _ _) (by omega);rw [aL];have e:(Bi x fun y=>if y<x then Value.int .i64 (Ax (st'.map fun s=>cl.getD s 0) (AF (dnx t) cl (cl.getD q 0) y):Int) else .int .i64 0).toList=(Ak G).map (Value.int .i64):=by
       rw [ap];simp only [Bi,Ak,List.map_map];exact List.map_congr_left fun y hy=>by rw [if_pos (List.mem_range.1 hy)]; rfl
      rw [e] at this;exact this
     have bD:=j.mem.below.size;have cz:=hide ap;have cB:=hide aL;have cu:=hide bu;have aM:=hide Z;clear j ap aL bu Z bj an
     go_wp2_with (
      at_builtin;refine BP (w:=wr) F9 rfl _ _ rfl w.heap.size (.slice AN i cN) i _ rfl bs [.slice (some ⟨gr,0,none⟩) x x] 1 rfl rfl (by simp [Value.oneCell']) (by omega) bD ?_;intro ga av wa ab a8 am cd;have al:=a8;rw [<-aM.out] at al;have aj:=C.out.mem.b5.kept al (Aw C.out.mem.nxt C.out.mem.b5 (by decide));have hR:=C.out.mem.addR (vN':=.slice (some ⟨ga,0,none⟩) (i+1) av) cu.out C.out.sep al (by rw [aM.out,cB.out]; exact ab);have be:=aj.cell;rw [aM.out] at be;have c8:=aj.frozen 0;have ch:=aj.lt;have bS:=hide hR;clear hR aj ab a8 al am)
     have cL:st'.take (i+1)=st.take (i+1):=by
      obtain⟨u,hu⟩:=C.out.pre;rw [<-hu,List.take_append_of_le_length (by omega)]
     have bv:(st.map fun s=>cl.getD s 0)<+:(st'.map fun s=>cl.getD s 0):=by
      obtain⟨u,hu⟩:=C.out.pre;rw [<-hu,List.map_append];exact List.prefix_append _ _
     have bx:(st.map fun s=>cl.getD s 0)[i]?=some (cl.getD q 0):=AX (f:=fun s=>cl.getD s 0) bw.out;refine⟨⟨i+1,st',.slice (some ⟨ga,0,none⟩) (i+1) av,.slice (some ⟨g',0,none⟩) (i+1) ae,ws++[.slice (some ⟨gr,0,none⟩) G.length x],by go_num,by omega,?_⟩,by simp [intOf]; omega⟩;refine hide ⟨?_,?_,C.out.lt⟩
     ·have:=bS.out;rw [cL,GP (Ds bv bx),GO I.out.exp bv,<-cz.out];exact this
     ·rw [C.out.eq];exact .row I.out.exp bx
  ·have cg:=d.exp.inv.le;rw [List.length_map] at cg;obtain rfl:i=st.length:=by omega
   obtain⟨AN,cN,rfl⟩:=AH d.mem.nxt;obtain⟨AA,cA,rfl⟩:=AH d.mem.acc;have bo:(AM L (AF (dnx t) cl) (st.map fun s=>cl.getD s 0) st.length).length=st.length:=D5 (by simp);have V:((st.take st.length).map (dac ac)).length=st.length:=by simp
   rw [bo,V] at d;have b8:=d.mem.b5.cell;have a7:=d.mem.b4;have dl:=a7.frozen;have dt:=a7.lt;have da:=a7.cell;obtain⟨wF,bF,aY,ax⟩:=Dm a7 (.slice AN st.length cN) (.slice AA st.length cA);have c9:=hide (d.mem.finO (ax.mono fun _ _ e=>.inl e));have bU:=hide (d.mem.below.trans (ax.below d.mem.below.size fun b hb e=>by have:=d.mem.ge; omega));have bP:=aY.cell;have cQ:=hide bF;have c7:=hide d.exp;have cj:=hide d.lt;clear d a7 aY ax bF bo V I;go_wp2_with fail;change bodyPost _ _ _ .ret _ (CY wr w1.heap.size (.slice AN st.length cN) (.slice AA st.length cA));rw [cQ.out];have hf:=c9.out;rw [List.take_length] at hf;refine bodyPost_ret (v:=.agg #[.slice AN st.length cN,.slice AA st.length cA]) (by simp [results,Tryz.results167,go_sem,bP]) rfl ⟨bU.out,st,by rw [aa.out]; exact cj.out,cG,?_,hf⟩;unfold Bf;rw [List.length_map];exact c7.out
theorem RH {w:World} {v:Value} {L c B:Nat} {A:Option Addr} {t:List (List Nat)} {ac:List Bool} {cl:List Nat} (h:Br w w.heap.size v t ac) (V:DOK L t ac) (M:Sl w B 1 Ai A (Ak cl)) (E:B<=w.heap.size) (I:Ck L ac.length (dnx t) (dac ac) cl) (G:L<=8) (U:ac.length<=250000):
  Calls Tryz.prog 167 #[v,.slice A ac.length c] w (Ret fun r w'=>Below w.heap.size w w'/\∃st:List Nat,(∀s∈st,s<ac.length)/\st.length<=ac.length/\Bf L (AF (dnx t) cl) (cl.getD 0 0) (st.map fun s=>cl.getD s 0)/\(∀w'',Ac w' w'' (fun k=>k<w.heap.size)->Br w'' w''.heap.size r (AM L (AF (dnx t) cl) (st.map fun s=>cl.getD s 0) st.length) (st.map (dac ac)))/\Do w' w.heap.size r (AM L (AF (dnx t) cl) (st.map fun s=>cl.getD s 0) st.length) (st.map (dac ac))):=by
 refine Calls.ret (RI h V M E I G U) ?_;rintro r w' ⟨J,st,l,y,C,d⟩;refine⟨J,st,l,y,C,fun w'' O=>(d.kept O (fun g e _=>e) (Nat.le_refl _)).read (fun r j=>?_) ?_ ?_,d⟩
 ·unfold AM at j;obtain⟨s,_,rfl⟩:=List.mem_map.1 j;simp; omega
 ·rw [D5 (by simp)]; omega
 ·simp; omega
end Go.Proofs.YtfcfpoemojjglaaGreatDoor
namespace Go.Proofs.YtfcfpoemojjglaaGreatDoor
open Go.RowKit
set_option maxHeartbeats 16000000
set_option maxRecDepth 100000
theorem J4 {w:World} {v:Value} {L:Nat} {t:List (List Nat)} {ac:List Bool} (h:Br w w.heap.size v t ac) (M:DOK L t ac) (hL:L<=8) (hn:ac.length<=250000) (hT:BV w):
  Calls Tryz.prog 112 #[v] w (Ret fun r w'=>Below w.heap.size w w'/\∃cl st:List Nat,Ck L ac.length (dnx t) (dac ac) cl/\(∀s∈st,s<ac.length)/\st.length<=ac.length/\Bf L (AF (dnx t) cl) (cl.getD 0 0) (st.map fun s=>cl.getD s 0)/\(∀w'',Ac w' w'' (fun k=>k<w.heap.size)->Br w'' w''.heap.size r (AM L (AF (dnx t) cl) (st.map fun s=>cl.getD s 0) st.length) (st.map (dac ac)))/\Do w' w.heap.size r (AM L (AF (dnx t) cl) (st.map fun s=>cl.getD s 0) st.length) (st.map (dac ac))):=by
 have ae:=hide h;obtain⟨A1,c1,A2,c2,rfl,h1,h2⟩:=h;obtain⟨w1,bp,ah,aa,bh⟩:=Ae w #[.slice A1 t.length c1,.slice A2 ac.length c2] 78;obtain⟨w2,bC,ai,ax,bi⟩:=Ae w1 #[sn0,sn0] 78;have bk:=ah.size;have a4:Below w.heap.size w w2:=ah.trans (ai.mono bk);have aT:=a4.size;have Z:=hide (aa.below ai);have hR:=hide ax;have hM:=hide (fun q x (G:q<ac.length) (y:x<L)=>M.lt G y);have bB:=aa.lt;have al:Calls Tryz.prog 165 #[.agg #[.slice A1 t.length c1,.slice A2 ac.length c2]] w2 (Ret fun r w'=>Below w2.heap.size w2 w'/\∃A c,r=.tuple #[.slice A ac.length c,.int .i64 ((dd ac).length:Int)]/\Sl w' w'.heap.size 1 Ai A (Ak (BD ac))):=Ro (ae.out.keep (fun p l=>a4.cell l) aT) hn;have an:∀(wx:World) (A:Option Addr) (c r cnt:Nat) (cl:List Nat),Below w.heap.size w wx->Sl wx wx.heap.size 1 Ai A (Ak cl)->BU L ac.length (dnx t) (dac ac) r cl cnt->Calls Tryz.prog 166 #[.agg #[.slice A1 t.length c1,.slice A2 ac.length c2],.slice A ac.length c] wx (Ret fun r' w'=>Below wx.heap.size wx w'/\∃(C:Option Addr) (I:Nat) (O:List Nat) (cnt':Nat),r'=.tuple #[.slice C ac.length I,.int .i64 (cnt':Int)]/\Sl w' w'.heap.size 1 Ai C (Ak O)/\BU L ac.length (dnx t) (dac ac) (r+1) O cnt'):=fun wx A c r cnt cl j hS V=>by
  refine Calls.ret (Tf (ae.out.keep (fun p l=>j.cell l) j.size) M hS (Nat.le_refl _) V.len (fun x y=>by have:=(V.mem x).1 y; have:=V.le; omega) hL hn (hT.below j)) ?_;rintro r' w' ⟨b8,C,I,e,b4⟩;exact⟨b8,C,I,_,_,e,b4,Th (fun q x G y=>M.lt G y) V⟩
 have am:∀(wx:World) (A:Option Addr) (c:Nat) (cl:List Nat),Below w.heap.size w wx->Sl wx wx.heap.size 1 Ai A (Ak cl)->Ck L ac.length (dnx t) (dac ac) cl->Calls Tryz.prog 167 #[.agg #[.slice A1 t.length c1,.slice A2 ac.length c2],.slice A ac.length c] wx (Ret fun r w'=>Below wx.heap.size wx w'/\∃st:List Nat,(∀s∈st,s<ac.length)/\st.length<=ac.length/\Bf L (AF (dnx t) cl) (cl.getD 0 0) (st.map fun s=>cl.getD s 0)/\(∀w'',Ac w' w'' (fun k=>k<wx.heap.size)->Br w'' w''.heap.size r (AM L (AF (dnx t) cl) (st.map fun s=>cl.getD s 0) st.length) (st.map (dac ac)))/\Do w' wx.heap.size r (AM L (AF (dnx t) cl) (st.map fun s=>cl.getD s 0) st.length) (st.map (dac ac))):=fun wx A c cl j hS hW=>
  RH (ae.out.keep (fun p l=>j.cell l) j.size) M hS (Nat.le_refl _) hW hL hn
 have aA:=Rp L (dnx t) ac;have aB:=hide aA;obtain⟨n,a8⟩:∃n,n=ac.length:=⟨_,rfl⟩;have ak:=hide a8;rw [<-a8] at bp Z al an am hn ⊢;have bn:=hide an;have bj:=hide am;clear an am;clear h1 h2 bh bi ah ai aa ax a8 M hT aA;go_enter Tryz.func112,Tryz.ntmps112;have bd:=Z.out.cell;go_wp2_with fail;refine Calls.ret al ?_;rintro r w3 ⟨a5,A,c,rfl,aK⟩;have b9:=a4.trans (a5.mono aT);have aW:=hide (Z.out.below a5);have aZ:=hide (hR.out.below a5);have b5:=hide aK;clear al aK bd a4 a5 Z hR;go_wp2_with fail;go_loopw [3,4] (fun vv cc wr=>∃(r cnt c:Nat) (A:Option Addr) (cl:List Nat),vv=.slice A n c/\cc=.int .i64 (cnt:Int)/\cnt<=n/\Below w.heap.size w wr/\Hid (Blk wr w.heap.size 78 #[.slice A1 t.length c1,.slice A2 n c2])/\Hid (Blk wr w1.heap.size 78 #[sn0,sn0])/\Hid (Sl wr wr.heap.size 1 Ai A (Ak cl))/\Hid (BU L n (dnx t) (dac ac) r cl cnt)) (fun _ cc _=>n - (intOf cc).toNat)
 case atStart=>exact⟨0,(dd ac).length,c,A,BD ac,rfl,rfl,by have:=aB.out.le; have:=ak.out; omega,b9,aW,aZ,b5,by rw [ak.out]; exact aB⟩
 case round=>
  obtain⟨r,cnt,c,A,cl,rfl,rfl,bv,ab,aF,b0,aM,ad⟩:=hrel;have bw:=aF.out.cell;go_wp2_with fail;refine Calls.ret (bn.out _ _ _ _ _ _ ab aM.out ad.out) ?_;rintro r' w4 ⟨E,C,I,O,cnt',rfl,aL,W⟩;have U:=ab.trans (E.mono ab.size);have aD:=hide (aF.out.below E);have ag:=hide (b0.out.below E);have aj:=W.le;have bf:=ad.out.grow W;have b6:=hide aL;have aC:=hide W;have b7:=hide (aM.out.keep (w':=w4) (fun p l=>E.cell l) E.size);have bt:=aD.out.cell;clear E aL W;by_cases he:cnt'=cnt
  ·subst he;have hW:Ck L n (dnx t) (dac ac) cl:=ad.out.atRest (fun q x G y=>by
    rw [ak.out] at G ⊢;exact hM.out q x G y) aC.out
   have aO:=hide hW;have bl:=U.size;clear bf aj hW;go_wp2_with fail;refine Calls.ret (bj.out _ _ _ _ U b7.out aO.out) ?_;rintro d w5 ⟨a6,st,bo,bm,aE,af,aH⟩;obtain⟨A5,c5,A6,c6,rfl,-,-⟩:=af w5 (Ac.refl _ _);have J:=ag.out.below a6;have bx:=J.frozen;have bA:=J.lt;have bu:=J.cell;obtain⟨wF,ao,ay,a2⟩:=Dm J (.slice A5 (AM L (AF (dnx t) cl) (st.map fun s=>cl.getD s 0) st.length).length c5) (.slice A6 (st.map (dac ac)).length c6);have az:=ay.cell;have bD:=hide ao;have bz:=ag.out.lt;have ba:=hide ((U.trans (a6.mono bl)).trans (a2.below (by have:=a6.size; omega) fun b j e=>by omega));have aP:=hide (fun w'' (hk:Ac wF w'' (fun k=>k<w.heap.size))=>af w'' ((a2.mono (fun b _ e=>by omega)).trans hk (fun b _ e=>by omega)));have aS:=hide (aH.kept (base':=w.heap.size) a2 (fun g (e:g=_) _=>by omega) (by omega));have aX:=hide aE;clear af aH J ay a2 a6 aE;unfold CY at ao;obtain⟨lr,aR⟩:∃lr,lr=(AM L (AF (dnx t) cl) (st.map fun s=>cl.getD s 0) st.length).length:=⟨_,rfl⟩;obtain⟨la,aQ⟩:∃la,la=(st.map (dac ac)).length:=⟨_,rfl⟩;rw [<-aR,<-aQ] at ao az aP aS ⊢;clear aR aQ;go_wp2_with fail;refine bodyPost_ret (v:=.agg #[.slice A5 lr c5,.slice A6 la c6]) (by simp [results,Tryz.results112,go_sem,az]) rfl ⟨ba.out,cl,st,aO.out,bo,bm,aX.out,aP.out,aS.out⟩
  ·have a8:¬(cnt':Int)=(cnt:Int):=by omega
   have be:cnt'<=n:=aj;clear he aj;go_wp2_with fail;exact⟨⟨r+1,cnt',I,C,O,rfl,rfl,be,U,aD,ag,b6,aC⟩,by simp [intOf]; omega⟩
theorem Q8 {w:World} {v:Value} {L:Nat} {t:List (List Nat)} {ac:List Bool} (h:Br w w.heap.size v t ac) (M:DOK L t ac) (E:L<=8) (J:ac.length<=250000) (G:BV w):
  Calls Tryz.prog 112 #[v] w (Ret fun r w'=>Below w.heap.size w w'/\∃cl st:List Nat,Ck L ac.length (dnx t) (dac ac) cl/\(∀s∈st,s<ac.length)/\st.length<=ac.length/\Bf L (AF (dnx t) cl) (cl.getD 0 0) (st.map fun s=>cl.getD s 0)/\∀w'',Ac w' w'' (fun k=>k<w.heap.size)->Br w'' w''.heap.size r (AM L (AF (dnx t) cl) (st.map fun s=>cl.getD s 0) st.length) (st.map (dac ac))):=by
 refine Calls.ret (J4 h M E J G) ?_;rintro r w' ⟨I,cl,st,d,j,l,y,C,-⟩;exact⟨I,cl,st,d,j,l,y,C⟩
end Go.Proofs.YtfcfpoemojjglaaGreatDoor
namespace Go.Proofs.YtfcfpoemojjglaaGreatDoor
open Go.RowKit
set_option maxHeartbeats 4000000
section
variable {S:Type} [DecidableEq S] {L:Nat} {δ:S->Nat->S} {s0:S}
theorem Su {all:List S} {q:Nat} {s:S} (d:all[q]?=some s) {x:Nat} (h:x<L):dnx (AM L δ all all.length) q x=Ax all (δ s x):=by
 unfold dnx AM;rw [List.take_length,getD_some (AX d),getD_some (AX (List.getElem?_range h))]
theorem Ie {all:List S} {q x:Nat} (h:q<all.length) (j:x<L):dnx (AM L δ all all.length) q x=Cy δ all q x:=by
 obtain⟨s,d⟩:=An h;rw [Su d j];unfold Cy;rw [d];rfl
theorem Fq {all:List S} (h:Bf L δ s0 all) {ac:List Bool} (j:ac.length=all.length):DOK L (AM L δ all all.length) ac:=by
 have G:all.length≠0:=fun e=>by
  have:=h.run (w:=[]) (okW.nil L);rw [List.length_eq_zero_iff.1 e] at this;simp at this
 refine⟨by rw [D5 (Nat.le_refl _),j],by omega,fun r d=>?_⟩;unfold AM at d;rw [List.take_length] at d;obtain⟨s,l,rfl⟩:=List.mem_map.1 d;refine⟨by simp,fun y E=>?_⟩;obtain⟨x,C,rfl⟩:=List.mem_map.1 E;rw [j];exact Kr (h.closed l (List.mem_range.1 C))
end
theorem GR {L n:Nat} {nx nx':Nat->Nat->Nat} (d:∀q x,q<n->x<L->nx q x<n) (he:∀q x,q<n->x<L->nx' q x=nx q x):∀(w:List Nat) (q:Nat),okW L w->q<n->Ay nx' q w=Ay nx q w
 | [],_,_,_=>rfl
 | x::w,q,hw,hq=>by
  have h:=hw x List.mem_cons_self;show Ay nx' (nx' q x) w=Ay nx (nx q x) w
  rw [he q x hq h];exact GR d he w _ (fun y j=>hw y (List.mem_cons_of_mem _ j)) (d q x hq h)
theorem KM {S:Type} [DecidableEq S] {δ δ':S->Nat->S} {s:S} {l:List S}:∀(k:Nat),(∀x,x<k->δ' s x=δ s x)->AZ δ' s l k=AZ δ s l k
 | 0,_=>rfl
 | k+1,h=>by rw [Cr,Cr,KM k (fun x d=>h x (by omega)),h k (by omega)]
theorem PP {S:Type} [DecidableEq S] {L:Nat} {δ δ':S->Nat->S} {s0:S} {i:Nat} {l:List S} (h:Exp L δ s0 i l) (he:∀s x,s∈l->x<L->δ' s x=δ s x):Exp L δ' s0 i l:=by
 induction h with
 | start=>exact .start
 | @row i l s h1 hs ih=>
  have j:=DK (δ:=δ) s l L;have y:=ih fun E x C d=>he E x (j.subset C) d;rw [<-KM (δ:=δ) (δ':=δ') L fun x d=>he s x (j.subset (List.mem_of_getElem? hs)) d];exact .row y hs
theorem Cz.congr {L n:Nat} {nx nx':Nat->Nat->Nat} {acc I:Nat->Bool} {Λ Λ':List Nat->Bool} (h:Cz L n nx acc Λ) (j:∀q x,q<n->x<L->nx' q x=nx q x) (J:∀q,q<n->I q=acc q) (G:∀w,okW L w->Λ' w=Λ w):Cz L n nx' I Λ':=by
 have l:∀w,okW L w->Ay nx' 0 w=Ay nx 0 w:=fun w d=>GR (fun q x M j=>h.lt M j) j w 0 d h.pos;refine⟨fun w d=>?_,fun u v y C V=>?_,?_⟩
 ·rw [l w d,J _ (h.run_lt d),h.lang w d,G w d]
 ·rw [l u y,l v C];exact h.sep u v y C fun z E=>by rw [<-G _ (y.app E),<-G _ (C.app E)]; exact V z E
 ·exact PP h.ord fun s x O U=>j s x (List.mem_range.1 O) U
structure BH (L:Nat) (t:List (List Nat)) (ac:List Bool) (Λ:List Nat->Bool):Prop where
 ok:DOK L t ac
 can:Cz L ac.length (dnx t) (dac ac) Λ
def EI (t:List (List Nat)) (ac:List Bool) (w:List Nat):Bool:=dac ac (Ay (dnx t) 0 w)
theorem HG {L:Nat} {t:List (List Nat)} {ac:List Bool} {cl st:List Nat} (y:DOK L t ac) (G:Ck L ac.length (dnx t) (dac ac) cl) (I:∀s∈st,s<ac.length) (l:Bf L (AF (dnx t) cl) (cl.getD 0 0) (st.map fun s=>cl.getD s 0)):
  BH L (AM L (AF (dnx t) cl) (st.map fun s=>cl.getD s 0) st.length) (st.map (dac ac)) (EI t ac):=by
 have E:=G.canon (fun q x d h=>y.lt d h) y.pos I l;have j:=Fq l (ac:=st.map (dac ac)) (by simp);rw [List.length_map] at j;refine⟨j,?_⟩;rw [List.length_map];refine E.congr (fun q x d h=>?_) (fun q d=>?_) (fun w J=>rfl)
 ·have:=Ie (L:=L) (δ:=AF (dnx t) cl) (all:=st.map fun s=>cl.getD s 0) (q:=q) (x:=x) (by simpa using d) h;rw [List.length_map] at this;exact this
 ·obtain⟨s,C⟩:=An d;show(st.map (dac ac)).getD q false=_
  rw [getD_some (AX C),getD_some C]
theorem BH.congr {L:Nat} {t:List (List Nat)} {ac:List Bool} {Λ Λ':List Nat->Bool} (h:BH L t ac Λ) (d:∀w,okW L w->Λ' w=Λ w):BH L t ac Λ':=
 ⟨h.ok,h.can.congr (fun _ _ _ _=>rfl) (fun _ _=>rfl) d⟩
theorem BH.unique {L:Nat} {t I:List (List Nat)} {ac C:List Bool} {Λ Λ':List Nat->Bool} (h:BH L t ac Λ) (j:BH L I C Λ') (hΛ:∀w,okW L w->Λ w=Λ' w):t=I/\ac=C:=by
 obtain⟨O,hx,Z⟩:=h.can.unique j.can hΛ;constructor
 ·apply List.ext_getElem?;intro q;by_cases d:q<ac.length
  ·obtain⟨r,E⟩:=An (l:=t) (i:=q) (by rw [h.ok.len]; exact d);obtain⟨W,G⟩:=An (l:=I) (i:=q) (by rw [j.ok.len,<-O]; exact d);rw [E,G];congr 1;apply List.ext_getElem?;intro x;have l1:=(h.ok.row r (List.mem_of_getElem? E)).1;have l2:=(j.ok.row W (List.mem_of_getElem? G)).1;by_cases a3:x<L
   ·obtain⟨y,U⟩:=An (l:=r) (i:=x) (by omega);obtain⟨y',V⟩:=An (l:=W) (i:=x) (by omega);have:=hx q x d a3;unfold dnx at this;rw [getD_some E,getD_some G,getD_some U,getD_some V] at this;rw [U,V,this]
   ·rw [List.getElem?_eq_none (by omega),List.getElem?_eq_none (by omega)]
  ·rw [List.getElem?_eq_none (by rw [h.ok.len]; omega),List.getElem?_eq_none (by rw [j.ok.len,<-O]; omega)]
 ·apply List.ext_getElem?;intro q;by_cases d:q<ac.length
  ·obtain⟨b,J⟩:=An d;obtain⟨b',M⟩:=An (l:=C) (i:=q) (by omega);have:=Z q d;unfold dac at this;rw [getD_some J,getD_some M] at this;rw [J,M,this]
  ·rw [List.getElem?_eq_none (by omega),List.getElem?_eq_none (by omega)]
end Go.Proofs.YtfcfpoemojjglaaGreatDoor
namespace Go.Proofs.YtfcfpoemojjglaaGreatDoor
open Go.RowKit
set_option maxHeartbeats 16000000
set_option maxRecDepth 100000
end Go.Proofs.YtfcfpoemojjglaaGreatDoor
namespace Go.Proofs.YtfcfpoemojjglaaGreatDoor
open Go.RowKit
set_option maxHeartbeats 16000000
set_option maxRecDepth 100000
def eC (e:Edg):List Value:=[.int .i64 e.frm,.int .i64 e.letter,.int .i64 e.to]
theorem Jt:∀{l:List Edg} {k j:Nat} {e:Edg},l[k]?=some e->j<3->(l.flatMap eC)[k*3+j]?=some (DP e j)
 | [],_,_,_,h,_=>by simp at h
 | d::l,0,j,e,h,hj=>by
  have:d=e:=by simpa using h
  subst this;rw [List.flatMap_cons,List.getElem?_append_left (by simp [eC]; omega)]
  match j,hj with
  | 0,_=>rfl
  | 1,_=>rfl
  | 2,_=>rfl
 | d::l,k+1,j,e,h,hj=>by
  rw [List.flatMap_cons,List.getElem?_append_right (by simp [eC]; omega)];have C:=Jt (l:=l) (k:=k) (j:=j) (by simpa using h) hj;have y:(k+1)*3+j - (eC d).length=k*3+j:=by simp [eC]; omega
  rw [y];exact C
theorem HU {w:World} {base n B:Nat} {v:Value} {l:List Edg} (h:w.ownsRow base 83 3 v n (l.flatMap eC)) (M:l.length=n) (O:w.heap.size<=B) (W:n<=9223372036854775807):∃A c,v=.slice A l.length c/\Sl w B 3 DP A l:=by
 subst M;rcases h.2 with⟨rfl,G⟩ | ⟨g,C,E,rfl,U,y,V,Z,hz,ht⟩
 ·have:l=[]:=List.length_eq_zero_iff.1 G;subst this;exact⟨none,0,rfl,Sl.nil rfl⟩
 ·refine⟨_,C,rfl,by omega,fun _=>⟨g,0,rfl,?_,fun k d I j J=>?_⟩⟩
  ·have:=(Array.getElem?_eq_some_iff.1 y).1; omega
  ·rw [cell_of_row w g _ E 83 (0,0) y];have:=Jt I J;rw [<-ht,List.getElem?_take] at this;split at this
   ·simpa using this
   ·cases this
theorem Qj:(Tryz.prog.info? 83).map (fun i=>(i.zero,i.size,i.bytes))=some (some (.agg #[.int .i64 0,.int .i64 0,.int .i64 0]),3,24):=by kernel_rfl
theorem Ga:Dd Tryz.prog 33 83 3:=EX Tryz.underlying33 Qj rfl (by omega) (by omega)
def ED (w:World) (base:Nat) (v:Value) (es:List Edg):Prop:=∃x0 x1 x2 x3 vE:Value,v=.agg #[x0,x1,x2,x3,vE]/\w.ownsRow base 83 3 vE es.length (es.flatMap eC)
abbrev BQ:Array Value:=#[.int .i64 0,.int .i64 0,sn0,sn0,sn0]
structure AuM (w0 wr:World) (g2 g4 g5 gs:Nat) (c2:Array Value) (L n:Nat) (vA vE:Value) (as':List Int) (es:List Edg):Prop where
 below:Below w0.heap.size w0 wr
 b2:Blk wr g2 78 c2
 b4:Blk wr g4 35 BQ
 b5:Blk wr g5 35 #[.int .i64 (L:Int),.int .i64 (n:Int),.slice (some ⟨gs,0,none⟩) 1 1,vA,vE]
 start:Blk wr gs 3 #[.int .i64 0]
 acc:wr.ownsRow w0.heap.size 3 1 vA as'.length (as'.map (Value.int .i64))
 eds:wr.ownsRow w0.heap.size 83 3 vE es.length (es.flatMap eC)
 sep:vA.ownBlock≠some gs
 ne:g4≠g5
 ge:w0.heap.size<=g2/\w0.heap.size<=g4/\w0.heap.size<=g5/\w0.heap.size<=gs
section
variable {w0 wr w':World} {g2 g4 g5 gs L n:Nat} {c2:Array Value} {vA vE:Value} {as':List Int} {es:List Edg}
theorem AuM.addA {q:Int} {vA':Value} {w1:World} (h:AuM w0 wr g2 g4 g5 gs c2 L n vA vE as' es) (C:Ac wr w1 (fun k=>vA.ownBlock=some k)) (U:w1.ownsRow w0.heap.size 3 1 vA' (as'.length+1) (as'.map (Value.int .i64)++[.int .i64 q])) (O:BJ wr vA vA'):
  AuM w0 (w1.setCell ⟨g5,3,none⟩ vA') g2 g4 g5 gs c2 L n vA' vE (as'++[q]) es:=by
 have I:=h.b5.kept C (Aw h.acc h.b5 (by decide));have E:=(Ac.refl w1 (fun k=>k=g5)).setCell (p:=⟨g5,3,none⟩) (fun _=>rfl) vA';have j:Ac wr (w1.setCell ⟨g5,3,none⟩ vA') (fun k=>vA.ownBlock=some k\/k=g5):=(C.mono fun _ _ e=>.inl e).trans E fun _ _ e=>.inr e;have G:∀{e:TypeId},e≠3->e≠35->∀g cs,(vA.ownBlock=some g\/g=g5)->¬Blk wr g e cs:=by
  rintro e J M g cs (y | y) l
  ·exact Aw h.acc l (fun d=>J d.symm) y
  ·exact l.ne_ h.b5 M y
 refine⟨h.below.trans (j.below h.below.size ?_),h.b2.kept j fun x=>G (by decide) (by decide) _ _ x h.b2,h.b4.kept j ?_,I.set_ 3 vA',h.start.kept j ?_,?_,AK j h.eds (G (by decide) (by decide)),?_,h.ne,h.ge⟩
 ·rintro b W (e | e)
  ·have:=Bb h.acc e; omega
  ·have:=h.ge; omega
 ·rintro(e | e)
  ·exact Aw h.acc h.b4 (by decide) e
  ·exact h.ne e
 ·rintro(e | e)
  ·exact h.sep e
  ·exact h.start.ne_ h.b5 (by decide) e
 ·rw [List.length_append,List.map_append];exact AK E U (fun g cs e l=>by subst e; exact l.ne_ I (by decide) rfl)
 ·intro e;rcases O with d | ⟨V,d,Z⟩
  ·exact h.sep (by rw [<-d]; exact e)
  ·rw [e] at d;have:=Option.some.inj d;have:=h.start.lt;omega
theorem AuM.addE {d:Edg} {vE':Value} {w1:World} (h:AuM w0 wr g2 g4 g5 gs c2 L n vA vE as' es) (E:Ac wr w1 (fun k=>vE.ownBlock=some k)) (U:w1.ownsRow w0.heap.size 83 3 vE' (es.length+1) (es.flatMap eC++eC d)):
  AuM w0 (w1.setCell ⟨g5,4,none⟩ vE') g2 g4 g5 gs c2 L n vA vE' as' (es++[d]):=by
 have I:=h.b5.kept E (Aw h.eds h.b5 (by decide));have G:=(Ac.refl w1 (fun k=>k=g5)).setCell (p:=⟨g5,4,none⟩) (fun _=>rfl) vE';have j:Ac wr (w1.setCell ⟨g5,4,none⟩ vE') (fun k=>vE.ownBlock=some k\/k=g5):=(E.mono fun _ _ e=>.inl e).trans G fun _ _ e=>.inr e;have C:∀{e:TypeId},e≠83->e≠35->∀g cs,(vE.ownBlock=some g\/g=g5)->¬Blk wr g e cs:=by
  rintro e J M g cs (y | y) l
  ·exact Aw h.eds l (fun O=>J O.symm) y
  ·exact l.ne_ h.b5 M y
 refine⟨h.below.trans (j.below h.below.size ?_),h.b2.kept j fun x=>C (by decide) (by decide) _ _ x h.b2,h.b4.kept j ?_,I.set_ 4 vE',h.start.kept j fun x=>C (by decide) (by decide) _ _ x h.start,AK j h.acc (C (by decide) (by decide)),?_,h.sep,h.ne,h.ge⟩
 ·rintro b V (e | e)
  ·have:=Bb h.eds e; omega
  ·have:=h.ge; omega
 ·rintro(e | e)
  ·exact Aw h.eds h.b4 (by decide) e
  ·exact h.ne e
 ·rw [List.length_append,List.flatMap_append];refine AK G ?_ (fun g cs e l=>by subst e; exact l.ne_ I (by decide) rfl);simpa using U
theorem AuM.finO {wF:World} (h:AuM w0 wr g2 g4 g5 gs c2 L n vA vE as' es) (j:Ac wr wF (fun k=>k=g4)):ED wF w0.heap.size (.agg #[.int .i64 (L:Int),.int .i64 (n:Int),.slice (some ⟨gs,0,none⟩) 1 1,vA,vE]) es:=
 ⟨_,_,_,_,_,rfl,j.ownsRow h.eds fun g d e=>Aw h.eds h.b4 (by decide) (by rw [d,e])⟩
theorem AuM.fin {wF:World} (h:AuM w0 wr g2 g4 g5 gs c2 L n vA vE as' es) (y:Ac wr wF (fun k=>k=g4\/k<w0.heap.size)) (V:as'.length<=4000000) (he:es.length<=4000000):
  Bj wF wF.heap.size (.agg #[.int .i64 (L:Int),.int .i64 (n:Int),.slice (some ⟨gs,0,none⟩) 1 1,vA,vE]) ⟨(L:Int),(n:Int),[0],as',es⟩:=by
 have W:=h.ge;have M:=y.ownsRow h.acc fun g d e=>by
  rcases e with e | e
  ·exact Aw h.acc h.b4 (by decide) (by rw [d,e])
  ·have:=Bb h.acc d; omega
 have O:=y.ownsRow h.eds fun g d e=>by
  rcases e with e | e
  ·exact Aw h.eds h.b4 (by decide) (by rw [d,e])
  ·have:=Bb h.eds d; omega
 have hS:=h.start.kept y fun e=>by
  rcases e with e | e
  ·exact h.start.ne_ h.b4 (by decide) e
  ·omega
 obtain⟨A2,c2,C,I⟩:=B8 (B:=wF.heap.size) M rfl (Nat.le_refl _) (by omega);obtain⟨A3,c3,E,J⟩:=HU (B:=wF.heap.size) O rfl (Nat.le_refl _) (by omega);obtain⟨A1,c1,j,G⟩:=B8 (B:=wF.heap.size) (l:=[0]) (base:=0) (DD (n:=1) hS (Nat.zero_le _) rfl (by omega)) rfl (Nat.le_refl _) (by omega);injection j with j _ U
 subst j;exact⟨_,1,A2,c2,A3,c3,by rw [C,E]; rfl,G,I,J,Nat.le_refl _⟩
end
end Go.Proofs.YtfcfpoemojjglaaGreatDoor
