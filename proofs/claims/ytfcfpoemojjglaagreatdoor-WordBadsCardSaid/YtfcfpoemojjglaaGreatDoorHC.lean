/-
  Part HC of a proof.
-/
import Derived.Test.YtfcfpoemojjglaaGreatDoorPA
import Derived.Test.YtfcfpoemojjglaaGreatDoorHA
set_option maxHeartbeats 16000000
set_option maxRecDepth 100000
set_option linter.unusedVariables false
set_option linter.unusedSimpArgs false
namespace Go.Proofs.YtfcfpoemojjglaaGreatDoor
open Go.RowKit
attribute [-go_sem] loadCellsFrom
set_option maxHeartbeats 16000000
set_option maxRecDepth 100000
theorem VH {w:World} {a b c L:Nat} {δ:Sc3->Nat->Sc3} {f:Sc3->Bool}
  (a8:∀wx,Below w.heap.size w wx->∀(s:Sc3) (x:Nat),s.Le->x<L->Calls Tryz.prog 79 #[UA s,.int .i64 (x:Int),.pointer (some ⟨a,0,none⟩),.pointer (some ⟨b,0,none⟩),.pointer (some ⟨c,0,none⟩)] wx (Ret fun v w'=>v=UA (δ s x)/\Below wx.heap.size wx w'))
  (bL:∀wx,Below w.heap.size w wx->∀(s:Sc3),s.Le->Calls Tryz.prog 80 #[UA s,.pointer (some ⟨a,0,none⟩),.pointer (some ⟨b,0,none⟩)] wx (Ret fun v w'=>v=.bool (f s)/\Below wx.heap.size wx w'))
  (au:∀s x,s.Le->x<L->(δ s x).Le) (hL:L<=8) (hT:BV w):
  Calls Tryz.prog 81 #[.int .i64 (L:Int),.agg #[.bool false,.int .i64 0,.int .i64 0,.int .i64 0,.bool false,.bool false,.bool false],.func (.func 79) #[] #[.pointer (some ⟨a,0,none⟩),.pointer (some ⟨b,0,none⟩),.pointer (some ⟨c,0,none⟩)],.func (.func 80) #[] #[.pointer (some ⟨a,0,none⟩),.pointer (some ⟨b,0,none⟩)]] w (Ret fun r w'=>Below w.heap.size w w'/\∃t ac,BH L t ac (fun z=>f (Ay δ UD z))/\ac.length<=1024/\∀w'',Ac w' w'' (fun k=>k<w.heap.size)->Br w'' w''.heap.size r t ac):=by
 obtain⟨g8,g9,gs,gm,w1,w2,w3,w4,w5,w6,e8,e9,es,dR,dS,dT,dU,dV,dW,bx,bz,hQ⟩:=Wc w;subst e8 e9 es;have dG:(loadCellsFrom ⟨w.heap.size,0,none⟩ 0 7 #[]).run Tryz.prog w4=.ok _ w4:=K.Ah bx rfl;have cR:(loadCellsFrom ⟨w.heap.size,0,none⟩ 0 7 #[]).run Tryz.prog w5=.ok _ w5:=K.Ah bz rfl;have cw:Hid (XsI w w6 w1.heap.size w2.heap.size gm L δ f 0 [UD] (.slice (some ⟨w5.heap.size,0,none⟩) 1 1) sn0 sn0 []):=⟨hQ,.start⟩;have cO:=hide (show ∀(i:Nat) (all:List Sc3),Exp L δ UD i all->∀s∈all,s.Le from fun i all hE s hs=>Uq (I:=Sc3.Le) ⟨Nat.zero_le _,Nat.zero_le _,Nat.zero_le _⟩ au hE hs);have ar:=hide (show ∀(i:Nat) (all:List Sc3),Exp L δ UD i all->all.length<=1024 from fun i all hE=>by have:=Wb (I:=Sc3.Le) (fin:=UW) ⟨Nat.zero_le _,Nat.zero_le _,Nat.zero_le _⟩ au (fun s hs=>VX hs) hE; rw [VW] at this; exact this);have dO:=hide au;have cY:=hide a8;have cD:=hide bL;have cB:=hide hT;clear a8 bL au hT hQ bx bz;go_enter Tryz.func81,Tryz.ntmps81;go_wp2_with fail;go_loopw [11,12] (fun vv V wr=>∃(i:Nat) (all:List Sc3) (vN vA:Value) (ws:List Value),V=.int .i64 (i:Int)/\i<=1024/\Hid (XsI w wr w1.heap.size w2.heap.size gm L δ f i all vv vN vA ws)) (fun _ V _=>1025 - (intOf V).toNat)
 case atStart=>exact⟨0,_,_,_,_,rfl,Nat.zero_le _,cw⟩
 case round=>
  obtain⟨i,all,vN,vA,ws,rfl,hi,hI⟩:=hrel;have j:=hI.out;have dr:all.length<=1024:=ar.out _ _ j.exp;have cM:=j.exp.inv.le;obtain⟨AS,cS,rfl⟩:=AH j.mem.sts;by_cases cT:i<all.length
  ·obtain⟨⟨qa,q0,q1,q2,qf,qo,qc⟩,hq⟩:=An cT;obtain⟨q,aV⟩:∃q:Sc3,q=⟨qa,q0,q1,q2,qf,qo,qc⟩:=⟨_,rfl⟩;have ax:=hide aV;rw [<-aV] at hq;have cc:=hide (cO.out _ _ j.exp q (List.mem_of_getElem? hq));obtain⟨gr,w9,dP,aG,cE,dC⟩:=Et wr L (by omega);rw [Fo] at aG;have dQ:=j.mem.below.size;have cx:Hid (XsJ w w9 w1.heap.size w2.heap.size gm L δ f i q gr 0 all all (.slice AS all.length cS) vN vA ws):=by
    refine⟨(j.mem.weak (N':=fun g=>g≠gr) (fun g hg _ e=>by omega)).keep cE,rfl,fun e=>?_,?_⟩
    ·have:=Cj j.mem.sts e; omega
    ·rw [D4 (g:=fun _=>Value.int .i64 0) (fun y _=>by rw [if_neg (by omega)])];exact aG
   have aN:w.heap.size<=gr:=by omega
   have cb:=hide hq;clear j hq aG aV;go_wp2_with fail;go_loopw [11,33] (fun vv V wz=>∃(x:Nat) (all':List Sc3),V=.int .i64 (x:Int)/\x<=L/\Hid (XsJ w wz w1.heap.size w2.heap.size gm L δ f i q gr x all all' vv vN vA ws)) (fun _ V _=>L - (intOf V).toNat)
   case atStart=>exact⟨0,all,rfl,Nat.zero_le _,cx⟩
   case round=>
    rename World=>wz
    obtain⟨x,all',rfl,hx,C⟩:=hrel;have h:=C.out;have dt:all'.length<=2000:=by
     have:=Vc δ q all x;rw [<-h.eq] at this;omega
    have ab:all'[i]?=some q:=by rw [h.eq]; exact Ds (DK _ _ _) cb.out
    have dF:i<all'.length:=AP ab;obtain⟨dn,cr,d8⟩:=AH h.mem.sts;subst d8;by_cases ba:x<L
    ·obtain⟨bS,cq,e,-,-,bV⟩:=U1 h.mem.sts rfl (by rw [ax.out] at ab; exact ab);cases e;have ap:=cY.out wz h.mem.below q x cc.out ba;rw [show UA q=_ from(congrArg UA ax.out).trans (UT _ _ _ _ _ _ _)] at ap;clear h;go_wp2_with fail;refine Calls.ret ap ?_;rintro v wy ⟨rfl,aH⟩;obtain⟨⟨za,z0,z1,z2,zf,zo,zc⟩,a3⟩:∃z:Sc3,δ q x=z:=⟨_,rfl⟩;rw [a3,UT];obtain⟨M,b9,aF,W,bU⟩:=Ae wy #[.bool za,.int .i64 (z0:Int),.int .i64 (z1:Int),.int .i64 (z2:Int),.bool zf,.bool zo,.bool zc] 133;have dL:(loadCellsFrom ⟨wy.heap.size,0,none⟩ 0 7 #[]).run Tryz.prog M=.ok _ M:=K.Ah W rfl;have bF:=hide ((C.out.below aH).below aF);have h:=bF.out;have a2:=h.mem.map;have Z:=Ft U0 Tryz.underlying185 Fa a2 (δ q x);have dw:M.cell? ⟨gr,x,none⟩=some (.int .i64 0):=by rw [h.blk.cell,CV _ ba,if_neg (by omega)]
     have dz:=h.blk.frozen x;have dM:=h.blk.lt;have ch:=h.mem.below.size;have dq:=hide W;by_cases G:δ q x∈all'
     ·have c7:=hide (h.old G aN);simp only [G,if_true,decide_true] at Z;rw [a3] at Z c7;rw [UT] at Z;clear ap h a2 G aH a3 aF W bU;go_wp2_with fail;exact⟨⟨x+1,all',by go_num,by omega,c7⟩,by simp [intOf]; omega⟩
     ·simp only [G,if_false,decide_false] at Z;obtain⟨wm,ci,aS,aO,cf⟩:=EY U0 Tryz.underlying185 a2 (δ q x) G;have aQ:Ac M wm (fun k=>gm=k):=(Ac.of_grown aO).mono fun b _ e=>Option.some.inj e;have d3:=aQ.ownsRow h.mem.sts fun g hg e=>Di h.mem.sts a2 (by rw [hg,e]);have d5:w.heap.size<=wm.heap.size:=by omega
      have bC:=W.kept aQ (fun e=>BT W a2 e.symm);have dN:(loadCellsFrom ⟨wy.heap.size,0,none⟩ 0 7 #[]).run Tryz.prog wm=.ok _ wm:=K.Ah bC rfl;rw [a3] at Z ci aS G;rw [UT] at Z ci;have db:=hide a3;have cU:=hide G;have cV:=hide aS;have cL:=hide aO;have d2:=hide cf;clear ap h a2 G aH aS aO cf aQ a3 aF W bU bC
      go_wp2_with (
       at_builtin;refine BP (w:=wm) VQ rfl _ _ rfl w.heap.size (.slice (some ⟨bS,0,none⟩) all'.length cr) all'.length _ rfl d3 (BE ⟨za,z0,z1,z2,zf,zo,zc⟩) 1 rfl rfl (by simp [BE,Value.oneCell']) (by omega) d5 ?_;intro ga ag wa a9 a7 av cK;obtain⟨ao,c0⟩:=bF.out.new db.out cU.out aN cV.out cL.out d2.out a7 a9 av;have aJ:wa.cell? ⟨gr,x,none⟩=some (.int .i64 0):=by rw [ao.cell,CV _ ba,if_neg (by omega)]
       have bQ:=ao.frozen x;have bX:=ao.lt;have cX:=hide c0;clear c0 ao a9 a7 av)
      exact⟨⟨x+1,all'++[⟨za,z0,z1,z2,zf,zo,zc⟩],by go_num,by omega,cX⟩,by simp [intOf]; omega⟩
    ·obtain rfl:x=L:=by omega
     obtain⟨AN,cN,rfl⟩:=AH h.mem.nxt;have b0:=D5 (L:=x) (δ:=δ) cM;have a8:=h.mem.nxt;have cH:=h.mem.b5.cell;rw [b0] at a8 cH;obtain⟨J,ay⟩:∃J,J=(List.range x).map fun y=>Ax all' (δ q y):=⟨_,rfl⟩;have aW:J.length=x:=by rw [ay]; simp
     have c9:wz.ownsRow w.heap.size 3 1 (.slice (some ⟨gr,0,none⟩) J.length x) J.length ((Ak J).map (Value.int .i64)):=by
      have:=DD h.blk aN (Fp _ _) (by omega);rw [aW];have e:(Bi x fun y=>if y<x then Value.int .i64 (Ax all' (δ q y):Int) else .int .i64 0).toList=(Ak J).map (Value.int .i64):=by
       rw [ay];simp only [Bi,Ak,List.map_map];exact List.map_congr_left fun y hy=>by rw [if_pos (List.mem_range.1 hy)]; rfl
      rw [e] at this;exact this
     have ch:=h.mem.below.size;have d0:=hide ay;have d1:=hide aW;have cZ:=hide c9;have b6:=hide b0;have aT:=hide ab;clear h ay aW c9 b0 ab
     go_wp2_with (
      at_builtin;refine BP (w:=wz) F9 rfl _ _ rfl w.heap.size (.slice AN i cN) i _ rfl a8 [.slice (some ⟨gr,0,none⟩) x x] 1 rfl rfl (by simp [Value.oneCell']) (by omega) ch ?_;intro ga ag wa a9 a7 av cK;have aq:=a7;rw [<-b6.out] at aq;have al:=C.out.mem.b5.kept aq (Aw C.out.mem.nxt C.out.mem.b5 (by decide));have hR:=C.out.mem.addR (vN':=.slice (some ⟨ga,0,none⟩) (i+1) ag) cZ.out C.out.sep aq (by rw [b6.out,d1.out]; exact a9);have aJ:=al.cell;rw [b6.out] at aJ;have bQ:=al.frozen 0;have bX:=al.lt;have bI:=hide hR;clear hR al a9 a7 aq av)
     obtain⟨M,b9⟩:∃M,wa.setCell ⟨w2.heap.size,0,none⟩ (.slice (some ⟨ga,0,none⟩) (i+1) ag)=M:=⟨_,rfl⟩;rw [b9] at bI ⊢;have a6:=bI.out;obtain⟨AA,cA,rfl⟩:=AH a6.acc;have E:((all.take i).map f).length=i:=by simp; omega
     have aU:=aT.out;rw [ax.out] at aU;obtain⟨bS,cq,e,-,-,bV⟩:=U1 a6.sts rfl aU;cases e;have bM:=fun wx hx=>cD.out wx hx q cc.out;rw [show UA q=_ from(congrArg UA ax.out).trans (UT _ _ _ _ _ _ _)] at bM;have bO:=a6.b5.cell;rw [E] at bO;have aE:=hide (a6.keep (Ap M));obtain⟨dD,dp,e,-,-,dK⟩:=U1 aE.out.sts rfl aU;cases e;have U:=hide E;clear bV;clear a6 aJ bQ bX E b9;refine Reg.cC [0,1,0,0,0,24,56,124,252,511,1023,2047] [0,1,2,3,4,5,6,7,8,9,10,11] ?_;refine Reg.rest_walk' [0,1,2,3,4,5,6] [7,8,9,10,11] rfl (by kernel_rfl) ?_;intro Qf l;go_wp2_with fail;first | refine l _ _ ?_ | skip
     (try clear l);refine Reg.rest_act' 7 [8,9,10,11] [1] rfl (by kernel_rfl) ?_;intro Qf l;simp only [gT,gS,gZ];go_wp2_with fail;refine Calls.ret (bM _ (by exact aE.out.below)) ?_;rintro v wc ⟨rfl,am⟩;go_wp2_with fail;first | refine l _ _ ⟨Reg.same_below am _ rfl,?_⟩ | refine⟨Reg.same_below am _ rfl,?_⟩
     (try clear l);have O:=hide (aE.out.keep am);have bN:=O.out.acc;have d4:=O.out.below.size;rw [U.out] at bN;have bP:=O.out.b5.cell;rw [U.out] at bP;clear am bO;refine Reg.rest_walk' [8] [9,10,11] rfl (by kernel_rfl) ?_;intro Qf l;go_wp2_with fail;first | refine l _ _ ?_ | skip
     (try clear l);refine Reg.rest_act' 9 [10,11] [] rfl (by kernel_rfl) ?_;intro Qf l;simp only [gT,gS,gZ];refine BP (w:=wc) GM rfl _ _ rfl w.heap.size (.slice AA i cA) i _ rfl bN [.bool (f q)] 1 rfl rfl (by simp [Value.oneCell']) (by omega) d4 ?_;intro g' bv w7 c8 bT cW dA;have aP:Ac wc w7 (fun b=>(Value.slice AA ((all.take i).map f).length cA).ownBlock=some b):=by rw [U.out]; exact bT
     have bG:=O.out.addA (b:=f q) (vA':=.slice (some ⟨g',0,none⟩) (i+1) bv) aP (by rw [U.out]; exact c8);have ak:=O.out.b5.kept aP (Aw O.out.acc O.out.b5 (by decide));have cG:=ak.cell;rw [U.out] at cG;have dy:=ak.frozen 1;have dI:=ak.lt;have cz:=hide bG;refine l _ _ ⟨Reg.nm,?_⟩;clear l bG c8 bT aP cW ak bP;refine Reg.rest_walk' [10,11] [] rfl (by kernel_rfl) ?_;intro Qf l;go_wp2_with fail;first | refine l _ _ ?_ | skip
     (try clear l);refine Reg.rest_end ?_;go_wp2_with fail;refine⟨⟨i+1,all',.slice (some ⟨ga,0,none⟩) (i+1) ag,.slice (some ⟨g',0,none⟩) (i+1) bv,ws++[.slice (some ⟨gr,0,none⟩) J.length x],by go_num,by omega,?_⟩,by simp [intOf]; omega⟩;have ca:all<+:all':=by rw [C.out.eq]; exact DK _ _ _
     have d6:all'.take (i+1)=all.take i++[q]:=(B5 aT.out).trans (by
      obtain⟨u,hu⟩:=ca;rw [<-hu,List.take_append_of_le_length (by omega)])
     refine hide ⟨?_,?_⟩
     ·have:=cz.out;rw [d6,List.map_append,GP aT.out,GO hI.out.exp ca,<-d0.out];exact this
     ·rw [C.out.eq];exact .row hI.out.exp cb.out
  ·obtain rfl:i=all.length:=by omega
   have ai:Bf L δ UD all:=j.exp;have bW:=ar.out _ _ ai;have ce:(AM L δ all all.length).length=all.length:=D5 (Nat.le_refl _);have aM:=(j.mem.finO (Ac.refl _ _)).read (fun r hr=>by
    unfold AM at hr;obtain⟨s,_,rfl⟩:=List.mem_map.1 hr;simp; omega) (by rw [ce]; omega) (by simp; omega)
   rw [List.take_length] at aM;have aK:=Fq ai (ac:=all.map f) (by simp);have bZ:=Q8 aM aK hL (by rw [List.length_map]; omega) (cB.out.below j.mem.below);have dH:(loadCellsFrom ⟨w2.heap.size,0,none⟩ 0 2 #[]).run Tryz.prog wr=.ok _ wr:=K.Ah j.mem.b5 rfl;have bA:=hide j.mem.b4;have a4:=hide j.mem.below;have dB:=j.mem.ge.1;have cv:=hide ai;have ar:=hide bW;have cJ:=hide aK;clear j aM ai bW aK ce;go_wp2_with fail;refine Calls.ret bZ ?_;rintro d wd ⟨an,cl,st,hW,cg,aY,bE,aA⟩;obtain⟨A5,c5,A6,c6,rfl,-,-⟩:=aA wd (Ac.refl _ _);have a5:=bA.out.below an;have dx:=a5.frozen;have cR:=a5.lt;have dv:=a5.cell;obtain⟨wF,b8,bB,aD⟩:=Dm a5 (.slice A5 (AM L (AF (dnx (AM L δ all all.length)) cl) (st.map fun s=>cl.getD s 0) st.length).length c5) (.slice A6 (st.map (dac (all.map f))).length c6);have aR:(loadCellsFrom ⟨w1.heap.size,0,none⟩ 0 2 #[]).run Tryz.prog wF=.ok _ wF:=K.Ah bB rfl;have dJ:=bA.out.lt;have cF:=hide ((a4.out.trans (an.mono a4.out.size)).trans (aD.below (by have:=a4.out.size; have:=an.size; omega) fun b hb e=>by omega));have aL:=hide (fun w'' (hk:Ac wF w'' (fun k=>k<w.heap.size))=>aA w'' ((aD.mono (fun b _ e=>by have:=a4.out.size; omega)).trans hk (fun b _ e=>by have:=a4.out.size; omega)));have bD:=hide ((HG cJ.out hW cg bE).congr (Λ':=fun z=>f (Ay δ UD z)) fun z hz=>(KS cv.out f hz).symm);have aZ:Hid ((st.map (dac (all.map f))).length<=1024):=by
    show _<=_
    rw [List.length_map];rw [List.length_map] at aY;exact Nat.le_trans aY ar.out
   clear aA a5 bB aD an bE bZ hW cg aY;unfold CY at b8;obtain⟨tt,b7⟩:∃tt,tt=AM L (AF (dnx (AM L δ all all.length)) cl) (st.map fun s=>cl.getD s 0) st.length:=⟨_,rfl⟩;obtain⟨aa,aj⟩:∃aa,aa=st.map (dac (all.map f)):=⟨_,rfl⟩;rw [<-b7,<-aj] at aL bD;rw [<-aj] at aZ;rw [<-b7,<-aj] at b8 aR ⊢;clear b7 aj;obtain⟨lr,bY⟩:∃lr,lr=tt.length:=⟨_,rfl⟩;obtain⟨la,E⟩:∃la,la=aa.length:=⟨_,rfl⟩;rw [<-bY,<-E] at b8 aR aL ⊢;rw [<-E] at aZ;have U:=hide E;clear bY E;go_wp2_with fail;refine bodyPost_ret (v:=.agg #[.slice A5 lr c5,.slice A6 la c6]) (by simp [results,Tryz.results81,go_sem,aR]) rfl ⟨cF.out,tt,aa,bD.out,by rw [<-U.out]; exact aZ.out,aL.out⟩
end Go.Proofs.YtfcfpoemojjglaaGreatDoor
