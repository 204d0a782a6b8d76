/-
  Part SI of a proof.
-/
import Derived.Test.YtjejejmeddkciaaGreatDoorPA
import Derived.Test.YtjejejmeddkciaaGreatDoorSF
import Derived.Test.YtjejejmeddkciaaGreatDoorSG
import Derived.Test.YtjejejmeddkciaaGreatDoorCE
set_option maxHeartbeats 16000000
set_option maxRecDepth 100000
set_option linter.unusedVariables false
set_option linter.unusedSimpArgs false
namespace Go.Proofs.YtjejejmeddkciaaGreatDoor
open Go.RowKit
open K (Ah)
attribute [-go_sem] loadCellsFrom
set_option maxHeartbeats 16000000
set_option maxRecDepth 100000
@[go_sem] theorem aAW {P:Program} {a:Addr} {m:Mode} {w:World} (f:Fn) (h cs:Array Value):(store a (.func f h cs) m).run P w=stored P w a (.func f h cs) m:=run_store P w a _ m rfl
theorem aAt {w:World} {I rc:Array Value} {A:Option Addr} {L c:Nat} {fr t:Int} {left right:List Int} (bz:I.size=10) (bx:I[2]?=some (.slice A L c)) (hL:L<=60) (hr:K4 w rc fr t left right):
    Calls Tryz.prog 53 #[.agg I,.agg rc] w (Ret fun v w'=>∃gd gm n,v=.pointer (some ⟨gd,0,none⟩)/\n<=10000/\DrS w w' gd gm (Wl L fr t left right) n [] []):=by
  obtain⟨C,cM,a9,b6,-⟩:=Ae w I 27;obtain⟨w2,cO,aa,U,-⟩:=Ae C rc 109;have bj:=a9.trans (aa.mono a9.size);have aG:=b6.below aa;have cg:=Ah aG bz;have af:=hide hr;have bE:=hide (Xo (w0:=w) (ls:=[(w.heap.size,27,I),(C.heap.size,109,rc)]) bj bx hL (fun x hx=>by
    simp only [List.mem_cons,List.not_mem_nil,or_false] at hx;rcases hx with rfl|rfl
    · exact aG
    · exact U))
  obtain⟨A6,c6,aU,aP⟩:=hr.left;obtain⟨A7,c7,aV,aQ⟩:=hr.right;obtain⟨ml,aA⟩:∃m,m=left.length:=⟨_,rfl⟩;obtain⟨mr,aB⟩:∃m,m=right.length:=⟨_,rfl⟩;rw [<-aA] at aU;rw [<-aB] at aV;have bW:=hide aU;have bX:=hide aV;have ch:=hide aA;have ci:=hide aB;have bS:=hide aP;have bT:=hide aQ;have cG:ml<=9223372036854775807/\mr<=9223372036854775807:=⟨by rw [aA];exact aP.1,by rw [aB];exact aQ.1⟩;clear a9 aa b6 U bj aG bx bz hr aU aV aP aQ aA aB;go_enter Tryz.func53,Tryz.ntmps53;go_wp2_with fail;refine Calls.ret bE.out ?_;rintro v w3 ⟨gd,gm,rfl,Z,bV⟩;have hD:=(show DrS w w3 gd gm ⟨L,[],[],[],[]⟩ 0 _ [] from⟨_,_,_,Z,fun p hp=>by cases hp⟩);obtain⟨w4,cq,aH,bp⟩:=hD.pushE 128 #[.pointer (some ⟨gd,0,none⟩)];obtain⟨g5,bq⟩:=Ws bp;rw [bq] at aH;clear Z bE cg bV hD bp;go_wp2_with fail;clear cq bq;refine aAh aH.out List.mem_cons_self (by omega) ?_ ?_
  · repeat (first|refine Reg.NoQ.then ?_|refine Reg.NoQ.inBlock ?_|exact Reg.NoQ.body (fun _ _ h=>h) (fun _ h=>h))
  iterate 6 (intro _)
  intro w5 g7 e1 G a6;have M:=(a6.blk (g:=g5) (t:=128) (cs:=#[.pointer (some ⟨gd,0,none⟩)]) (by simp)).cell;obtain⟨⟨bP,ai,bC⟩,al⟩:=a6.begin (a:=(0,0,0)) (e:=e1) (by simp only [Drw.add_st]) (by simp);obtain⟨w6,bH,bl,-,-⟩:=Ae w5 #[.int .i64 (e1:Int)] 3;rw [bH] at ai al;have bQ:=hide al;have bm:=ai.cell;have cc:=ai.frozen 2;have cf:=ai.lt;obtain⟨u6,bF⟩:∃u,bP[2]?=some u:=⟨_,Array.getElem?_eq_getElem bC⟩;have c0:=(bm 2).trans bF;have bY:=((a6.keep bl).blk (g:=g5) (t:=128) (cs:=#[.pointer (some ⟨gd,0,none⟩)]) (by simp)).cell;have bZ:=(al.blk (g:=g5) (t:=128) (cs:=#[.pointer (some ⟨gd,0,none⟩)]) (by simp)).cell;have c5:=(al.blk (g:=g7) (t:=3) (cs:=#[.int .i64 (G:Int)]) (by simp)).cell;clear aH a6 ai bm bF bC al bl;go_wp2_with fail;refine Calls.ret (bQ.out.free (L:=L) (s:=(5,0,0)) (es:=G) (by simp only [Drw.beg_L,Drw.add_L]) hL (by simp) (by omega)) ?_;rintro v wX ⟨rfl,b9⟩;have hX:Hid (DrS w wX gd gm (dr0 L) 200 [(g7,3,#[.int .i64 (G:Int)]),(g5,128,#[.pointer (some ⟨gd,0,none⟩)]),(w.heap.size,27,I),(C.heap.size,109,rc)] [((5,0,0),G),((0,0,0),e1)]):=hide (b9.big (by omega));have bn:Hid ((dr0 L).L=L):=hide (by unfold dr0;simp only [Drw.free_L,Drw.beg_L,Drw.add_L]);clear M bY bZ c5 cc cf c0 b9 bH;have M:=(hX.out.blk (g:=g5) (t:=128) (cs:=#[.pointer (some ⟨gd,0,none⟩)]) (by simp)).cell;have c4:=(hX.out.blk (g:=g7) (t:=3) (cs:=#[.int .i64 (G:Int)]) (by simp)).cell;go_wp2_with fail;refine Calls.ret (hX.out.state (3,0,0) (m:=1) (.inl ⟨rfl,rfl,rfl⟩) (by omega) rfl) ?_;rintro v w8 ⟨e8,rfl,V⟩;have ah:=hide V;clear V;clear hX M c4;have M:=(ah.out.blk (g:=g5) (t:=128) (cs:=#[.pointer (some ⟨gd,0,none⟩)]) (by simp)).cell;have bB:=((ah.out.blk (g:=C.heap.size) (t:=109) (cs:=rc) (by simp)).cell 2).trans af.out.fr;have cj:=((ah.out.blk (g:=C.heap.size) (t:=109) (cs:=rc) (by simp)).cell 3).trans af.out.tt;go_wp2_with fail;refine Calls.ret (ah.out.move (a:=(0,0,0)) (b:=(3,0,0)) (by simp) (by simp) (by omega)) ?_;rintro v wX ⟨rfl,V⟩;have O:=hide V;clear V ah M bB cj;have bB:=((O.out.blk (g:=C.heap.size) (t:=109) (cs:=rc) (by simp)).cell 2).trans af.out.fr;have cJ:=((O.out.blk (g:=C.heap.size) (t:=109) (cs:=rc) (by simp)).cell 14).trans bW.out;have cK:=((O.out.blk (g:=C.heap.size) (t:=109) (cs:=rc) (by simp)).cell 15).trans bX.out;have aw:=Wj (c:=c6) (x:=fr) (bS.out.keep (w':=wX) (fun p hp=>O.out.below.cell hp) (Nat.le_refl _));have ay:=Wj (c:=c7) (x:=fr) (bT.out.keep (w':=wX) (fun p hp=>O.out.below.cell hp) (Nat.le_refl _));rw [<-ch.out] at aw;rw [<-ci.out] at ay;obtain⟨b1,a9⟩:∃b,b=alw left fr:=⟨_,rfl⟩;obtain⟨b2,aa⟩:∃b,b=alw right fr:=⟨_,rfl⟩;rw [<-a9] at aw;rw [<-aa] at ay;have aT:=hide a9;have bk:=hide aa;have ax:=hide aw;have aS:=hide ay;clear a9 aa aw ay;have ae:Hid (HH L fr t left right=if b1&&b2 then (((dr0 L).add (3,0,0)).mov (0,0,0) fr t (3,0,0)).acc (3,0,0) else ((dr0 L).add (3,0,0)).mov (0,0,0) fr t (3,0,0)):=by
    show _=_
    rw [aT.out,bk.out];rfl
  have az:Hid ((((dr0 L).add (3,0,0)).mov (0,0,0) fr t (3,0,0)).L=L):=hide (by rw [Drw.mov_L,Drw.add_L];exact bn.out);clear bn;cases b1 <;> cases b2
  all_goals
    first
    | (have ce:Hid ((true:Bool)=alw left fr):=aT
       have cF:Hid ((true:Bool)=alw right fr):=bk;go_wp2_with fail;refine ax.out.mono ?_;rintro e' w' ⟨rfl,rfl⟩;go_wp2_with fail;refine aS.out.mono ?_;rintro e' w' ⟨rfl,rfl⟩;have M:=(O.out.blk (g:=g5) (t:=128) (cs:=#[.pointer (some ⟨gd,0,none⟩)]) (by simp)).cell;have am:=O.out.keep (Ap wX);have cb:=(am.blk (show(g5,128,#[.pointer (some ⟨gd,0,none⟩)])∈[(g7,3,#[.int .i64 (G:Int)]),(g5,128,#[.pointer (some ⟨gd,0,none⟩)]),(w.heap.size,27,I),(C.heap.size,109,rc)] by simp)).cell;obtain⟨AA,mA,cA,⟨cT,cR,b7⟩,cH,ys,bw,bu⟩:=am.app (a:=(3,0,0)) (e:=e8) (by simp) (by omega);have c9:=b7.cell;have bD:=am.below.size;have q5:=(((am.push 3 #[.int .i64 (e8:Int)]).blk (List.mem_cons_of_mem _ (show(g5,128,#[.pointer (some ⟨gd,0,none⟩)])∈[(g7,3,#[.int .i64 (G:Int)]),(g5,128,#[.pointer (some ⟨gd,0,none⟩)]),(w.heap.size,27,I),(C.heap.size,109,rc)] by simp))).cell 0);have bv:=hide bu;clear am bu b7;go_wp2_with fail;refine Reg.cC [0,0,2,6,14,30,0,64,254,511,1023,2047,4095] [0,1,2,3,4,5,6,7,8,9,10,11,12] ?_ (by kernel_rfl) (by repeat (first|refine Reg.NoQ.then ?_|refine Reg.NoQ.inBlock ?_|exact Reg.NoQ.body (fun _ _ h=>h) (fun _ h=>h)));refine Reg.rest_walk' [0,1,2,3,4,5,6,7] [8,9,10,11,12] rfl (by kernel_rfl) ?_;intro Qf E;go_wp2_with fail;first|refine E _ _ ?_|skip
       (try clear E);refine Reg.rest_act' 8 [9,10,11,12] [0] rfl (by kernel_rfl) ?_;intro Qf E;try simp only [gT,gS,gZ]
       refine BP (w:=wX.drew) C9 rfl _ _ rfl w.heap.size (.slice AA mA cA) mA _ rfl bw [.int .i64 (e8:Int)] 1 rfl rfl (by simp [Value.oneCell']) (by omega) bD ?_;intro g cap bN ao hk an hg;obtain⟨⟨cU,cS,U⟩,bt,a6⟩:=bv.out g cap bN ao hk an;have p5:=(bt _ (show(g5,128,#[.pointer (some ⟨gd,0,none⟩)])∈[(g7,3,#[.int .i64 (G:Int)]),(g5,128,#[.pointer (some ⟨gd,0,none⟩)]),(w.heap.size,27,I),(C.heap.size,109,rc)] by simp)).cell 0;have aF:=hide a6;have aW:=U.cell;have aY:=U.frozen 3;have aZ:=U.lt;clear ao hk an U bt a6 bw;first|refine E _ _ ⟨?_,?_⟩|refine⟨?_,?_⟩
       · intro z hz q J
         simp only [List.mem_cons,List.not_mem_nil,or_false] at hz;subst hz;injection J with J
         subst J;exact Reg.same_load1 rfl rfl (q5) (p5) Tryz.underlying128 rfl
       (try clear E);refine Reg.rest_walk' [9,10,11] [12] rfl (by kernel_rfl) ?_;intro Qf E;go_wp2_with fail;first|refine E _ _ ?_|skip
       (try clear E);refine Reg.rest_act' 12 [] [] rfl (by kernel_rfl) ?_;intro Qf E;try simp only [gT,gS,gZ]
       go_wp2_with fail;first|refine E _ _ ⟨Reg.nm,?_⟩|refine⟨Reg.nm,?_⟩
       (try clear E);first|refine Reg.rest_end ?_|skip
       clear cb c9 bD bv aW aY aZ;obtain⟨wX,cr⟩:∃wY,bN.setCell ⟨gd,3,none⟩ (.slice (some ⟨g,0,none⟩) (mA+1) cap)=wY:=⟨_,rfl⟩;rw [cr] at aF;have hB:Hid (DrS w wX gd gm (HH L fr t left right) 210 [(g7,3,#[.int .i64 (G:Int)]),(g5,128,#[.pointer (some ⟨gd,0,none⟩)]),(w.heap.size,27,I),(C.heap.size,109,rc)] [((3,0,0),e8),((5,0,0),G),((0,0,0),e1)]):=by
         show DrS _ _ _ _ _ _ _ _
         rw [ae.out];exact aF.out.big (by omega)
       have aj:Hid ((HH L fr t left right).L=L):=by
         show _=_
         rw [ae.out];exact az.out
       clear O aF)
    | (have ce:Hid ((true:Bool)=alw left fr):=aT
       go_wp2_with fail;refine ax.out.mono ?_;rintro e' w' ⟨rfl,rfl⟩;go_wp2_with fail;refine aS.out.mono ?_;rintro e' w' ⟨rfl,rfl⟩;have hB:Hid (DrS w wX gd gm (HH L fr t left right) 210 [(g7,3,#[.int .i64 (G:Int)]),(g5,128,#[.pointer (some ⟨gd,0,none⟩)]),(w.heap.size,27,I),(C.heap.size,109,rc)] [((3,0,0),e8),((5,0,0),G),((0,0,0),e1)]):=by
         show DrS _ _ _ _ _ _ _ _
         rw [ae.out];exact O.out.big (by omega)
       have aj:Hid ((HH L fr t left right).L=L):=by
         show _=_
         rw [ae.out];exact az.out
       clear O)
    | (go_wp2_with fail
       refine ax.out.mono ?_;rintro e' w' ⟨rfl,rfl⟩;have hB:Hid (DrS w wX gd gm (HH L fr t left right) 210 [(g7,3,#[.int .i64 (G:Int)]),(g5,128,#[.pointer (some ⟨gd,0,none⟩)]),(w.heap.size,27,I),(C.heap.size,109,rc)] [((3,0,0),e8),((5,0,0),G),((0,0,0),e1)]):=by
         show DrS _ _ _ _ _ _ _ _
         rw [ae.out];exact O.out.big (by omega)
       have aj:Hid ((HH L fr t left right).L=L):=by
         show _=_
         rw [ae.out];exact az.out
       clear O)
    clear az ae ax aS;obtain⟨cV,cp,hC,br⟩:=hB.out.pushE 187 #[.func (.func 108) #[] #[.pointer (some ⟨g5,0,none⟩),.pointer (some ⟨C.heap.size,0,none⟩)]];obtain⟨g9,bs⟩:=Ws br;rw [bs] at hC;have c8:=(hC.out.blk List.mem_cons_self).cell;have M:=(hC.out.blk (g:=g5) (t:=128) (cs:=#[.pointer (some ⟨gd,0,none⟩)]) (by simp)).cell;clear hB br;go_wp2_with fail;refine Calls.ret (hC.out.keep_ (L:=L) (F:=110) (caps:=[.pointer (some ⟨C.heap.size,0,none⟩),.pointer (some ⟨g9,0,none⟩)]) (κ:=Q1 left right) (f:=(3,0,0)) (ef:=e8) (S0:=[]) aj.out hL (by simp) (fun _ h=>by cases h) (fun _ _=>Yx (g5:=g5) af.out (by simp) (by simp) (by simp)) (.inr (.inl ⟨_,_,rfl,by simp⟩)) (by omega)) ?_;rintro v cW ⟨rfl,V⟩;have hE:=hide V;have bb:Hid (((HH L fr t left right).kp (3,0,0) (Q1 left right)).L=L):=by
      show _=_
      rw [Drw.kp_L];exact aj.out
    clear V hC aj M c8 cp bs;go_wp2_with fail;refine aAf (g3:=C.heap.size) (g9:=g9) hE.out bb.out hL af.out (by simp) (by simp) (by simp) (by omega) ?_ ?_
    · repeat (first|refine Reg.NoQ.then ?_|refine Reg.NoQ.inBlock ?_|exact Reg.NoQ.body (fun _ _ h=>h) (fun _ h=>h))
    iterate 12 (intro _)
    intro cv S' aJ aO aN;have ck:=hide (aO ((0,0,0),e1) (by simp));have cn:=hide (aO ((5,0,0),G) (by simp));obtain⟨W,aX⟩:∃W,MR ((HH L fr t left right).kp (3,0,0) (Q1 left right)) left 2=W:=⟨_,rfl⟩;have bA:Hid (Wk (HH L fr t left right) left right=((W.add (4,1,0)).acc (4,1,0)).kp (0,0,0) (WH left right)):=by
      show _=_
      rw [<-aX];rfl
    rw [aX] at aJ aN;have bR:=hide aN;clear hE bb aO aX aN;obtain⟨vS,vA,vM,Z,bh⟩:=aJ.keep (Ap cv);obtain⟨AA,cA,co⟩:=AH Z.ac;subst co;have cL:W.ac.length<=1000000:=by
      have:=Z.sz;unfold Drw.size at this;omega
    have ca:=Z.bd.cell;have M:=(Z.blk (show(g5,128,#[.pointer (some ⟨gd,0,none⟩)])∈[(g9,187,#[.func (.func 108) #[] #[.pointer (some ⟨g5,0,none⟩),.pointer (some ⟨C.heap.size,0,none⟩)]]),(g7,3,#[.int .i64 (G:Int)]),(g5,128,#[.pointer (some ⟨gd,0,none⟩)]),(w.heap.size,27,I),(C.heap.size,109,rc)] by simp)).cell;have b0:=Z.push 3 #[.int .i64 4,.int .i64 1];have q5:=(b0.blk (List.mem_cons_of_mem _ (show(g5,128,#[.pointer (some ⟨gd,0,none⟩)])∈[(g9,187,#[.func (.func 108) #[] #[.pointer (some ⟨g5,0,none⟩),.pointer (some ⟨C.heap.size,0,none⟩)]]),(g7,3,#[.int .i64 (G:Int)]),(g5,128,#[.pointer (some ⟨gd,0,none⟩)]),(w.heap.size,27,I),(C.heap.size,109,rc)] by simp))).cell 0;have qA:=b0.bd.cell 3;have be:=hide Z;have bi:=hide bh;clear aJ Z b0 bh;go_wp2_with fail;refine Reg.cC [0,0,2,6,14,30,0,0,192,448,1022,2047,4095,8191,16383] [0,1,2,3,4,5,6,7,8,9,10,11,12,13,14] ?_ (by kernel_rfl) (by repeat (first|refine Reg.NoQ.then ?_|refine Reg.NoQ.inBlock ?_|exact Reg.NoQ.body (fun _ _ h=>h) (fun _ h=>h)));refine Reg.rest_walk' [0,1,2,3,4,5,6,7] [8,9,10,11,12,13,14] rfl (by kernel_rfl) ?_;intro Qf E;go_wp2_with fail;first|refine E _ _ ?_|skip
    (try clear E);refine Reg.rest_act' 8 [9,10,11,12,13,14] [0,1,5] rfl (by kernel_rfl) ?_;intro Qf E;try simp only [gT,gS,gZ]
    go_wp2_with fail;refine Calls.ret (WR (c:=2) (4,1,0) be.out (m:=2) (.inr (.inl ⟨rfl,rfl⟩)) (by omega) rfl) ?_;rintro v cw ⟨hv,a7⟩;obtain⟨b5,bo⟩:∃e:Nat,Hid (Af (W.add (4,1,0)) (4,1,0)=.int .i64 (e:Int)):=⟨_,rfl⟩;rw [bo.out] at hv;subst hv;have p5:=(a7.blk (show(g5,128,#[.pointer (some ⟨gd,0,none⟩)])∈[(g9,187,#[.func (.func 108) #[] #[.pointer (some ⟨g5,0,none⟩),.pointer (some ⟨C.heap.size,0,none⟩)]]),(g7,3,#[.int .i64 (G:Int)]),(g5,128,#[.pointer (some ⟨gd,0,none⟩)]),(w.heap.size,27,I),(C.heap.size,109,rc)] by simp)).cell 0;have pA:=a7.bd.cell 3;have aR:=a7.ac;rw [Drw.add_ac] at aR;have cm:=a7.below.size;have bL:=((a7.push 3 #[.int .i64 (b5:Int)]).blk (List.mem_cons_of_mem _ (show(g5,128,#[.pointer (some ⟨gd,0,none⟩)])∈[(g9,187,#[.func (.func 108) #[] #[.pointer (some ⟨g5,0,none⟩),.pointer (some ⟨C.heap.size,0,none⟩)]]),(g7,3,#[.int .i64 (G:Int)]),(g5,128,#[.pointer (some ⟨gd,0,none⟩)]),(w.heap.size,27,I),(C.heap.size,109,rc)] by simp))).cell 0;have a8:=hide a7;clear a7 ca;go_wp2_with fail;first|refine E _ _ ⟨?_,?_⟩|refine⟨?_,?_⟩
    · intro z hz q J
      simp only [List.mem_cons,List.not_mem_nil,or_false] at hz;rcases hz with rfl|rfl|rfl
      · injection J with J
        subst J;exact Reg.same_load1 rfl rfl (q5) (p5) Tryz.underlying128 rfl
      · injection J with J
        subst J;exact Reg.same_load1 rfl rfl (q5) (p5) Tryz.underlying128 rfl
      · injection J with J
        subst J;exact Reg.same_load1 rfl rfl (qA) (pA) Tryz.underlying24 rfl
    (try clear E);clear q5 p5 qA pA;refine Reg.rest_walk' [9] [10,11,12,13,14] rfl (by kernel_rfl) ?_;intro Qf E;go_wp2_with fail;first|refine E _ _ ?_|skip
    (try clear E);refine Reg.rest_act' 10 [11,12,13,14] [0] rfl (by kernel_rfl) ?_;intro Qf E;try simp only [gT,gS,gZ]
    refine BP (w:=cw) C9 rfl _ _ rfl w.heap.size (.slice AA W.ac.length cA) W.ac.length _ rfl aR [.int .i64 (b5:Int)] 1 rfl rfl (by simp [Value.oneCell']) (by omega) cm ?_;intro g cap cx ao hk an hg;have hF:=a8.out.addA (a:=(4,1,0)) (vA':=.slice (some ⟨g,0,none⟩) (W.ac.length+1) cap) (Drw.add_mem _ _) hk (by rw [Drw.add_ac,bo.out];exact ao) an;have bJ:=((a8.out.oth _ (show(g5,128,#[.pointer (some ⟨gd,0,none⟩)])∈[(g9,187,#[.func (.func 108) #[] #[.pointer (some ⟨g5,0,none⟩),.pointer (some ⟨C.heap.size,0,none⟩)]]),(g7,3,#[.int .i64 (G:Int)]),(g5,128,#[.pointer (some ⟨gd,0,none⟩)]),(w.heap.size,27,I),(C.heap.size,109,rc)] by simp)).1.kept hk (a8.out.oth _ (show(g5,128,#[.pointer (some ⟨gd,0,none⟩)])∈[(g9,187,#[.func (.func 108) #[] #[.pointer (some ⟨g5,0,none⟩),.pointer (some ⟨C.heap.size,0,none⟩)]]),(g7,3,#[.int .i64 (G:Int)]),(g5,128,#[.pointer (some ⟨gd,0,none⟩)]),(w.heap.size,27,I),(C.heap.size,109,rc)] by simp)).2.2.2.1).cell 0;have U:=a8.out.bd.kept hk (Aw a8.out.ac a8.out.bd (by decide));have aW:=U.cell;have aY:=U.frozen 3;have aZ:=U.lt;have hK:Hid (DrS w (cx.setCell ⟨gd,3,none⟩ (.slice (some ⟨g,0,none⟩) (W.ac.length+1) cap)) gd gm ((W.add (4,1,0)).acc (4,1,0)) 600 [(g9,187,#[.func (.func 108) #[] #[.pointer (some ⟨g5,0,none⟩),.pointer (some ⟨C.heap.size,0,none⟩)]]),(g7,3,#[.int .i64 (G:Int)]),(g5,128,#[.pointer (some ⟨gd,0,none⟩)]),(w.heap.size,27,I),(C.heap.size,109,rc)] S'):=hide (DrS.big (n:=_) ⟨_,_,_,hF,fun p hp=>(bi.out.add (4,1,0)) p hp⟩ (by omega));clear ao hk an hF U aR a8 be bi;first|refine E _ _ ⟨?_,?_⟩|refine⟨?_,?_⟩
    · intro z hz q J
      simp only [List.mem_cons,List.not_mem_nil,or_false] at hz;subst hz;injection J with J
      subst J;exact Reg.same_load1 rfl rfl (bL) (bJ) Tryz.underlying128 rfl
    (try clear E);clear bL bJ;refine Reg.rest_walk' [11,12,13] [14] rfl (by kernel_rfl) ?_;intro Qf E;go_wp2_with fail;first|refine E _ _ ?_|skip
    (try clear E);refine Reg.rest_act' 14 [] [] rfl (by kernel_rfl) ?_;intro Qf E;try simp only [gT,gS,gZ]
    go_wp2_with fail;first|refine E _ _ ⟨Reg.nm,?_⟩|refine⟨Reg.nm,?_⟩
    (try clear E);first|refine Reg.rest_end ?_|skip
    clear aW aY aZ M;have M:=(hK.out.blk (g:=g5) (t:=128) (cs:=#[.pointer (some ⟨gd,0,none⟩)]) (by simp)).cell;have aM:Hid (((W.add (4,1,0)).acc (4,1,0)).L=L):=hide (by rw [Drw.acc_L,Drw.add_L];exact bR.out);go_wp2_with fail;refine Calls.ret (hK.out.keep_ (L:=L) (F:=111) (caps:=[.pointer (some ⟨g5,0,none⟩),.pointer (some ⟨C.heap.size,0,none⟩)]) (κ:=WH left right) (f:=(0,0,0)) (ef:=e1) (S0:=[]) aM.out hL ck.out (fun _ h=>by cases h) (fun _ _=>Yw af.out (by simp) (by simp)) (.inr (.inl ⟨_,_,rfl,by simp⟩)) (by omega)) ?_;rintro v cX ⟨rfl,V⟩;rw [<-bA.out] at V;have hN:=hide V;have bg:Hid ((Wk (HH L fr t left right) left right).L=L):=by
      show _=_
      rw [bA.out,Drw.kp_L];exact aM.out
    clear V hK aM M;go_wp2_with fail;refine aAg (g3:=C.heap.size) (g7:=g7) (e7:=G) (right:=right) hN.out bg.out hL af.out (by simp) (by simp) (by simp) cn.out (by omega) ?_ ?_
    · repeat (first|refine Reg.NoQ.then ?_|refine Reg.NoQ.inBlock ?_|exact Reg.NoQ.body (fun _ _ h=>h) (fun _ h=>h))
    iterate 52 (intro _)
    intro cY cE aK;have M:=(aK.blk (show(g5,128,#[.pointer (some ⟨gd,0,none⟩)])∈[(g9,187,#[.func (.func 108) #[] #[.pointer (some ⟨g5,0,none⟩),.pointer (some ⟨C.heap.size,0,none⟩)]]),(g7,3,#[.int .i64 (G:Int)]),(g5,128,#[.pointer (some ⟨gd,0,none⟩)]),(w.heap.size,27,I),(C.heap.size,109,rc)] by simp)).cell;have hZ:=hide aK;clear aK hN bg;go_wp2_with fail;go_ret;refine⟨gd,gm,5000,rfl,by decide,?_⟩;exact(hZ.out.big (by omega)).sub (fun _ h=>by cases h) (fun _ h=>by cases h)
end Go.Proofs.YtjejejmeddkciaaGreatDoor
