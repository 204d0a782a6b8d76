/-
  Part SH of a proof.
-/
import Derived.Test.YtjejejmeddkciaaGreatDoorPA
import Derived.Test.YtjejejmeddkciaaGreatDoorSF
import Derived.Test.YtjejejmeddkciaaGreatDoorSG
import Derived.Test.YtjejejmeddkciaaGreatDoorCE
set_option maxHeartbeats 16000000
set_option maxRecDepth 100000
set_option linter.unusedVariables false
set_option linter.unusedSimpArgs false
namespace Go.Proofs.YtjejejmeddkciaaGreatDoor
open Go.RowKit
open K (Ah)
attribute [-go_sem] loadCellsFrom
set_option maxHeartbeats 16000000
set_option maxRecDepth 100000
theorem ZJ {w:World} {W rc:Array Value} {A:Option Addr} {L c:Nat} {fr t at_:Int} {left right:List Int} (br:W.size=10) (bq:W[2]?=some (.slice A L c)) (hL:L<=60) (hr:K4 w rc fr t left right) (bc:rc[13]?=some (.int .i64 at_)):
    Calls Tryz.prog 54 #[.agg W,.agg rc] w (Ret fun v w'=>∃gd gm n,v=.pointer (some ⟨gd,0,none⟩)/\n<=10000/\DrS w w' gd gm (Q6 L at_ fr t left right) n [] []):=by
  obtain⟨C,cp,aP,aZ,-⟩:=Ae w W 27;obtain⟨w2,cq,a8,af,-⟩:=Ae C rc 109;have bd:=aP.trans (a8.mono aP.size);have aK:=aZ.below a8;have c4:=Ah aK br;have a5:=hide hr;have ak:=hide bc;clear bc;have bv:=hide (Xo (w0:=w) (ls:=[(w.heap.size,27,W),(C.heap.size,109,rc)]) bd bq hL (fun x hx=>by
    simp only [List.mem_cons,List.not_mem_nil,or_false] at hx;rcases hx with rfl|rfl
    · exact aK
    · exact af))
  obtain⟨A6,c6,aQ,aN⟩:=hr.left;obtain⟨A7,c7,aR,aO⟩:=hr.right;obtain⟨ml,aA⟩:∃m,m=left.length:=⟨_,rfl⟩;obtain⟨mr,aC⟩:∃m,m=right.length:=⟨_,rfl⟩;rw [<-aA] at aQ;rw [<-aC] at aR;have bf:=hide aQ;have az:=hide aR;have bk:=hide aA;have c8:=hide aC;have cj:=hide aN;have ck:=hide aO;have cn:ml<=9223372036854775807/\mr<=9223372036854775807:=⟨by rw [aA];exact aN.1,by rw [aC];exact aO.1⟩;clear aP a8 aZ af bd aK bq br hr aQ aR aN aO aA aC;go_enter Tryz.func54,Tryz.ntmps54;go_wp2_with fail;refine Calls.ret bv.out ?_;rintro v w3 ⟨gd,gm,rfl,hM,bK⟩;have hD:=(show DrS w w3 gd gm ⟨L,[],[],[],[]⟩ 0 _ [] from⟨_,_,_,hM,fun p U=>by cases U⟩);obtain⟨w4,c9,aL,bh⟩:=hD.pushE 128 #[.pointer (some ⟨gd,0,none⟩)];obtain⟨g5,bi⟩:=Ws bh;rw [bi] at aL;clear hM bv c4 bK hD bh;go_wp2_with fail;clear c9 bi;refine ZM aL.out List.mem_cons_self (by omega) ?_ ?_
  · repeat (first|refine Reg.NoQ.then ?_|refine Reg.NoQ.inBlock ?_|exact Reg.NoQ.body (fun _ _ h=>h) (fun _ h=>h))
  iterate 6 (intro _)
  intro w5 g7 e1 O ag;have J:=(ag.blk (g:=g5) (t:=128) (cs:=#[.pointer (some ⟨gd,0,none⟩)]) (by simp)).cell;obtain⟨⟨bH,ao,bt⟩,ap⟩:=ag.begin (a:=(0,0,0)) (e:=e1) (by simp only [Drw.add_st]) (by simp);obtain⟨w6,bx,be,-,-⟩:=Ae w5 #[.int .i64 (e1:Int)] 3;rw [bx] at ao ap;have bJ:=hide ap;have bg:=ao.cell;have bX:=ao.frozen 2;have bZ:=ao.lt;obtain⟨u6,bw⟩:∃u,bH[2]?=some u:=⟨_,Array.getElem?_eq_getElem bt⟩;have bP:=(bg 2).trans bw;have bN:=((ag.keep be).blk (g:=g5) (t:=128) (cs:=#[.pointer (some ⟨gd,0,none⟩)]) (by simp)).cell;have bO:=(ap.blk (g:=g5) (t:=128) (cs:=#[.pointer (some ⟨gd,0,none⟩)]) (by simp)).cell;have bQ:=(ap.blk (g:=g7) (t:=3) (cs:=#[.int .i64 (O:Int)]) (by simp)).cell;clear aL ag ao bg bw bt ap be;go_wp2_with fail;refine Calls.ret (bJ.out.free (L:=L) (s:=(5,0,0)) (es:=O) (by simp only [Drw.beg_L,Drw.add_L]) hL (by simp) (by omega)) ?_;rintro v wX ⟨rfl,b6⟩;have G:Hid (DrS w wX gd gm (dr0 L) 200 [(g7,3,#[.int .i64 (O:Int)]),(g5,128,#[.pointer (some ⟨gd,0,none⟩)]),(w.heap.size,27,W),(C.heap.size,109,rc)] [((5,0,0),O),((0,0,0),e1)]):=hide (b6.big (by omega));have M:Hid ((dr0 L).L=L):=hide (by unfold dr0;simp only [Drw.free_L,Drw.beg_L,Drw.add_L]);clear J bN bO bQ bX bZ bP b6 bx;have bS:(Ww 0/\at_=2/\mr=0)\/(Ww 1/\at_=2/\mr≠0)\/(Ww 2/\at_≠2/\mr≠0)\/(Ww 3/\at_≠2/\mr=0):=by
    by_cases h1:at_=2 <;> by_cases h2:mr=0
    · exact .inl ⟨.mk 0,h1,h2⟩
    · exact .inr (.inl ⟨.mk 1,h1,h2⟩)
    · exact .inr (.inr (.inr ⟨.mk 3,h1,h2⟩))
    · exact .inr (.inr (.inl ⟨.mk 2,h1,h2⟩))
  have bT:(WX 0/\ml=0)\/(WX 1/\ml≠0):=by
    by_cases h1:ml=0
    · exact .inl ⟨.mk 0,h1⟩
    · exact .inr ⟨.mk 1,h1⟩
  rcases bS with⟨hk,ae,av⟩|⟨hk,ae,av⟩|⟨hk,ae,av⟩|⟨hk,ae,av⟩
  all_goals
    have a9:=hide (And.intro ae av);have a8:Hid (Ao L at_ right=if at_=2 then (if mr=0 then ((dr0 L).add (6,0,0)).acc (6,0,0) else (dr0 L).add (6,0,0),(6,0,0)) else if 0<mr then (((dr0 L).add (2,0,0)).kp (2,0,0) (B4 right),(2,0,0)) else (dr0 L,(5,0,0))):=by show _=_;rw [c8.out];rfl
    first
      | (have aS:Ww 0:=hk
         have aJ:(at_==2)=true:=by simp [ae]
         have aU:((mr:Int)==0)=true:=by simp [av]
         have J:=(G.out.blk (g:=g5) (t:=128) (cs:=#[.pointer (some ⟨gd,0,none⟩)]) (by simp)).cell;have al:=(G.out.blk (g:=g7) (t:=3) (cs:=#[.int .i64 (O:Int)]) (by simp)).cell;have aa:=((G.out.blk (g:=C.heap.size) (t:=109) (cs:=rc) (by simp)).cell 13).trans ak.out;go_wp2_with fail;refine Calls.ret (G.out.state (6,0,0) (m:=1) (.inl ⟨rfl,rfl,rfl⟩) (by omega) rfl) ?_;rintro v w8 ⟨eb,rfl,E⟩;have Z:=hide E;clear E;clear J al aa;have J:=(Z.out.blk (g:=g5) (t:=128) (cs:=#[.pointer (some ⟨gd,0,none⟩)]) (by simp)).cell;have aF:=((Z.out.blk (g:=C.heap.size) (t:=109) (cs:=rc) (by simp)).cell 15).trans az.out;go_wp2_with fail;have au:=Z.out.keep (Ap w8);have bV:=(au.blk (show(g5,128,#[.pointer (some ⟨gd,0,none⟩)])∈[(g7,3,#[.int .i64 (O:Int)]),(g5,128,#[.pointer (some ⟨gd,0,none⟩)]),(w.heap.size,27,W),(C.heap.size,109,rc)] by simp)).cell;obtain⟨AA,mA,cA,⟨cv,ct,b0⟩,co,ys,bo,bm⟩:=au.app (a:=(6,0,0)) (e:=eb) (by simp) (by omega);have bR:=b0.cell;have bu:=au.below.size;have q5:=(((au.push 3 #[.int .i64 (eb:Int)]).blk (List.mem_cons_of_mem _ (show(g5,128,#[.pointer (some ⟨gd,0,none⟩)])∈[(g7,3,#[.int .i64 (O:Int)]),(g5,128,#[.pointer (some ⟨gd,0,none⟩)]),(w.heap.size,27,W),(C.heap.size,109,rc)] by simp))).cell 0);have bn:=hide bm;clear au bm b0;go_wp2_with fail;refine Reg.cC [0,0,2,6,14,30,0,64,254,511,1023,2047,4095] [0,1,2,3,4,5,6,7,8,9,10,11,12] ?_ (by kernel_rfl) (by repeat (first|refine Reg.NoQ.then ?_|refine Reg.NoQ.inBlock ?_|exact Reg.NoQ.body (fun _ _ h=>h) (fun _ h=>h)));refine Reg.rest_walk' [0,1,2,3,4,5,6,7] [8,9,10,11,12] rfl (by kernel_rfl) ?_;intro Qf I;go_wp2_with fail;first|refine I _ _ ?_|skip
         (try clear I);refine Reg.rest_act' 8 [9,10,11,12] [0] rfl (by kernel_rfl) ?_;intro Qf I;try simp only [gT,gS,gZ]
         refine BP (w:=w8.drew) C9 rfl _ _ rfl w.heap.size (.slice AA mA cA) mA _ rfl bo [.int .i64 (eb:Int)] 1 rfl rfl (by simp [Value.oneCell']) (by omega) bu ?_;intro g cap w9 bp hk bl hg;obtain⟨⟨cw,cu,af⟩,bj,ag⟩:=bn.out g cap w9 bp hk bl;have p5:=(bj _ (show(g5,128,#[.pointer (some ⟨gd,0,none⟩)])∈[(g7,3,#[.int .i64 (O:Int)]),(g5,128,#[.pointer (some ⟨gd,0,none⟩)]),(w.heap.size,27,W),(C.heap.size,109,rc)] by simp)).cell 0;have aj:=hide ag;have bM:=af.cell;have bW:=af.frozen 3;have bY:=af.lt;clear bp hk bl af bj ag bo;first|refine I _ _ ⟨?_,?_⟩|refine⟨?_,?_⟩
         · intro z hz q V
           simp only [List.mem_cons,List.not_mem_nil,or_false] at hz;subst hz;injection V with V
           subst V;exact Reg.same_load1 rfl rfl (q5) (p5) Tryz.underlying128 rfl
         (try clear I);refine Reg.rest_walk' [9,10,11] [12] rfl (by kernel_rfl) ?_;intro Qf I;go_wp2_with fail;first|refine I _ _ ?_|skip
         (try clear I);refine Reg.rest_act' 12 [] [] rfl (by kernel_rfl) ?_;intro Qf I;try simp only [gT,gS,gZ]
         go_wp2_with fail;first|refine I _ _ ⟨Reg.nm,?_⟩|refine⟨Reg.nm,?_⟩
         (try clear I);first|refine Reg.rest_end ?_|skip
         clear bV bR bu bn bM bW bY;obtain⟨wX,ca⟩:∃wY,w9.setCell ⟨gd,3,none⟩ (.slice (some ⟨g,0,none⟩) (mA+1) cap)=wY:=⟨_,rfl⟩;rw [ca] at aj;have a4:Hid (Ao L at_ right=(((dr0 L).add (6,0,0)).acc (6,0,0),(6,0,0))):=by
           show _=_
           rw [a8.out];rw [if_pos a9.out.1,if_pos a9.out.2]
         have hY:Hid (DrS w wX gd gm (Ao L at_ right).1 400 [(g7,3,#[.int .i64 (O:Int)]),(g5,128,#[.pointer (some ⟨gd,0,none⟩)]),(w.heap.size,27,W),(C.heap.size,109,rc)] [((Ao L at_ right).2,eb),((0,0,0),e1)]):=by
           show DrS _ _ _ _ _ _ _ _
           rw [a4.out];exact(DrS.big aj.out (by omega)).sub (fun _ h=>h) (fun p U=>by simp at U ⊢;rcases U with rfl|rfl <;> simp)
         have ah:Hid ((Ao L at_ right).1.L=L):=by
           show _=_
           rw [a4.out];first|exact M.out|(rw [Drw.acc_L,Drw.add_L];exact M.out)|(rw [Drw.add_L];exact M.out)|(rw [Drw.kp_L,Drw.add_L];exact M.out)
         clear G Z aj)
      | (have aS:Ww 1:=hk
         have aJ:(at_==2)=true:=by simp [ae]
         have aU:((mr:Int)==0)=false:=by simp;omega
         have J:=(G.out.blk (g:=g5) (t:=128) (cs:=#[.pointer (some ⟨gd,0,none⟩)]) (by simp)).cell;have al:=(G.out.blk (g:=g7) (t:=3) (cs:=#[.int .i64 (O:Int)]) (by simp)).cell;have aa:=((G.out.blk (g:=C.heap.size) (t:=109) (cs:=rc) (by simp)).cell 13).trans ak.out;go_wp2_with fail;refine Calls.ret (G.out.state (6,0,0) (m:=1) (.inl ⟨rfl,rfl,rfl⟩) (by omega) rfl) ?_;rintro v wX ⟨eb,rfl,E⟩;have Z:=hide E;clear E;clear J al aa;have aF:=((Z.out.blk (g:=C.heap.size) (t:=109) (cs:=rc) (by simp)).cell 15).trans az.out;have a4:Hid (Ao L at_ right=((dr0 L).add (6,0,0),(6,0,0))):=by
           show _=_
           rw [a8.out];rw [if_pos a9.out.1,if_neg a9.out.2]
         have hY:Hid (DrS w wX gd gm (Ao L at_ right).1 400 [(g7,3,#[.int .i64 (O:Int)]),(g5,128,#[.pointer (some ⟨gd,0,none⟩)]),(w.heap.size,27,W),(C.heap.size,109,rc)] [((Ao L at_ right).2,eb),((0,0,0),e1)]):=by
           show DrS _ _ _ _ _ _ _ _
           rw [a4.out];exact(DrS.big Z.out (by omega)).sub (fun _ h=>h) (fun p U=>by simp at U ⊢;rcases U with rfl|rfl <;> simp)
         have ah:Hid ((Ao L at_ right).1.L=L):=by
           show _=_
           rw [a4.out];first|exact M.out|(rw [Drw.acc_L,Drw.add_L];exact M.out)|(rw [Drw.add_L];exact M.out)|(rw [Drw.kp_L,Drw.add_L];exact M.out)
         clear G Z)
      | (have aS:Ww 2:=hk
         have aJ:(at_==2)=false:=by simp [ae]
         have aU:(0:Int)<(mr:Int):=by omega
         have J:=(G.out.blk (g:=g5) (t:=128) (cs:=#[.pointer (some ⟨gd,0,none⟩)]) (by simp)).cell;have al:=(G.out.blk (g:=g7) (t:=3) (cs:=#[.int .i64 (O:Int)]) (by simp)).cell;have aa:=((G.out.blk (g:=C.heap.size) (t:=109) (cs:=rc) (by simp)).cell 13).trans ak.out;have aF:=((G.out.blk (g:=C.heap.size) (t:=109) (cs:=rc) (by simp)).cell 15).trans az.out;go_wp2_with fail;refine Calls.ret (G.out.state (2,0,0) (m:=1) (.inl ⟨rfl,rfl,rfl⟩) (by omega) rfl) ?_;rintro v w8 ⟨eb,rfl,E⟩;have Z:=hide E;clear E;clear J al aa aF;have J:=(Z.out.blk (g:=g5) (t:=128) (cs:=#[.pointer (some ⟨gd,0,none⟩)]) (by simp)).cell;have bU:Hid (((dr0 L).add (2,0,0)).L=L):=hide (by rw [Drw.add_L];exact M.out);go_wp2_with fail;refine Calls.ret (Z.out.keep_ (L:=L) (F:=114) (caps:=[.pointer (some ⟨C.heap.size,0,none⟩),.pointer (some ⟨g7,0,none⟩)]) (κ:=B4 right) (f:=(2,0,0)) (ef:=eb) (S0:=[((5,0,0),O)]) bU.out hL (by simp) (by simp) (fun _ _=>Yv a5.out (by simp) (by simp)) (.inr (.inl ⟨_,_,rfl,by simp⟩)) (by omega)) ?_;rintro v wX ⟨rfl,E⟩;have aj:=hide E;clear E J;have a4:Hid (Ao L at_ right=(((dr0 L).add (2,0,0)).kp (2,0,0) (B4 right),(2,0,0))):=by
           show _=_
           rw [a8.out];rw [if_neg a9.out.1,if_pos (by have:=a9.out.2;omega)]
         have hY:Hid (DrS w wX gd gm (Ao L at_ right).1 400 [(g7,3,#[.int .i64 (O:Int)]),(g5,128,#[.pointer (some ⟨gd,0,none⟩)]),(w.heap.size,27,W),(C.heap.size,109,rc)] [((Ao L at_ right).2,eb),((0,0,0),e1)]):=by
           show DrS _ _ _ _ _ _ _ _
           rw [a4.out];exact(DrS.big aj.out (by omega)).sub (fun _ h=>h) (fun p U=>by simp at U ⊢;rcases U with rfl|rfl <;> simp)
         have ah:Hid ((Ao L at_ right).1.L=L):=by
           show _=_
           rw [a4.out];first|exact M.out|(rw [Drw.acc_L,Drw.add_L];exact M.out)|(rw [Drw.add_L];exact M.out)|(rw [Drw.kp_L,Drw.add_L];exact M.out)
         clear G Z aj)
      | (have aS:Ww 3:=hk
         have aJ:(at_==2)=false:=by simp [ae]
         have aU:¬(0:Int)<(mr:Int):=by omega
         have al:=(G.out.blk (g:=g7) (t:=3) (cs:=#[.int .i64 (O:Int)]) (by simp)).cell;have aa:=((G.out.blk (g:=C.heap.size) (t:=109) (cs:=rc) (by simp)).cell 13).trans ak.out;have aF:=((G.out.blk (g:=C.heap.size) (t:=109) (cs:=rc) (by simp)).cell 15).trans az.out;have a4:Hid (Ao L at_ right=(dr0 L,(5,0,0))):=by
           show _=_
           rw [a8.out];rw [if_neg a9.out.1,if_neg (by have:=a9.out.2;omega)]
         have hY:Hid (DrS w wX gd gm (Ao L at_ right).1 400 [(g7,3,#[.int .i64 (O:Int)]),(g5,128,#[.pointer (some ⟨gd,0,none⟩)]),(w.heap.size,27,W),(C.heap.size,109,rc)] [((Ao L at_ right).2,O),((0,0,0),e1)]):=by
           show DrS _ _ _ _ _ _ _ _
           rw [a4.out];exact(DrS.big G.out (by omega)).sub (fun _ h=>h) (fun p U=>by simp at U ⊢;rcases U with rfl|rfl <;> simp)
         have ah:Hid ((Ao L at_ right).1.L=L):=by
           show _=_
           rw [a4.out];first|exact M.out|(rw [Drw.acc_L,Drw.add_L];exact M.out)|(rw [Drw.add_L];exact M.out)|(rw [Drw.kp_L,Drw.add_L];exact M.out)
         clear G)
    clear M a8;rcases bT with⟨hm,aB⟩|⟨hm,aB⟩
    all_goals
      first
      | (have c5:WX 0:=hm
         have c0:((ml:Int)==0)=true:=by simp [aB]
         have J:=(hY.out.blk (g:=g5) (t:=128) (cs:=#[.pointer (some ⟨gd,0,none⟩)]) (by simp)).cell;have bs:=((hY.out.blk (g:=C.heap.size) (t:=109) (cs:=rc) (by simp)).cell 14).trans bf.out;have aV:=((hY.out.blk (g:=C.heap.size) (t:=109) (cs:=rc) (by simp)).cell 2).trans a5.out.fr;have aW:=((hY.out.blk (g:=C.heap.size) (t:=109) (cs:=rc) (by simp)).cell 3).trans a5.out.tt;go_wp2_with fail;refine Calls.ret (hY.out.move (a:=(0,0,0)) (b:=(Ao L at_ right).2) (by simp) (by simp) (by omega)) ?_;rintro v wX ⟨rfl,E⟩;have ai:Hid (K3 L at_ fr t left right=(Ao L at_ right).1.mov (0,0,0) fr t (Ao L at_ right).2):=by
           show _=_
           unfold K3;rw [if_pos (bk.out.symm.trans aB)]
         have ay:Hid ((K3 L at_ fr t left right).L=L):=by
           show _=_
           rw [ai.out];exact ah.out
         rw [<-ai.out] at E;have hZ:=hide E;clear E hY ah ai J bs aV aW)
      | (have c5:WX 1:=hm
         have c0:((ml:Int)==0)=false:=by simp;omega
         have bs:=((hY.out.blk (g:=C.heap.size) (t:=109) (cs:=rc) (by simp)).cell 14).trans bf.out;have ai:Hid (K3 L at_ fr t left right=(Ao L at_ right).1):=by
           show _=_
           unfold K3;rw [if_neg (fun h=>aB (bk.out.trans h))]
         have ay:Hid ((K3 L at_ fr t left right).L=L):=by
           show _=_
           rw [ai.out];exact ah.out
         have hZ:=hide (hY.out.big (m:=401) (by omega));rw [<-ai.out] at hZ;clear hY ah ai)
      by_cases h1:at_=1
      · first
        | exact absurd (h1.symm.trans a9.out.1) (by decide)
        | (have bI:(at_==1)=true:=by simp [h1]
           have J:=(hZ.out.blk (g:=g5) (t:=128) (cs:=#[.pointer (some ⟨gd,0,none⟩)]) (by simp)).cell;have aa:=((hZ.out.blk (g:=C.heap.size) (t:=109) (cs:=rc) (by simp)).cell 13).trans ak.out;have hP:Hid (Q6 L at_ fr t left right=K3 L at_ fr t left right):=if_pos h1;go_wp2_with fail;go_ret;refine⟨gd,gm,1000,rfl,by decide,?_⟩;rw [hP.out];exact(hZ.out.big (by omega)).sub (fun _ h=>by cases h) (fun _ h=>by cases h))
      · have bI:(at_==1)=false:=by simp [h1]
        have J:=(hZ.out.blk (g:=g5) (t:=128) (cs:=#[.pointer (some ⟨gd,0,none⟩)]) (by simp)).cell;have aa:=((hZ.out.blk (g:=C.heap.size) (t:=109) (cs:=rc) (by simp)).cell 13).trans ak.out;have hP:Hid (Q6 L at_ fr t left right=WZ (K3 L at_ fr t left right) (Ao L at_ right).2 fr t left):=if_neg h1;clear h1;go_wp2_with fail;refine Calls.ret (hZ.out.keep_ (L:=L) (F:=115) (caps:=[.pointer (some ⟨g5,0,none⟩),.pointer (some ⟨C.heap.size,0,none⟩)]) (κ:=Wh left) (f:=(0,0,0)) (ef:=e1) (S0:=[]) ay.out hL (by simp) (fun _ h=>by cases h) (fun _ _=>XB a5.out (by simp) (by simp)) (.inr (.inl ⟨_,_,rfl,by simp⟩)) (by omega)) ?_;rintro v cx ⟨rfl,E⟩;have hW:=hide E;have bb:Hid (((K3 L at_ fr t left right).kp (0,0,0) (Wh left)).L=L):=by
          show _=_
          rw [Drw.kp_L];exact ay.out
        clear E hZ ay J aa;go_wp2_with fail;refine ZL (g3:=C.heap.size) hW.out bb.out hL a5.out (by simp) (by simp) (by omega) ?_ ?_
        · repeat (first|refine Reg.NoQ.then ?_|refine Reg.NoQ.inBlock ?_|exact Reg.NoQ.body (fun _ _ h=>h) (fun _ h=>h))
        iterate 12 (intro _)
        intro cb S' b5 b8 ci;clear hW bb;have hd:=hide (b5.keep (Ap cb));have bL:=hide (b8 ((Ao L at_ right).2,_) List.mem_cons_self);have J:=(hd.out.blk (g:=g5) (t:=128) (cs:=#[.pointer (some ⟨gd,0,none⟩)]) (by simp)).cell;have aV:=((hd.out.blk (g:=C.heap.size) (t:=109) (cs:=rc) (by simp)).cell 2).trans a5.out.fr;have aW:=((hd.out.blk (g:=C.heap.size) (t:=109) (cs:=rc) (by simp)).cell 3).trans a5.out.tt;have aD:=hide (hd.out.push 3 #[.int .i64 1,.int .i64 1]);have q5:=(aD.out.blk (g:=g5) (t:=128) (cs:=#[.pointer (some ⟨gd,0,none⟩)]) (by simp)).cell 0;have bC:=((aD.out.blk (g:=C.heap.size) (t:=109) (cs:=rc) (by simp)).cell 2).trans a5.out.fr;have bD:=((aD.out.blk (g:=C.heap.size) (t:=109) (cs:=rc) (by simp)).cell 3).trans a5.out.tt;clear b5 b8 aD;go_wp2_with fail;refine Reg.cC [0,0,0,6,0,16,0,64,0,511] [0,1,4,5,6,7,8,2,3,9] ?_ (by kernel_rfl) (by repeat (first|refine Reg.NoQ.then ?_|refine Reg.NoQ.inBlock ?_|exact Reg.NoQ.body (fun _ _ h=>h) (fun _ h=>h)));refine Reg.rest_walk' [0,1,4,5,6,7,8,2] [3,9] rfl (by kernel_rfl) ?_;intro Qf I;go_wp2_with fail;first|refine I _ _ ?_|skip
        (try clear I);refine Reg.rest_act' 3 [9] [0,5,7] rfl (by kernel_rfl) ?_;intro Qf I;try simp only [gT,gS,gZ]
        go_wp2_with fail;refine Calls.ret (hd.out.state (1,1,0) (m:=2) (.inr (.inl ⟨rfl,rfl⟩)) (by omega) rfl) ?_;rintro v cy ⟨ch,rfl,E⟩;have hV:=hide E;have p5:=(hV.out.blk (g:=g5) (t:=128) (cs:=#[.pointer (some ⟨gd,0,none⟩)]) (by simp)).cell 0;have bA:=((hV.out.blk (g:=C.heap.size) (t:=109) (cs:=rc) (by simp)).cell 2).trans a5.out.fr;have bB:=((hV.out.blk (g:=C.heap.size) (t:=109) (cs:=rc) (by simp)).cell 3).trans a5.out.tt;clear E;go_wp2_with fail;first|refine I _ _ ⟨?_,?_⟩|refine⟨?_,?_⟩
        · intro z hz q V
          simp only [List.mem_cons,List.not_mem_nil,or_false] at hz;rcases hz with rfl|rfl|rfl
          · injection V with V
            subst V;exact Reg.same_load1 rfl rfl (q5) (p5) Tryz.underlying128 rfl
          · injection V with V
            subst V;exact Reg.same_load1 rfl rfl (bC) (bA) Tryz.underlying3 rfl
          · injection V with V
            subst V;exact Reg.same_load1 rfl rfl (bD) (bB) Tryz.underlying3 rfl
        (try clear I);refine Reg.rest_act' 9 [] [] rfl (by kernel_rfl) ?_;intro Qf I;try simp only [gT,gS,gZ]
        go_wp2_with fail;refine Calls.ret (hV.out.move (a:=(1,1,0)) (b:=(Ao L at_ right).2) (by simp) (List.mem_cons_of_mem _ bL.out) (by omega)) ?_;rintro v cz ⟨rfl,E⟩;have hU:=hide E;clear E J aV aW q5 bC bD p5 bA bB hd hV;have J:=(hU.out.blk (g:=g5) (t:=128) (cs:=#[.pointer (some ⟨gd,0,none⟩)]) (by simp)).cell;go_wp2_with fail;first|refine I _ _ ⟨Reg.nm,?_⟩|refine⟨Reg.nm,?_⟩
        (try clear I);first|refine Reg.rest_end ?_|skip
        go_wp2_with fail;go_ret;refine⟨gd,gm,1000,rfl,by decide,?_⟩;rw [hP.out];exact(hU.out.big (by omega)).sub (fun _ h=>by cases h) (fun _ h=>by cases h)
end Go.Proofs.YtjejejmeddkciaaGreatDoor
