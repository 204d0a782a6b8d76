/-
  Part YD of a proof.
-/
import Derived.Test.YtjejejmeddkciaaGreatDoorPA
import Derived.Test.YtjejejmeddkciaaGreatDoorYC
set_option maxHeartbeats 16000000
set_option maxRecDepth 100000
set_option linter.unusedVariables false
set_option linter.unusedSimpArgs false
namespace Go.Proofs.YtjejejmeddkciaaGreatDoor
open Go.RowKit
set_option maxHeartbeats 16000000
set_option maxRecDepth 100000
theorem AR.cell {w:World} {g:Nat} {ks:List Value} (h:AR w g ks) (p:Addr) (C:p.block=g):w.cell? p=none:=by
 obtain⟨es,E,h1,-⟩:=h;unfold World.cell?;rw [C,h1]
theorem AR.ne {w:World} {g gm:Nat} {t:TypeId} {cs:Array Value} {ks:List Value} (h:Blk w g t cs) (C:AR w gm ks):g≠gm:=by
 rintro rfl;obtain⟨es,E,h1,_⟩:=C;unfold Blk at h;rw [h] at h1;cases h1
theorem aDB {c c':Code} {P:Program} {Q:Exit->Act->World->Prop} {A:Act} {w:World} (C:c=c') (h:c'.wp P Q A w):c.wp P Q A w:=by
 subst C;exact h
theorem aDk (t:TypeId) (w:World):∃gm h,(Instr.makeMap t none).run Tryz.prog w=.ok (.map (some gm)) h/\AR h gm []/\Below w.heap.size w h/\w.heap.size<=gm:=
 ⟨_,_,run_makeMap t w,AR.made w,(Below.refl _ _).alloc (Nat.le_refl _) _,Nat.le_refl _⟩
theorem aC0 {w:World} {vt vd:Value} {t:TR} {tb:List (List Nat)} {ac:List Bool} {L:Nat} (h:Wi w w.heap.size vt t) (hd:Br w w.heap.size vd tb ac) (c0:t.In) (hL:t.letters=(L:Int)) (cb:DOK L tb ac) (hN:ac.length<=64) (hS:0<=t.states/\t.states<=36) (hM:t.moves.length<=20000) (dH:t.start.length<=20000):
  Calls Tryz.prog 20 #[vt,vd] w (Ret fun r w'=>Below w.heap.size w w'/\∃x:Bool,r=.bool x/\(x=true->aCw t (dnx tb) (dac ac))):=by
 obtain⟨A1,c1,A2,c2,A3,c3,rfl,h1,h2,h3,-⟩:=h;obtain⟨D1,k1,D2,k2,rfl,bC,bD⟩:=hd;obtain⟨m,hm⟩:=Int.eq_ofNat_of_zero_le hS.1;have dj:m<=36:=by omega
 obtain⟨w1,dJ,b5,ao,-⟩:=Ae w #[.int .i64 t.letters,.int .i64 t.states,.slice A1 t.start.length c1,.slice A2 t.accept.length c2,.slice A3 t.moves.length c3] 76;obtain⟨w2,dK,ag,aS,-⟩:=Ae w1 #[.slice D1 tb.length k1,.slice D2 ac.length k2] 70;obtain⟨ge,w3,dk,aV,ax,be⟩:=aDj w2 m (by omega);rw [aDp] at aV;have av:=b5.trans (ag.mono b5.size);have aw:=hide (av.trans (ax.mono av.size));have aR:=hide ((ao.below ag).below ax);have bv:=hide (aS.below ax);have bR:=(ao.below ag).cell;have bS:=aR.out.cell;obtain⟨n1,ai⟩:∃n,n=t.start.length:=⟨_,rfl⟩;obtain⟨n2,aj⟩:∃n,n=t.accept.length:=⟨_,rfl⟩;obtain⟨O,ak⟩:∃n,n=t.moves.length:=⟨_,rfl⟩;obtain⟨lt,aG⟩:∃n,n=tb.length:=⟨_,rfl⟩;obtain⟨la,aE⟩:∃n,n=ac.length:=⟨_,rfl⟩;have l1:=h1.1;have l2:=h2.1;have l3:=h3.1;rw [<-ai] at l1;rw [<-aj] at l2;rw [<-ak] at l3;have c8:=hm;rw [hm,<-ai,<-aj,<-ak] at dJ aR bR bS;rw [hm,<-ai,<-aj,<-ak,<-aG,<-aE];rw [<-aG,<-aE] at dK bv;have bW:=hide (show w.heap.size<=ge from Nat.le_trans av.size be);have bX:=hide be;have c5:=hide (show w.heap.size<w2.heap.size/\w1.heap.size<w2.heap.size from⟨by have:=ao.lt;have:=ag.size;omega,aS.lt⟩);have cz:=hide h1;have cA:=hide h2;have cB:=hide h3;have cK:=hide bC;have bF:=hide bD;have a7:=hide c0;have b0:=hide hL;have al:=hide cb;have aJ:=hide c8;have dq:=hide ai;have dr:=hide aj;have aK:=hide ak;have di:=hide aG;have aF:=hide aE;have cG:=hide aV;have e9:n1<=20000:=by omega
 have dt:O<=20000:=by omega
 have df:la<=64:=by omega
 clear h1 h2 h3 bC bD c0 hL cb hN hS hM dH b5 ag ax ao aS aV av ai aj ak aG aE hm c8 be;go_enter Tryz.func20,Tryz.ntmps20;go_wp2_with fail;refine aCX (w0:=w) (t:=t) (B:=w.heap.size) (BuM.start cG.out) (cB.out.keep (w':=w3) (fun p E=>aw.out.cell E) (Nat.le_refl _)) (Nat.le_refl _) aw.out bW.out aK.out (fun e he=>by rw [<-aJ.out];exact(a7.out.move e he).1) (by omega) (by omega) ?_ ?_
 ·repeat (first|exact Reg.NoQ.body (fun _ _ h=>h) (fun _ h=>h)|refine Reg.NoQ.then ?_|refine Reg.NoQ.inBlock ?_)
 iterate 18 (intro _)
 intro w4 ub ap;rw [aK.out] at ap;have ar:=ap.kept;have bu:=hide (aR.out.kept ar (by have:=bX.out;have:=c5.out;omega));have cE:=hide (bv.out.kept ar (by have:=bX.out;have:=c5.out;omega));have af:=hide (aw.out.trans (ar.below aw.out.size fun b hb e=>by have:=bW.out;omega));have bz:=hide ap;have cT:=bu.out.cell;have bf:=hide (Q3 (n:=m) (c:=c2) (cA.out.keep (w':=w4) (fun p E=>af.out.cell E) (Nat.le_refl _)) af.out.size (by omega) (fun x J=>by rw [<-aJ.out];exact a7.out.accept x J));rw [<-dr.out] at bf;clear ap ar bS bR dk;go_wp2_with fail;refine Calls.ret bf.out ?_;rintro um w5 ⟨ay,⟨gk,e6,rfl,bB⟩,-⟩;have c9:(BN m t.accept).length=m:=Dh _ _;rw [c9];obtain⟨gm,C,dl,b4,b6,d9⟩:=aDk 121 w5;have ah:=ay.trans (b6.mono ay.size);have I:=hide (af.out.trans (ah.mono af.out.size));have cD:=hide (bu.out.below ah);have aT:=hide (cE.out.below ah);have aW:=hide (bB.below b6);have aq:=hide (bz.out.keep ah);have ad:=hide b4;have aC:=hide (show w.heap.size<=gm/\gm<C.heap.size from⟨by have:=af.out.size;have:=ay.size;omega,b4.lt⟩);have cU:=cD.out.cell;clear bf ay bB b4 b6 d9 ah cT;go_wp2_with fail;refine aCZ (t:=t) (B:=w.heap.size) (cz.out.keep (w':=C) (fun p E=>I.out.cell E) (Nat.le_refl _)) I.out.size dq.out (fun s hs=>(D3.1 (a7.out.start s hs)).1) (by omega) ?_;iterate 11 (intro _)
 intro w7 qv aZ cg;have d4:ge<C.heap.size:=aq.out.top.lt;have dp:Hid (∀x,x<m->∃A c,C.cell? ⟨ge,x,none⟩=some (.slice A (t.from_ t.moves.length x).length c)/\Sl C C.heap.size 4 Wy A (t.from_ t.moves.length x)):=hide fun x J=>by
  obtain⟨A,c,e,hs⟩:=XZ (aq.out.own x J) rfl (Nat.le_refl _) (by have:=TR.from_len t t.moves.length x;have:=aK.out;omega);exact⟨A,c,by rw [aq.out.top.cell,CV _ J,e],hs⟩
 have dy:=hide cg;have cM:=hide aZ;have cH:=hide (VSl.keep (@R1n.keep) cK.out (w':=C) (B':=C.heap.size) (fun p E=>I.out.cell E) I.out.size);have bE:=hide (bF.out.keep (w':=C) (B':=C.heap.size) (fun p E=>I.out.cell E) I.out.size);have dg:=bF.out.1;rw [<-aF.out] at dg;have d5:gk<C.heap.size:=aW.out.lt;have bg:=hide (show w1.heap.size≠gm/\ge≠gm/\gk≠gm from⟨AR.ne aT.out ad.out,AR.ne aq.out.top ad.out,AR.ne aW.out ad.out⟩);have d3:w1.heap.size<C.heap.size:=aT.out.lt;have dI:Hid (AR w7 gm (([]:List T3).map aCu)):=ad.out.kept aZ id;clear cg aZ dl bz c9 cU;go_wp2_with fail;go_loopw [10] (fun qq wr=>∃(seen qs:List T3) (nq:Nat),Hid (Bfs t (dnx tb) (dac ac) seen qs)/\Hid (Ac C wr (fun k=>k=gm))/\Hid (AR wr gm (seen.map aCu))/\Hid (QV aCr 124 3 wr C.heap.size (fun _=>True) qq nq qs)/\nq<=20000+seen.length*O) (fun qq wr=>aCx 147456 O (aCy wr gm) (aDn qq))
 case atStart=>exact⟨[],_,n1,hide Bfs.begin_,hide (cM.out.mono fun _ _ e=>e.elim),dI,dy,by simp;omega⟩
 case round=>
  obtain⟨seen,qs,nq,a6,hK,hM,Z,aL⟩:=hrel;have cS:=hide (I.out.trans (hK.out.below (B:=w.heap.size) I.out.size fun b hb e=>by have:=aC.out.1;omega))
  match nq,aL,Z with
  | 0,aL,Z=>
   have dz:qs=[]:=List.length_eq_zero_iff.1 Z.out.len;subst dz;have d2:=hide a6.out.fin;rcases Z.out with⟨rfl,-,-⟩|⟨g,o,c,rfl,-,-,-⟩
   all_goals
    go_wp2_with fail;go_ret;exact⟨cS.out,true,rfl,fun _=>d2.out⟩
  | n+1,aL,Z=>
   obtain⟨g,o,cc,⟨a,b,c⟩,r,rfl,rfl,hg,d6,e1,-,hQ⟩:=Z.out.open;obtain⟨i1,i2,i3⟩:=Rch.in_ (n:=ac.length) a7.out (fun q y bi G=>(al.out.at bi G).elim fun _ J=>J.2.2.2) al.out.pos b0.out (a6.out.rq _ List.mem_cons_self);dsimp only at i1 i2 i3;have i1:a<m:=by unfold TR.n at i1;rw [aJ.out] at i1;simpa using i1
   have dC:Hid (∀y∈seen,y.1<m/\y.2.1<ac.length/\y.2.2<ac.length):=hide fun y G=>by
    have:=Rch.in_ (n:=ac.length) a7.out (fun q y bi G=>(al.out.at bi G).elim fun _ J=>J.2.2.2) al.out.pos b0.out (a6.out.rs y G);unfold TR.n at this;rw [aJ.out] at this;simpa using this
   have q0:=hQ.cell (j:=0) (v:=.int .i64 (a:Int)) (by simp [aCr]);have q1:=hQ.cell (j:=1) (v:=.int .i64 (b:Int)) (by simp [aCr]);have q2:=hQ.cell (j:=2) (v:=.int .i64 (c:Int)) (by simp [aCr]);rw [Nat.add_zero] at q0;obtain⟨w8,ed,az,aU,-⟩:=Ae wr #[.int .i64 (a:Int),.int .i64 (b:Int),.int .i64 (c:Int)] 124;have dZ:=aU.cell;have au:=hide (hM.out.below az);obtain⟨bb,bQ,c7⟩:=aDi au.out (a,b,c);have c7:(Instr.lookup 121 (.map (some gm)) (.agg #[.int .i64 (a:Int),.int .i64 (b:Int),.int .i64 (c:Int)]) false).run Tryz.prog w8=.ok (.bool bb) w8:=c7;have bH:=hide (hK.out.trans (Ac.of_below az (fun _=>False)) fun _ _ e=>e.elim);have bN:=hide hQ;have b8:=hide bQ;have aA:=hide az;have bc:=hide (show aCy wr gm=seen.length from by rw [hM.out.count,List.length_map]);have cF:=hide aU;have F:=hide (And.intro i1 (And.intro i2 i3));clear bQ hQ az aU Z i1 i2 i3;cases bb
   case true=>
    have dD:=hide (a6.out.skip (b8.out.1 rfl));obtain⟨o',bh,bj⟩:=(bN.out.keep (w':=w8) (Ac.of_below aA.out (fun _=>False)) id).cut aCz;have bj:=hide bj;have bh:=hide bh;have cX:=hide (show aCy w8 gm=seen.length from by rw [au.out.count,List.length_map]);have d8:=hide (show g<w8.heap.size from by have:=aA.out.size;omega);go_wp2_with fail;refine⟨⟨seen,r,n,dD,bH,au,?_,?_⟩,?_⟩
    ·exact hide (.inr ⟨g,o',cc - 1,by first|rfl|rw [bh.out],d8.out,trivial,bj.out⟩)
    ·omega
    ·rw [bc.out,cX.out];exact aDg
   case false=>
    have ca:Hid ((a,b,c)∉seen):=hide fun J=>by have:=b8.out.2 J;cases this
    obtain⟨M,ci,bK,a8,ec⟩:=aDr aCJ Tryz.underlying121 au.out (a,b,c) ca.out;have ci:(Instr.mapUpdate 121 (.map (some gm)) (.agg #[.int .i64 (a:Int),.int .i64 (b:Int),.int .i64 (c:Int)]) (.bool true)).run Tryz.prog w8=.ok () M:=ci;have a9:=hide (bH.out.trans a8 fun _ _ e=>e);have cQ:=hide (I.out.trans (a9.out.below (B:=w.heap.size) I.out.size fun b hb e=>by have:=aC.out.1;omega));have bL:=hide bK;have da:Hid (gm<wr.heap.size):=hide hM.out.lt;have bx:=hide (cF.out.kept a8 (by have:=da.out;omega));have e0:=bx.out.cell;have bZ:=hide (show g<wr.heap.size from d6);have bw:=hide (aT.out.kept a9.out bg.out.1);have dY:=bw.out.cell;have aB:Hid (∀p:Addr,p.block<C.heap.size->p.block≠gm->M.cell? p=C.cell? p):=hide fun p E du=>a9.out.cell E du;obtain⟨V,W⟩:=An (l:=ac) (i:=b) F.out.2.1;obtain⟨a4,ae⟩:=An (l:=ac) (i:=c) F.out.2.2;obtain⟨bA,oA,rfl,dX,cV⟩:=bE.out.2 (by rintro e;rw [e] at W;simp at W);have f0:M.cell? ⟨gk,a,none⟩=some (.bool (decide ((a:Int)∈t.accept))):=(aB.out ⟨gk,a,none⟩ d5 bg.out.2.2).trans (BX.cell aW.out (Dg F.out.1));have ba:Hid (∀p:Addr,p.block<C.heap.size->M.cell? p=C.cell? p):=hide fun p E=>by
     by_cases e:p.block=gm
     ·rw [bL.out.cell p e,ad.out.cell p e]
     ·exact aB.out p E e
    have aX:Sl M C.heap.size 1 DH (some ⟨bA,oA,none⟩) ac:=bE.out.keep ba.out (Nat.le_refl _);have f1:M.cell? ⟨bA,oA+b,none⟩=some (.bool V):=by
     obtain⟨b',o',e,bP,b9⟩:=aX.2 (by rintro e;rw [e] at W;simp at W);cases e;have:=b9 b V W 0 (by omega);simpa [DH] using this
    have f2:M.cell? ⟨bA,oA+c,none⟩=some (.bool a4):=by
     obtain⟨b',o',e,bP,b9⟩:=aX.2 (by rintro e;rw [e] at ae;simp at ae);cases e;have:=b9 c a4 ae 0 (by omega);simpa [DH] using this
    have aM:Hid (okT t (dac ac) (a,b,c)= !(decide ((a:Int)∈t.accept)&&V&&!a4)):=hide (by unfold okT dac;rw [getD_some W,getD_some ae]);obtain⟨ea,bV⟩:∃x,x=decide ((a:Int)∈t.accept):=⟨_,rfl⟩;rw [<-bV] at f0 aM;have e7:b<la:=by rw [aF.out];exact F.out.2.1
    have e8:c<la:=by rw [aF.out];exact F.out.2.2
    obtain⟨Am,cm,bT,ch⟩:=dp.out a F.out.1;have f3:M.cell? ⟨ge,a,none⟩=some (.slice Am (t.from_ t.moves.length a).length cm):=(aB.out ⟨ge,a,none⟩ d4 bg.out.2.1).trans bT;have ha:a<m:=F.out.1;obtain⟨U,aD⟩:∃k,k=(t.from_ t.moves.length a).length:=⟨_,rfl⟩;rw [<-aD] at f3;have db:=hide aD;have c4:U<=O:=by rw [aD,aK.out];exact TR.from_len t _ a
    have dG:=hide ch;clear aD bT ch W ae cV aX bV bK b8;by_cases b7:ea=true/\V=true/\a4=false
    ·obtain⟨rfl,rfl,rfl⟩:=b7;have eb:Hid (¬aCw t (dnx tb) (dac ac)):=hide (a6.out.bad (by rw [aM.out];rfl));go_wp2_with fail;go_ret;exact⟨cQ.out,false,rfl,fun h=>by cases h⟩
    have bU:(ea=false)\/(ea=true/\V=false)\/(ea=true/\V=true/\a4=true):=by
     cases ea
     ·exact .inl rfl
     ·cases V
      ·exact .inr (.inl ⟨rfl,rfl⟩)
      ·cases a4
       ·exact absurd ⟨rfl,rfl,rfl⟩ b7
       ·exact .inr (.inr ⟨rfl,rfl,rfl⟩)
    have bY:=hide (a6.out.push ca.out (by rw [aM.out];rcases bU with rfl|⟨rfl,rfl⟩|⟨rfl,rfl,rfl⟩ <;> simp));have c6:seen.length+1<=147456:=by
     have h1:=aDs (m:=m) (n:=ac.length) bY.out.nd fun y G=>by
      rcases List.mem_append.1 G with G|G
      ·exact dC.out y G
      ·rw [List.mem_singleton.1 G];exact⟨F.out.1,F.out.2.1,F.out.2.2⟩
     have h2:ac.length<=64:=by rw [<-aF.out];exact df
     have h3:=Nat.mul_le_mul (Nat.mul_le_mul dj h2) h2;rw [List.length_append,List.length_singleton] at h1;omega
    have dn:seen.length*O<=147456*20000:=Nat.mul_le_mul (by omega) dt;have dE:(seen.length+1)*O=seen.length*O+O:=Nat.succ_mul _ _;have dB:=hide (show C.heap.size<=M.heap.size from a9.out.size);have dF:=hide (dG.out.keep ba.out (Nat.le_refl _));have cJ:=hide (VSl.keep (@R1n.keep) cH.out ba.out (Nat.le_refl _));have dm:Hid (∀e∈t.from_ t.moves.length a,inN (L:Int) e.inn=true/\inN (L:Int) e.out=true/\0<=e.to):=hide fun e he=>by
     obtain⟨x1,x2,x3,x4⟩:=a7.out.move e (List.mem_of_mem_take (List.mem_filter.1 he).1);rw [b0.out] at x2 x3;exact⟨x2,x3,(D3.1 x4).1⟩
    have dA:Hid (QV aCr 124 3 M C.heap.size (fun g=>g≠wr.heap.size) (.slice (some ⟨g,o,none⟩) (n+1) cc) (n+1) ((a,b,c)::r)):=
     hide (.inr ⟨g,o,cc,rfl,by have:=bZ.out;have:=aA.out.size;have:=a8.size;omega,by have:=bZ.out;omega,(bN.out.keep (w':=w8) (Ac.of_below aA.out (fun _=>False)) id).keep a8 (by have:=aC.out.2;omega)⟩)
    have e3:=bc;have cR:=hide (show n+1+U<=300000000000 from by omega);have de:=hide (show U<=3000000 from by omega);have dv:=hide (show n+U<=20000+(seen.length+1)*O from by omega);have dh:=hide c6;have dc:=hide c4;clear dn b7 a8 aB aM dE c6 aL c4;rcases bU with rfl|⟨rfl,rfl⟩|⟨rfl,rfl,rfl⟩
    all_goals
     go_wp2_with fail;refine aDB (c':=Code.loop (CG Tryz.f20 3)) (by kernel_rfl) ?_;refine aCY (base:=C.heap.size) (a:=a) (b:=b) (c:=c) (L:=L) (tb:=tb) (ac:=ac) dB.out dF.out db.out cJ.out al.out di.out bw.out d3 bx.out F.out.2.1 F.out.2.2 dm.out dA.out cR.out de.out ?_ ?_
     ·exact⟨fun c _ w x=>x.2,fun _ w x=>x⟩
     iterate 32 (intro _)
     intro co dO aY cd;have ce:QV aCr 124 3 co C.heap.size (fun g=>g≠wr.heap.size) dO (n+U+1) ((a,b,c)::(r++(t.from_ t.moves.length a).map (aCs (dnx tb) (a,b,c)))):=by
      rw [show n+U+1=n+1+U by omega];exact cd
     obtain⟨g2,o2,cx,x2,r2,rfl,cZ,e5,d7,e2,-,bM⟩:=ce.open;injection cZ with d0 d1
     subst d0 d1;obtain⟨o3,dw,cf⟩:=bM.cut aCz;have dx:=hide cf;have bJ:=hide (bL.out.kept aY (fun e=>by have:=e.1;have:=aC.out.2;omega));have cL:=hide (a9.out.trans aY fun b' bP e=>by have:=e.1;omega);have cW:=hide (show aCy co gm=seen.length+1 from by rw [bJ.out.count,List.length_map,List.length_append,List.length_singleton]);clear cd ce cf aY bM;go_wp2_with fail;refine⟨⟨seen++[(a,b,c)],r++(t.from_ t.moves.length a).map (aCs (dnx tb) (a,b,c)),n+U,bY,cL,bJ,?_,?_⟩,?_⟩
     ·exact hide (.inr ⟨g2,o3,cx - 1,by first|rfl|rw [dw],d7,trivial,dx.out⟩)
     ·rw [List.length_append,List.length_singleton];exact dv.out
     ·rw [bc.out,cW.out];exact aDf dh.out dc.out
end Go.Proofs.YtjejejmeddkciaaGreatDoor
