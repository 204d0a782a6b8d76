/-
  Part YB of a proof.
-/
import Derived.Test.YtjejejmeddkciaaGreatDoorPA
import Derived.Test.YtjejejmeddkciaaGreatDoorYA
set_option maxHeartbeats 16000000
set_option maxRecDepth 100000
set_option linter.unusedVariables false
set_option linter.unusedSimpArgs false
namespace Go.Proofs.YtjejejmeddkciaaGreatDoor
open Go.RowKit
set_option maxHeartbeats 16000000
set_option maxRecDepth 100000
theorem aC3 {a:WA} (C:a.In) (M:a.start.length=1) (h:∀rows∈a.nf.nx,∀l∈rows,l.length=1):a.nf.Det:=by
 refine⟨WA.nf_ok C,?_,fun s x J U=>?_⟩
 ·have e:a.nf.start=a.start:=rfl;rw [e]
  match a.start,M with
  | [q],_=>exact⟨q,rfl⟩
 ·have I:=WA.nf_ok C;have G:s<a.nf.nx.length:=J;have E:a.nf.nx[s]?=some (a.nf.nx.getD s []):=by rw [List.getD_eq_getElem?_getD,List.getElem?_eq_getElem G];rfl
  have O:=I.row _ (List.mem_of_getElem? E);have F:(a.nf.nx.getD s [])[x]?=some (a.nf.to s x):=by
   unfold NF.to;rw [List.getD_eq_getElem?_getD (l:=a.nf.nx.getD s []),List.getElem?_eq_getElem (by omega)];rfl
  exact h _ (List.mem_of_getElem? E) _ (List.mem_of_getElem? F)
theorem Sl.other {sz:Nat} {D:Type} {en:D->Nat->Value} {w w':World} {B:Nat} {A:Option Addr} {l:List D} {g e:Nat} (h:Sl w B sz en A l) (Z:0<sz) (F:∀d,en d 0≠sn0) (O:Blk w g e #[sn0,sn0]) (hB:B<=w.heap.size) (V:Ac w w' (fun k=>k=g)):Sl w' B sz en A l:=
 ⟨h.1,fun W=>by
  obtain⟨b,off,G,J,C⟩:=h.2 W;refine⟨b,off,G,J,fun k d E j U=>?_⟩;have M:b≠g:=fun I=>by
   have:=C k d E 0 Z;rw [I,O.cell] at this;generalize off+k*sz+0=m at this
   match m,this with
   | 0,h=>exact F d (Option.some.inj h).symm
   | 1,h=>exact F d (Option.some.inj h).symm
   | n+2,h=>simp at h
  rw [V.cell (p:=⟨b,_,none⟩) (by show b<_;omega) M];exact C k d E j U⟩
theorem Br.other {w w':World} {v:Value} {t:List (List Nat)} {ac:List Bool} {g e:Nat} (h:Br w w.heap.size v t ac) (F:Blk w g e #[sn0,sn0]) (hr:∀r∈t,r≠[]) (C:Ac w w' (fun k=>k=g)):Br w' w'.heap.size v t ac:=by
 obtain⟨U,c1,I,c2,rfl,h1,Z⟩:=h;have a2:Sl w' w.heap.size 1 DH I ac:=Sl.other Z (by omega) (fun d=>by unfold DH;simp) F (Nat.le_refl _) C;refine⟨U,c1,I,c2,rfl,⟨h1.1,fun a7=>?_⟩,a2.keep (fun _ _=>rfl) C.size⟩;obtain⟨b,off,V,hb,hc⟩:=h1.2 a7;refine⟨b,off,V,Nat.lt_of_lt_of_le hb C.size,fun k d J=>?_⟩;obtain⟨u,E,G,c',O,hs⟩:=hc k d J;have aa:Sl w' w.heap.size 1 Ai G (Ak d):=Sl.other hs (by omega) (fun d=>by unfold Ai;simp) F (Nat.le_refl _) C;have a4:b≠g:=fun W=>by
  have a6:=hr d (List.mem_of_getElem? J);rw [W,F.cell,O] at E;have M:(Ak d).length≠0:=by unfold Ak;rw [List.length_map];exact fun e=>a6 (List.length_eq_zero_iff.1 e)
  generalize off+k=m at E
  match m,E with
  | 0,h=>injection h with h;injection h with _ h;exact M h.symm
  | 1,h=>injection h with h;injection h with _ h;exact M h.symm
  | n+2,h=>simp at h
 exact⟨u,(C.cell (p:=⟨b,_,none⟩) (by show b<_;omega) a4).trans E,G,c',O,aa.keep (fun _ _=>rfl) C.size⟩
theorem aDD {a b:Nat} (_:a<b):∃c,a=c:=⟨a,rfl⟩
theorem aDC {w h:World} {B:Nat} (_:Below B w h) (vs:Array Value) (t:TypeId):∃C,h.alloc (.cells vs t)=C/\Below h.heap.size h C/\Blk C h.heap.size t vs:=by
 obtain⟨C,h1,E,F,-⟩:=Ae h vs t;exact⟨C,h1,E,F⟩
def aCT (w:World) (a:WA) (L:Nat) (v:Value) (w':World):Prop:=
 Below w.heap.size w w'/\(v=.tuple #[.agg #[sn0,sn0],.bool false]\/
  (a.ok=true/\a.letters=(L:Int)/\∃t ac d,BH a.L t ac a.lang/\ac.length<=64/\v=.tuple #[d,.bool true]/\∀w'',Ac w' w'' (fun k=>k<w.heap.size)->Br w'' w''.heap.size d t ac))
theorem aDl (a b c d:Value) (w:World):(Instr.field 86 (.agg #[a,b,c,d]) 1).run Tryz.prog w=.ok b w:=by
 unfold Instr.field;simp [go_sem,part,isAgg,sizeOf,asAgg]
theorem aC4 {v:Value} {a:WA} {w:World} {L:Nat} (h:Bj w w.heap.size v a) (he:a.edges.length<=3000000) (hL:L<=60) (hT:BV w):
    Calls Tryz.prog 19 #[v,.int .i64 (L:Int)] w (Ret fun r w'=>aCT w a L r w'):=by
  have av:=hide h;obtain⟨A1,c1,A2,c2,A3,c3,rfl,h1,h2,h3,h4⟩:=h;obtain⟨w1,c4,aY,ao,d0⟩:=Ae w #[.int .i64 a.letters,.int .i64 a.states,.slice A1 a.start.length c1,.slice A2 a.accept.length c2,.slice A3 a.edges.length c3] 33;obtain⟨w2,dR,az,bq,d4⟩:=Ae w1 #[sn0,sn0] 70;have bX:=aY.size;have ax:=aY.trans (az.mono bX);have bY:=ax.size;have aZ:=(ao.below az).cell;have hv:=hide (Iv (av.out.keep (w':=w2) (fun p hp=>ax.cell hp) bY));have l1:=h1.1;have l3:=h3.1;obtain⟨n1,aE⟩:∃n,n=a.start.length:=⟨_,rfl⟩;obtain⟨n2,bV⟩:∃n,n=a.accept.length:=⟨_,rfl⟩;obtain⟨ne,aF⟩:∃n,n=a.edges.length:=⟨_,rfl⟩;rw [<-aE] at l1;rw [<-aF] at l3;rw [<-aE,<-bV,<-aF] at c4 ao aZ hv av ⊢;have da:=hide aE;have dP:=hide aF;have bp:=hide (ao.below az);have ct:=hide bq;have aX:=hide ax;have bJ:=hide he;have bz:=hide hT;obtain⟨aL,aU⟩:∃z,z=a.letters:=⟨_,rfl⟩;obtain⟨aS,aV⟩:∃z,z=a.states:=⟨_,rfl⟩;rw [<-aU,<-aV] at c4 bp aZ hv av ⊢;have bB:=hide aU;have aW:=hide aV;clear h1 h2 h3 h4 d0 d4 aY az ao bq ax he hT aE bV aF aU aV;go_enter Tryz.func19,Tryz.ntmps19;go_wp2_with fail;refine Calls.ret hv.out ?_;rintro r w3 ⟨rfl,aA⟩;have ak:=hide (aX.out.trans (aA.mono bY));have bn:=hide (bp.out.below aA);have ag:=hide (ct.out.below aA);have cL:=bn.out.cell;have cU:=ag.out.frozen;have d6:=ag.out.lt;have cQ:=ag.out.cell;obtain⟨wF,a9,a2,W⟩:=Dm ag.out sn0 sn0;have G:=a2.cell;have I:=hide (ak.out.trans (W.below ak.out.size fun b hb e=>by omega));unfold CY at a9;clear hv aA aZ a2 W;cases aG:a.ok
  case false=>
    rw [show De false=1 from rfl];clear aG;go_wp2_with fail;exact bodyPost_ret (v:=.tuple #[.agg #[sn0,sn0],.bool false]) (by simp [results,Tryz.results19,go_sem,G]) rfl ⟨I.out,.inl rfl⟩
  case true=>
  rw [show De true=0 from rfl];obtain⟨⟨o1,o2,o3,o4⟩,bN⟩:=WA.ok_iff.1 aG;have db:=hide aG;have b4:=hide bN;have b7:=hide (And.intro o1 (And.intro o2 (And.intro o3 o4)));clear aG bN o1 o2 o3 o4;by_cases g1:aL=(L:Int)
  case neg=>
    have q1:(aL != (L:Int))=true:=by simp [g1]
    clear g1;go_wp2_with fail;exact bodyPost_ret (v:=.tuple #[.agg #[sn0,sn0],.bool false]) (by simp [results,Tryz.results19,go_sem,G]) rfl ⟨I.out,.inl rfl⟩
  subst g1;have q1:((L:Int) != (L:Int))=false:=by simp
  by_cases g2:aS<1
  case pos=>
    go_wp2_with fail;exact bodyPost_ret (v:=.tuple #[.agg #[sn0,sn0],.bool false]) (by simp [results,Tryz.results19,go_sem,G]) rfl ⟨I.out,.inl rfl⟩
  by_cases g3:64<aS
  case pos=>
    go_wp2_with fail;exact bodyPost_ret (v:=.tuple #[.agg #[sn0,sn0],.bool false]) (by simp [results,Tryz.results19,go_sem,G]) rfl ⟨I.out,.inl rfl⟩
  by_cases g4:n1=1
  case neg=>
    have q4:((n1:Int) != 1)=true:=by simp;omega
    clear g4;go_wp2_with fail;exact bodyPost_ret (v:=.tuple #[.agg #[sn0,sn0],.bool false]) (by simp [results,Tryz.results19,go_sem,G]) rfl ⟨I.out,.inl rfl⟩
  have q4:((n1:Int) != 1)=false:=by simp;omega
  obtain⟨ns,rfl⟩:∃n:Nat,aS=(n:Int):=⟨aS.toNat,by omega⟩;have bl:ns<=64:=by omega
  have dB:1<=ns:=by omega
  have dc:ns*L<=64*60:=Nat.mul_le_mul bl hL;obtain⟨pr,aH⟩:∃x:Nat,x=ns*L:=⟨_,rfl⟩;have dQ:(ns:Int)*(L:Int)=(pr:Int):=by rw [aH];simp
  rw [<-aH] at dc;by_cases g5:ne=pr
  case neg=>
    have q5:((ne:Int) != (pr:Int))=true:=by simp;omega
    clear g5 aH;go_wp2_with fail;exact bodyPost_ret (v:=.tuple #[.agg #[sn0,sn0],.bool false]) (by simp [results,Tryz.results19,go_sem,G]) rfl ⟨I.out,.inl rfl⟩
  have q5:((ne:Int) != (pr:Int))=false:=by simp;omega
  have bZ:Hid (a.start.length=1):=hide (by rw [<-da.out];exact g4);have b5:Hid (∀E,Below w.heap.size w E->Calls Tryz.prog 26 #[.agg #[.int .i64 (L:Int),.int .i64 (ns:Int),.slice A1 n1 c1,.slice A2 n2 c2,.slice A3 ne c3]] E (Ret fun r w'=>Cn w' w'.heap.size r a.nf/\Below E.heap.size E w')):=hide fun E hx=>
    HM (av.out.keep (fun p hp=>hx.cell hp) hx.size) b4.out ⟨by rw [<-aW.out];omega,by rw [<-aW.out];omega⟩ ⟨by rw [<-bB.out];omega,b7.out.2.1⟩ bJ.out
  have hN:a.nf.n=ns:=by rw [a.nf_n];unfold WA.n;rw [<-aW.out];rfl
  have aT:a.nf.L<=8:=by show a.L<=8;unfold WA.L;have:=b7.out.2.1;omega
  have bF:∀m x,m.length=a.nf.n->x<a.nf.L->(a.nf.cat (AJ m) x).length<=4000000:=fun m x hm hx=>by
    have:=WA.cat_len (a:=a) (hm.trans a.nf_n) hx;have:=bJ.out;omega
  have c0:=hide (fun(E:World) (d:Value) (hb:Below w.heap.size w E) (hI:Cn E E.heap.size d a.nf)=>Tv (k:=ns) hI (WA.nf_ok b4.out) (by omega) aT (by omega) (bz.out.below hb) (show a.nf.start.length<=4000000 from by show a.start.length<=_;rw [bZ.out];omega) bF)
  have bU:Hid (∀(E:World) (d:Value) (all:List (List Bool)),Below w.heap.size w E->Bf a.nf.L a.nf.after a.nf.st all->all.length<=64->Br E E.heap.size d (BG a.nf all all.length) (all.map a.nf.has)->
      Calls Tryz.prog 50 #[d] E (Ret fun r w'=>Below E.heap.size E w'/\∃t ac,BH a.L t ac a.lang/\ac.length<=64/\(∀w'',Ac w' w'' (fun k=>k<E.heap.size)->Br w'' w''.heap.size r t ac))):=hide fun E d all hb hD hl hI=>by
    have hd:=Fq hD (ac:=all.map a.nf.has) (by simp);refine Calls.ret (J4 (L:=a.nf.L) hI hd aT (by simp;omega) (bz.out.below hb)) ?_;rintro r w' ⟨cJ,cl,st,hW,di,dg,aq,hF,hO⟩;exact⟨cJ,_,_,(HG hd hW di aq).congr fun w hw=>(Tt hD hw).symm,by simp at dg ⊢;omega,hF⟩
  have cT:Hid ((∀ad∈a.nf.nx,∀l∈ad,l.length=1)->¬a.nf.Large ns):=hide fun hh=>by
    have:=(aC3 b4.out bZ.out hh).small
    rwa [hN] at this
  clear hN aT bF g4 g5 aH;go_wp2_with fail;refine Calls.ret (b5.out w3 ak.out) ?_;rintro nf w4 ⟨cD,aB⟩;obtain⟨B1,d1,B2,d2,B3,d3,rfl,k1,-,-,-⟩:=cD;have ay:=hide (ak.out.trans (aB.mono ak.out.size));have bo:=hide (bn.out.below aB);have ah:=hide (ag.out.below aB);have dI:=ah.out.frozen;have bP:=ah.out.lt;have dG:=ah.out.cell;have dl:=hide k1;have lk:=k1.1;obtain⟨nn,b6⟩:∃n,n=a.nf.nx.length:=⟨_,rfl⟩;rw [<-b6] at lk ⊢;have bW:=hide b6;clear b6 k1 aB cL cU d6 cQ a9 G I;obtain⟨wF,a9,a2,W⟩:=Dm ah.out sn0 sn0;have G:=a2.cell;have I:=hide (ay.out.trans (W.below ay.out.size fun b hb e=>by have:=aX.out.size;omega));unfold CY at a9;clear a2 W;have dO:=GT;have cX:=aDl (.int .i64 (a.nf.L:Int)) (.slice B1 nn d1) (.slice B2 a.nf.start.length d2) (.slice B3 a.nf.acc.length d3) w4;go_wp2_with fail;clear cX
  go_loop [50] (fun ii=>∃(k:Nat),ii=.int .i64 (k:Int)/\k<=nn/\Hid (∀ad∈a.nf.nx.take k,∀l∈ad,l.length=1)) (fun ii=>nn - (intOf ii).toNat)
  case atStart=>exact⟨0,rfl,Nat.zero_le _,hide (by simp)⟩
  case round=>
    obtain⟨k,rfl,hk,hE⟩:=hrel;by_cases d9:k<nn
    · obtain⟨ad,b8⟩:=An (l:=a.nf.nx) (i:=k) (by rw [<-bW.out];exact d9)
      obtain⟨b,off,vv,rfl,dE,cS,Ar,cr,rfl,M⟩:=dl.out.at b8;have df:=hide b8;have bG:=hide (aC2 (c:=cr) M);obtain⟨m,hm⟩:∃m,m=ad.length:=⟨_,rfl⟩;rw [<-hm] at cS bG;clear b8 M hm;go_wp2_with fail;refine bG.out.mono ?_;rintro e w' ⟨rfl,rfl|⟨rfl,hP⟩⟩
      · go_wp2_with fail
        exact bodyPost_ret (v:=.tuple #[.agg #[sn0,sn0],.bool false]) (by simp [results,Tryz.results19,go_sem,G]) rfl ⟨I.out,.inl rfl⟩
      · have cy:Hid (∀ad∈a.nf.nx.take (k+1),∀l∈ad,l.length=1):=hide fun s M=>by
          rw [B5 df.out] at M;rcases List.mem_append.1 M with M|M
          · exact hE.out s M
          · rw [List.mem_singleton.1 M];exact hP
        clear hP;go_wp2_with fail;exact⟨⟨k+1,by go_num,by omega,cy⟩,by simp [intOf];omega⟩
    · obtain rfl:k=nn:=by omega
      have dh:Hid (¬a.nf.Large ns):=hide (cT.out (by have:=hE.out;rwa [bW.out,List.take_length] at this));clear hE a9 G I;have dL:=bo.out.lt;have cK:=hide (ay.out.trans ((Ap w4).mono ay.out.size));have aP:=hide (bo.out.below (Ap w4));have cu:=hide (ah.out.below (Ap w4));have cY:=hide (Ap w4).size;have dN:=aCV aP.out (n:=5) rfl;have dH:=aP.out.cell;have de:Hid (∀(all:List (List Bool)) (r:List Nat),r∈BG a.nf all all.length->r≠[]):=hide (by
        have h8:0<a.nf.L:=by show 0<a.L;unfold WA.L;have:=b7.out.1;omega
        intro all r hr e;subst e;unfold BG at hr;obtain⟨s,-,M⟩:=List.mem_map.1 hr;have:=congrArg List.length M;simp at this;omega)
      go_wp2_with fail;refine Reg.region_spl [0,1,0,4,15,31,63,63,0,383,1023] (.node 1 8 (.node 4 8 (.leaf [0,2,3,1,4,5,6,7,8,9,10]) (.leaf [0,2,3,1,8,4,5,6,7,9,10])) (.leaf [0,2,3,8,1,4,5,6,7,9,10])) (by kernel_rfl) (by repeat (first|exact Reg.NoQ.body (fun _ _ h=>h) (fun _ h=>h)|refine Reg.NoQ.then ?_|refine Reg.NoQ.inBlock ?_)) ?_;dsimp only [Reg.Spl.goal];refine And.intro (And.intro ?_ ?_) ?_
      all_goals
        have C:=cK;have O:=aP;have J:=cu;have V:=cY;refine Reg.rest_walkE [0,2,3] _ rfl rfl (by kernel_rfl) ?_;intro Qf F;go_wp2_with fail;first|refine F _ _ ?_|skip
        (try clear F)
        iterate 3
          first
          | (refine Reg.rest_walkE [8] _ rfl rfl (by kernel_rfl) ?_
             intro Qf F;obtain⟨wB,dk,Z,ap⟩:=aDC C.out #[sn0,sn0] 70;have b0:=V.out;obtain⟨g8,bL⟩:=aDD ap.lt;rw [bL] at ap b0;have bM:=hide b0;have U:=hide ap;have a5:=hide (C.out.trans (Z.mono C.out.size));have a3:=hide (O.out.below Z);have a4:=hide (J.out.below Z);have a8:=hide (Nat.le_trans V.out Z.size);try have au:=au.keep (fun p hp=>Z.cell hp) Z.size
             try have bu:=hide (a6.out.keep (fun p hp=>Z.cell hp) Z.size)
             clear C O J V ap b0 Z;go_wp2_with fail;first|refine F _ _ ?_|skip
             (try clear F);clear dk bL;(try clear a6);try have a6:=bu
             (try clear bu);have C:=a5;have O:=a3;have J:=a4;have V:=a8;clear a5 a3 a4 a8)
          | (refine Reg.rest_act' 1 _ [3] rfl (by kernel_rfl) ?_
             intro Qf F;try simp only [gT,gS,gZ]
             go_wp2_with fail;refine Calls.ret (b5.out _ C.out) ?_;rintro dS wN ⟨au,a7⟩;have a5:=hide (C.out.trans (a7.mono C.out.size));have a3:=hide (O.out.below a7);have a4:=hide (J.out.below a7);have a8:=hide (Nat.le_trans V.out a7.size);try have U:=hide (U.out.below a7)
             go_wp2_with fail;first|refine F _ _ ⟨Reg.same_below a7 [3] rfl,?_⟩|refine⟨Reg.same_below a7 [3] rfl,?_⟩
             (try clear F);clear C O J V a7;have C:=a5;have O:=a3;have J:=a4;have V:=a8;clear a5 a3 a4 a8)
          | (refine Reg.rest_act' 4 _ [] rfl (by kernel_rfl) ?_
             intro Qf F;try simp only [gT,gS,gZ]
             go_wp2_with fail;refine Calls.ret (c0.out _ _ C.out au) ?_;rintro r wS ⟨ae,d,⟨t0,cg,cw⟩,hr⟩;rcases hr with⟨cB,rfl⟩|⟨all,aq,bD,a6,rfl⟩
             · exact absurd cB dh.out
             obtain⟨A5,c5,A6,c6,rfl,-,-⟩:=cw;obtain⟨dp,bT⟩:∃n,n=t0.length:=⟨_,rfl⟩;obtain⟨dm,bR⟩:∃n,n=cg.length:=⟨_,rfl⟩;rw [<-bT,<-bR] at a6 ⊢;have a6:=hide a6;have cx:=hide aq;have cH:=hide (Nat.le_trans bD bl);have a5:=hide (C.out.trans (ae.mono C.out.size));have a3:=hide (O.out.below ae);have a4:=hide (J.out.below ae);have a8:=hide (Nat.le_trans V.out ae.size);try have U:=hide (U.out.below ae)
             clear bT bR aq bD au;go_wp2_with fail;first|refine F _ _ ⟨Reg.nm,?_⟩|refine⟨Reg.nm,?_⟩
             (try clear F);clear C O J V ae;have C:=a5;have O:=a3;have J:=a4;have V:=a8;clear a5 a3 a4 a8;refine Reg.rest_walkE [5,6,7] _ rfl rfl (by kernel_rfl) ?_;intro Qf F;go_wp2_with fail;first|refine F _ _ ?_|skip
             try clear F)
        have cV:=U.out.frozen;have d7:=U.out.lt;have cM:=U.out.cell;obtain⟨w8,c9,br,ar⟩:=Dm U.out (.slice A5 dp c5) (.slice A6 dm c6);unfold CY at c9;have cF:=hide (Br.other a6.out U.out (fun r hr=>de.out all r hr) ar);have aw:=hide (J.out.kept ar (by have:=bM.out;have:=bP;omega));have bA:=hide br;have aj:=hide (C.out.trans (ar.below C.out.size fun b hb e=>by have:=bM.out;have:=bP;have:=aX.out.size;omega));clear br ar a6 O J U C;refine Reg.rest_walkE [9,10] [] rfl rfl (by kernel_rfl) ?_;intro Qf F;go_wp2_with fail;first|refine F _ _ ?_|skip
        (try clear F);clear c9 cV d7 cM;refine Reg.rest_end ?_;have cO:=bA.out.cell;have d8:=bA.out.lt;have cW:=aw.out.frozen;have d5:=aw.out.lt;have cR:=aw.out.cell;have bE:=bU.out w8 _ all aj.out cx.out cH.out cF.out;have co:=hide aj.out.size;clear bU b5 c0;go_wp2_with fail;refine Calls.ret bE ?_;rintro d w9 ⟨aC,t',aN,bs,bC,aQ⟩;obtain⟨A7,c7,A8,c8,rfl,-,-⟩:=aQ w9 (Ac.refl _ _);have ai:=aw.out.below aC;have dJ:=ai.frozen;have dM:=ai.lt;have dF:=ai.cell;obtain⟨wF,a9,a2,W⟩:=Dm ai (.slice A7 t'.length c7) (.slice A8 aN.length c8);have G:=a2.cell;have I:=hide ((aj.out.trans (aC.mono aj.out.size)).trans (W.below (by have:=aC.size;have:=aj.out.size;omega) fun b hb e=>by have:=bX;omega));have bK:=hide (fun w'' (hk:Ac wF w'' (fun k=>k<w.heap.size))=>aQ w'' ((W.mono (fun b _ e=>by have:=d5;omega)).trans hk (fun b _ e=>by have:=co.out;omega)));have cv:=hide bs;have cG:=hide bC;clear bE aQ ai a2 W aC bs bC cO d8 cW cR;unfold CY at a9;obtain⟨lr,bS⟩:∃lr,lr=t'.length:=⟨_,rfl⟩;obtain⟨la,bQ⟩:∃la,la=aN.length:=⟨_,rfl⟩;rw [<-bS,<-bQ] at a9 G bK ⊢;clear bS bQ;go_wp2_with fail;exact bodyPost_ret (v:=.tuple #[.agg #[.slice A7 lr c7,.slice A8 la c8],.bool true]) (by simp [results,Tryz.results19,go_sem,G]) rfl ⟨I.out,.inr ⟨db.out,bB.out.symm,t',aN,_,cv.out,cG.out,rfl,bK.out⟩⟩
end Go.Proofs.YtjejejmeddkciaaGreatDoor
