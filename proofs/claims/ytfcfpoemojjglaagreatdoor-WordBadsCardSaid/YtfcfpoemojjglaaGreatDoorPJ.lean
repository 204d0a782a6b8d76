/-
  Part PJ of a proof.
-/
import Derived.ArgAppend
import Derived.Deep.LoopGhost
import Derived.Test.YtfcfpoemojjglaaGreatDoorPA
import Derived.Test.YtfcfpoemojjglaaGreatDoorPI
import Derived.Test.YtfcfpoemojjglaaGreatDoorPB
set_option maxHeartbeats 16000000
set_option maxRecDepth 100000
set_option linter.unusedVariables false
set_option linter.unusedSimpArgs false
namespace Go.Proofs.YtfcfpoemojjglaaGreatDoor
open Go.RowKit
set_option maxHeartbeats 16000000
set_option maxRecDepth 100000
def BL (ac:List Bool) (q:Nat):List Int:=Ak ((List.range q).filter fun j=>dac ac j)
theorem IL {ac:List Bool} {q:Nat} {b:Bool} (h:ac[q]?=some b):BL ac (q+1)=if b then BL ac q++[(q:Int)] else BL ac q:=by
 unfold BL;rw [List.range_succ,List.filter_append];have:dac ac q=b:=getD_some h;cases b <;> simp [this,Ak]
theorem Gn (ac:List Bool) (q:Nat):(BL ac q).length<=q:=by
 unfold BL;have:=List.length_filter_le (fun j=>dac ac j) (List.range q);simpa [Ak] using this
def CX (t:List (List Nat)) (q k:Nat):List Edg:=(List.range k).map fun x:Nat=>⟨(q:Int),(x:Int),(dnx t q x:Int)⟩
theorem Sn (t:List (List Nat)) (q k:Nat):CX t q (k+1)=CX t q k++[⟨(q:Int),(k:Int),(dnx t q k:Int)⟩]:=by simp [CX,List.range_succ]
def BM (L:Nat) (t:List (List Nat)) (q:Nat):List Edg:=(List.range q).flatMap fun q=>CX t q L
theorem Ho (L:Nat) (t:List (List Nat)) (q:Nat):BM L t (q+1)=BM L t q++CX t q L:=by simp [BM,List.range_succ]
theorem FN (L:Nat) (t:List (List Nat)):∀q,(BM L t q).length=q*L
 | 0=>by simp [BM]
 | q+1=>by rw [Ho,List.length_append,FN L t q,Nat.succ_mul]; simp [CX]
def CK (w:World) (g:Nat) (v0 v1 v2 v3 v4:Value):World:=((((w.setCell ⟨g,0,none⟩ v0).setCell ⟨g,1,none⟩ v1).setCell ⟨g,2,none⟩ v2).setCell ⟨g,3,none⟩ v3).setCell ⟨g,4,none⟩ v4
theorem Dn {w:World} {g:Nat} {e:TypeId} {a0 a1 j l y:Value} (h:Blk w g e #[a0,a1,j,l,y]) (v0 v1 v2 v3 d:Value):∃wF,CK w g v0 v1 v2 v3 d=wF/\Blk wF g e #[v0,v1,v2,v3,d]/\Ac w wF (fun k=>k=g):=
 ⟨_,rfl,((((h.set_ 0 v0).set_ 1 v1).set_ 2 v2).set_ 3 v3).set_ 4 d,(((((Ac.refl w (fun k=>k=g)).setCell (p:=⟨g,0,none⟩) (fun _=>rfl) _).setCell (p:=⟨g,1,none⟩) (fun _=>rfl) _).setCell (p:=⟨g,2,none⟩) (fun _=>rfl) _).setCell (p:=⟨g,3,none⟩) (fun _=>rfl) _).setCell (p:=⟨g,4,none⟩) (fun _=>rfl) _⟩
theorem Mj (w:World) (cs:Array Value) (L n:Nat):∃g2 g4 g5 gs w1 w2 d h j,g2=w.heap.size/\g4=w1.heap.size/\gs=w2.heap.size/\g5=d.heap.size/\w.alloc (.cells cs 78)=w1/\w1.alloc (.cells BQ 35)=w2/\w2.alloc (.cells #[.int .i64 0] 3)=d/\d.alloc (.cells BQ 35)=h/\
  CK h g5 (.int .i64 (L:Int)) (.int .i64 (n:Int)) (.slice (some ⟨gs,0,none⟩) 1 1) sn0 sn0=j/\Blk w2 g2 78 cs/\Blk h g5 35 BQ/\AuM w j g2 g4 g5 gs cs L n sn0 sn0 [] []:=by
 obtain⟨w1,W,M,E,a9⟩:=Ae w cs 78;obtain⟨w2,Z,y,G,aa⟩:=Ae w1 BQ 35;obtain⟨d,h3,C,I,ab⟩:=Ae w2 #[.int .i64 0] 3;obtain⟨h,h4,O,J,ad⟩:=Ae d BQ 35;obtain⟨j,h5,a5,a6⟩:=Dn J (.int .i64 (L:Int)) (.int .i64 (n:Int)) (.slice (some ⟨w2.heap.size,0,none⟩) 1 1) sn0 sn0;have U:=M.size;have s2:=y.size;have s3:=C.size;have s4:=O.size;have l1:=E.lt;have l2:=G.lt;have l3:=I.lt;have V:Below w.heap.size w d:=M.trans ((y.mono U).trans (C.mono (by omega)));have l:Below d.heap.size d j:=O.trans (a6.below s4 fun b hb e=>by omega)
 exact⟨_,_,_,_,w1,w2,d,h,j,rfl,rfl,rfl,rfl,W,Z,h3,h4,h5,E.below y,J,
  ⟨V.trans (l.mono (by omega)),((E.below y).below C).below l,(G.below C).below l,a5,I.below l,Cb,Cb,by simp [Value.ownBlock],by omega,⟨Nat.le_refl _,U,by omega,by omega⟩⟩⟩
theorem IV {w:World} {v:Value} {L:Nat} {t:List (List Nat)} {ac:List Bool} (h:Br w w.heap.size v t ac) (am:DOK L t ac) (hL:L<=8) (hn:ac.length<=250000):
  Calls Tryz.prog 34 #[v,.int .i64 (L:Int)] w (Ret fun r w'=>Below w.heap.size w w'/\(∀w'',Ac w' w'' (fun k=>k<w.heap.size)->Bj w'' w''.heap.size r (AG L t ac))/\ED w' w.heap.size r (AG L t ac).edges):=by
 obtain⟨A1,c1,A2,c2,rfl,h1,h2⟩:=h;obtain⟨g2,g4,g5,gs,w1,w2,J,w4,w5,bm,bo,bs,bp,aT,c8,c9,ca,aU,ai,a6,hQ⟩:=Mj w #[.slice A1 t.length c1,.slice A2 ac.length c2] L ac.length;subst bm bo bs bp;have aS:=am.len;rw [aS] at aT hQ ai ⊢;have bh:=ai.cell;have bY:=a6.frozen;have c0:=a6.lt;have bT:=a6.cell;have bi:=hQ.b2.cell;have aw:=hide (show AuM w w5 w.heap.size w1.heap.size J.heap.size w2.heap.size #[.slice A1 ac.length c1,.slice A2 ac.length c2] L ac.length sn0 sn0 (BL ac 0) (BM L t 0) from hQ);obtain⟨n,ae⟩:∃n,n=ac.length:=⟨_,rfl⟩;have aH:=hide ae;have bB:n<=250000:=by omega
 have b6:=hide h1;have b7:=hide h2;have bD:=hide am;have c7:=hQ.below.size;rw [<-ae] at aT aw bh bi aU;unfold CK at aU;clear h1 h2 am aS hQ hn ai a6;have bC:ac.length=n:=ae.symm;clear ae;rw [bC];go_enter Tryz.func34,Tryz.ntmps34;go_wp2_with fail;go_loopw [19] (fun G wr=>∃(q:Nat) (vA vE:Value),G=.int .i64 (q:Int)/\q<=n/\Hid (AuM w wr w.heap.size w1.heap.size J.heap.size w2.heap.size #[.slice A1 n c1,.slice A2 n c2] L n vA vE (BL ac q) (BM L t q))) (fun G _=>n - (intOf G).toNat)
 case atStart=>exact⟨0,_,_,rfl,Nat.zero_le _,aw⟩
 case round=>
  obtain⟨q,vA,vE,rfl,hq,j⟩:=hrel;by_cases bE:q<n
  ·have aM:q<ac.length:=by rw [<-aH.out]; exact bE
   obtain⟨b,hb⟩:=An aM;obtain⟨ba,oa,rfl,be,az⟩:=Fy b7.out hb;obtain⟨bn,on,Ar,cr,row,rfl,bf,aA,bH,aO,aN,aP⟩:=Gt b6.out bD.out aM;have bV:wr.cell? ⟨ba,oa+q,none⟩=some (.bool b):=(j.out.below.cell be).trans az;have bW:wr.cell? ⟨bn,on+q,none⟩=some (.slice Ar L cr):=(j.out.below.cell bf).trans aA;obtain⟨M,O,rfl⟩:=AH j.out.acc;have aa:=Gn ac q;have aQ:=IL hb;have ay:=j.out.acc;have bS:=j.out.b2.cell;have ak:=j.out.b5.cell;obtain⟨la,al⟩:∃la,la=(BL ac q).length:=⟨_,rfl⟩;rw [<-al] at ay ak aa j;have bJ:=j.out.below.size;have bF:=hide aN;have bI:=hide aP;have bG:=hide aO;have aR:=hide aQ;have bv:=hide al;clear al hb az aA bH aO aN aP aQ;cases b
   all_goals
    first
    | (
      have ar:=hide (show AuM w wr w.heap.size w1.heap.size J.heap.size w2.heap.size #[.slice (some ⟨bn,on,none⟩) n c1,.slice (some ⟨ba,oa,none⟩) n c2] L n (.slice M la O) vE (BL ac (q+1)) (BM L t q++CX t q 0) from by
       rw [aR.out];have e:BM L t q++CX t q 0=BM L t q:=by simp [CX]
       rw [e];exact j.out)
      go_wp2_with fail)
    | (
      go_wp2_with (
       at_builtin;refine BP (w:=wr) C9 rfl _ _ rfl w.heap.size (.slice M la O) la _ rfl ay [.int .i64 (q:Int)] 1 rfl rfl (by simp [Value.oneCell']) (by omega) bJ ?_;intro V U w7 Z I ad bq;have E:=j.out.b5.kept I (Aw j.out.acc j.out.b5 (by decide));have bj:=E.cell;have bl:=E.frozen 3;have bu:=E.lt;have ah:=j.out.addA I (by rw [<-bv.out]; exact Z) ad;obtain⟨w8,bL⟩:∃w8,w7.setCell ⟨J.heap.size,3,none⟩ (.slice (some ⟨V,0,none⟩) (la+1) U)=w8:=⟨_,rfl⟩;rw [bL] at ah;have ar:=hide (show AuM w w8 w.heap.size w1.heap.size J.heap.size w2.heap.size #[.slice (some ⟨bn,on,none⟩) n c1,.slice (some ⟨ba,oa,none⟩) n c2] L n (.slice (some ⟨V,0,none⟩) (la+1) U) vE (BL ac (q+1)) (BM L t q++CX t q 0) from by
        rw [aR.out];have e:BM L t q++CX t q 0=BM L t q:=by simp [CX]
        rw [e];exact ah)
       clear Z I ad E ah))
    go_loopw [37] (fun G wz=>∃(x:Nat) (vA vE:Value),G=.int .i64 (x:Int)/\x<=L/\Hid (AuM w wz w.heap.size w1.heap.size J.heap.size w2.heap.size #[.slice (some ⟨bn,on,none⟩) n c1,.slice (some ⟨ba,oa,none⟩) n c2] L n vA vE (BL ac (q+1)) (BM L t q++CX t q x))) (fun G _=>L - (intOf G).toNat)
    case atStart=>exact⟨0,_,_,rfl,Nat.zero_le _,ar⟩
    case round=>
     obtain⟨x,aW,bP,rfl,hx,C⟩:=hrel;by_cases bM:x<L
     ·obtain⟨y,hy⟩:=An (l:=row) (i:=x) (by rw [bG.out]; exact bM);obtain⟨br,bO,rfl,bg,aB⟩:=Ex bF.out hy;have bN:=hide (bI.out x y hy).2;have bX:wr.cell? ⟨br,bO+x,none⟩=some (.int .i64 (y:Int)):=(C.out.below.cell bg).trans aB;obtain⟨AE,cE,rfl⟩:=AH C.out.eds;have bk:=C.out.b5.cell;have aC:=C.out.eds;obtain⟨m,hm⟩:∃m,m=(BM L t q++CX t q x).length:=⟨_,rfl⟩;have bz:m+1<=4000000:=by
       have h1:q*L<=250000*8:=Nat.mul_le_mul (by omega) hL;rw [hm,List.length_append,FN];simp [CX];omega
      rw [<-hm] at bk aC;have bK:=C.out.below.size;have aG:=hide hm;clear hm hy aB
      go_wp2_with (
       at_builtin;refine BP (w:=wr) Ga rfl _ _ rfl w.heap.size (.slice AE m cE) m _ rfl aC [.int .i64 (q:Int),.int .i64 (x:Int),.int .i64 (y:Int)] 1 rfl rfl (by simp [Value.oneCell']) bz bK ?_;intro V U w7 Z I ad bq;have a9:=I;rw [aG.out] at a9;have E:=C.out.b5.kept a9 (Aw C.out.eds C.out.b5 (by decide));have bj:=E.cell;have bl:=E.frozen 4;have bu:=E.lt;have b8:=hide (C.out.addE (d:=⟨(q:Int),(x:Int),(y:Int)⟩) (vE':=.slice (some ⟨V,0,none⟩) (m+1) U) a9 (by rw [<-aG.out]; exact Z));clear Z I a9 ad E)
      refine⟨⟨x+1,aW,.slice (some ⟨V,0,none⟩) (m+1) U,by go_num,by omega,?_⟩,by simp [intOf]; omega⟩;rw [Sn,<-List.append_assoc,bN.out];exact b8
     ·obtain rfl:x=L:=by omega
      have aj:=C.out;rw [<-Ho] at aj;have b9:=hide aj;clear aj;go_wp2_with fail;exact⟨⟨q+1,aW,bP,by go_num,by omega,b9⟩,by simp [intOf]; omega⟩
  ·obtain rfl:q=n:=by omega
   have aK:(⟨(L:Int),(q:Int),[0],BL ac q,BM L t q⟩:WA)=AG L t ac:=by rw [aH.out]; rfl
   have bx:=Gn ac q;have aE:=FN L t q;have bw:q*L<=250000*8:=Nat.mul_le_mul bB hL;obtain⟨M,O,rfl⟩:=AH j.out.acc;obtain⟨AE,cE,rfl⟩:=AH j.out.eds;have W:=j.out.b4;have ak:=j.out.b5.cell;have bZ:=W.frozen;have c5:=W.lt;have bU:=W.cell;obtain⟨wF,aV,au,a7⟩:=Dn W (.int .i64 (L:Int)) (.int .i64 (q:Int)) (.slice (some ⟨w2.heap.size,0,none⟩) 1 1) (.slice M (BL ac q).length O) (.slice AE (BM L t q).length cE);have av:=au.cell;have bd:=hide (j.out.below.trans (a7.below j.out.below.size fun b hb e=>by have:=j.out.ge; omega));have aD:=hide (fun w'' (hk:Ac wF w'' (fun k=>k<w.heap.size))=>j.out.fin ((a7.mono fun _ _ e=>.inl e).trans hk fun _ _ e=>.inr e) (by omega) (by rw [aE]; omega));have aJ:=hide (j.out.finO a7);have aL:=hide aK;unfold CK at aV;obtain⟨la,aa⟩:∃la,la=(BL ac q).length:=⟨_,rfl⟩;obtain⟨ao,aF⟩:∃ao,ao=(BM L t q).length:=⟨_,rfl⟩;rw [<-aa,<-aF] at aV av aD aJ ak;clear W au a7 aa aF bx aE bw aK j;go_wp2_with fail;refine bodyPost_ret (v:=.agg #[.int .i64 (L:Int),.int .i64 (q:Int),.slice (some ⟨w2.heap.size,0,none⟩) 1 1,.slice M la O,.slice AE ao cE]) (by simp [results,Tryz.results34,go_sem,av]) rfl ⟨bd.out,?_,?_⟩
   ·have:=aD.out;rw [aL.out] at this;exact this
   ·rw [<-aL.out];exact aJ.out
theorem Mk {w:World} {v:Value} {L:Nat} {t:List (List Nat)} {ac:List Bool} (h:Br w w.heap.size v t ac) (C:DOK L t ac) (j:L<=8) (y:ac.length<=250000):
  Calls Tryz.prog 34 #[v,.int .i64 (L:Int)] w (Ret fun r w'=>Below w.heap.size w w'/\∀w'',Ac w' w'' (fun k=>k<w.heap.size)->Bj w'' w''.heap.size r (AG L t ac)):=by
 refine Calls.ret (IV h C j y) ?_;rintro r w' ⟨l,d,-⟩;exact⟨l,d⟩
end Go.Proofs.YtfcfpoemojjglaaGreatDoor
namespace Go.Proofs.YtfcfpoemojjglaaGreatDoor
open Go.RowKit
set_option maxHeartbeats 16000000
set_option maxRecDepth 100000
end Go.Proofs.YtfcfpoemojjglaaGreatDoor
namespace Go.Proofs.YtfcfpoemojjglaaGreatDoor
open Go.RowKit
set_option maxHeartbeats 16000000
set_option maxRecDepth 100000
theorem EZ {w:World} {B:Nat} {A:Option Addr} {l:List Int} (h:Sl w B 1 Ai A l) {i:Nat} {x:Int} (j:l[i]?=some x):∃b d,A=some ⟨b,d,none⟩/\b<B/\w.cell? ⟨b,d+i,none⟩=some (.int .i64 x):=by
 obtain⟨b,d,e,y,C⟩:=h.2 (by
  intro e;rw [e] at j;simp at j)
 have:=C i x j 0 (by omega);exact⟨b,d,e,y,by simpa [Ai] using this⟩
end Go.Proofs.YtfcfpoemojjglaaGreatDoor
namespace Go.Proofs.YtfcfpoemojjglaaGreatDoor
open Go.RowKit
set_option maxHeartbeats 16000000
set_option maxRecDepth 100000
theorem Cu {w:World} {l:List Nat} {A:Option Addr} {c F B g4 J:Nat} {p:Nat->Bool} (h:Sl w B 1 Ai A (Ak l)) (hB:B<=w.heap.size) (hl:l.length<=4000000) (hF:F=115\/F=116)
  (Z:∀q∈l,∀w',Below w.heap.size w w'->Calls Tryz.prog F #[.int .i64 (q:Int),.pointer (some ⟨g4,0,none⟩),.pointer (some ⟨J,0,none⟩)] w' (Ret fun r w''=>r=.bool (p q)/\Below w'.heap.size w' w'')):
  Calls Tryz.prog 107 #[.slice A l.length c,.func (.func F) #[] #[.pointer (some ⟨g4,0,none⟩),.pointer (some ⟨J,0,none⟩)]] w (Ret fun r w'=>Below w.heap.size w w'/\((∃k q:Nat,l[k]?=some q/\r=.int .i64 (k:Int)/\(∀q∈l.take k,p q=false)/\p q=true)\/(r=.int .i64 (-1)/\∀q∈l,p q=false))):=by
 have hH:=hide h;have a8:=hide Z;obtain⟨n,E⟩:∃n,n=l.length:=⟨_,rfl⟩;have W:=hide E;rw [<-E] at hl ⊢;clear h Z E;rcases hF with rfl | rfl
 all_goals
  go_enter Tryz.func107,Tryz.ntmps107;go_wp2_with fail;go_loopw [8] (fun I wr=>∃k:Nat,I=.int .i64 (k:Int)/\k<=n/\Below w.heap.size w wr/\Hid (∀q∈l.take k,p q=false)) (fun I _=>n - (intOf I).toNat)
  case atStart=>exact⟨0,rfl,Nat.zero_le _,Below.refl _ _,hide (by simp)⟩
  case round=>
   obtain⟨k,rfl,hk,j,G⟩:=hrel;by_cases a5:k<n
   ·obtain⟨q,C⟩:=An (l:=l) (i:=k) (by rw [<-W.out]; exact a5);obtain⟨b,aa,rfl,hb,U⟩:=Ex hH.out C;have hc:wr.cell? ⟨b,aa+k,none⟩=some (.int .i64 (q:Int)):=(j.cell (by show b<_; omega)).trans U;have V:=a8.out q (List.mem_of_getElem? C) wr j;have a2:=hide C;clear C U;go_wp2_with fail;refine Calls.ret V ?_;rintro r w2 ⟨rfl,O⟩;have M:=j.trans (O.mono j.size);clear V O;rcases y:p q with _ | _
    ·have a7:=hide (show ∀s∈l.take (k+1),p s=false from fun s d=>by
      rw [B5 a2.out] at d;rcases List.mem_append.1 d with d | d
      ·exact G.out s d
      ·rw [List.mem_singleton.1 d]; exact y)
     clear y;go_wp2_with fail;exact⟨⟨k+1,by go_num,by omega,M,a7⟩,by simp [intOf]; omega⟩
    ·have a9:=hide y;clear y;go_wp2_with fail;go_ret;exact⟨M,.inl ⟨k,q,a2.out,rfl,G.out,a9.out⟩⟩
   ·obtain rfl:k=n:=by omega
    go_wp2_with fail;go_ret;refine⟨j,.inr ⟨rfl,?_⟩⟩;have:=G.out
    rwa [W.out,List.take_length] at this
end Go.Proofs.YtfcfpoemojjglaaGreatDoor
namespace Go.Proofs.YtfcfpoemojjglaaGreatDoor
open Go.RowKit
set_option maxHeartbeats 16000000
set_option maxRecDepth 100000
end Go.Proofs.YtfcfpoemojjglaaGreatDoor
namespace Go.Proofs.YtfcfpoemojjglaaGreatDoor
open Go.RowKit
set_option maxHeartbeats 16000000
set_option maxRecDepth 100000
end Go.Proofs.YtfcfpoemojjglaaGreatDoor
namespace Go.Proofs.YtfcfpoemojjglaaGreatDoor
open Go.RowKit
set_option maxHeartbeats 4000000
def Es:Code->List Code
 | .loop c=>c::Es c
 | .seq a b=>Es a++Es b
 | .block _ c=>Es c
 | .scope c=>Es c
 | .cond _ a b=>Es a++Es b
 | _=>[]
def CG (f:Func) (k:Nat):Code:=match f.body with
 | some c=>(Es c).getD k .skip
 | none=>.skip
end Go.Proofs.YtfcfpoemojjglaaGreatDoor
namespace Go.Proofs.YtfcfpoemojjglaaGreatDoor
open Go.RowKit
set_option maxHeartbeats 16000000
set_option maxRecDepth 100000
end Go.Proofs.YtfcfpoemojjglaaGreatDoor
namespace Go.Proofs.YtfcfpoemojjglaaGreatDoor
open Go.RowKit
set_option maxHeartbeats 16000000
set_option maxRecDepth 100000
end Go.Proofs.YtfcfpoemojjglaaGreatDoor
namespace Go.Proofs.YtfcfpoemojjglaaGreatDoor
open Go.RowKit
set_option maxHeartbeats 16000000
set_option maxRecDepth 100000
end Go.Proofs.YtfcfpoemojjglaaGreatDoor
namespace Go.Proofs.YtfcfpoemojjglaaGreatDoor
open Go.RowKit
set_option maxHeartbeats 16000000
set_option maxRecDepth 100000
end Go.Proofs.YtfcfpoemojjglaaGreatDoor
namespace Go.Proofs.YtfcfpoemojjglaaGreatDoor
open Go.RowKit
set_option maxHeartbeats 16000000
set_option maxRecDepth 100000
def a0:WA:=⟨1,0,[],[],[]⟩
def a1:WA:=⟨1,1,[0],[0],[]⟩
end Go.Proofs.YtfcfpoemojjglaaGreatDoor
