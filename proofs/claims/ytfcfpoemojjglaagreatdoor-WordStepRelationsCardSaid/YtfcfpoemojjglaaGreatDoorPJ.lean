/-
  Part PJ of a proof.
-/
import Derived.ArgAppend
import Derived.Test.YtfcfpoemojjglaaGreatDoorPA
import Derived.Test.YtfcfpoemojjglaaGreatDoorPI
set_option maxHeartbeats 16000000
set_option maxRecDepth 100000
set_option linter.unusedVariables false
set_option linter.unusedSimpArgs false
namespace Go.Proofs.YtfcfpoemojjglaaGreatDoor
open Go.RowKit
set_option maxHeartbeats 16000000
set_option maxRecDepth 100000
def BL (ac:List Bool) (q:Nat):List Int:=Ak ((List.range q).filter fun j=>dac ac j)
theorem IL {ac:List Bool} {q:Nat} {b:Bool} (h:ac[q]?=some b):BL ac (q+1)=if b then BL ac q++[(q:Int)] else BL ac q:=by
 unfold BL
 rw [List.range_succ,List.filter_append]
 have:dac ac q=b:=getD_some h
 cases b <;> simp [this,Ak]
theorem Gn (ac:List Bool) (q:Nat):(BL ac q).length≤q:=by
 unfold BL
 have:=List.length_filter_le (fun j=>dac ac j) (List.range q)
 simpa [Ak] using this
def CX (t:List (List Nat)) (q k:Nat):List Edg:=(List.range k).map fun x:Nat=>⟨(q:Int),(x:Int),(dnx t q x:Int)⟩
theorem Sn (t:List (List Nat)) (q k:Nat):CX t q (k+1)=CX t q k++[⟨(q:Int),(k:Int),(dnx t q k:Int)⟩]:=by simp [CX,List.range_succ]
def BM (L:Nat) (t:List (List Nat)) (q:Nat):List Edg:=(List.range q).flatMap fun q=>CX t q L
theorem Ho (L:Nat) (t:List (List Nat)) (q:Nat):BM L t (q+1)=BM L t q++CX t q L:=by simp [BM,List.range_succ]
theorem FN (L:Nat) (t:List (List Nat)):∀q,(BM L t q).length=q*L
 | 0=>by simp [BM]
 | q+1=>by rw [Ho,List.length_append,FN L t q,Nat.succ_mul]; simp [CX]
def CK (w:World) (g:Nat) (v0 v1 v2 v3 v4:Value):World:=((((w.setCell ⟨g,0,none⟩ v0).setCell ⟨g,1,none⟩ v1).setCell ⟨g,2,none⟩ v2).setCell ⟨g,3,none⟩ v3).setCell ⟨g,4,none⟩ v4
theorem Dn {w:World} {g:Nat} {e:TypeId} {a0 a1 C E F:Value} (h:Blk w g e #[a0,a1,C,E,F]) (v0 v1 v2 v3 y:Value):∃z,CK w g v0 v1 v2 v3 y=z∧Blk z g e #[v0,v1,v2,v3,y]∧Ac w z (fun k=>k=g):=
 ⟨_,rfl,((((h.set_ 0 v0).set_ 1 v1).set_ 2 v2).set_ 3 v3).set_ 4 y,(((((Ac.refl w (fun k=>k=g)).setCell (p:=⟨g,0,none⟩) (fun _=>rfl) _).setCell (p:=⟨g,1,none⟩) (fun _=>rfl) _).setCell (p:=⟨g,2,none⟩) (fun _=>rfl) _).setCell (p:=⟨g,3,none⟩) (fun _=>rfl) _).setCell (p:=⟨g,4,none⟩) (fun _=>rfl) _⟩
theorem Mj (w:World) (cs:Array Value) (L n:Nat):∃g2 g4 g5 gs w1 w2 h y z,g2=w.heap.size∧g4=w1.heap.size∧gs=w2.heap.size∧g5=h.heap.size∧w.alloc (.cells cs 78)=w1∧w1.alloc (.cells BQ 35)=w2∧w2.alloc (.cells #[.int .i64 0] 3)=h∧h.alloc (.cells BQ 35)=y∧
  CK y g5 (.int .i64 (L:Int)) (.int .i64 (n:Int)) (.slice (some ⟨gs,0,none⟩) 1 1) sn0 sn0=z∧Blk w2 g2 78 cs∧Blk y g5 35 BQ∧AuM w z g2 g4 g5 gs cs L n sn0 sn0 [] []:=by
 obtain⟨w1,h1,O,G,a9⟩:=Ae w cs 78
 obtain⟨w2,Z,E,I,aa⟩:=Ae w1 BQ 35
 obtain⟨h,h3,F,J,ab⟩:=Ae w2 #[.int .i64 0] 3
 obtain⟨y,h4,U,M,ad⟩:=Ae h BQ 35
 obtain⟨z,h5,a5,a6⟩:=Dn M (.int .i64 (L:Int)) (.int .i64 (n:Int)) (.slice (some ⟨w2.heap.size,0,none⟩) 1 1) sn0 sn0
 have V:=O.size
 have s2:=E.size
 have s3:=F.size
 have s4:=U.size
 have l1:=G.lt
 have l2:=I.lt
 have l3:=J.lt
 have W:Below w.heap.size w h:=O.trans ((E.mono V).trans (F.mono (by omega)))
 have C:Below h.heap.size h z:=U.trans (a6.below s4 fun b hb e=>by omega)
 exact⟨_,_,_,_,w1,w2,h,y,z,rfl,rfl,rfl,rfl,h1,Z,h3,h4,h5,G.below E,M,
  ⟨W.trans (C.mono (by omega)),((G.below E).below F).below C,(I.below F).below C,a5,J.below C,Cb,Cb,by simp [Value.ownBlock],by omega,⟨Nat.le_refl _,V,by omega,by omega⟩⟩⟩
theorem IV {w:World} {v:Value} {L:Nat} {t:List (List Nat)} {ac:List Bool} (h:Br w w.heap.size v t ac) (an:DOK L t ac) (hL:L≤8) (hn:ac.length≤250000):
  Calls Tryz.prog 34 #[v,.int .i64 (L:Int)] w (Ret fun r w'=>Below w.heap.size w w'∧(∀w'',Ac w' w'' (fun k=>k<w.heap.size)→Bj w'' w''.heap.size r (AG L t ac))∧ED w' w.heap.size r (AG L t ac).edges):=by
 obtain⟨A1,G,A2,c2,rfl,h1,h2⟩:=h
 obtain⟨g2,g4,g5,gs,w1,w2,J,w4,w5,bj,bk,bo,bl,aU,c3,c4,c5,aV,aj,a6,hQ⟩:=Mj w #[.slice A1 t.length G,.slice A2 ac.length c2] L ac.length
 subst bj bk bo bl
 have aT:=an.len
 rw [aT] at aU hQ aj ⊢
 have be:=aj.cell
 have bV:=a6.frozen
 have bX:=a6.lt
 have bQ:=a6.cell
 have bf:=hQ.b2.cell
 have ax:=hide (show AuM w w5 w.heap.size w1.heap.size J.heap.size w2.heap.size #[.slice A1 ac.length G,.slice A2 ac.length c2] L ac.length sn0 sn0 (BL ac 0) (BM L t 0) from hQ)
 obtain⟨n,ae⟩:∃n,n=ac.length:=⟨_,rfl⟩
 have aJ:=hide ae
 have bw:n≤250000:=by omega
 have b3:=hide h1
 have b6:=hide h2
 have bz:=hide an
 have c0:=hQ.below.size
 rw [←ae] at aU ax be bf aV
 unfold CK at aV
 clear h1 h2 an aT hQ hn aj a6
 have bx:ac.length=n:=ae.symm
 clear ae
 rw [bx]
 go_enter Tryz.func34,Tryz.ntmps34
 go_wp2_with fail
 go_loopw [19] (fun F wr=>∃(q:Nat) (vA vE:Value),F=.int .i64 (q:Int)∧q≤n∧Hid (AuM w wr w.heap.size w1.heap.size J.heap.size w2.heap.size #[.slice A1 n G,.slice A2 n c2] L n vA vE (BL ac q) (BM L t q))) (fun F _=>n - (intOf F).toNat)
 case atStart=>exact⟨0,_,_,rfl,Nat.zero_le _,ax⟩
 case round=>
  obtain⟨q,vA,vE,rfl,hq,hI⟩:=hrel
  by_cases bA:q<n
  ·have aN:q<ac.length:=by rw [←aJ.out]; exact bA
   obtain⟨b,hb⟩:=An aN
   obtain⟨ba,oa,rfl,bb,aA⟩:=Fy b6.out hb
   obtain⟨bn,on,Ar,cr,row,rfl,bc,aB,bD,aP,aO,aQ⟩:=Gt b3.out bz.out aN
   have bS:wr.cell? ⟨ba,oa+q,none⟩=some (.bool b):=(hI.out.below.cell bb).trans aA
   have bT:wr.cell? ⟨bn,on+q,none⟩=some (.slice Ar L cr):=(hI.out.below.cell bc).trans aB
   obtain⟨M,O,rfl⟩:=AH hI.out.acc
   have aa:=Gn ac q
   have aR:=IL hb
   have az:=hI.out.acc
   have bP:=hI.out.b2.cell
   have al:=hI.out.b5.cell
   obtain⟨z,am⟩:∃z,z=(BL ac q).length:=⟨_,rfl⟩
   rw [←am] at az al aa hI
   have bF:=hI.out.below.size
   have bB:=hide aO
   have bE:=hide aQ
   have bC:=hide aP
   have aS:=hide aR
   have bq:=hide am
   clear am hb aA aB bD aP aO aQ aR
   cases b
   all_goals
    first
    | (
      have au:=hide (show AuM w wr w.heap.size w1.heap.size J.heap.size w2.heap.size #[.slice (some ⟨bn,on,none⟩) n G,.slice (some ⟨ba,oa,none⟩) n c2] L n (.slice M z O) vE (BL ac (q+1)) (BM L t q++CX t q 0) from by
       rw [aS.out]
       have e:BM L t q++CX t q 0=BM L t q:=by simp [CX]
       rw [e]
       exact hI.out)
      go_wp2_with fail)
    | (
      go_wp2_with (
       at_builtin
       refine BP (w:=wr) C9 rfl _ _ rfl w.heap.size (.slice M z O) z _ rfl az [.int .i64 (q:Int)] 1 rfl rfl (by simp [Value.oneCell']) (by omega) bF ?_
       intro V U w7 Z I ad bm
       have E:=hI.out.b5.kept I (Aw hI.out.acc hI.out.b5 (by decide))
       have bg:=E.cell
       have bi:=E.frozen 3
       have bp:=E.lt
       have ai:=hI.out.addA I (by rw [←bq.out]; exact Z) ad
       obtain⟨w8,bH⟩:∃w8,w7.setCell ⟨J.heap.size,3,none⟩ (.slice (some ⟨V,0,none⟩) (z+1) U)=w8:=⟨_,rfl⟩
       rw [bH] at ai
       have au:=hide (show AuM w w8 w.heap.size w1.heap.size J.heap.size w2.heap.size #[.slice (some ⟨bn,on,none⟩) n G,.slice (some ⟨ba,oa,none⟩) n c2] L n (.slice (some ⟨V,0,none⟩) (z+1) U) vE (BL ac (q+1)) (BM L t q++CX t q 0) from by
        rw [aS.out]
        have e:BM L t q++CX t q 0=BM L t q:=by simp [CX]
        rw [e]
        exact ai)
       clear Z I ad E ai))
    go_loopw [37] (fun F wz=>∃(x:Nat) (vA vE:Value),F=.int .i64 (x:Int)∧x≤L∧Hid (AuM w wz w.heap.size w1.heap.size J.heap.size w2.heap.size #[.slice (some ⟨bn,on,none⟩) n G,.slice (some ⟨ba,oa,none⟩) n c2] L n vA vE (BL ac (q+1)) (BM L t q++CX t q x))) (fun F _=>L - (intOf F).toNat)
    case atStart=>exact⟨0,_,_,rfl,Nat.zero_le _,au⟩
    case round=>
     obtain⟨x,aX,bL,rfl,hx,C⟩:=hrel
     by_cases bI:x<L
     ·obtain⟨y,hy⟩:=An (l:=row) (i:=x) (by rw [bC.out]; exact bI)
      obtain⟨br,bK,rfl,bd,aC⟩:=Ex bB.out hy
      have bJ:=hide (bE.out x y hy).2
      have bU:wr.cell? ⟨br,bK+x,none⟩=some (.int .i64 (y:Int)):=(C.out.below.cell bd).trans aC
      obtain⟨AE,cE,rfl⟩:=AH C.out.eds
      have bh:=C.out.b5.cell
      have aD:=C.out.eds
      obtain⟨m,hm⟩:∃m,m=(BM L t q++CX t q x).length:=⟨_,rfl⟩
      have bu:m+1≤4000000:=by
       have h1:q*L≤250000*8:=Nat.mul_le_mul (by omega) hL
       rw [hm,List.length_append,FN]
       simp [CX]
       omega
      rw [←hm] at bh aD
      have bG:=C.out.below.size
      have aH:=hide hm
      clear hm hy aC
      go_wp2_with (
       at_builtin
       refine BP (w:=wr) Ga rfl _ _ rfl w.heap.size (.slice AE m cE) m _ rfl aD [.int .i64 (q:Int),.int .i64 (x:Int),.int .i64 (y:Int)] 1 rfl rfl (by simp [Value.oneCell']) bu bG ?_
       intro V U w7 Z I ad bm
       have a9:=I
       rw [aH.out] at a9
       have E:=C.out.b5.kept a9 (Aw C.out.eds C.out.b5 (by decide))
       have bg:=E.cell
       have bi:=E.frozen 4
       have bp:=E.lt
       have b7:=hide (C.out.addE (d:=⟨(q:Int),(x:Int),(y:Int)⟩) (vE':=.slice (some ⟨V,0,none⟩) (m+1) U) a9 (by rw [←aH.out]; exact Z))
       clear Z I a9 ad E)
      refine⟨⟨x+1,aX,.slice (some ⟨V,0,none⟩) (m+1) U,by go_num,by omega,?_⟩,by simp [intOf]; omega⟩
      rw [Sn,←List.append_assoc,bJ.out]
      exact b7
     ·obtain rfl:x=L:=by omega
      have ak:=C.out
      rw [←Ho] at ak
      have b8:=hide ak
      clear ak
      go_wp2_with fail
      exact⟨⟨q+1,aX,bL,by go_num,by omega,b8⟩,by simp [intOf]; omega⟩
  ·obtain rfl:q=n:=by omega
   have aL:(⟨(L:Int),(q:Int),[0],BL ac q,BM L t q⟩:WA)=AG L t ac:=by rw [aJ.out]; rfl
   have bt:=Gn ac q
   have aF:=FN L t q
   have bs:q*L≤250000*8:=Nat.mul_le_mul bw hL
   obtain⟨M,O,rfl⟩:=AH hI.out.acc
   obtain⟨AE,cE,rfl⟩:=AH hI.out.eds
   have W:=hI.out.b4
   have al:=hI.out.b5.cell
   have bW:=W.frozen
   have bY:=W.lt
   have bR:=W.cell
   obtain⟨wF,aW,av,a7⟩:=Dn W (.int .i64 (L:Int)) (.int .i64 (q:Int)) (.slice (some ⟨w2.heap.size,0,none⟩) 1 1) (.slice M (BL ac q).length O) (.slice AE (BM L t q).length cE)
   have aw:=av.cell
   have b9:=hide (hI.out.below.trans (a7.below hI.out.below.size fun b hb e=>by have:=hI.out.ge; omega))
   have aE:=hide (fun w'' (hk:Ac wF w'' (fun k=>k<w.heap.size))=>hI.out.fin ((a7.mono fun _ _ e=>.inl e).trans hk fun _ _ e=>.inr e) (by omega) (by rw [aF]; omega))
   have aK:=hide (hI.out.finO a7)
   have aM:=hide aL
   unfold CK at aW
   obtain⟨z,aa⟩:∃z,z=(BL ac q).length:=⟨_,rfl⟩
   obtain⟨ap,aG⟩:∃ap,ap=(BM L t q).length:=⟨_,rfl⟩
   rw [←aa,←aG] at aW aw aE aK al
   clear W av a7 aa aG bt aF bs aL hI
   go_wp2_with fail
   refine bodyPost_ret (v:=.agg #[.int .i64 (L:Int),.int .i64 (q:Int),.slice (some ⟨w2.heap.size,0,none⟩) 1 1,.slice M z O,.slice AE ap cE]) (by simp [results,Tryz.results34,go_sem,aw]) rfl ⟨b9.out,?_,?_⟩
   ·have:=aE.out
    rw [aM.out] at this
    exact this
   ·rw [←aM.out]
    exact aK.out
end Go.Proofs.YtfcfpoemojjglaaGreatDoor
namespace Go.Proofs.YtfcfpoemojjglaaGreatDoor
open Go.RowKit
set_option maxHeartbeats 16000000
set_option maxRecDepth 100000
def LT (w:World) (a:WA) (v:Value) (w':World):Prop:=
 Below w.heap.size w w'∧((a.ok=false∧v=.tuple #[.agg BQ,.int .i64 1])∨(a.ok=true∧a.nf.Large 400∧v=.tuple #[.agg BQ,.int .i64 4])∨
  (a.ok=true∧¬a.nf.Large 400∧∃t ac d,BH a.L t ac a.lang∧ac.length≤400∧v=.tuple #[d,.int .i64 0]∧∀w'',Ac w' w'' (fun k=>k<w.heap.size)→Bj w'' w''.heap.size d (AG a.L t ac)))
def LU (w:World) (a:WA) (v:Value) (w':World):Prop:=
 Below w.heap.size w w'∧((a.ok=false∧v=.tuple #[.agg BQ,.int .i64 1])∨(a.ok=true∧a.nf.Large 400∧v=.tuple #[.agg BQ,.int .i64 4])∨
  (a.ok=true∧¬a.nf.Large 400∧∃t ac d,BH a.L t ac a.lang∧ac.length≤400∧v=.tuple #[d,.int .i64 0]∧(∀w'',Ac w' w'' (fun k=>k<w.heap.size)→Bj w'' w''.heap.size d (AG a.L t ac))∧ED w' w.heap.size d (AG a.L t ac).edges))
theorem RY {v:Value} {a:WA} {w:World} (h:Bj w w.heap.size v a) (he:a.edges.length≤3000000) (az:a.start.length≤4000000) (hT:BV w):
  Calls Tryz.prog 30 #[v] w (Ret fun r w'=>LU w a r w'):=by
 have aS:=hide h
 obtain⟨A1,c1,A2,c2,A3,c3,rfl,h1,h2,h3,h4⟩:=h
 obtain⟨w1,bv,ak,a4,aX⟩:=Ae w #[.int .i64 a.letters,.int .i64 a.states,.slice A1 a.start.length c1,.slice A2 a.accept.length c2,.slice A3 a.edges.length c3] 35
 obtain⟨w2,bO,ab,ap,aY⟩:=Ae w1 BQ 35
 have bt:=ak.size
 have aj:Below w.heap.size w w2:=ak.trans (ab.mono bt)
 have ay:=aj.size
 have aL:=hide (a4.below ab)
 have bm:=(a4.below ab).cell
 have bH:=a4.lt
 have hR:=hide ap
 have W:=Iv (aS.out.keep (fun p hp=>aj.cell hp) ay)
 cases I:a.ok
 ·rw [I,show De false=1 from rfl] at W
  have am:=hide I
  clear h1 h2 h3 h4 aX aY ak ab a4 ap he az hT I
  go_enter Tryz.func30,Tryz.ntmps30
  go_wp2_with fail
  refine Calls.ret W ?_
  rintro r w3 ⟨rfl,G⟩
  have O:=hR.out.below G
  have bC:=O.frozen
  have bI:=O.lt
  have bn:=O.cell
  obtain⟨wF,ag,C,y⟩:=Dn O (.int .i64 0) (.int .i64 0) sn0 sn0 sn0
  have a5:=C.cell
  have V:=aj.trans (G.mono ay)
  have ae:=hide (V.trans (y.below V.size fun b F e=>by omega))
  unfold CK at ag
  clear W G O C y V
  go_wp2_with fail
  refine bodyPost_ret (v:=.tuple #[.agg BQ,.int .i64 1]) (by simp [results,Tryz.results30,go_sem,a5]) rfl ⟨ae.out,.inl ⟨am.out,rfl⟩⟩
 ·rw [I,show De true=0 from rfl] at W
  have aW:=(WA.ok_iff.1 I).2
  have bl:=(WA.ok_iff.1 I).1
  have aP:a.letters=(a.L:Int):=by unfold WA.L; omega
  have bh:a.L≤8:=by unfold WA.L; omega
  have aV:=hide (fun(wx:World) (F:Below w.heap.size w wx)=>MN (aS.out.keep (w':=wx) (fun p hp=>F.cell hp) F.size) aW ⟨by omega,by omega⟩ ⟨by omega,by omega⟩ he az (hT.below F))
  have bk:=hide (fun(wx:World) (d:Value) (t:List (List Nat)) (ac:List Bool) (hI:Br wx wx.heap.size d t ac) (hC:BH a.L t ac a.lang) (hl:ac.length≤400)=>IV hI hC.ok bh (by omega))
  have am:=hide I
  rw [aP] at bv bm aL aV W ⊢
  clear h1 h2 h3 h4 aX aY ak ab a4 ap he az hT I aW bl aP
  go_enter Tryz.func30,Tryz.ntmps30
  go_wp2_with fail
  refine Calls.ret W ?_
  rintro r w3 ⟨rfl,G⟩
  have V:=aj.trans (G.mono ay)
  have aM:=hide (aL.out.below G)
  have O:=hide (hR.out.below G)
  have bn:=aM.out.cell
  clear W G
  go_wp2_with fail
  refine Calls.ret (aV.out _ V) ?_
  rintro r w4 ⟨ad,hr⟩
  have aa:=V.trans (ad.mono V.size)
  have aq:=aM.out.below ad
  have a8:=O.out.below ad
  have b3:=aa.size
  have bJ:=a8.lt
  obtain⟨w5,bP,a2,J,aZ⟩:=Ae w4 #[sn0,sn0] 78
  have bD:=J.frozen
  have bK:=J.lt
  have bz:=J.cell
  rcases hr with⟨aO,rfl⟩ | ⟨b2,t,ac,d,hC,av,rfl,aN⟩
  ·obtain⟨w6,an,ai,a7⟩:=Dm J sn0 sn0
   have z:Below w4.heap.size w4 w6:=a2.trans (a7.below a2.size fun b F e=>by omega)
   have Z:=aa.trans (z.mono b3)
   have U:=a8.below z
   have bE:=U.frozen
   have bL:=U.lt
   have aU:=U.cell
   obtain⟨wF,ag,C,y⟩:=Dn U (.int .i64 0) (.int .i64 0) sn0 sn0 sn0
   have a5:=C.cell
   have ae:=hide (Z.trans (y.below Z.size fun b F e=>by omega))
   have bi:=hide aO
   unfold CK at ag
   unfold CY at an
   clear aO ad aq a8 J aZ a2 ai a7 z Z U C y aa
   go_wp2_with fail
   refine bodyPost_ret (v:=.tuple #[.agg BQ,.int .i64 4]) (by simp [results,Tryz.results30,go_sem,a5]) rfl ⟨ae.out,.inr (.inl ⟨am.out,bi.out,rfl⟩)⟩
  ·have ar:=aN w4 (Ac.refl _ _)
   have bg:=ar
   obtain⟨A7,c7,A8,c8,rfl,-,-⟩:=bg
   obtain⟨w6,an,ai,a7⟩:=Dm J (.slice A7 t.length c7) (.slice A8 ac.length c8)
   have z:Below w4.heap.size w4 w6:=a2.trans (a7.below a2.size fun b F e=>by omega)
   have Z:=aa.trans (z.mono b3)
   have bu:=z.size
   have aw:=bk.out w6 _ t ac (ar.keep (fun p hp=>z.cell hp) bu) hC av
   have U:=hide (a8.below z)
   have aU:=ai.cell
   have bB:=(aq.below z).cell
   have bp:=hide b2
   have bf:=hide hC
   have bj:=hide av
   have aT:=hide Z
   unfold CY at an
   obtain⟨lr,b1⟩:∃lr,lr=t.length:=⟨_,rfl⟩
   obtain⟨la,b0⟩:∃la,la=ac.length:=⟨_,rfl⟩
   rw [←b1,←b0] at an aU aw ⊢
   clear b2 hC av aN ar ad aq a8 J aZ a2 ai a7 z Z aa b1 b0
   go_wp2_with fail
   refine Calls.ret aw ?_
   rintro d w7 ⟨al,E,aQ⟩
   obtain⟨aB,aE,aC,aF,aD,aG,rfl,-,-,-,-⟩:=E w7 (Ac.refl _ _)
   have a9:=U.out.below al
   have bF:=a9.frozen
   have bM:=a9.lt
   have bA:=a9.cell
   have bN:=al.size
   have bs:=aT.out.size
   have M:=aQ
   clear aQ
   generalize (AG a.L t ac).letters=x0 at E M ⊢
   generalize (AG a.L t ac).states=x1 at E M ⊢
   generalize (AG a.L t ac).start.length=n1 at E M ⊢
   generalize (AG a.L t ac).accept.length=n2 at E M ⊢
   generalize (AG a.L t ac).edges.length=n3 at E M ⊢
   obtain⟨wF,ag,C,y⟩:=Dn a9 (.int .i64 x0) (.int .i64 x1) (.slice aB n1 aE) (.slice aC n2 aF) (.slice aD n3 aG)
   have a5:=C.cell
   have ae:=hide ((aT.out.trans (al.mono bs)).trans (y.below (by omega) fun b F e=>by omega))
   have bo:=hide (fun w'' (hk:Ac wF w'' (fun k=>k<w.heap.size))=>E w'' ((y.mono (fun b _ e=>by omega)).trans hk (fun b _ e=>by omega)))
   have bq:=hide (M.kept (base':=w.heap.size) y (fun g (e:g=_) _=>by omega) (by omega))
   unfold CK at ag
   clear aw E M a9 C y al
   go_wp2_with fail
   refine bodyPost_ret (v:=.tuple #[.agg #[.int .i64 x0,.int .i64 x1,.slice aB n1 aE,.slice aC n2 aF,.slice aD n3 aG],.int .i64 0]) (by simp [results,Tryz.results30,go_sem,a5]) rfl ⟨ae.out,.inr (.inr ⟨am.out,bp.out,t,ac,_,bf.out,bj.out,rfl,bo.out,bq.out⟩)⟩
theorem RX {v:Value} {a:WA} {w:World} (h:Bj w w.heap.size v a) (J:a.edges.length≤3000000) (M:a.start.length≤4000000) (I:BV w):
  Calls Tryz.prog 30 #[v] w (Ret fun r w'=>LT w a r w'):=by
 refine Calls.ret (RY h J M I) ?_
 rintro r w' ⟨y,h1 | h1 | ⟨h1,z,t,ac,d,C,E,F,G,-⟩⟩
 ·exact⟨y,.inl h1⟩
 ·exact⟨y,.inr (.inl h1)⟩
 ·exact⟨y,.inr (.inr ⟨h1,z,t,ac,d,C,E,F,G⟩)⟩
end Go.Proofs.YtfcfpoemojjglaaGreatDoor
namespace Go.Proofs.YtfcfpoemojjglaaGreatDoor
open Go.RowKit
set_option maxHeartbeats 16000000
set_option maxRecDepth 100000
theorem EZ {w:World} {B:Nat} {A:Option Addr} {l:List Int} (h:Sl w B 1 Ai A l) {i:Nat} {x:Int} (z:l[i]?=some x):∃b y,A=some ⟨b,y,none⟩∧b<B∧w.cell? ⟨b,y+i,none⟩=some (.int .i64 x):=by
 obtain⟨b,y,e,C,E⟩:=h.2 (by
  intro e
  rw [e] at z
  simp at z)
 have:=E i x z 0 (by omega)
 exact⟨b,y,e,C,by simpa [Ai] using this⟩
theorem Nt {w:World} {g4 g10 B c q:Nat} {A:Option Addr} {far:List Int} {k:Int} (z:Blk w g4 24 #[.slice A far.length c]) (hS:Sl w B 1 Ai A far) (hk:w.cell? ⟨g10,0,none⟩=some (.int .i64 k)) (E:q<far.length):
  Calls Tryz.prog 115 #[.int .i64 (q:Int),.pointer (some ⟨g4,0,none⟩),.pointer (some ⟨g10,0,none⟩)] w (Ret fun r w'=>r=.bool (!decide (far.getD q (-1)=k))∧Below w.heap.size w w'):=by
 obtain⟨x,y⟩:=An E
 obtain⟨b,M,rfl,-,J⟩:=EZ hS y
 have F:=z.cell
 have I:=hide (getD_some (d:=(-1:Int)) y)
 have G:=hS.1
 obtain⟨n,C⟩:∃n,n=far.length:=⟨_,rfl⟩
 rw [←C] at F E G
 clear hS z y C
 go_enter Tryz.func115,Tryz.ntmps115
 go_wp2_with fail
 refine Reg.cP [0,0,3,7,0,31,63] ?_
 go_wp2_with fail
 go_ret
 rw [I.out]
 exact⟨by by_cases h:x=k <;> simp [h,bne],Ap w⟩
theorem Nu {w:World} {g4 g10 B c q k:Nat} {A:Option Addr} {far:List Int} (z:Blk w g4 24 #[.slice A far.length c]) (hS:Sl w B 1 Ai A far) (hk:w.cell? ⟨g10,0,none⟩=some (.int .i64 ((k:Int)+1))) (O:k≤4000000) (F:q<far.length):
  Calls Tryz.prog 116 #[.int .i64 (q:Int),.pointer (some ⟨g4,0,none⟩),.pointer (some ⟨g10,0,none⟩)] w (Ret fun r w'=>r=.bool (!decide (far.getD q (-1)=(k:Int)))∧Below w.heap.size w w'):=by
 obtain⟨x,y⟩:=An F
 obtain⟨b,V,rfl,-,M⟩:=EZ hS y
 have G:=z.cell
 have J:=hide (getD_some (d:=(-1:Int)) y)
 have I:=hS.1
 obtain⟨n,E⟩:∃n,n=far.length:=⟨_,rfl⟩
 rw [←E] at G F I
 have U:(k:Int)+1 - 1=(k:Int):=by omega
 clear hS z y E
 go_enter Tryz.func116,Tryz.ntmps116
 go_wp2_with fail
 refine Reg.cN [0,0,3,7,0,16,63,127] ?_
 intro Qf C
 go_wp2_with fail
 first | refine C _ _ ⟨rfl,?_⟩ | refine⟨rfl,?_⟩ | trace_state
 try clear C
 go_wp2_with fail
 go_ret
 rw [J.out]
 exact⟨by by_cases h:x=(k:Int) <;> simp [h,bne],Ap w⟩
end Go.Proofs.YtfcfpoemojjglaaGreatDoor
namespace Go.Proofs.YtfcfpoemojjglaaGreatDoor
open Go.RowKit
set_option maxHeartbeats 16000000
set_option maxRecDepth 100000
theorem Cu {w:World} {l:List Nat} {A:Option Addr} {c F B g4 g10:Nat} {p:Nat→Bool} (h:Sl w B 1 Ai A (Ak l)) (hB:B≤w.heap.size) (hl:l.length≤4000000) (hF:F=115∨F=116)
  (Z:∀q∈l,∀w',Below w.heap.size w w'→Calls Tryz.prog F #[.int .i64 (q:Int),.pointer (some ⟨g4,0,none⟩),.pointer (some ⟨g10,0,none⟩)] w' (Ret fun r w''=>r=.bool (p q)∧Below w'.heap.size w' w'')):
  Calls Tryz.prog 107 #[.slice A l.length c,.func (.func F) #[] #[.pointer (some ⟨g4,0,none⟩),.pointer (some ⟨g10,0,none⟩)]] w (Ret fun r w'=>Below w.heap.size w w'∧((∃k q:Nat,l[k]?=some q∧r=.int .i64 (k:Int)∧(∀q∈l.take k,p q=false)∧p q=true)∨(r=.int .i64 (-1)∧∀q∈l,p q=false))):=by
 have hH:=hide h
 have a8:=hide Z
 obtain⟨n,G⟩:∃n,n=l.length:=⟨_,rfl⟩
 have W:=hide G
 rw [←G] at hl ⊢
 clear h Z G
 rcases hF with rfl | rfl
 all_goals
  go_enter Tryz.func107,Tryz.ntmps107
  go_wp2_with fail
  go_loopw [8] (fun J wr=>∃k:Nat,J=.int .i64 (k:Int)∧k≤n∧Below w.heap.size w wr∧Hid (∀q∈l.take k,p q=false)) (fun J _=>n - (intOf J).toNat)
  case atStart=>exact⟨0,rfl,Nat.zero_le _,Below.refl _ _,hide (by simp)⟩
  case round=>
   obtain⟨k,rfl,hk,z,I⟩:=hrel
   by_cases a5:k<n
   ·obtain⟨q,E⟩:=An (l:=l) (i:=k) (by rw [←W.out]; exact a5)
    obtain⟨b,aa,rfl,hb,U⟩:=Ex hH.out E
    have hc:wr.cell? ⟨b,aa+k,none⟩=some (.int .i64 (q:Int)):=(z.cell (by show b<_; omega)).trans U
    have V:=a8.out q (List.mem_of_getElem? E) wr z
    have a2:=hide E
    clear E U
    go_wp2_with fail
    refine Calls.ret V ?_
    rintro r w2 ⟨rfl,O⟩
    have M:=z.trans (O.mono z.size)
    clear V O
    rcases C:p q with _ | _
    ·have a7:=hide (show ∀s∈l.take (k+1),p s=false from fun s y=>by
      rw [B5 a2.out] at y
      rcases List.mem_append.1 y with y | y
      ·exact I.out s y
      ·rw [List.mem_singleton.1 y]; exact C)
     clear C
     go_wp2_with fail
     exact⟨⟨k+1,by go_num,by omega,M,a7⟩,by simp [intOf]; omega⟩
    ·have a9:=hide C
     clear C
     go_wp2_with fail
     go_ret
     exact⟨M,.inl ⟨k,q,a2.out,rfl,I.out,a9.out⟩⟩
   ·obtain rfl:k=n:=by omega
    go_wp2_with fail
    go_ret
    refine⟨z,.inr ⟨rfl,?_⟩⟩
    have:=I.out
    rwa [W.out,List.take_length] at this
end Go.Proofs.YtfcfpoemojjglaaGreatDoor
namespace Go.Proofs.YtfcfpoemojjglaaGreatDoor
open Go.RowKit
set_option maxHeartbeats 16000000
set_option maxRecDepth 100000
theorem S0 {w:World} {g k:Nat} {y:Array Value} {e:TypeId} {u:Value} (h:w.heap[g]?=some (.cells y e (0,0))):(w.setCell ⟨g,k,none⟩ u).heap[g]?=some (.cells (y.setIfInBounds k u) e (0,0)):=
 Blk.set_ (t:=e) h k u
theorem Kd {w:World} {base n g z k:Nat} {e:TypeId} {xs:List Value} (h:w.ownsRow base e 1 (.slice (some ⟨g,0,none⟩) n z) n xs) (O:k<n) (u:Value):
  (w.setCell ⟨g,k,none⟩ u).ownsRow base e 1 (.slice (some ⟨g,0,none⟩) n z) n (xs.set k u):=by
 refine⟨by simpa using h.1,.inr ?_⟩
 rcases h.2 with⟨C,_⟩ | ⟨W,U,V,C,I,M,h1,F,G,E⟩
 ·cases C
 ·injection C with y _ J
  injection y with y
  injection y with y
  subst y J
  exact⟨g,z,_,rfl,I,S0 M,h1,F,by simpa using G,by rw [Nat.mul_one] at E ⊢; simp [List.take_set,E]⟩
theorem HQ {w:World} {base n g y k:Nat} {e:TypeId} {xs:List Value} {u:Value} (h:w.ownsRow base e 1 (.slice (some ⟨g,0,none⟩) n y) n xs) (hk:xs[k]?=some u):w.cell? ⟨g,k,none⟩=some u:=by
 obtain⟨F,E,C,z⟩:=C7 h hk
 cases C
 exact z
theorem Ka {w:World} {base n g C size:Nat} {e:TypeId} {xs:List Value} (h:w.ownsRow base e size (.slice (some ⟨g,0,none⟩) n C) n xs) (k:Nat):w.frozen? ⟨g,k,none⟩=false:=by
 rcases h.2 with⟨z,_⟩ | ⟨I,F,G,z,J,E,_⟩
 ·cases z
 ·injection z with y _ _
  injection y with y
  injection y with y
  subst y
  exact Blk.frozen (t:=e) E k
theorem Ke {base n g z:Nat} {e:TypeId}:∀(vs:List Value) (o:Nat) (w:World) (xs:List Value),w.ownsRow base e 1 (.slice (some ⟨g,0,none⟩) n z) n xs→o+vs.length≤n→
  ∃y,(w.setCells g o vs).ownsRow base e 1 (.slice (some ⟨g,0,none⟩) n z) n y∧y.take o=xs.take o∧Ac w (w.setCells g o vs) (fun k=>k=g)
 | [],o,w,xs,h,_=>⟨xs,h,rfl,Ac.refl _ _⟩
 | v::vs,o,w,xs,h,hl=>by
  rw [List.length_cons] at hl
  have h1:=Kd h (k:=o) (by omega) v
  obtain⟨y,C,E,F⟩:=Ke vs (o+1) _ _ h1 (by omega)
  refine⟨y,C,?_,((Ac.refl w (fun k=>k=g)).setCell (p:=⟨g,o,none⟩) (fun _=>rfl) v).trans F fun _ _ e=>e⟩
  have:=congrArg (List.take o) E
  rw [List.take_take,List.take_take,Nat.min_eq_left (by omega)] at this
  rw [this,List.take_set_of_le (Nat.le_refl o)]
structure Gh (w:World) (base g n c:Nat) (p:Nat→Bool) (l:List Nat) (i j:Nat) (xs:List Nat):Prop where
 own:w.ownsRow base 3 1 (.slice (some ⟨g,0,none⟩) n c) n ((Ak xs).map (Value.int .i64))
 len:xs.length=n
 pre:xs.take i=(l.take j).filter (fun q=>!p q)
 num:i=((l.take j).filter (fun q=>!p q)).length
 rest:∀s,j≤s→xs[s]?=l[s]?
theorem Nj {w:World} {l:List Nat} {base g c F g4 g10:Nat} {p:Nat→Bool} (h:w.ownsRow base 3 1 (.slice (some ⟨g,0,none⟩) l.length c) l.length ((Ak l).map (Value.int .i64))) (hl:l.length≤4000000) (hF:F=115∨F=116)
  (hp:∀q∈l,∀w',Ac w w' (fun k=>k=g)→Calls Tryz.prog F #[.int .i64 (q:Int),.pointer (some ⟨g4,0,none⟩),.pointer (some ⟨g10,0,none⟩)] w' (Ret fun r w''=>r=.bool (p q)∧Below w'.heap.size w' w'')):
  Calls Tryz.prog 114 #[.slice (some ⟨g,0,none⟩) l.length c,.func (.func F) #[] #[.pointer (some ⟨g4,0,none⟩),.pointer (some ⟨g10,0,none⟩)]] w (Ret fun r w'=>Ac w w' (fun k=>k=g)∧r=.slice (some ⟨g,0,none⟩) (l.filter fun q=>!p q).length c∧w'.ownsRow base 3 1 r (l.filter fun q=>!p q).length ((Ak (l.filter fun q=>!p q)).map (Value.int .i64))):=by
 have a5:Calls Tryz.prog 107 #[.slice (some ⟨g,0,none⟩) l.length c,.func (.func F) #[] #[.pointer (some ⟨g4,0,none⟩),.pointer (some ⟨g10,0,none⟩)]] w (Ret fun r w'=>Below w.heap.size w w'∧((∃k q:Nat,l[k]?=some q∧r=.int .i64 (k:Int)∧(∀q∈l.take k,p q=false)∧p q=true)∨(r=.int .i64 (-1)∧∀q∈l,p q=false))):=by
  obtain⟨A,c',e,hS⟩:=B8 h (by simp [Ak]) (Nat.le_refl _) (by omega)
  injection e with e1 e2 e3
  subst e1
  exact Cu hS (Nat.le_refl _) hl hF fun q z w' hb=>hp q z w' (Ac.of_below hb _)
 have hH:=hide h
 have aE:=hide hp
 obtain⟨n,hn⟩:∃n,n=l.length:=⟨_,rfl⟩
 have E:=hide hn
 rw [←hn] at hl a5 ⊢
 clear h hp hn
 rcases hF with rfl | rfl
 all_goals
  go_enter Tryz.func114,Tryz.ntmps114
  go_wp2_with fail
  refine Calls.ret a5 ?_
  rintro r w1 ⟨Z,hr⟩
  have aj:=Ac.of_below Z (fun k=>k=g)
  have W:=hide (Bt hH.out Z)
  clear a5 Z
  rcases hr with⟨k,q,z,rfl,M,G⟩ | ⟨rfl,M⟩
  ·have aW:k<n:=by rw [E.out]; exact AP z
   have a3:(l.take (k+1)).filter (fun q=>!p q)=l.take k:=by
    rw [B5 z,List.filter_append,List.filter_eq_self.2 (fun q z=>by rw [M q z]; rfl)]
    simp [G]
   have aw:=hide (show Gh w1 base g n c p l k (k+1) l from
    ⟨by rw [E.out]; exact W.out,E.out.symm,a3.symm,by rw [a3,List.length_take]; have:=E.out; omega,fun _ _=>rfl⟩)
   clear z M G a3 W
   have aD:((k:Int)==-1)=false:=by
    rw [beq_eq_false_iff_ne]
    omega
   go_wp2_with fail
   clear aD
   go_loopw [5,6] (fun ii jj wr=>∃(i j:Nat) (xs:List Nat),ii=.int .i64 (i:Int)∧jj=.int .i64 (j:Int)∧i<j∧j≤n∧Ac w wr (fun k=>k=g)∧Hid (Gh wr base g n c p l i j xs)) (fun _ jj _=>n - (intOf jj).toNat)
   case atStart=>exact⟨k,k+1,l,rfl,by go_num,by omega,by omega,aj,aw⟩
   case round=>
    obtain⟨i,j,xs,rfl,rfl,aU,aV,U,hI⟩:=hrel
    obtain⟨C,aq,ar,O,ab⟩:=hI.out
    by_cases aA:j<n
    ·obtain⟨q,z⟩:=An (l:=l) (i:=j) (by rw [←E.out]; exact aA)
     have ap:xs[j]?=some q:=by rw [ab j (Nat.le_refl _),z]
     have aQ:=HQ C (AX (f:=Value.int .i64) (AX (f:=fun x:Nat=>(x:Int)) ap))
     have ah:=aE.out q (List.mem_of_getElem? z) wr U
     have ao:=hide z
     clear C aq ar O ab z ap
     go_wp2_with fail
     refine Calls.ret ah ?_
     rintro r w2 ⟨rfl,a2⟩
     have ak:=U.trans (Ac.of_below a2 (fun k=>k=g)) (fun _ _ e=>e)
     have I:=Bt hI.out.own a2
     clear ah a2
     have aY:=U.size
     have O:=hI.out.num
     have aR:=HQ (k:=i) I (u:=.int .i64 (xs.getD i 0:Int)) (by
      obtain⟨y,V⟩:=An (l:=xs) (i:=i) (by rw [hI.out.len]; omega)
      rw [getD_some V]
      exact AX (f:=Value.int .i64) (AX (f:=fun x:Nat=>(x:Int)) V))
     have aS:=Ka I i
     have aX:=Cj I (k:=g) rfl
     have af:=hide I
     clear I O
     rcases G:p q with _ | _
     ·have a9:=hide (show Gh (w2.setCell ⟨g,i,none⟩ (.int .i64 (q:Int))) base g n c p l (i+1) (j+1) (xs.set i q) from by
       have J:(l.take (j+1)).filter (fun q=>!p q)=(l.take j).filter (fun q=>!p q)++[q]:=by
        rw [B5 ao.out,List.filter_append]
        simp [G]
       have az:i<xs.length:=by rw [hI.out.len]; omega
       refine⟨?_,by rw [List.length_set]; exact hI.out.len,?_,?_,fun s hs=>?_⟩
       ·have:=Kd af.out (k:=i) (by omega) (.int .i64 (q:Int))
        rw [show(Ak (xs.set i q)).map (Value.int .i64)=((Ak xs).map (Value.int .i64)).set i (.int .i64 (q:Int)) from by simp [Ak,List.map_set]]
        exact this
       ·rw [J,←hI.out.pre,List.take_add_one,List.getElem?_set_self az,List.take_set_of_le (Nat.le_refl i)]
        rfl
       ·rw [J,List.length_append,←hI.out.num]; rfl
       ·rw [List.getElem?_set_ne (by omega)]
        exact hI.out.rest s (by omega))
      have aB:=ak.setCell (p:=⟨g,i,none⟩) (fun _=>rfl) (.int .i64 (q:Int))
      clear G
      go_wp2_with fail
      exact⟨⟨i+1,j+1,xs.set i q,by go_num,by go_num,by omega,by omega,aB,a9⟩,by simp [intOf]; omega⟩
     ·have a9:=hide (show Gh w2 base g n c p l i (j+1) xs from by
       have J:(l.take (j+1)).filter (fun q=>!p q)=(l.take j).filter (fun q=>!p q):=by
        rw [B5 ao.out,List.filter_append]
        simp [G]
       exact⟨af.out,hI.out.len,by rw [J]; exact hI.out.pre,by rw [J]; exact hI.out.num,fun s hs=>hI.out.rest s (by omega)⟩)
      clear G
      go_wp2_with fail
      exact⟨⟨i,j+1,xs,rfl,by go_num,by omega,by omega,ak,a9⟩,by simp [intOf]; omega⟩
    ·obtain rfl:j=n:=by omega
     have C:=hI.out.own
     have aP:∀ty,(Builtin.clear_ #[24] ty #[.slice (some ⟨g,i,none⟩) (j - i) (c - i)]).run Tryz.prog wr=.ok (.tuple #[]) (wr.setCells g i (List.replicate (j - i) (.int .i64 0))):=
      fun ty=>Lib.run_clear_slice wr 24 3 ty (.int .i64 0) Tryz.underlying24 Fa rfl rfl g i _ _ (by omega) (fun s hs=>by
       obtain⟨y,V⟩:=An (l:=xs) (i:=i+s) (by rw [hI.out.len]; omega)
       rw [HQ C (AX (f:=Value.int .i64) (AX (f:=fun x:Nat=>(x:Int)) V))]; rfl) (fun s hs=>Ka C _)
     obtain⟨aZ,ax,aG,aC⟩:=Ke (List.replicate (j - i) (.int .i64 0)) i wr _ C (by simp; omega)
     have aO:j≤c:=by
      rcases C.2 with⟨hv,_⟩ | ⟨g',aJ,aK,hv,hb,hh,h1,_⟩
      ·cases hv
      ·injection hv with _ _ e
       omega
     clear C aq ar O ab
     go_wp2_with fail
     go_ret
     have a4:=Kf ax (m:=i) (by omega)
     rw [Nat.mul_one,aG] at a4
     have an:=hI.out.pre
     have am:=hI.out.num
     rw [E.out,List.take_length] at an am
     rw [←List.map_take,show(Ak xs).take i=Ak (xs.take i) from by simp [Ak,List.map_take],an] at a4
     rw [←am]
     exact⟨U.trans aC fun _ _ e=>e,rfl,a4⟩
  ·have ai:(l.filter fun q=>!p q)=l:=List.filter_eq_self.2 fun q z=>by rw [M q z]; rfl
   have ay:=hide ai
   clear M ai
   go_wp2_with fail
   go_ret
   rw [ay.out]
   refine⟨aj,by rw [←E.out]; rfl,?_⟩
   show w1.ownsRow base 3 1 (.slice (some ⟨g,0,none⟩) n c) l.length _
   rw [E.out]
   exact W.out
end Go.Proofs.YtfcfpoemojjglaaGreatDoor
namespace Go.Proofs.YtfcfpoemojjglaaGreatDoor
open Go.RowKit
set_option maxHeartbeats 16000000
set_option maxRecDepth 100000
def Co (w:World) (base:Nat) (g o n c:Nat) (qs:List Nat):Prop:=
 base≤g∧qs.length=n∧n≤c∧∃cur:Array Value,Blk w g 3 cur∧o+c≤cur.size∧∀j q:Nat,qs[j]?=some q→cur[o+j]?=some (.int .i64 (q:Int))
theorem Co.of_own {w:World} {base g n c:Nat} {qs:List Nat} (h:w.ownsRow base 3 1 (.slice (some ⟨g,0,none⟩) n c) n ((Ak qs).map (Value.int .i64))):Co w base g 0 n c qs:=by
 rcases h.2 with⟨C,_⟩ | ⟨U,O,E,C,G,J,h1,V,W,F⟩
 ·cases C
 ·injection C with y _ I
  injection y with y
  injection y with y
  subst y I
  refine⟨G,by have:=h.1; simpa [Ak] using this,h1,E,J,by omega,fun j q M=>?_⟩
  have z:((Ak qs).map (Value.int .i64))[j]?=some (.int .i64 (q:Int)):=AX (AX (f:=fun x:Nat=>(x:Int)) M)
  rw [←F,List.getElem?_take] at z
  split at z
  ·simpa using z
  ·cases z
theorem Co.keep {w w':World} {base g o n c:Nat} {qs:List Nat} (h:Co w base g o n c qs) {X:Nat→Prop} (hk:Ac w w' X) (I:¬X g):Co w' base g o n c qs:=by
 obtain⟨h1,z,C,y,E,F,G⟩:=h
 exact⟨h1,z,C,y,E.kept hk I,F,G⟩
theorem Co.cell {w:World} {base g o n c:Nat} {qs:List Nat} (h:Co w base g o n c qs) {j q:Nat} (C:qs[j]?=some q):w.cell? ⟨g,o+j,none⟩=some (.int .i64 (q:Int)):=by
 obtain⟨h1,F,G,E,y,I,z⟩:=h
 rw [y.cell,z j q C]
theorem Co.tail {w:World} {base g o n c q:Nat} {qs:List Nat} (h:Co w base g o (n+1) c (q::qs)):Co w base g (o+1) n (c - 1) qs:=by
 obtain⟨h1,C,I,z,E,J,F⟩:=h
 refine⟨h1,by simpa using C,by omega,z,E,by omega,fun j y G=>?_⟩
 rw [show o+1+j=o+(j+1) by omega]
 exact F (j+1) y (by simpa using G)
theorem Co.room {w:World} {base g o n c q:Nat} {qs:List Nat} (h:Co w base g o n c qs) (U:n<c):Co (w.setCell ⟨g,o+n,none⟩ (.int .i64 (q:Int))) base g o (n+1) c (qs++[q]):=by
 obtain⟨h1,C,O,M,E,F,G⟩:=h
 refine⟨h1,by simp [C],by omega,_,E.set_ (o+n) _,by simpa using F,fun j y z=>?_⟩
 rw [Array.getElem?_setIfInBounds]
 by_cases I:j=n
 ·subst I
  rw [List.getElem?_append_right (by omega)] at z
  simp [C] at z
  rw [if_pos rfl,if_pos (by omega),z]
 ·have J:=AP z
  rw [List.length_append,List.length_singleton] at J
  rw [List.getElem?_append_left (by omega)] at z
  rw [if_neg (by omega)]
  exact G j y z
theorem Mc {P:Program} {ops:Array Oper} {rest:List Oper} {o:Oper} {a:Act} {Q:Exit→Act→World→Prop} {w:World} {x base:Nat} (R:Dd P 24 3 1) (a8:o.guard=none) (s y:Operand)
    (ho:o.op=.call { callee:=.builtin .append,args:=#[s,y],argTypes:=#[24,24] })
    (g F n c:Nat) (qs:List Nat) (hs:a.eval s=.slice (some ⟨g,F,none⟩) n c) (hq:Co w base g F n c qs) (M:Nat)
    (hx:a.eval y=.slice (some ⟨w.heap.size,0,none⟩) 1 M) (U:n+1≤4000000) (ar:base≤w.heap.size)
    (h:∀C Z c' w',Co w' base C Z (n+1) c' (qs++[x])→Ac w w' (fun k=>k=g)→(C=g∨w.heap.size≤C)→C<w'.heap.size→
      wpList P ops Q rest (a.put o.dst (.slice (some ⟨C,Z,none⟩) (n+1) c')) w'):
    wpList P ops Q (o::rest) a (w.alloc (.cells #[.int .i64 (x:Int)] 3)):=by
  obtain⟨i,z,bytes,hi,hz,ah,a7,ak,hb⟩:=R.info
  have O:Ac w (w.alloc (.cells #[.int .i64 (x:Int)] 3)) (fun k=>k=g):=(Ac.refl w _).alloc _
  obtain⟨q1,q2,q3,a4,q4,q5,q6⟩:=hq
  have J:=q4.kept ((Ac.refl w (fun _=>False)).alloc (.cells #[.int .i64 (x:Int)] 3)) id
  have W:Co (w.alloc (.cells #[.int .i64 (x:Int)] 3)) base g F n c qs:=⟨q1,q2,q3,a4,J,q5,q6⟩
  refine wpList_append_arg _ a8 s y 24 ho 3 i z 1 bytes R.ht hi hz ah a7 ak R.pos g F n c ((Ak qs).map (Value.int .i64)) hs (by simp [Ak,q2]) ?_ ⟨w.heap.size,0,none⟩ 1 M [.int .i64 (x:Int)] hx rfl ?_ (by simp [Value.oneCell']) ?_ (by unfold maxLen; omega) (Nat.le_trans (Nat.mul_le_mul U hb) (by decide)) ?_ ?_
  · intro j u E
    rw [List.getElem?_map] at E
    rcases I:qs[j]? with _ | q
    · simp [Ak,I] at E
    · have:u=.int .i64 (q:Int):=by simp [Ak,I] at E; exact E.symm
      rw [this]
      exact W.cell I
  · intro j u E
    have a5:(⟨w.heap.size,0,none⟩:Addr).add j=⟨w.heap.size,j,none⟩:=by unfold Addr.add; split <;> simp_all
    rw [a5,(Blk.new w 3 #[.int .i64 (x:Int)]).cell]
    simpa using E
  · intro hr j E
    have:j=0:=by simpa using E
    subst this
    refine⟨?_,J.frozen _⟩
    rw [J.cell,Array.getElem?_eq_getElem (by omega)]
    rfl
  · intro hr
    have af:=W.room (q:=x) (by omega)
    have:=h g F c ((w.alloc (.cells #[.int .i64 (x:Int)] 3)).setCell ⟨g,F+n,none⟩ (.int .i64 (x:Int))) af (O.setCell (p:=⟨g,F+n,none⟩) (fun _=>rfl) _) (.inl rfl) (by have:=q4.lt; simp; omega)
    rw [Nat.mul_one]
    exact this
  · intro hg v' w' V G
    have ab:Ac (w.alloc (.cells #[.int .i64 (x:Int)] 3)) w' (fun k=>k=g):=⟨G.os,G.tape,G.output,G.size,fun k hk U=>G.block k hk (by simp)⟩
    rcases V.2 with⟨rfl,h0⟩ | ⟨C,c',ap,rfl,aq,hh,_⟩
    · exact absurd h0 (by omega)
    · have av:w.heap.size<C:=by have:(w.alloc (.cells #[.int .i64 (x:Int)] 3)).heap.size=w.heap.size+1:=by simp
                                omega
      refine h C 0 c' w' (Co.of_own (base:=base) (DC ?_ (show base≤(w.alloc (.cells #[.int .i64 (x:Int)] 3)).heap.size by simp; omega))) (O.trans ab fun _ _ e=>e) (.inr (by omega)) (Array.getElem?_eq_some_iff.1 hh).1
      have e:(Ak (qs++[x])).map (Value.int .i64)=(Ak qs).map (Value.int .i64)++[.int .i64 (x:Int)]:=by rw [EM,List.map_append]; rfl
      rw [e]
      exact V
end Go.Proofs.YtfcfpoemojjglaaGreatDoor
