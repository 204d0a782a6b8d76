/-
  Part PJ of a proof.
-/
import Derived.ArgAppend
import Derived.Test.YtfcfpoemojjglaaGreatDoorPA
import Derived.Test.YtfcfpoemojjglaaGreatDoorPI
set_option maxHeartbeats 16000000
set_option maxRecDepth 100000
set_option linter.unusedVariables false
set_option linter.unusedSimpArgs false
namespace Go.Proofs.YtfcfpoemojjglaaGreatDoor
open Go.RowKit
set_option maxHeartbeats 16000000
set_option maxRecDepth 100000
def BL (ac:List Bool) (q:Nat):List Int:=Ak ((List.range q).filter fun j=>dac ac j)
theorem IL {ac:List Bool} {q:Nat} {b:Bool} (h:ac[q]?=some b):BL ac (q+1)=if b then BL ac q++[(q:Int)] else BL ac q:=by
 unfold BL
 rw [List.range_succ,List.filter_append]
 have:dac ac q=b:=getD_some h
 cases b <;> simp [this,Ak]
theorem Gn (ac:List Bool) (q:Nat):(BL ac q).length≤q:=by
 unfold BL
 have:=List.length_filter_le (fun j=>dac ac j) (List.range q)
 simpa [Ak] using this
def CX (t:List (List Nat)) (q k:Nat):List Edg:=(List.range k).map fun x:Nat=>⟨(q:Int),(x:Int),(dnx t q x:Int)⟩
theorem Sn (t:List (List Nat)) (q k:Nat):CX t q (k+1)=CX t q k++[⟨(q:Int),(k:Int),(dnx t q k:Int)⟩]:=by simp [CX,List.range_succ]
def BM (L:Nat) (t:List (List Nat)) (q:Nat):List Edg:=(List.range q).flatMap fun q=>CX t q L
theorem Ho (L:Nat) (t:List (List Nat)) (q:Nat):BM L t (q+1)=BM L t q++CX t q L:=by simp [BM,List.range_succ]
theorem FN (L:Nat) (t:List (List Nat)):∀q,(BM L t q).length=q*L
 | 0=>by simp [BM]
 | q+1=>by rw [Ho,List.length_append,FN L t q,Nat.succ_mul]; simp [CX]
def CK (w:World) (g:Nat) (v0 v1 v2 v3 v4:Value):World:=((((w.setCell ⟨g,0,none⟩ v0).setCell ⟨g,1,none⟩ v1).setCell ⟨g,2,none⟩ v2).setCell ⟨g,3,none⟩ v3).setCell ⟨g,4,none⟩ v4
theorem Dn {w:World} {g:Nat} {e:TypeId} {a0 a1 z C E:Value} (h:Blk w g e #[a0,a1,z,C,E]) (v0 v1 v2 v3 y:Value):∃wF,CK w g v0 v1 v2 v3 y=wF∧Blk wF g e #[v0,v1,v2,v3,y]∧Ac w wF (fun k=>k=g):=
 ⟨_,rfl,((((h.set_ 0 v0).set_ 1 v1).set_ 2 v2).set_ 3 v3).set_ 4 y,(((((Ac.refl w (fun k=>k=g)).setCell (p:=⟨g,0,none⟩) (fun _=>rfl) _).setCell (p:=⟨g,1,none⟩) (fun _=>rfl) _).setCell (p:=⟨g,2,none⟩) (fun _=>rfl) _).setCell (p:=⟨g,3,none⟩) (fun _=>rfl) _).setCell (p:=⟨g,4,none⟩) (fun _=>rfl) _⟩
theorem Mj (w:World) (cs:Array Value) (L n:Nat):∃g2 g4 g5 gs w1 w2 h y z,g2=w.heap.size∧g4=w1.heap.size∧gs=w2.heap.size∧g5=h.heap.size∧w.alloc (.cells cs 78)=w1∧w1.alloc (.cells BQ 35)=w2∧w2.alloc (.cells #[.int .i64 0] 3)=h∧h.alloc (.cells BQ 35)=y∧
  CK y g5 (.int .i64 (L:Int)) (.int .i64 (n:Int)) (.slice (some ⟨gs,0,none⟩) 1 1) sn0 sn0=z∧Blk w2 g2 78 cs∧Blk y g5 35 BQ∧AuM w z g2 g4 g5 gs cs L n sn0 sn0 [] []:=by
 obtain⟨w1,h1,U,I,ab⟩:=Ae w cs 78
 obtain⟨w2,h2,E,J,ad⟩:=Ae w1 BQ 35
 obtain⟨h,h3,G,M,ae⟩:=Ae w2 #[.int .i64 0] 3
 obtain⟨y,h4,V,O,af⟩:=Ae h BQ 35
 obtain⟨z,h5,a7,a8⟩:=Dn O (.int .i64 (L:Int)) (.int .i64 (n:Int)) (.slice (some ⟨w2.heap.size,0,none⟩) 1 1) sn0 sn0
 have W:=U.size
 have s2:=E.size
 have s3:=G.size
 have s4:=V.size
 have l1:=I.lt
 have l2:=J.lt
 have l3:=M.lt
 have Z:Below w.heap.size w h:=U.trans ((E.mono W).trans (G.mono (by omega)))
 have C:Below h.heap.size h z:=V.trans (a8.below s4 fun b hb e=>by omega)
 exact⟨_,_,_,_,w1,w2,h,y,z,rfl,rfl,rfl,rfl,h1,h2,h3,h4,h5,I.below E,O,
  ⟨Z.trans (C.mono (by omega)),((I.below E).below G).below C,(J.below G).below C,a7,M.below C,Cb,Cb,by simp [Value.ownBlock],by omega,⟨Nat.le_refl _,W,by omega,by omega⟩⟩⟩
theorem IV {w:World} {v:Value} {L:Nat} {t:List (List Nat)} {ac:List Bool} (h:Br w w.heap.size v t ac) (ao:DOK L t ac) (hL:L≤8) (hn:ac.length≤250000):
  Calls Tryz.prog 34 #[v,.int .i64 (L:Int)] w (Ret fun r w'=>Below w.heap.size w w'∧(∀w'',Ac w' w'' (fun k=>k<w.heap.size)→Bj w'' w''.heap.size r (AG L t ac))∧ED w' w.heap.size r (AG L t ac).edges):=by
 obtain⟨A1,c1,A2,c2,rfl,h1,h2⟩:=h
 obtain⟨g2,g4,g5,gs,w1,w2,J,w4,w5,bl,bm,bq,bo,aV,c4,c5,c6,aW,ak,a6,hQ⟩:=Mj w #[.slice A1 t.length c1,.slice A2 ac.length c2] L ac.length
 subst bl bm bq bo
 have aU:=ao.len
 rw [aU] at aV hQ ak ⊢
 have bg:=ak.cell
 have bW:=a6.frozen
 have bY:=a6.lt
 have bR:=a6.cell
 have bh:=hQ.b2.cell
 have ay:=hide (show AuM w w5 w.heap.size w1.heap.size J.heap.size w2.heap.size #[.slice A1 ac.length c1,.slice A2 ac.length c2] L ac.length sn0 sn0 (BL ac 0) (BM L t 0) from hQ)
 obtain⟨n,ae⟩:∃n,n=ac.length:=⟨_,rfl⟩
 have aK:=hide ae
 have bz:n≤250000:=by omega
 have b6:=hide h1
 have b7:=hide h2
 have bB:=hide ao
 have c3:=hQ.below.size
 rw [←ae] at aV ay bg bh aW
 unfold CK at aW
 clear h1 h2 ao aU hQ hn ak a6
 have bA:ac.length=n:=ae.symm
 clear ae
 rw [bA]
 go_enter Tryz.func34,Tryz.ntmps34
 go_wp2_with fail
 go_loopw [19] (fun G wr=>∃(q:Nat) (vA vE:Value),G=.int .i64 (q:Int)∧q≤n∧Hid (AuM w wr w.heap.size w1.heap.size J.heap.size w2.heap.size #[.slice A1 n c1,.slice A2 n c2] L n vA vE (BL ac q) (BM L t q))) (fun G _=>n - (intOf G).toNat)
 case atStart=>exact⟨0,_,_,rfl,Nat.zero_le _,ay⟩
 case round=>
  obtain⟨q,vA,vE,rfl,hq,hI⟩:=hrel
  by_cases bC:q<n
  ·have aO:q<ac.length:=by rw [←aK.out]; exact bC
   obtain⟨b,hb⟩:=An aO
   obtain⟨ba,oa,rfl,bd,aB⟩:=Fy b7.out hb
   obtain⟨bn,on,Ar,cr,row,rfl,be,aC,bF,aQ,aP,aR⟩:=Gt b6.out bB.out aO
   have bT:wr.cell? ⟨ba,oa+q,none⟩=some (.bool b):=(hI.out.below.cell bd).trans aB
   have bU:wr.cell? ⟨bn,on+q,none⟩=some (.slice Ar L cr):=(hI.out.below.cell be).trans aC
   obtain⟨M,O,rfl⟩:=AH hI.out.acc
   have aa:=Gn ac q
   have aS:=IL hb
   have aA:=hI.out.acc
   have bQ:=hI.out.b2.cell
   have am:=hI.out.b5.cell
   obtain⟨z,an⟩:∃z,z=(BL ac q).length:=⟨_,rfl⟩
   rw [←an] at aA am aa hI
   have bH:=hI.out.below.size
   have bD:=hide aP
   have bG:=hide aR
   have bE:=hide aQ
   have aT:=hide aS
   have bt:=hide an
   clear an hb aB aC bF aQ aP aR aS
   cases b
   all_goals
    first
    | (
      have av:=hide (show AuM w wr w.heap.size w1.heap.size J.heap.size w2.heap.size #[.slice (some ⟨bn,on,none⟩) n c1,.slice (some ⟨ba,oa,none⟩) n c2] L n (.slice M z O) vE (BL ac (q+1)) (BM L t q++CX t q 0) from by
       rw [aT.out]
       have e:BM L t q++CX t q 0=BM L t q:=by simp [CX]
       rw [e]
       exact hI.out)
      go_wp2_with fail)
    | (
      go_wp2_with (
       at_builtin
       refine BP (w:=wr) C9 rfl _ _ rfl w.heap.size (.slice M z O) z _ rfl aA [.int .i64 (q:Int)] 1 rfl rfl (by simp [Value.oneCell']) (by omega) bH ?_
       intro V U w7 Z I ad bp
       have E:=hI.out.b5.kept I (Aw hI.out.acc hI.out.b5 (by decide))
       have bi:=E.cell
       have bk:=E.frozen 3
       have bs:=E.lt
       have aj:=hI.out.addA I (by rw [←bt.out]; exact Z) ad
       obtain⟨w8,bJ⟩:∃w8,w7.setCell ⟨J.heap.size,3,none⟩ (.slice (some ⟨V,0,none⟩) (z+1) U)=w8:=⟨_,rfl⟩
       rw [bJ] at aj
       have av:=hide (show AuM w w8 w.heap.size w1.heap.size J.heap.size w2.heap.size #[.slice (some ⟨bn,on,none⟩) n c1,.slice (some ⟨ba,oa,none⟩) n c2] L n (.slice (some ⟨V,0,none⟩) (z+1) U) vE (BL ac (q+1)) (BM L t q++CX t q 0) from by
        rw [aT.out]
        have e:BM L t q++CX t q 0=BM L t q:=by simp [CX]
        rw [e]
        exact aj)
       clear Z I ad E aj))
    go_loopw [37] (fun G wz=>∃(x:Nat) (vA vE:Value),G=.int .i64 (x:Int)∧x≤L∧Hid (AuM w wz w.heap.size w1.heap.size J.heap.size w2.heap.size #[.slice (some ⟨bn,on,none⟩) n c1,.slice (some ⟨ba,oa,none⟩) n c2] L n vA vE (BL ac (q+1)) (BM L t q++CX t q x))) (fun G _=>L - (intOf G).toNat)
    case atStart=>exact⟨0,_,_,rfl,Nat.zero_le _,av⟩
    case round=>
     obtain⟨x,aY,bN,rfl,hx,C⟩:=hrel
     by_cases bK:x<L
     ·obtain⟨y,hy⟩:=An (l:=row) (i:=x) (by rw [bE.out]; exact bK)
      obtain⟨br,bM,rfl,bf,aD⟩:=Ex bD.out hy
      have bL:=hide (bG.out x y hy).2
      have bV:wr.cell? ⟨br,bM+x,none⟩=some (.int .i64 (y:Int)):=(C.out.below.cell bf).trans aD
      obtain⟨AE,cE,rfl⟩:=AH C.out.eds
      have bj:=C.out.b5.cell
      have aE:=C.out.eds
      obtain⟨m,hm⟩:∃m,m=(BM L t q++CX t q x).length:=⟨_,rfl⟩
      have bw:m+1≤4000000:=by
       have h1:q*L≤250000*8:=Nat.mul_le_mul (by omega) hL
       rw [hm,List.length_append,FN]
       simp [CX]
       omega
      rw [←hm] at bj aE
      have bI:=C.out.below.size
      have aJ:=hide hm
      clear hm hy aD
      go_wp2_with (
       at_builtin
       refine BP (w:=wr) Ga rfl _ _ rfl w.heap.size (.slice AE m cE) m _ rfl aE [.int .i64 (q:Int),.int .i64 (x:Int),.int .i64 (y:Int)] 1 rfl rfl (by simp [Value.oneCell']) bw bI ?_
       intro V U w7 Z I ad bp
       have a9:=I
       rw [aJ.out] at a9
       have E:=C.out.b5.kept a9 (Aw C.out.eds C.out.b5 (by decide))
       have bi:=E.cell
       have bk:=E.frozen 4
       have bs:=E.lt
       have b8:=hide (C.out.addE (d:=⟨(q:Int),(x:Int),(y:Int)⟩) (vE':=.slice (some ⟨V,0,none⟩) (m+1) U) a9 (by rw [←aJ.out]; exact Z))
       clear Z I a9 ad E)
      refine⟨⟨x+1,aY,.slice (some ⟨V,0,none⟩) (m+1) U,by go_num,by omega,?_⟩,by simp [intOf]; omega⟩
      rw [Sn,←List.append_assoc,bL.out]
      exact b8
     ·obtain rfl:x=L:=by omega
      have al:=C.out
      rw [←Ho] at al
      have b9:=hide al
      clear al
      go_wp2_with fail
      exact⟨⟨q+1,aY,bN,by go_num,by omega,b9⟩,by simp [intOf]; omega⟩
  ·obtain rfl:q=n:=by omega
   have aM:(⟨(L:Int),(q:Int),[0],BL ac q,BM L t q⟩:WA)=AG L t ac:=by rw [aK.out]; rfl
   have bv:=Gn ac q
   have aG:=FN L t q
   have bu:q*L≤250000*8:=Nat.mul_le_mul bz hL
   obtain⟨M,O,rfl⟩:=AH hI.out.acc
   obtain⟨AE,cE,rfl⟩:=AH hI.out.eds
   have W:=hI.out.b4
   have am:=hI.out.b5.cell
   have bX:=W.frozen
   have bZ:=W.lt
   have bS:=W.cell
   obtain⟨wF,aX,aw,a7⟩:=Dn W (.int .i64 (L:Int)) (.int .i64 (q:Int)) (.slice (some ⟨w2.heap.size,0,none⟩) 1 1) (.slice M (BL ac q).length O) (.slice AE (BM L t q).length cE)
   have ax:=aw.cell
   have bb:=hide (hI.out.below.trans (a7.below hI.out.below.size fun b hb e=>by have:=hI.out.ge; omega))
   have aF:=hide (fun w'' (hk:Ac wF w'' (fun k=>k<w.heap.size))=>hI.out.fin ((a7.mono fun _ _ e=>.inl e).trans hk fun _ _ e=>.inr e) (by omega) (by rw [aG]; omega))
   have aL:=hide (hI.out.finO a7)
   have aN:=hide aM
   unfold CK at aX
   obtain⟨z,aa⟩:∃z,z=(BL ac q).length:=⟨_,rfl⟩
   obtain⟨aq,aH⟩:∃aq,aq=(BM L t q).length:=⟨_,rfl⟩
   rw [←aa,←aH] at aX ax aF aL am
   clear W aw a7 aa aH bv aG bu aM hI
   go_wp2_with fail
   refine bodyPost_ret (v:=.agg #[.int .i64 (L:Int),.int .i64 (q:Int),.slice (some ⟨w2.heap.size,0,none⟩) 1 1,.slice M z O,.slice AE aq cE]) (by simp [results,Tryz.results34,go_sem,ax]) rfl ⟨bb.out,?_,?_⟩
   ·have:=aF.out
    rw [aN.out] at this
    exact this
   ·rw [←aN.out]
    exact aL.out
theorem Mk {w:World} {v:Value} {L:Nat} {t:List (List Nat)} {ac:List Bool} (h:Br w w.heap.size v t ac) (G:DOK L t ac) (z:L≤8) (E:ac.length≤250000):
  Calls Tryz.prog 34 #[v,.int .i64 (L:Int)] w (Ret fun r w'=>Below w.heap.size w w'∧∀w'',Ac w' w'' (fun k=>k<w.heap.size)→Bj w'' w''.heap.size r (AG L t ac)):=by
 refine Calls.ret (IV h G z E) ?_
 rintro r w' ⟨C,y,-⟩
 exact⟨C,y⟩
end Go.Proofs.YtfcfpoemojjglaaGreatDoor
namespace Go.Proofs.YtfcfpoemojjglaaGreatDoor
open Go.RowKit
set_option maxHeartbeats 16000000
set_option maxRecDepth 100000
def LT (w:World) (a:WA) (v:Value) (w':World):Prop:=
 Below w.heap.size w w'∧((a.ok=false∧v=.tuple #[.agg BQ,.int .i64 1])∨(a.ok=true∧a.nf.Large 400∧v=.tuple #[.agg BQ,.int .i64 4])∨
  (a.ok=true∧¬a.nf.Large 400∧∃t ac d,BH a.L t ac a.lang∧ac.length≤400∧v=.tuple #[d,.int .i64 0]∧∀w'',Ac w' w'' (fun k=>k<w.heap.size)→Bj w'' w''.heap.size d (AG a.L t ac)))
def LU (w:World) (a:WA) (v:Value) (w':World):Prop:=
 Below w.heap.size w w'∧((a.ok=false∧v=.tuple #[.agg BQ,.int .i64 1])∨(a.ok=true∧a.nf.Large 400∧v=.tuple #[.agg BQ,.int .i64 4])∨
  (a.ok=true∧¬a.nf.Large 400∧∃t ac d,BH a.L t ac a.lang∧ac.length≤400∧v=.tuple #[d,.int .i64 0]∧(∀w'',Ac w' w'' (fun k=>k<w.heap.size)→Bj w'' w''.heap.size d (AG a.L t ac))∧ED w' w.heap.size d (AG a.L t ac).edges))
theorem RY {v:Value} {a:WA} {w:World} (h:Bj w w.heap.size v a) (he:a.edges.length≤3000000) (aA:a.start.length≤4000000) (hT:BV w):
  Calls Tryz.prog 30 #[v] w (Ret fun r w'=>LU w a r w'):=by
 have aT:=hide h
 obtain⟨A1,c1,A2,c2,A3,c3,rfl,h1,h2,h3,h4⟩:=h
 obtain⟨w1,bw,al,a5,aY⟩:=Ae w #[.int .i64 a.letters,.int .i64 a.states,.slice A1 a.start.length c1,.slice A2 a.accept.length c2,.slice A3 a.edges.length c3] 35
 obtain⟨w2,bP,ad,aq,aZ⟩:=Ae w1 BQ 35
 have bu:=al.size
 have ak:Below w.heap.size w w2:=al.trans (ad.mono bu)
 have az:=ak.size
 have aM:=hide (a5.below ad)
 have bn:=(a5.below ad).cell
 have bI:=a5.lt
 have hR:=hide aq
 have Z:=Iv (aT.out.keep (fun p hp=>ak.cell hp) az)
 cases J:a.ok
 ·rw [J,show De false=1 from rfl] at Z
  have an:=hide J
  clear h1 h2 h3 h4 aY aZ al ad a5 aq he aA hT J
  go_enter Tryz.func30,Tryz.ntmps30
  go_wp2_with fail
  refine Calls.ret Z ?_
  rintro r w3 ⟨rfl,I⟩
  have U:=hR.out.below I
  have bD:=U.frozen
  have bJ:=U.lt
  have bo:=U.cell
  obtain⟨wF,ah,C,y⟩:=Dn U (.int .i64 0) (.int .i64 0) sn0 sn0 sn0
  have a6:=C.cell
  have W:=ak.trans (I.mono az)
  have af:=hide (W.trans (y.below W.size fun b G e=>by omega))
  unfold CK at ah
  clear Z I U C y W
  go_wp2_with fail
  refine bodyPost_ret (v:=.tuple #[.agg BQ,.int .i64 1]) (by simp [results,Tryz.results30,go_sem,a6]) rfl ⟨af.out,.inl ⟨an.out,rfl⟩⟩
 ·rw [J,show De true=0 from rfl] at Z
  have aX:=(WA.ok_iff.1 J).2
  have bm:=(WA.ok_iff.1 J).1
  have aQ:a.letters=(a.L:Int):=by unfold WA.L; omega
  have bi:a.L≤8:=by unfold WA.L; omega
  have aW:=hide (fun(wx:World) (G:Below w.heap.size w wx)=>MN (aT.out.keep (w':=wx) (fun p hp=>G.cell hp) G.size) aX ⟨by omega,by omega⟩ ⟨by omega,by omega⟩ he aA (hT.below G))
  have bl:=hide (fun(wx:World) (d:Value) (t:List (List Nat)) (ac:List Bool) (hI:Br wx wx.heap.size d t ac) (hC:BH a.L t ac a.lang) (hl:ac.length≤400)=>IV hI hC.ok bi (by omega))
  have an:=hide J
  rw [aQ] at bw bn aM aW Z ⊢
  clear h1 h2 h3 h4 aY aZ al ad a5 aq he aA hT J aX bm aQ
  go_enter Tryz.func30,Tryz.ntmps30
  go_wp2_with fail
  refine Calls.ret Z ?_
  rintro r w3 ⟨rfl,I⟩
  have W:=ak.trans (I.mono az)
  have aN:=hide (aM.out.below I)
  have U:=hide (hR.out.below I)
  have bo:=aN.out.cell
  clear Z I
  go_wp2_with fail
  refine Calls.ret (aW.out _ W) ?_
  rintro r w4 ⟨ae,hr⟩
  have ab:=W.trans (ae.mono W.size)
  have ar:=aN.out.below ae
  have a9:=U.out.below ae
  have b4:=ab.size
  have bK:=a9.lt
  obtain⟨w5,bQ,a3,M,b0⟩:=Ae w4 #[sn0,sn0] 78
  have bE:=M.frozen
  have bL:=M.lt
  have bA:=M.cell
  rcases hr with⟨aP,rfl⟩ | ⟨b3,t,ac,d,hC,aw,rfl,aO⟩
  ·obtain⟨w6,ao,aj,a8⟩:=Dm M sn0 sn0
   have z:Below w4.heap.size w4 w6:=a3.trans (a8.below a3.size fun b G e=>by omega)
   have a2:=ab.trans (z.mono b4)
   have V:=a9.below z
   have bF:=V.frozen
   have bM:=V.lt
   have aV:=V.cell
   obtain⟨wF,ah,C,y⟩:=Dn V (.int .i64 0) (.int .i64 0) sn0 sn0 sn0
   have a6:=C.cell
   have af:=hide (a2.trans (y.below a2.size fun b G e=>by omega))
   have bj:=hide aP
   unfold CK at ah
   unfold CY at ao
   clear aP ae ar a9 M b0 a3 aj a8 z a2 V C y ab
   go_wp2_with fail
   refine bodyPost_ret (v:=.tuple #[.agg BQ,.int .i64 4]) (by simp [results,Tryz.results30,go_sem,a6]) rfl ⟨af.out,.inr (.inl ⟨an.out,bj.out,rfl⟩)⟩
  ·have au:=aO w4 (Ac.refl _ _)
   have bh:=au
   obtain⟨A7,c7,A8,c8,rfl,-,-⟩:=bh
   obtain⟨w6,ao,aj,a8⟩:=Dm M (.slice A7 t.length c7) (.slice A8 ac.length c8)
   have z:Below w4.heap.size w4 w6:=a3.trans (a8.below a3.size fun b G e=>by omega)
   have a2:=ab.trans (z.mono b4)
   have bv:=z.size
   have ax:=bl.out w6 _ t ac (au.keep (fun p hp=>z.cell hp) bv) hC aw
   have V:=hide (a9.below z)
   have aV:=aj.cell
   have bC:=(ar.below z).cell
   have bq:=hide b3
   have bg:=hide hC
   have bk:=hide aw
   have aU:=hide a2
   unfold CY at ao
   obtain⟨lr,b2⟩:∃lr,lr=t.length:=⟨_,rfl⟩
   obtain⟨la,b1⟩:∃la,la=ac.length:=⟨_,rfl⟩
   rw [←b2,←b1] at ao aV ax ⊢
   clear b3 hC aw aO au ae ar a9 M b0 a3 aj a8 z a2 ab b2 b1
   go_wp2_with fail
   refine Calls.ret ax ?_
   rintro d w7 ⟨am,E,aR⟩
   obtain⟨aB,aE,aC,aF,aD,aG,rfl,-,-,-,-⟩:=E w7 (Ac.refl _ _)
   have aa:=V.out.below am
   have bG:=aa.frozen
   have bN:=aa.lt
   have bB:=aa.cell
   have bO:=am.size
   have bt:=aU.out.size
   have O:=aR
   clear aR
   generalize (AG a.L t ac).letters=x0 at E O ⊢
   generalize (AG a.L t ac).states=x1 at E O ⊢
   generalize (AG a.L t ac).start.length=n1 at E O ⊢
   generalize (AG a.L t ac).accept.length=n2 at E O ⊢
   generalize (AG a.L t ac).edges.length=n3 at E O ⊢
   obtain⟨wF,ah,C,y⟩:=Dn aa (.int .i64 x0) (.int .i64 x1) (.slice aB n1 aE) (.slice aC n2 aF) (.slice aD n3 aG)
   have a6:=C.cell
   have af:=hide ((aU.out.trans (am.mono bt)).trans (y.below (by omega) fun b G e=>by omega))
   have bp:=hide (fun w'' (hk:Ac wF w'' (fun k=>k<w.heap.size))=>E w'' ((y.mono (fun b _ e=>by omega)).trans hk (fun b _ e=>by omega)))
   have br:=hide (O.kept (base':=w.heap.size) y (fun g (e:g=_) _=>by omega) (by omega))
   unfold CK at ah
   clear ax E O aa C y am
   go_wp2_with fail
   refine bodyPost_ret (v:=.tuple #[.agg #[.int .i64 x0,.int .i64 x1,.slice aB n1 aE,.slice aC n2 aF,.slice aD n3 aG],.int .i64 0]) (by simp [results,Tryz.results30,go_sem,a6]) rfl ⟨af.out,.inr (.inr ⟨an.out,bq.out,t,ac,_,bg.out,bk.out,rfl,bp.out,br.out⟩)⟩
theorem RX {v:Value} {a:WA} {w:World} (h:Bj w w.heap.size v a) (O:a.edges.length≤3000000) (U:a.start.length≤4000000) (M:BV w):
  Calls Tryz.prog 30 #[v] w (Ret fun r w'=>LT w a r w'):=by
 refine Calls.ret (RY h O U M) ?_
 rintro r w' ⟨z,y | y | ⟨y,C,t,ac,d,E,G,I,J,-⟩⟩
 ·exact⟨z,.inl y⟩
 ·exact⟨z,.inr (.inl y)⟩
 ·exact⟨z,.inr (.inr ⟨y,C,t,ac,d,E,G,I,J⟩)⟩
end Go.Proofs.YtfcfpoemojjglaaGreatDoor
namespace Go.Proofs.YtfcfpoemojjglaaGreatDoor
open Go.RowKit
set_option maxHeartbeats 16000000
set_option maxRecDepth 100000
theorem EZ {w:World} {B:Nat} {A:Option Addr} {l:List Int} (h:Sl w B 1 Ai A l) {i:Nat} {x:Int} (z:l[i]?=some x):∃b y,A=some ⟨b,y,none⟩∧b<B∧w.cell? ⟨b,y+i,none⟩=some (.int .i64 x):=by
 obtain⟨b,y,e,C,E⟩:=h.2 (by
  intro e
  rw [e] at z
  simp at z)
 have:=E i x z 0 (by omega)
 exact⟨b,y,e,C,by simpa [Ai] using this⟩
theorem Nt {w:World} {g4 g10 B c q:Nat} {A:Option Addr} {far:List Int} {k:Int} (z:Blk w g4 24 #[.slice A far.length c]) (hS:Sl w B 1 Ai A far) (hk:w.cell? ⟨g10,0,none⟩=some (.int .i64 k)) (E:q<far.length):
  Calls Tryz.prog 115 #[.int .i64 (q:Int),.pointer (some ⟨g4,0,none⟩),.pointer (some ⟨g10,0,none⟩)] w (Ret fun r w'=>r=.bool (!decide (far.getD q (-1)=k))∧Below w.heap.size w w'):=by
 obtain⟨x,y⟩:=An E
 obtain⟨b,O,rfl,-,M⟩:=EZ hS y
 have G:=z.cell
 have J:=hide (getD_some (d:=(-1:Int)) y)
 have I:=hS.1
 obtain⟨n,C⟩:∃n,n=far.length:=⟨_,rfl⟩
 rw [←C] at G E I
 clear hS z y C
 go_enter Tryz.func115,Tryz.ntmps115
 go_wp2_with fail
 refine Reg.cP [0,0,3,7,0,31,63] ?_
 go_wp2_with fail
 go_ret
 rw [J.out]
 exact⟨by by_cases h:x=k <;> simp [h,bne],Ap w⟩
theorem Nu {w:World} {g4 g10 B c q k:Nat} {A:Option Addr} {far:List Int} (z:Blk w g4 24 #[.slice A far.length c]) (hS:Sl w B 1 Ai A far) (hk:w.cell? ⟨g10,0,none⟩=some (.int .i64 ((k:Int)+1))) (U:k≤4000000) (G:q<far.length):
  Calls Tryz.prog 116 #[.int .i64 (q:Int),.pointer (some ⟨g4,0,none⟩),.pointer (some ⟨g10,0,none⟩)] w (Ret fun r w'=>r=.bool (!decide (far.getD q (-1)=(k:Int)))∧Below w.heap.size w w'):=by
 obtain⟨x,y⟩:=An G
 obtain⟨b,W,rfl,-,O⟩:=EZ hS y
 have I:=z.cell
 have M:=hide (getD_some (d:=(-1:Int)) y)
 have J:=hS.1
 obtain⟨n,E⟩:∃n,n=far.length:=⟨_,rfl⟩
 rw [←E] at I G J
 have V:(k:Int)+1 - 1=(k:Int):=by omega
 clear hS z y E
 go_enter Tryz.func116,Tryz.ntmps116
 go_wp2_with fail
 refine Reg.cN [0,0,3,7,0,16,63,127] ?_
 intro Qf C
 go_wp2_with fail
 first | refine C _ _ ⟨rfl,?_⟩ | refine⟨rfl,?_⟩ | trace_state
 try clear C
 go_wp2_with fail
 go_ret
 rw [M.out]
 exact⟨by by_cases h:x=(k:Int) <;> simp [h,bne],Ap w⟩
end Go.Proofs.YtfcfpoemojjglaaGreatDoor
namespace Go.Proofs.YtfcfpoemojjglaaGreatDoor
open Go.RowKit
set_option maxHeartbeats 16000000
set_option maxRecDepth 100000
theorem Cu {w:World} {l:List Nat} {A:Option Addr} {c F B g4 g10:Nat} {p:Nat→Bool} (h:Sl w B 1 Ai A (Ak l)) (hB:B≤w.heap.size) (hl:l.length≤4000000) (hF:F=115∨F=116)
  (Z:∀q∈l,∀w',Below w.heap.size w w'→Calls Tryz.prog F #[.int .i64 (q:Int),.pointer (some ⟨g4,0,none⟩),.pointer (some ⟨g10,0,none⟩)] w' (Ret fun r w''=>r=.bool (p q)∧Below w'.heap.size w' w'')):
  Calls Tryz.prog 107 #[.slice A l.length c,.func (.func F) #[] #[.pointer (some ⟨g4,0,none⟩),.pointer (some ⟨g10,0,none⟩)]] w (Ret fun r w'=>Below w.heap.size w w'∧((∃k q:Nat,l[k]?=some q∧r=.int .i64 (k:Int)∧(∀q∈l.take k,p q=false)∧p q=true)∨(r=.int .i64 (-1)∧∀q∈l,p q=false))):=by
 have hH:=hide h
 have a8:=hide Z
 obtain⟨n,G⟩:∃n,n=l.length:=⟨_,rfl⟩
 have W:=hide G
 rw [←G] at hl ⊢
 clear h Z G
 rcases hF with rfl | rfl
 all_goals
  go_enter Tryz.func107,Tryz.ntmps107
  go_wp2_with fail
  go_loopw [8] (fun J wr=>∃k:Nat,J=.int .i64 (k:Int)∧k≤n∧Below w.heap.size w wr∧Hid (∀q∈l.take k,p q=false)) (fun J _=>n - (intOf J).toNat)
  case atStart=>exact⟨0,rfl,Nat.zero_le _,Below.refl _ _,hide (by simp)⟩
  case round=>
   obtain⟨k,rfl,hk,z,I⟩:=hrel
   by_cases a5:k<n
   ·obtain⟨q,E⟩:=An (l:=l) (i:=k) (by rw [←W.out]; exact a5)
    obtain⟨b,aa,rfl,hb,U⟩:=Ex hH.out E
    have hc:wr.cell? ⟨b,aa+k,none⟩=some (.int .i64 (q:Int)):=(z.cell (by show b<_; omega)).trans U
    have V:=a8.out q (List.mem_of_getElem? E) wr z
    have a2:=hide E
    clear E U
    go_wp2_with fail
    refine Calls.ret V ?_
    rintro r w2 ⟨rfl,O⟩
    have M:=z.trans (O.mono z.size)
    clear V O
    rcases C:p q with _ | _
    ·have a7:=hide (show ∀s∈l.take (k+1),p s=false from fun s y=>by
      rw [B5 a2.out] at y
      rcases List.mem_append.1 y with y | y
      ·exact I.out s y
      ·rw [List.mem_singleton.1 y]; exact C)
     clear C
     go_wp2_with fail
     exact⟨⟨k+1,by go_num,by omega,M,a7⟩,by simp [intOf]; omega⟩
    ·have a9:=hide C
     clear C
     go_wp2_with fail
     go_ret
     exact⟨M,.inl ⟨k,q,a2.out,rfl,I.out,a9.out⟩⟩
   ·obtain rfl:k=n:=by omega
    go_wp2_with fail
    go_ret
    refine⟨z,.inr ⟨rfl,?_⟩⟩
    have:=I.out
    rwa [W.out,List.take_length] at this
end Go.Proofs.YtfcfpoemojjglaaGreatDoor
namespace Go.Proofs.YtfcfpoemojjglaaGreatDoor
open Go.RowKit
set_option maxHeartbeats 16000000
set_option maxRecDepth 100000
theorem S0 {w:World} {g k:Nat} {y:Array Value} {e:TypeId} {u:Value} (h:w.heap[g]?=some (.cells y e (0,0))):(w.setCell ⟨g,k,none⟩ u).heap[g]?=some (.cells (y.setIfInBounds k u) e (0,0)):=
 Blk.set_ (t:=e) h k u
theorem Kd {w:World} {base n g z k:Nat} {e:TypeId} {xs:List Value} (h:w.ownsRow base e 1 (.slice (some ⟨g,0,none⟩) n z) n xs) (V:k<n) (u:Value):
  (w.setCell ⟨g,k,none⟩ u).ownsRow base e 1 (.slice (some ⟨g,0,none⟩) n z) n (xs.set k u):=by
 refine⟨by simpa using h.1,.inr ?_⟩
 rcases h.2 with⟨C,_⟩ | ⟨g',W,Z,C,M,U,G,I,J,E⟩
 ·cases C
 ·injection C with y _ O
  injection y with y
  injection y with y
  subst y O
  exact⟨g,z,_,rfl,M,S0 U,G,I,by simpa using J,by rw [Nat.mul_one] at E ⊢; simp [List.take_set,E]⟩
theorem HQ {w:World} {base n g y k:Nat} {e:TypeId} {xs:List Value} {u:Value} (h:w.ownsRow base e 1 (.slice (some ⟨g,0,none⟩) n y) n xs) (hk:xs[k]?=some u):w.cell? ⟨g,k,none⟩=some u:=by
 obtain⟨G,E,C,z⟩:=C7 h hk
 cases C
 exact z
theorem Ka {w:World} {base n g C size:Nat} {e:TypeId} {xs:List Value} (h:w.ownsRow base e size (.slice (some ⟨g,0,none⟩) n C) n xs) (k:Nat):w.frozen? ⟨g,k,none⟩=false:=by
 rcases h.2 with⟨z,_⟩ | ⟨J,G,I,z,M,E,_⟩
 ·cases z
 ·injection z with y _ _
  injection y with y
  injection y with y
  subst y
  exact Blk.frozen (t:=e) E k
theorem Ke {base n g z:Nat} {e:TypeId}:∀(vs:List Value) (o:Nat) (w:World) (xs:List Value),w.ownsRow base e 1 (.slice (some ⟨g,0,none⟩) n z) n xs→o+vs.length≤n→
  ∃y,(w.setCells g o vs).ownsRow base e 1 (.slice (some ⟨g,0,none⟩) n z) n y∧y.take o=xs.take o∧Ac w (w.setCells g o vs) (fun k=>k=g)
 | [],o,w,xs,h,_=>⟨xs,h,rfl,Ac.refl _ _⟩
 | v::vs,o,w,xs,h,hl=>by
  rw [List.length_cons] at hl
  have C:=Kd h (k:=o) (by omega) v
  obtain⟨y,E,G,I⟩:=Ke vs (o+1) _ _ C (by omega)
  refine⟨y,E,?_,((Ac.refl w (fun k=>k=g)).setCell (p:=⟨g,o,none⟩) (fun _=>rfl) v).trans I fun _ _ e=>e⟩
  have:=congrArg (List.take o) G
  rw [List.take_take,List.take_take,Nat.min_eq_left (by omega)] at this
  rw [this,List.take_set_of_le (Nat.le_refl o)]
structure Gh (w:World) (base g n c:Nat) (p:Nat→Bool) (l:List Nat) (i j:Nat) (xs:List Nat):Prop where
 own:w.ownsRow base 3 1 (.slice (some ⟨g,0,none⟩) n c) n ((Ak xs).map (Value.int .i64))
 len:xs.length=n
 pre:xs.take i=(l.take j).filter (fun q=>!p q)
 num:i=((l.take j).filter (fun q=>!p q)).length
 rest:∀s,j≤s→xs[s]?=l[s]?
theorem Nj {w:World} {l:List Nat} {base g c F g4 g10:Nat} {p:Nat→Bool} (h:w.ownsRow base 3 1 (.slice (some ⟨g,0,none⟩) l.length c) l.length ((Ak l).map (Value.int .i64))) (hl:l.length≤4000000) (hF:F=115∨F=116)
  (hp:∀q∈l,∀w',Ac w w' (fun k=>k=g)→Calls Tryz.prog F #[.int .i64 (q:Int),.pointer (some ⟨g4,0,none⟩),.pointer (some ⟨g10,0,none⟩)] w' (Ret fun r w''=>r=.bool (p q)∧Below w'.heap.size w' w'')):
  Calls Tryz.prog 114 #[.slice (some ⟨g,0,none⟩) l.length c,.func (.func F) #[] #[.pointer (some ⟨g4,0,none⟩),.pointer (some ⟨g10,0,none⟩)]] w (Ret fun r w'=>Ac w w' (fun k=>k=g)∧r=.slice (some ⟨g,0,none⟩) (l.filter fun q=>!p q).length c∧w'.ownsRow base 3 1 r (l.filter fun q=>!p q).length ((Ak (l.filter fun q=>!p q)).map (Value.int .i64))):=by
 have a5:Calls Tryz.prog 107 #[.slice (some ⟨g,0,none⟩) l.length c,.func (.func F) #[] #[.pointer (some ⟨g4,0,none⟩),.pointer (some ⟨g10,0,none⟩)]] w (Ret fun r w'=>Below w.heap.size w w'∧((∃k q:Nat,l[k]?=some q∧r=.int .i64 (k:Int)∧(∀q∈l.take k,p q=false)∧p q=true)∨(r=.int .i64 (-1)∧∀q∈l,p q=false))):=by
  obtain⟨A,c',e,hS⟩:=B8 h (by simp [Ak]) (Nat.le_refl _) (by omega)
  injection e with e1 e2 e3
  subst e1
  exact Cu hS (Nat.le_refl _) hl hF fun q z w' hb=>hp q z w' (Ac.of_below hb _)
 have hH:=hide h
 have aE:=hide hp
 obtain⟨n,hn⟩:∃n,n=l.length:=⟨_,rfl⟩
 have E:=hide hn
 rw [←hn] at hl a5 ⊢
 clear h hp hn
 rcases hF with rfl | rfl
 all_goals
  go_enter Tryz.func114,Tryz.ntmps114
  go_wp2_with fail
  refine Calls.ret a5 ?_
  rintro r w1 ⟨Z,hr⟩
  have aj:=Ac.of_below Z (fun k=>k=g)
  have W:=hide (Bt hH.out Z)
  clear a5 Z
  rcases hr with⟨k,q,z,rfl,M,G⟩ | ⟨rfl,M⟩
  ·have aY:k<n:=by rw [E.out]; exact AP z
   have a3:(l.take (k+1)).filter (fun q=>!p q)=l.take k:=by
    rw [B5 z,List.filter_append,List.filter_eq_self.2 (fun q z=>by rw [M q z]; rfl)]
    simp [G]
   have aw:=hide (show Gh w1 base g n c p l k (k+1) l from
    ⟨by rw [E.out]; exact W.out,E.out.symm,a3.symm,by rw [a3,List.length_take]; have:=E.out; omega,fun _ _=>rfl⟩)
   clear z M G a3 W
   have aD:((k:Int)==-1)=false:=by
    rw [beq_eq_false_iff_ne]
    omega
   go_wp2_with fail
   clear aD
   go_loopw [5,6] (fun ii jj wr=>∃(i j:Nat) (xs:List Nat),ii=.int .i64 (i:Int)∧jj=.int .i64 (j:Int)∧i<j∧j≤n∧Ac w wr (fun k=>k=g)∧Hid (Gh wr base g n c p l i j xs)) (fun _ jj _=>n - (intOf jj).toNat)
   case atStart=>exact⟨k,k+1,l,rfl,by go_num,by omega,by omega,aj,aw⟩
   case round=>
    obtain⟨i,j,xs,rfl,rfl,aW,aX,U,hI⟩:=hrel
    obtain⟨C,aq,ar,O,ab⟩:=hI.out
    by_cases aA:j<n
    ·obtain⟨q,z⟩:=An (l:=l) (i:=j) (by rw [←E.out]; exact aA)
     have ap:xs[j]?=some q:=by rw [ab j (Nat.le_refl _),z]
     have aS:=HQ C (AX (f:=Value.int .i64) (AX (f:=fun x:Nat=>(x:Int)) ap))
     have ah:=aE.out q (List.mem_of_getElem? z) wr U
     have ao:=hide z
     clear C aq ar O ab z ap
     go_wp2_with fail
     refine Calls.ret ah ?_
     rintro r w2 ⟨rfl,a2⟩
     have ak:=U.trans (Ac.of_below a2 (fun k=>k=g)) (fun _ _ e=>e)
     have I:=Bt hI.out.own a2
     clear ah a2
     have b0:=U.size
     have O:=hI.out.num
     have aT:=HQ (k:=i) I (u:=.int .i64 (xs.getD i 0:Int)) (by
      obtain⟨y,V⟩:=An (l:=xs) (i:=i) (by rw [hI.out.len]; omega)
      rw [getD_some V]
      exact AX (f:=Value.int .i64) (AX (f:=fun x:Nat=>(x:Int)) V))
     have aU:=Ka I i
     have aZ:=Cj I (k:=g) rfl
     have af:=hide I
     clear I O
     rcases G:p q with _ | _
     ·have a9:=hide (show Gh (w2.setCell ⟨g,i,none⟩ (.int .i64 (q:Int))) base g n c p l (i+1) (j+1) (xs.set i q) from by
       have J:(l.take (j+1)).filter (fun q=>!p q)=(l.take j).filter (fun q=>!p q)++[q]:=by
        rw [B5 ao.out,List.filter_append]
        simp [G]
       have az:i<xs.length:=by rw [hI.out.len]; omega
       refine⟨?_,by rw [List.length_set]; exact hI.out.len,?_,?_,fun s hs=>?_⟩
       ·have:=Kd af.out (k:=i) (by omega) (.int .i64 (q:Int))
        rw [show(Ak (xs.set i q)).map (Value.int .i64)=((Ak xs).map (Value.int .i64)).set i (.int .i64 (q:Int)) from by simp [Ak,List.map_set]]
        exact this
       ·rw [J,←hI.out.pre,List.take_add_one,List.getElem?_set_self az,List.take_set_of_le (Nat.le_refl i)]
        rfl
       ·rw [J,List.length_append,←hI.out.num]; rfl
       ·rw [List.getElem?_set_ne (by omega)]
        exact hI.out.rest s (by omega))
      have aB:=ak.setCell (p:=⟨g,i,none⟩) (fun _=>rfl) (.int .i64 (q:Int))
      clear G
      go_wp2_with fail
      exact⟨⟨i+1,j+1,xs.set i q,by go_num,by go_num,by omega,by omega,aB,a9⟩,by simp [intOf]; omega⟩
     ·have a9:=hide (show Gh w2 base g n c p l i (j+1) xs from by
       have J:(l.take (j+1)).filter (fun q=>!p q)=(l.take j).filter (fun q=>!p q):=by
        rw [B5 ao.out,List.filter_append]
        simp [G]
       exact⟨af.out,hI.out.len,by rw [J]; exact hI.out.pre,by rw [J]; exact hI.out.num,fun s hs=>hI.out.rest s (by omega)⟩)
      clear G
      go_wp2_with fail
      exact⟨⟨i,j+1,xs,rfl,by go_num,by omega,by omega,ak,a9⟩,by simp [intOf]; omega⟩
    ·obtain rfl:j=n:=by omega
     have C:=hI.out.own
     have aR:∀ty,(Builtin.clear_ #[24] ty #[.slice (some ⟨g,i,none⟩) (j - i) (c - i)]).run Tryz.prog wr=.ok (.tuple #[]) (wr.setCells g i (List.replicate (j - i) (.int .i64 0))):=
      fun ty=>Lib.run_clear_slice wr 24 3 ty (.int .i64 0) Tryz.underlying24 Fa rfl rfl g i _ _ (by omega) (fun s hs=>by
       obtain⟨y,V⟩:=An (l:=xs) (i:=i+s) (by rw [hI.out.len]; omega)
       rw [HQ C (AX (f:=Value.int .i64) (AX (f:=fun x:Nat=>(x:Int)) V))]; rfl) (fun s hs=>Ka C _)
     obtain⟨b1,ax,aG,aC⟩:=Ke (List.replicate (j - i) (.int .i64 0)) i wr _ C (by simp; omega)
     have aQ:j≤c:=by
      rcases C.2 with⟨hv,_⟩ | ⟨g',aK,aL,hv,hb,hh,h1,_⟩
      ·cases hv
      ·injection hv with _ _ e
       omega
     clear C aq ar O ab
     go_wp2_with fail
     go_ret
     have a4:=Kf ax (m:=i) (by omega)
     rw [Nat.mul_one,aG] at a4
     have an:=hI.out.pre
     have am:=hI.out.num
     rw [E.out,List.take_length] at an am
     rw [←List.map_take,show(Ak xs).take i=Ak (xs.take i) from by simp [Ak,List.map_take],an] at a4
     rw [←am]
     exact⟨U.trans aC fun _ _ e=>e,rfl,a4⟩
  ·have ai:(l.filter fun q=>!p q)=l:=List.filter_eq_self.2 fun q z=>by rw [M q z]; rfl
   have ay:=hide ai
   clear M ai
   go_wp2_with fail
   go_ret
   rw [ay.out]
   refine⟨aj,by rw [←E.out]; rfl,?_⟩
   show w1.ownsRow base 3 1 (.slice (some ⟨g,0,none⟩) n c) l.length _
   rw [E.out]
   exact W.out
end Go.Proofs.YtfcfpoemojjglaaGreatDoor
namespace Go.Proofs.YtfcfpoemojjglaaGreatDoor
open Go.RowKit
set_option maxHeartbeats 16000000
set_option maxRecDepth 100000
def Co (w:World) (base:Nat) (g o n c:Nat) (qs:List Nat):Prop:=
 base≤g∧qs.length=n∧n≤c∧∃cur:Array Value,Blk w g 3 cur∧o+c≤cur.size∧∀j q:Nat,qs[j]?=some q→cur[o+j]?=some (.int .i64 (q:Int))
theorem Co.of_own {w:World} {base g n c:Nat} {qs:List Nat} (h:w.ownsRow base 3 1 (.slice (some ⟨g,0,none⟩) n c) n ((Ak qs).map (Value.int .i64))):Co w base g 0 n c qs:=by
 rcases h.2 with⟨C,_⟩ | ⟨W,V,E,C,J,O,G,Z,h3,I⟩
 ·cases C
 ·injection C with y _ M
  injection y with y
  injection y with y
  subst y M
  refine⟨J,by have:=h.1; simpa [Ak] using this,G,E,O,by omega,fun j q U=>?_⟩
  have z:((Ak qs).map (Value.int .i64))[j]?=some (.int .i64 (q:Int)):=AX (AX (f:=fun x:Nat=>(x:Int)) U)
  rw [←I,List.getElem?_take] at z
  split at z
  ·simpa using z
  ·cases z
theorem Co.keep {w w':World} {base g o n c:Nat} {qs:List Nat} (h:Co w base g o n c qs) {X:Nat→Prop} (hk:Ac w w' X) (M:¬X g):Co w' base g o n c qs:=by
 obtain⟨z,C,E,y,G,I,J⟩:=h
 exact⟨z,C,E,y,G.kept hk M,I,J⟩
theorem Co.cell {w:World} {base g o n c:Nat} {qs:List Nat} (h:Co w base g o n c qs) {j q:Nat} (C:qs[j]?=some q):w.cell? ⟨g,o+j,none⟩=some (.int .i64 (q:Int)):=by
 obtain⟨G,I,J,E,y,M,z⟩:=h
 rw [y.cell,z j q C]
theorem Co.tail {w:World} {base g o n c q:Nat} {qs:List Nat} (h:Co w base g o (n+1) c (q::qs)):Co w base g (o+1) n (c - 1) qs:=by
 obtain⟨C,E,M,z,G,O,I⟩:=h
 refine⟨C,by simpa using E,by omega,z,G,by omega,fun j y J=>?_⟩
 rw [show o+1+j=o+(j+1) by omega]
 exact I (j+1) y (by simpa using J)
theorem Co.room {w:World} {base g o n c q:Nat} {qs:List Nat} (h:Co w base g o n c qs) (W:n<c):Co (w.setCell ⟨g,o+n,none⟩ (.int .i64 (q:Int))) base g o (n+1) c (qs++[q]):=by
 obtain⟨E,C,V,U,G,I,J⟩:=h
 refine⟨E,by simp [C],by omega,_,G.set_ (o+n) _,by simpa using I,fun j y z=>?_⟩
 rw [Array.getElem?_setIfInBounds]
 by_cases M:j=n
 ·subst M
  rw [List.getElem?_append_right (by omega)] at z
  simp [C] at z
  rw [if_pos rfl,if_pos (by omega),z]
 ·have O:=AP z
  rw [List.length_append,List.length_singleton] at O
  rw [List.getElem?_append_left (by omega)] at z
  rw [if_neg (by omega)]
  exact J j y z
theorem Mc {P:Program} {ops:Array Oper} {rest:List Oper} {o:Oper} {a:Act} {Q:Exit→Act→World→Prop} {w:World} {x base:Nat} (R:Dd P 24 3 1) (ab:o.guard=none) (s y:Operand)
    (ho:o.op=.call { callee:=.builtin .append,args:=#[s,y],argTypes:=#[24,24] })
    (g G n c:Nat) (qs:List Nat) (hs:a.eval s=.slice (some ⟨g,G,none⟩) n c) (hq:Co w base g G n c qs) (U:Nat)
    (hx:a.eval y=.slice (some ⟨w.heap.size,0,none⟩) 1 U) (W:n+1≤4000000) (ax:base≤w.heap.size)
    (h:∀C a3 J w',Co w' base C a3 (n+1) J (qs++[x])→Ac w w' (fun k=>k=g)→(C=g∨w.heap.size≤C)→C<w'.heap.size→
      wpList P ops Q rest (a.put o.dst (.slice (some ⟨C,a3,none⟩) (n+1) J)) w'):
    wpList P ops Q (o::rest) a (w.alloc (.cells #[.int .i64 (x:Int)] 3)):=by
  obtain⟨i,z,bytes,hi,hz,al,aa,ao,hb⟩:=R.info
  have V:Ac w (w.alloc (.cells #[.int .i64 (x:Int)] 3)) (fun k=>k=g):=(Ac.refl w _).alloc _
  obtain⟨q1,q2,q3,a6,q4,q5,q6⟩:=hq
  have O:=q4.kept ((Ac.refl w (fun _=>False)).alloc (.cells #[.int .i64 (x:Int)] 3)) id
  have a2:Co (w.alloc (.cells #[.int .i64 (x:Int)] 3)) base g G n c qs:=⟨q1,q2,q3,a6,O,q5,q6⟩
  refine wpList_append_arg _ ab s y 24 ho 3 i z 1 bytes R.ht hi hz al aa ao R.pos g G n c ((Ak qs).map (Value.int .i64)) hs (by simp [Ak,q2]) ?_ ⟨w.heap.size,0,none⟩ 1 U [.int .i64 (x:Int)] hx rfl ?_ (by simp [Value.oneCell']) ?_ (by unfold maxLen; omega) (Nat.le_trans (Nat.mul_le_mul W hb) (by decide)) ?_ ?_
  · intro j u E
    rw [List.getElem?_map] at E
    rcases M:qs[j]? with _ | q
    · simp [Ak,M] at E
    · have:u=.int .i64 (q:Int):=by simp [Ak,M] at E; exact E.symm
      rw [this]
      exact a2.cell M
  · intro j u E
    have a8:(⟨w.heap.size,0,none⟩:Addr).add j=⟨w.heap.size,j,none⟩:=by unfold Addr.add; split <;> simp_all
    rw [a8,(Blk.new w 3 #[.int .i64 (x:Int)]).cell]
    simpa using E
  · intro hr j E
    have:j=0:=by simpa using E
    subst this
    refine⟨?_,O.frozen _⟩
    rw [O.cell,Array.getElem?_eq_getElem (by omega)]
    rfl
  · intro hr
    have aj:=a2.room (q:=x) (by omega)
    have:=h g G c ((w.alloc (.cells #[.int .i64 (x:Int)] 3)).setCell ⟨g,G+n,none⟩ (.int .i64 (x:Int))) aj (V.setCell (p:=⟨g,G+n,none⟩) (fun _=>rfl) _) (.inl rfl) (by have:=q4.lt; simp; omega)
    rw [Nat.mul_one]
    exact this
  · intro hg v' w' Z I
    have af:Ac (w.alloc (.cells #[.int .i64 (x:Int)] 3)) w' (fun k=>k=g):=⟨I.os,I.tape,I.output,I.size,fun k hk W=>I.block k hk (by simp)⟩
    rcases Z.2 with⟨rfl,h0⟩ | ⟨C,J,av,rfl,aw,hh,_⟩
    · exact absurd h0 (by omega)
    · have az:w.heap.size<C:=by have:(w.alloc (.cells #[.int .i64 (x:Int)] 3)).heap.size=w.heap.size+1:=by simp
                                omega
      refine h C 0 J w' (Co.of_own (base:=base) (DC ?_ (show base≤(w.alloc (.cells #[.int .i64 (x:Int)] 3)).heap.size by simp; omega))) (V.trans af fun _ _ e=>e) (.inr (by omega)) (Array.getElem?_eq_some_iff.1 hh).1
      have e:(Ak (qs++[x])).map (Value.int .i64)=(Ak qs).map (Value.int .i64)++[.int .i64 (x:Int)]:=by rw [EM,List.map_append]; rfl
      rw [e]
      exact Z
end Go.Proofs.YtfcfpoemojjglaaGreatDoor
