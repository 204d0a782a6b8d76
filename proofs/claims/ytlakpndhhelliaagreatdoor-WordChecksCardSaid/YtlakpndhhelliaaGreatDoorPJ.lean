/-
  Part PJ of a proof.
-/
import Derived.ArgAppend
import Derived.Test.YtlakpndhhelliaaGreatDoorPA
import Derived.Test.YtlakpndhhelliaaGreatDoorPI
set_option maxHeartbeats 16000000
set_option maxRecDepth 100000
set_option linter.unusedVariables false
set_option linter.unusedSimpArgs false
namespace Go.Proofs.YtlakpndhhelliaaGreatDoor
open Go.RowKit
set_option maxHeartbeats 16000000
set_option maxRecDepth 100000
def CM (ac:List Bool) (q:Nat):List Int:=Aj ((List.range q).filter fun j=>dac ac j)
theorem RT (ac:List Bool):CM ac ac.length=AC ac:=rfl
theorem Re {ac:List Bool} {q:Nat} {b:Bool} (h:ac[q]?=some b):CM ac (q+1)=if b then CM ac q++[(q:Int)] else CM ac q:=by
 unfold CM
 rw [List.range_succ,List.filter_append]
 have:dac ac q=b:=getD_some h
 cases b <;> simp [this,Aj]
theorem Jn (ac:List Bool) (q:Nat):(CM ac q).length≤q:=by
 unfold CM
 have:=List.length_filter_le (fun j=>dac ac j) (List.range q)
 simpa [Aj] using this
def CV (t:List (List Nat)) (q k:Nat):List Edg:=(List.range k).map fun x:Nat=>⟨(q:Int),(x:Int),(dnx t q x:Int)⟩
theorem O2 (t:List (List Nat)) (q k:Nat):CV t q (k+1)=CV t q k++[⟨(q:Int),(k:Int),(dnx t q k:Int)⟩]:=by simp [CV,List.range_succ]
def Cx (L:Nat) (t:List (List Nat)) (q:Nat):List Edg:=(List.range q).flatMap fun q=>CV t q L
theorem HF (L:Nat) (t:List (List Nat)) (q:Nat):Cx L t (q+1)=Cx L t q++CV t q L:=by simp [Cx,List.range_succ]
theorem Hc (L:Nat) (t:List (List Nat)):∀q,(Cx L t q).length=q*L
 | 0=>by simp [Cx]
 | q+1=>by rw [HF,List.length_append,Hc L t q,Nat.succ_mul]; simp [CV]
def D9 (w:World) (g:Nat) (v0 v1 v2 v3 v4:Value):World:=((((w.setCell ⟨g,0,none⟩ v0).setCell ⟨g,1,none⟩ v1).setCell ⟨g,2,none⟩ v2).setCell ⟨g,3,none⟩ v3).setCell ⟨g,4,none⟩ v4
theorem Fy {w:World} {g:Nat} {e:TypeId} {a0 a1 z C E:Value} (h:Blk w g e #[a0,a1,z,C,E]) (v0 v1 v2 v3 f:Value):∃y,D9 w g v0 v1 v2 v3 f=y∧Blk y g e #[v0,v1,v2,v3,f]∧Ae w y (fun k=>k=g):=
 ⟨_,rfl,((((h.set_ 0 v0).set_ 1 v1).set_ 2 v2).set_ 3 v3).set_ 4 f,(((((Ae.refl w (fun k=>k=g)).setCell (p:=⟨g,0,none⟩) (fun _=>rfl) _).setCell (p:=⟨g,1,none⟩) (fun _=>rfl) _).setCell (p:=⟨g,2,none⟩) (fun _=>rfl) _).setCell (p:=⟨g,3,none⟩) (fun _=>rfl) _).setCell (p:=⟨g,4,none⟩) (fun _=>rfl) _⟩
theorem P8 (w:World) (cs:Array Value) (L n:Nat):∃g2 g4 g5 gs w1 w2 f h y,g2=w.heap.size∧g4=w1.heap.size∧gs=w2.heap.size∧g5=f.heap.size∧w.alloc (.cells cs 56)=w1∧w1.alloc (.cells C9 39)=w2∧w2.alloc (.cells #[.int .i64 0] 3)=f∧f.alloc (.cells C9 39)=h∧
  D9 h g5 (.int .i64 (L:Int)) (.int .i64 (n:Int)) (.slice (some ⟨gs,0,none⟩) 1 1) sn0 sn0=y∧Blk w2 g2 56 cs∧Blk h g5 39 C9∧AuM w y g2 g4 g5 gs cs L n sn0 sn0 [] []:=by
 obtain⟨w1,V,G,F,a8⟩:=Ag w cs 56
 obtain⟨w2,W,z,I,a9⟩:=Ag w1 C9 39
 obtain⟨f,Z,C,J,aa⟩:=Ag w2 #[.int .i64 0] 3
 obtain⟨h,h4,M,O,ab⟩:=Ag f C9 39
 obtain⟨y,h5,a4,a5⟩:=Fy O (.int .i64 (L:Int)) (.int .i64 (n:Int)) (.slice (some ⟨w2.heap.size,0,none⟩) 1 1) sn0 sn0
 have U:=G.size
 have s2:=z.size
 have s3:=C.size
 have s4:=M.size
 have l1:=F.lt
 have l2:=I.lt
 have l3:=J.lt
 have a7:Below w.heap.size w f:=G.trans ((z.mono U).trans (C.mono (by omega)))
 have E:Below f.heap.size f y:=M.trans (a5.below s4 fun b hb e=>by omega)
 exact⟨_,_,_,_,w1,w2,f,h,y,rfl,rfl,rfl,rfl,V,W,Z,h4,h5,F.below z,O,
  ⟨a7.trans (E.mono (by omega)),((F.below z).below C).below E,(I.below C).below E,a4,J.below E,CT,CT,by simp [Value.ownBlock],by omega,⟨Nat.le_refl _,U,by omega,by omega⟩⟩⟩
theorem HP {w:World} {v:Value} {L:Nat} {t:List (List Nat)} {ac:List Bool} (h:BG w w.heap.size v t ac) (af:DOK L t ac) (hL:L≤8) (hn:ac.length≤250000):
  Calls Tryz.prog 19 #[v,.int .i64 (L:Int)] w (Ret fun r w'=>Below w.heap.size w w'∧(∀w'',Ae w' w'' (fun k=>k<w.heap.size)→Cb w'' w''.heap.size r (AZ L t ac))∧EI w' w.heap.size r (AZ L t ac).edges):=by
 obtain⟨A1,F,A2,c2,rfl,h1,h2⟩:=h
 obtain⟨g2,g4,g5,gs,w1,w2,G,w4,w5,b1,b3,b6,b7,av,bQ,bR,bS,aw,aj,Z,hQ⟩:=P8 w #[.slice A1 t.length F,.slice A2 ac.length c2] L ac.length
 subst b1 b3 b6 b7
 have ax:=af.len
 rw [ax] at av hQ aj ⊢
 have b8:=aj.cell
 have bT:=Z.frozen
 have bU:=Z.lt
 have bV:=Z.cell
 have b9:=hQ.b2.cell
 have ay:=hide (show AuM w w5 w.heap.size w1.heap.size G.heap.size w2.heap.size #[.slice A1 ac.length F,.slice A2 ac.length c2] L ac.length sn0 sn0 (CM ac 0) (Cx L t 0) from hQ)
 obtain⟨n,a2⟩:∃n,n=ac.length:=⟨_,rfl⟩
 have az:=hide a2
 have bb:n≤250000:=by omega
 have bc:=hide h1
 have bd:=hide h2
 have be:=hide af
 have bW:=hQ.below.size
 rw [←a2] at av ay b8 b9 aw
 unfold D9 at aw
 clear h1 h2 af ax hQ hn aj Z
 have bf:ac.length=n:=a2.symm
 clear a2
 rw [bf]
 go_enter Tryz.func19,Tryz.ntmps19
 go_wp2_with fail
 go_loopw [19] (fun E wr=>∃(q:Nat) (vA vE:Value),E=.int .i64 (q:Int)∧q≤n∧Hid (AuM w wr w.heap.size w1.heap.size G.heap.size w2.heap.size #[.slice A1 n F,.slice A2 n c2] L n vA vE (CM ac q) (Cx L t q))) (fun E _=>n - (intOf E).toNat)
 case atStart=>exact⟨0,_,_,rfl,Nat.zero_le _,ay⟩
 case round=>
  obtain⟨q,vA,vE,rfl,hq,hI⟩:=hrel
  by_cases bg:q<n
  ·have aA:q<ac.length:=by rw [←az.out]; exact bg
   obtain⟨b,hb⟩:=Ay aA
   obtain⟨ba,oa,rfl,bh,aB⟩:=Gd bd.out hb
   obtain⟨bn,on,Ar,cr,row,rfl,bk,aC,bl,aD,aE,aF⟩:=Hh bc.out be.out aA
   have bY:wr.cell? ⟨ba,oa+q,none⟩=some (.bool b):=(hI.out.below.cell bh).trans aB
   have bZ:wr.cell? ⟨bn,on+q,none⟩=some (.slice Ar L cr):=(hI.out.below.cell bk).trans aC
   obtain⟨J,M,rfl⟩:=AV hI.out.acc
   have a7:=Jn ac q
   have aG:=Re hb
   have aH:=hI.out.acc
   have c0:=hI.out.b2.cell
   have ak:=hI.out.b5.cell
   obtain⟨f,al⟩:∃f,f=(CM ac q).length:=⟨_,rfl⟩
   rw [←al] at aH ak a7 hI
   have bm:=hI.out.below.size
   have bo:=hide aE
   have bp:=hide aF
   have bq:=hide aD
   have aJ:=hide aG
   have bs:=hide al
   clear al hb aB aC bl aD aE aF aG
   cases b
   all_goals
    first
    | (
      have aK:=hide (show AuM w wr w.heap.size w1.heap.size G.heap.size w2.heap.size #[.slice (some ⟨bn,on,none⟩) n F,.slice (some ⟨ba,oa,none⟩) n c2] L n (.slice J f M) vE (CM ac (q+1)) (Cx L t q++CV t q 0) from by
       rw [aJ.out]
       have e:Cx L t q++CV t q 0=Cx L t q:=by simp [CV]
       rw [e]
       exact hI.out)
      go_wp2_with fail)
    | (
      go_wp2_with (
       at_builtin
       refine CO (w:=wr) DS rfl _ _ rfl w.heap.size (.slice J f M) f _ rfl aH [.int .i64 (q:Int)] 1 rfl rfl (by simp [Value.oneCell']) (by omega) bm ?_
       intro O U w7 V I a8 bt
       have C:=hI.out.b5.kept I (AK hI.out.acc hI.out.b5 (by decide))
       have bu:=C.cell
       have bv:=C.frozen 3
       have bw:=C.lt
       have am:=hI.out.addA I (by rw [←bs.out]; exact V) a8
       obtain⟨w8,bx⟩:∃w8,w7.setCell ⟨G.heap.size,3,none⟩ (.slice (some ⟨O,0,none⟩) (f+1) U)=w8:=⟨_,rfl⟩
       rw [bx] at am
       have aK:=hide (show AuM w w8 w.heap.size w1.heap.size G.heap.size w2.heap.size #[.slice (some ⟨bn,on,none⟩) n F,.slice (some ⟨ba,oa,none⟩) n c2] L n (.slice (some ⟨O,0,none⟩) (f+1) U) vE (CM ac (q+1)) (Cx L t q++CV t q 0) from by
        rw [aJ.out]
        have e:Cx L t q++CV t q 0=Cx L t q:=by simp [CV]
        rw [e]
        exact am)
       clear V I a8 C am))
    go_loopw [37] (fun E wz=>∃(x:Nat) (vA vE:Value),E=.int .i64 (x:Int)∧x≤L∧Hid (AuM w wz w.heap.size w1.heap.size G.heap.size w2.heap.size #[.slice (some ⟨bn,on,none⟩) n F,.slice (some ⟨ba,oa,none⟩) n c2] L n vA vE (CM ac (q+1)) (Cx L t q++CV t q x))) (fun E _=>L - (intOf E).toNat)
    case atStart=>exact⟨0,_,_,rfl,Nat.zero_le _,aK⟩
    case round=>
     obtain⟨x,aM,bA,rfl,hx,z⟩:=hrel
     by_cases bB:x<L
     ·obtain⟨y,hy⟩:=Ay (l:=row) (i:=x) (by rw [bq.out]; exact bB)
      obtain⟨br,bD,rfl,bE,aN⟩:=Ed bo.out hy
      have bF:=hide (bp.out x y hy).2
      have c4:wr.cell? ⟨br,bD+x,none⟩=some (.int .i64 (y:Int)):=(z.out.below.cell bE).trans aN
      obtain⟨AE,cE,rfl⟩:=AV z.out.eds
      have bG:=z.out.b5.cell
      have aO:=z.out.eds
      obtain⟨m,hm⟩:∃m,m=(Cx L t q++CV t q x).length:=⟨_,rfl⟩
      have bH:m+1≤4000000:=by
       have h1:q*L≤250000*8:=Nat.mul_le_mul (by omega) hL
       rw [hm,List.length_append,Hc]
       simp [CV]
       omega
      rw [←hm] at bG aO
      have bI:=z.out.below.size
      have aP:=hide hm
      clear hm hy aN
      go_wp2_with (
       at_builtin
       refine CO (w:=wr) NO rfl _ _ rfl w.heap.size (.slice AE m cE) m _ rfl aO [.int .i64 (q:Int),.int .i64 (x:Int),.int .i64 (y:Int)] 1 rfl rfl (by simp [Value.oneCell']) bH bI ?_
       intro O U w7 V I a8 bt
       have ad:=I
       rw [aP.out] at ad
       have C:=z.out.b5.kept ad (AK z.out.eds z.out.b5 (by decide))
       have bu:=C.cell
       have bv:=C.frozen 4
       have bw:=C.lt
       have bJ:=hide (z.out.addE (d:=⟨(q:Int),(x:Int),(y:Int)⟩) (vE':=.slice (some ⟨O,0,none⟩) (m+1) U) ad (by rw [←aP.out]; exact V))
       clear V I ad a8 C)
      refine⟨⟨x+1,aM,.slice (some ⟨O,0,none⟩) (m+1) U,by go_num,by omega,?_⟩,by simp [intOf]; omega⟩
      rw [O2,←List.append_assoc,bF.out]
      exact bJ
     ·obtain rfl:x=L:=by omega
      have ap:=z.out
      rw [←HF] at ap
      have bK:=hide ap
      clear ap
      go_wp2_with fail
      exact⟨⟨q+1,aM,bA,by go_num,by omega,bK⟩,by simp [intOf]; omega⟩
  ·obtain rfl:q=n:=by omega
   have aQ:(⟨(L:Int),(q:Int),[0],CM ac q,Cx L t q⟩:WA)=AZ L t ac:=by rw [az.out]; rfl
   have bL:=Jn ac q
   have aR:=Hc L t q
   have bM:q*L≤250000*8:=Nat.mul_le_mul bb hL
   obtain⟨J,M,rfl⟩:=AV hI.out.acc
   obtain⟨AE,cE,rfl⟩:=AV hI.out.eds
   have W:=hI.out.b4
   have ak:=hI.out.b5.cell
   have c5:=W.frozen
   have c6:=W.lt
   have c7:=W.cell
   obtain⟨wF,aS,aT,ae⟩:=Fy W (.int .i64 (L:Int)) (.int .i64 (q:Int)) (.slice (some ⟨w2.heap.size,0,none⟩) 1 1) (.slice J (CM ac q).length M) (.slice AE (Cx L t q).length cE)
   have aU:=aT.cell
   have bO:=hide (hI.out.below.trans (ae.below hI.out.below.size fun b hb e=>by have:=hI.out.ge; omega))
   have aV:=hide (fun w'' (hk:Ae wF w'' (fun k=>k<w.heap.size))=>hI.out.fin ((ae.mono fun _ _ e=>.inl e).trans hk fun _ _ e=>.inr e) (by omega) (by rw [aR]; omega))
   have aW:=hide (hI.out.finO ae)
   have aX:=hide aQ
   unfold D9 at aS
   obtain⟨f,a7⟩:∃f,f=(CM ac q).length:=⟨_,rfl⟩
   obtain⟨aq,aY⟩:∃aq,aq=(Cx L t q).length:=⟨_,rfl⟩
   rw [←a7,←aY] at aS aU aV aW ak
   clear W aT ae a7 aY bL aR bM aQ hI
   go_wp2_with fail
   refine bodyPost_ret (v:=.agg #[.int .i64 (L:Int),.int .i64 (q:Int),.slice (some ⟨w2.heap.size,0,none⟩) 1 1,.slice J f M,.slice AE aq cE]) (by simp [results,Tryz.results19,go_sem,aU]) rfl ⟨bO.out,?_,?_⟩
   ·have:=aV.out
    rw [aX.out] at this
    exact this
   ·rw [←aX.out]
    exact aW.out
theorem RW {w:World} {v:Value} {L:Nat} {t:List (List Nat)} {ac:List Bool} (h:BG w w.heap.size v t ac) (f:DOK L t ac) (y:L≤8) (z:ac.length≤250000):
  Calls Tryz.prog 19 #[v,.int .i64 (L:Int)] w (Ret fun r w'=>Below w.heap.size w w'∧∀w'',Ae w' w'' (fun k=>k<w.heap.size)→Cb w'' w''.heap.size r (AZ L t ac)):=by
 refine Calls.ret (HP h f y z) ?_
 rintro r w' ⟨C,E,-⟩
 exact⟨C,E⟩
end Go.Proofs.YtlakpndhhelliaaGreatDoor
namespace Go.Proofs.YtlakpndhhelliaaGreatDoor
open Go.RowKit
set_option maxHeartbeats 16000000
set_option maxRecDepth 100000
def KC (w:World) (a:WA) (v:Value) (w':World):Prop:=
 Below w.heap.size w w'∧((a.ok=false∧v=.tuple #[.agg C9,.int .i64 1])∨(a.ok=true∧a.nf.Large 400∧v=.tuple #[.agg C9,.int .i64 4])∨
  (a.ok=true∧¬a.nf.Large 400∧∃t ac d,CU a.L t ac a.lang∧ac.length≤400∧v=.tuple #[d,.int .i64 0]∧∀w'',Ae w' w'' (fun k=>k<w.heap.size)→Cb w'' w''.heap.size d (AZ a.L t ac)))
def Pb (w:World) (a:WA) (v:Value) (w':World):Prop:=
 Below w.heap.size w w'∧((a.ok=false∧v=.tuple #[.agg C9,.int .i64 1])∨(a.ok=true∧a.nf.Large 400∧v=.tuple #[.agg C9,.int .i64 4])∨
  (a.ok=true∧¬a.nf.Large 400∧∃t ac d,CU a.L t ac a.lang∧ac.length≤400∧v=.tuple #[d,.int .i64 0]∧(∀w'',Ae w' w'' (fun k=>k<w.heap.size)→Cb w'' w''.heap.size d (AZ a.L t ac))∧EI w' w.heap.size d (AZ a.L t ac).edges))
theorem Ne {v:Value} {a:WA} {w:World} (h:Cb w w.heap.size v a) (he:a.edges.length≤3000000) (ap:a.start.length≤4000000) (hT:Ca w):
  Calls Tryz.prog 10 #[v] w (Ret fun r w'=>Pb w a r w'):=by
 have aA:=hide h
 obtain⟨A1,c1,A2,c2,A3,c3,rfl,h1,h2,h3,h4⟩:=h
 obtain⟨w1,bb,ah,a3,aF⟩:=Ag w #[.int .i64 a.letters,.int .i64 a.states,.slice A1 a.start.length c1,.slice A2 a.accept.length c2,.slice A3 a.edges.length c3] 39
 obtain⟨w2,bz,a4,ar,aG⟩:=Ag w1 C9 39
 have bc:=ah.size
 have ai:Below w.heap.size w w2:=ah.trans (a4.mono bc)
 have au:=ai.size
 have aH:=hide (a3.below a4)
 have bd:=(a3.below a4).cell
 have bA:=a3.lt
 have hR:=hide ar
 have I:=It (aA.out.keep (fun p hp=>ai.cell hp) au)
 cases z:a.ok
 ·rw [z,show DU false=1 from rfl] at I
  have aj:=hide z
  clear h1 h2 h3 h4 aF aG ah a4 a3 ar he ap hT z
  go_enter Tryz.func10,Tryz.ntmps10
  go_wp2_with fail
  refine Calls.ret I ?_
  rintro r w3 ⟨rfl,C⟩
  have J:=hR.out.below C
  have bB:=J.frozen
  have bC:=J.lt
  have bf:=J.cell
  obtain⟨wF,a6,E,f⟩:=Fy J (.int .i64 0) (.int .i64 0) sn0 sn0 sn0
  have a7:=E.cell
  have M:=ai.trans (C.mono au)
  have a8:=hide (M.trans (f.below M.size fun b F e=>by omega))
  unfold D9 at a6
  clear I C J E f M
  go_wp2_with fail
  refine bodyPost_ret (v:=.tuple #[.agg C9,.int .i64 1]) (by simp [results,Tryz.results10,go_sem,a7]) rfl ⟨a8.out,.inl ⟨aj.out,rfl⟩⟩
 ·rw [z,show DU true=0 from rfl] at I
  have aK:=(WA.ok_iff.1 z).2
  have bg:=(WA.ok_iff.1 z).1
  have aL:a.letters=(a.L:Int):=by unfold WA.L; omega
  have bh:a.L≤8:=by unfold WA.L; omega
  have aM:=hide (fun(wx:World) (F:Below w.heap.size w wx)=>PS (aA.out.keep (w':=wx) (fun p hp=>F.cell hp) F.size) aK ⟨by omega,by omega⟩ ⟨by omega,by omega⟩ he ap (hT.below F))
  have bi:=hide (fun(wx:World) (d:Value) (t:List (List Nat)) (ac:List Bool) (hI:BG wx wx.heap.size d t ac) (hC:CU a.L t ac a.lang) (hl:ac.length≤400)=>HP hI hC.ok bh (by omega))
  have aj:=hide z
  rw [aL] at bb bd aH aM I ⊢
  clear h1 h2 h3 h4 aF aG ah a4 a3 ar he ap hT z aK bg aL
  go_enter Tryz.func10,Tryz.ntmps10
  go_wp2_with fail
  refine Calls.ret I ?_
  rintro r w3 ⟨rfl,C⟩
  have M:=ai.trans (C.mono au)
  have aN:=hide (aH.out.below C)
  have J:=hide (hR.out.below C)
  have bf:=aN.out.cell
  clear I C
  go_wp2_with fail
  refine Calls.ret (aM.out _ M) ?_
  rintro r W ⟨ab,hr⟩
  have ad:=M.trans (ab.mono M.size)
  have aw:=aN.out.below ab
  have ae:=J.out.below ab
  have aO:=ad.size
  have bE:=ae.lt
  obtain⟨w5,bG,Z,O,aP⟩:=Ag W #[sn0,sn0] 56
  have bH:=O.frozen
  have bI:=O.lt
  have bJ:=O.cell
  rcases hr with⟨aQ,rfl⟩ | ⟨aR,t,ac,d,hC,ax,rfl,aS⟩
  ·obtain⟨w6,al,am,af⟩:=DA O sn0 sn0
   have y:Below W.heap.size W w6:=Z.trans (af.below Z.size fun b F e=>by omega)
   have a2:=ad.trans (y.mono aO)
   have U:=ae.below y
   have bK:=U.frozen
   have bL:=U.lt
   have aT:=U.cell
   obtain⟨wF,a6,E,f⟩:=Fy U (.int .i64 0) (.int .i64 0) sn0 sn0 sn0
   have a7:=E.cell
   have a8:=hide (a2.trans (f.below a2.size fun b F e=>by omega))
   have bk:=hide aQ
   unfold D9 at a6
   unfold Dq at al
   clear aQ ab aw ae O aP Z am af y a2 U E f ad
   go_wp2_with fail
   refine bodyPost_ret (v:=.tuple #[.agg C9,.int .i64 4]) (by simp [results,Tryz.results10,go_sem,a7]) rfl ⟨a8.out,.inr (.inl ⟨aj.out,bk.out,rfl⟩)⟩
  ·have ay:=aS W (Ae.refl _ _)
   have bl:=ay
   obtain⟨A7,c7,A8,c8,rfl,-,-⟩:=bl
   obtain⟨w6,al,am,af⟩:=DA O (.slice A7 t.length c7) (.slice A8 ac.length c8)
   have y:Below W.heap.size W w6:=Z.trans (af.below Z.size fun b F e=>by omega)
   have a2:=ad.trans (y.mono aO)
   have bq:=y.size
   have az:=bi.out w6 _ t ac (ay.keep (fun p hp=>y.cell hp) bq) hC ax
   have U:=hide (ae.below y)
   have aT:=am.cell
   have bM:=(aw.below y).cell
   have br:=hide aR
   have bs:=hide hC
   have bt:=hide ax
   have aU:=hide a2
   unfold Dq at al
   obtain⟨lr,aW⟩:∃lr,lr=t.length:=⟨_,rfl⟩
   obtain⟨la,aY⟩:∃la,la=ac.length:=⟨_,rfl⟩
   rw [←aW,←aY] at al aT az ⊢
   clear aR hC ax aS ay ab aw ae O aP Z am af y a2 ad aW aY
   go_wp2_with fail
   refine Calls.ret az ?_
   rintro d w7 ⟨an,G,aZ⟩
   obtain⟨b0,b1,b2,b3,b4,b5,rfl,-,-,-,-⟩:=G w7 (Ae.refl _ _)
   have ag:=U.out.below an
   have bN:=ag.frozen
   have bO:=ag.lt
   have bP:=ag.cell
   have bQ:=an.size
   have bv:=aU.out.size
   have V:=aZ
   clear aZ
   generalize (AZ a.L t ac).letters=x0 at G V ⊢
   generalize (AZ a.L t ac).states=x1 at G V ⊢
   generalize (AZ a.L t ac).start.length=n1 at G V ⊢
   generalize (AZ a.L t ac).accept.length=n2 at G V ⊢
   generalize (AZ a.L t ac).edges.length=n3 at G V ⊢
   obtain⟨wF,a6,E,f⟩:=Fy ag (.int .i64 x0) (.int .i64 x1) (.slice b0 n1 b1) (.slice b2 n2 b3) (.slice b4 n3 b5)
   have a7:=E.cell
   have a8:=hide ((aU.out.trans (an.mono bv)).trans (f.below (by omega) fun b F e=>by omega))
   have bw:=hide (fun w'' (hk:Ae wF w'' (fun k=>k<w.heap.size))=>G w'' ((f.mono (fun b _ e=>by omega)).trans hk (fun b _ e=>by omega)))
   have bx:=hide (V.kept (base':=w.heap.size) f (fun g (e:g=_) _=>by omega) (by omega))
   unfold D9 at a6
   clear az G V ag E f an
   go_wp2_with fail
   refine bodyPost_ret (v:=.tuple #[.agg #[.int .i64 x0,.int .i64 x1,.slice b0 n1 b1,.slice b2 n2 b3,.slice b4 n3 b5],.int .i64 0]) (by simp [results,Tryz.results10,go_sem,a7]) rfl ⟨a8.out,.inr (.inr ⟨aj.out,br.out,t,ac,_,bs.out,bt.out,rfl,bw.out,bx.out⟩)⟩
theorem Qv {v:Value} {a:WA} {w:World} (h:Cb w w.heap.size v a) (z:a.edges.length≤3000000) (C:a.start.length≤4000000) (E:Ca w):
  Calls Tryz.prog 10 #[v] w (Ret fun r w'=>KC w a r w'):=by
 refine Calls.ret (Ne h z C E) ?_
 rintro r w' ⟨y,f | f | ⟨f,F,t,ac,d,G,I,J,M,-⟩⟩
 ·exact⟨y,.inl f⟩
 ·exact⟨y,.inr (.inl f)⟩
 ·exact⟨y,.inr (.inr ⟨f,F,t,ac,d,G,I,J,M⟩)⟩
end Go.Proofs.YtlakpndhhelliaaGreatDoor
namespace Go.Proofs.YtlakpndhhelliaaGreatDoor
open Go.RowKit
set_option maxHeartbeats 16000000
set_option maxRecDepth 100000
theorem Fo {w:World} {B:Nat} {A:Option Addr} {l:List Int} (h:Sl w B 1 Ai A l) {i:Nat} {x:Int} (y:l[i]?=some x):∃b f,A=some ⟨b,f,none⟩∧b<B∧w.cell? ⟨b,f+i,none⟩=some (.int .i64 x):=by
 obtain⟨b,f,e,z,C⟩:=h.2 (by
  intro e
  rw [e] at y
  simp at y)
 have:=C i x y 0 (by omega)
 exact⟨b,f,e,z,by simpa [Ai] using this⟩
theorem LX {w:World} {g4 g10 B c q:Nat} {A:Option Addr} {far:List Int} {k:Int} (y:Blk w g4 24 #[.slice A far.length c]) (hS:Sl w B 1 Ai A far) (hk:w.cell? ⟨g10,0,none⟩=some (.int .i64 k)) (z:q<far.length):
  Calls Tryz.prog 43 #[.int .i64 (q:Int),.pointer (some ⟨g4,0,none⟩),.pointer (some ⟨g10,0,none⟩)] w (Ret fun r w'=>r=.bool (!decide (far.getD q (-1)=k))∧Below w.heap.size w w'):=by
 obtain⟨x,f⟩:=Ay z
 obtain⟨b,I,rfl,-,J⟩:=Fo hS f
 have E:=y.cell
 have F:=hide (getD_some (d:=(-1:Int)) f)
 have G:=hS.1
 obtain⟨n,C⟩:∃n,n=far.length:=⟨_,rfl⟩
 rw [←C] at E z G
 clear hS y f C
 go_enter Tryz.func43,Tryz.ntmps43
 go_wp2_with fail
 refine Reg.cP [0,0,3,7,0,31,63] ?_
 go_wp2_with fail
 go_ret
 rw [F.out]
 exact⟨by by_cases h:x=k <;> simp [h,bne],Ap w⟩
theorem MD {w:World} {g4 g10 B c q k:Nat} {A:Option Addr} {far:List Int} (y:Blk w g4 24 #[.slice A far.length c]) (hS:Sl w B 1 Ai A far) (hk:w.cell? ⟨g10,0,none⟩=some (.int .i64 ((k:Int)+1))) (J:k≤4000000) (z:q<far.length):
  Calls Tryz.prog 45 #[.int .i64 (q:Int),.pointer (some ⟨g4,0,none⟩),.pointer (some ⟨g10,0,none⟩)] w (Ret fun r w'=>r=.bool (!decide (far.getD q (-1)=(k:Int)))∧Below w.heap.size w w'):=by
 obtain⟨x,f⟩:=Ay z
 obtain⟨b,M,rfl,-,O⟩:=Fo hS f
 have F:=y.cell
 have G:=hide (getD_some (d:=(-1:Int)) f)
 have I:=hS.1
 obtain⟨n,C⟩:∃n,n=far.length:=⟨_,rfl⟩
 rw [←C] at F z I
 have U:(k:Int)+1 - 1=(k:Int):=by omega
 clear hS y f C
 go_enter Tryz.func45,Tryz.ntmps45
 go_wp2_with fail
 refine Reg.cN [0,0,3,7,0,16,63,127] ?_
 intro Qf E
 go_wp2_with fail
 first | refine E _ _ ⟨rfl,?_⟩ | refine⟨rfl,?_⟩ | trace_state
 try clear E
 go_wp2_with fail
 go_ret
 rw [G.out]
 exact⟨by by_cases h:x=(k:Int) <;> simp [h,bne],Ap w⟩
end Go.Proofs.YtlakpndhhelliaaGreatDoor
namespace Go.Proofs.YtlakpndhhelliaaGreatDoor
open Go.RowKit
set_option maxHeartbeats 16000000
set_option maxRecDepth 100000
theorem Cl {w:World} {l:List Nat} {A:Option Addr} {c F B g4 g10:Nat} {p:Nat→Bool} (h:Sl w B 1 Ai A (Aj l)) (hB:B≤w.heap.size) (hl:l.length≤4000000) (hF:F=43∨F=45)
  (J:∀q∈l,∀w',Below w.heap.size w w'→Calls Tryz.prog F #[.int .i64 (q:Int),.pointer (some ⟨g4,0,none⟩),.pointer (some ⟨g10,0,none⟩)] w' (Ret fun r w''=>r=.bool (p q)∧Below w'.heap.size w' w'')):
  Calls Tryz.prog 68 #[.slice A l.length c,.func (.func F) #[] #[.pointer (some ⟨g4,0,none⟩),.pointer (some ⟨g10,0,none⟩)]] w (Ret fun r w'=>Below w.heap.size w w'∧((∃k q:Nat,l[k]?=some q∧r=.int .i64 (k:Int)∧(∀q∈l.take k,p q=false)∧p q=true)∨(r=.int .i64 (-1)∧∀q∈l,p q=false))):=by
 have hH:=hide h
 have a5:=hide J
 obtain⟨n,E⟩:∃n,n=l.length:=⟨_,rfl⟩
 have M:=hide E
 rw [←E] at hl ⊢
 clear h J E
 rcases hF with rfl | rfl
 all_goals
  go_enter Tryz.func68,Tryz.ntmps68
  go_wp2_with fail
  go_loopw [8] (fun G wr=>∃k:Nat,G=.int .i64 (k:Int)∧k≤n∧Below w.heap.size w wr∧Hid (∀q∈l.take k,p q=false)) (fun G _=>n - (intOf G).toNat)
  case atStart=>exact⟨0,rfl,Nat.zero_le _,Below.refl _ _,hide (by simp)⟩
  case round=>
   obtain⟨k,rfl,hk,y,I⟩:=hrel
   by_cases a6:k<n
   ·obtain⟨q,z⟩:=Ay (l:=l) (i:=k) (by rw [←M.out]; exact a6)
    obtain⟨b,a7,rfl,hb,O⟩:=Ed hH.out z
    have hc:wr.cell? ⟨b,a7+k,none⟩=some (.int .i64 (q:Int)):=(y.cell (by show b<_; omega)).trans O
    have U:=a5.out q (List.mem_of_getElem? z) wr y
    have V:=hide z
    clear z O
    go_wp2_with fail
    refine Calls.ret U ?_
    rintro r w2 ⟨rfl,W⟩
    have Z:=y.trans (W.mono y.size)
    clear U W
    rcases C:p q with _ | _
    ·have a8:=hide (show ∀s∈l.take (k+1),p s=false from fun s f=>by
      rw [CF V.out] at f
      rcases List.mem_append.1 f with f | f
      ·exact I.out s f
      ·rw [List.mem_singleton.1 f]; exact C)
     clear C
     go_wp2_with fail
     exact⟨⟨k+1,by go_num,by omega,Z,a8⟩,by simp [intOf]; omega⟩
    ·have a9:=hide C
     clear C
     go_wp2_with fail
     go_ret
     exact⟨Z,.inl ⟨k,q,V.out,rfl,I.out,a9.out⟩⟩
   ·obtain rfl:k=n:=by omega
    go_wp2_with fail
    go_ret
    refine⟨y,.inr ⟨rfl,?_⟩⟩
    have:=I.out
    rwa [M.out,List.take_length] at this
end Go.Proofs.YtlakpndhhelliaaGreatDoor
namespace Go.Proofs.YtlakpndhhelliaaGreatDoor
open Go.RowKit
set_option maxHeartbeats 16000000
set_option maxRecDepth 100000
theorem OW {w:World} {g k:Nat} {f:Array Value} {e:TypeId} {u:Value} (h:w.heap[g]?=some (.cells f e (0,0))):(w.setCell ⟨g,k,none⟩ u).heap[g]?=some (.cells (f.setIfInBounds k u) e (0,0)):=
 Blk.set_ (t:=e) h k u
theorem IL {w:World} {base n g y k:Nat} {e:TypeId} {xs:List Value} (h:w.ownsRow base e 1 (.slice (some ⟨g,0,none⟩) n y) n xs) (O:k<n) (u:Value):
  (w.setCell ⟨g,k,none⟩ u).ownsRow base e 1 (.slice (some ⟨g,0,none⟩) n y) n (xs.set k u):=by
 refine⟨by simpa using h.1,.inr ?_⟩
 rcases h.2 with⟨z,_⟩ | ⟨U,V,W,z,E,F,G,I,J,C⟩
 ·cases z
 ·injection z with f _ M
  injection f with f
  injection f with f
  subst f M
  exact⟨g,y,_,rfl,E,OW F,G,I,by simpa using J,by rw [Nat.mul_one] at C ⊢; simp [List.take_set,C]⟩
theorem Gt {w:World} {base n g f k:Nat} {e:TypeId} {xs:List Value} {u:Value} (h:w.ownsRow base e 1 (.slice (some ⟨g,0,none⟩) n f) n xs) (hk:xs[k]?=some u):w.cell? ⟨g,k,none⟩=some u:=by
 obtain⟨C,E,y,z⟩:=EJ h hk
 cases y
 exact z
theorem JI {w:World} {base n g z size:Nat} {e:TypeId} {xs:List Value} (h:w.ownsRow base e size (.slice (some ⟨g,0,none⟩) n z) n xs) (k:Nat):w.frozen? ⟨g,k,none⟩=false:=by
 rcases h.2 with⟨y,_⟩ | ⟨E,F,G,y,I,C,_⟩
 ·cases y
 ·injection y with f _ _
  injection f with f
  injection f with f
  subst f
  exact Blk.frozen (t:=e) C k
theorem HD {base n g y:Nat} {e:TypeId}:∀(vs:List Value) (o:Nat) (w:World) (xs:List Value),w.ownsRow base e 1 (.slice (some ⟨g,0,none⟩) n y) n xs→o+vs.length≤n→
  ∃f,(w.setCells g o vs).ownsRow base e 1 (.slice (some ⟨g,0,none⟩) n y) n f∧f.take o=xs.take o∧Ae w (w.setCells g o vs) (fun k=>k=g)
 | [],o,w,xs,h,_=>⟨xs,h,rfl,Ae.refl _ _⟩
 | v::vs,o,w,xs,h,hl=>by
  rw [List.length_cons] at hl
  have z:=IL h (k:=o) (by omega) v
  obtain⟨f,C,E,F⟩:=HD vs (o+1) _ _ z (by omega)
  refine⟨f,C,?_,((Ae.refl w (fun k=>k=g)).setCell (p:=⟨g,o,none⟩) (fun _=>rfl) v).trans F fun _ _ e=>e⟩
  have:=congrArg (List.take o) E
  rw [List.take_take,List.take_take,Nat.min_eq_left (by omega)] at this
  rw [this,List.take_set_of_le (Nat.le_refl o)]
structure F7 (w:World) (base g n c:Nat) (p:Nat→Bool) (l:List Nat) (i j:Nat) (xs:List Nat):Prop where
 own:w.ownsRow base 3 1 (.slice (some ⟨g,0,none⟩) n c) n ((Aj xs).map (Value.int .i64))
 len:xs.length=n
 pre:xs.take i=(l.take j).filter (fun q=>!p q)
 num:i=((l.take j).filter (fun q=>!p q)).length
 rest:∀s,j≤s→xs[s]?=l[s]?
theorem KG {w:World} {l:List Nat} {base g c F g4 g10:Nat} {p:Nat→Bool} (h:w.ownsRow base 3 1 (.slice (some ⟨g,0,none⟩) l.length c) l.length ((Aj l).map (Value.int .i64))) (hl:l.length≤4000000) (hF:F=43∨F=45)
  (W:∀q∈l,∀w',Ae w w' (fun k=>k=g)→Calls Tryz.prog F #[.int .i64 (q:Int),.pointer (some ⟨g4,0,none⟩),.pointer (some ⟨g10,0,none⟩)] w' (Ret fun r w''=>r=.bool (p q)∧Below w'.heap.size w' w'')):
  Calls Tryz.prog 42 #[.slice (some ⟨g,0,none⟩) l.length c,.func (.func F) #[] #[.pointer (some ⟨g4,0,none⟩),.pointer (some ⟨g10,0,none⟩)]] w (Ret fun r w'=>Ae w w' (fun k=>k=g)∧r=.slice (some ⟨g,0,none⟩) (l.filter fun q=>!p q).length c∧w'.ownsRow base 3 1 r (l.filter fun q=>!p q).length ((Aj (l.filter fun q=>!p q)).map (Value.int .i64))):=by
 have Z:Calls Tryz.prog 68 #[.slice (some ⟨g,0,none⟩) l.length c,.func (.func F) #[] #[.pointer (some ⟨g4,0,none⟩),.pointer (some ⟨g10,0,none⟩)]] w (Ret fun r w'=>Below w.heap.size w w'∧((∃k q:Nat,l[k]?=some q∧r=.int .i64 (k:Int)∧(∀q∈l.take k,p q=false)∧p q=true)∨(r=.int .i64 (-1)∧∀q∈l,p q=false))):=by
  obtain⟨A,c',e,hS⟩:=C2 h (by simp [Aj]) (Nat.le_refl _) (by omega)
  injection e with e1 e2 e3
  subst e1
  exact Cl hS (Nat.le_refl _) hl hF fun q z w' hb=>W q z w' (Ae.of_below hb _)
 have hH:=hide h
 have aw:=hide W
 obtain⟨n,hn⟩:∃n,n=l.length:=⟨_,rfl⟩
 have C:=hide hn
 rw [←hn] at hl Z ⊢
 clear h W hn
 rcases hF with rfl | rfl
 all_goals
  go_enter Tryz.func42,Tryz.ntmps42
  go_wp2_with fail
  refine Calls.ret Z ?_
  rintro r w1 ⟨a3,hr⟩
  have ah:=Ae.of_below a3 (fun k=>k=g)
  have a4:=hide (B5 hH.out a3)
  clear Z a3
  rcases hr with⟨k,q,z,rfl,I,G⟩ | ⟨rfl,I⟩
  ·have aM:k<n:=by rw [C.out]; exact AO z
   have a5:(l.take (k+1)).filter (fun q=>!p q)=l.take k:=by
    rw [CF z,List.filter_append,List.filter_eq_self.2 (fun q z=>by rw [I q z]; rfl)]
    simp [G]
   have ay:=hide (show F7 w1 base g n c p l k (k+1) l from
    ⟨by rw [C.out]; exact a4.out,C.out.symm,a5.symm,by rw [a5,List.length_take]; have:=C.out; omega,fun _ _=>rfl⟩)
   clear z I G a5 a4
   have az:((k:Int)==-1)=false:=by
    rw [beq_eq_false_iff_ne]
    omega
   go_wp2_with fail
   clear az
   go_loopw [5,6] (fun ii jj wr=>∃(i j:Nat) (xs:List Nat),ii=.int .i64 (i:Int)∧jj=.int .i64 (j:Int)∧i<j∧j≤n∧Ae w wr (fun k=>k=g)∧Hid (F7 wr base g n c p l i j xs)) (fun _ jj _=>n - (intOf jj).toNat)
   case atStart=>exact⟨k,k+1,l,rfl,by go_num,by omega,by omega,ah,ay⟩
   case round=>
    obtain⟨i,j,xs,rfl,rfl,aN,aO,O,hI⟩:=hrel
    obtain⟨E,ai,aj,U,a7⟩:=hI.out
    by_cases aB:j<n
    ·obtain⟨q,z⟩:=Ay (l:=l) (i:=j) (by rw [←C.out]; exact aB)
     have ak:xs[j]?=some q:=by rw [a7 j (Nat.le_refl _),z]
     have aP:=Gt E (Bq (f:=Value.int .i64) (Bq (f:=fun x:Nat=>(x:Int)) ak))
     have al:=aw.out q (List.mem_of_getElem? z) wr O
     have am:=hide z
     clear E ai aj U a7 z ak
     go_wp2_with fail
     refine Calls.ret al ?_
     rintro r w2 ⟨rfl,a8⟩
     have an:=O.trans (Ae.of_below a8 (fun k=>k=g)) (fun _ _ e=>e)
     have J:=B5 hI.out.own a8
     clear al a8
     have aQ:=O.size
     have U:=hI.out.num
     have aR:=Gt (k:=i) J (u:=.int .i64 (xs.getD i 0:Int)) (by
      obtain⟨y,V⟩:=Ay (l:=xs) (i:=i) (by rw [hI.out.len]; omega)
      rw [getD_some V]
      exact Bq (f:=Value.int .i64) (Bq (f:=fun x:Nat=>(x:Int)) V))
     have aS:=JI J i
     have aT:=Cm J (k:=g) rfl
     have ao:=hide J
     clear J U
     rcases G:p q with _ | _
     ·have a9:=hide (show F7 (w2.setCell ⟨g,i,none⟩ (.int .i64 (q:Int))) base g n c p l (i+1) (j+1) (xs.set i q) from by
       have M:(l.take (j+1)).filter (fun q=>!p q)=(l.take j).filter (fun q=>!p q)++[q]:=by
        rw [CF am.out,List.filter_append]
        simp [G]
       have aC:i<xs.length:=by rw [hI.out.len]; omega
       refine⟨?_,by rw [List.length_set]; exact hI.out.len,?_,?_,fun s hs=>?_⟩
       ·have:=IL ao.out (k:=i) (by omega) (.int .i64 (q:Int))
        rw [show(Aj (xs.set i q)).map (Value.int .i64)=((Aj xs).map (Value.int .i64)).set i (.int .i64 (q:Int)) from by simp [Aj,List.map_set]]
        exact this
       ·rw [M,←hI.out.pre,List.take_add_one,List.getElem?_set_self aC,List.take_set_of_le (Nat.le_refl i)]
        rfl
       ·rw [M,List.length_append,←hI.out.num]; rfl
       ·rw [List.getElem?_set_ne (by omega)]
        exact hI.out.rest s (by omega))
      have aD:=an.setCell (p:=⟨g,i,none⟩) (fun _=>rfl) (.int .i64 (q:Int))
      clear G
      go_wp2_with fail
      exact⟨⟨i+1,j+1,xs.set i q,by go_num,by go_num,by omega,by omega,aD,a9⟩,by simp [intOf]; omega⟩
     ·have a9:=hide (show F7 w2 base g n c p l i (j+1) xs from by
       have M:(l.take (j+1)).filter (fun q=>!p q)=(l.take j).filter (fun q=>!p q):=by
        rw [CF am.out,List.filter_append]
        simp [G]
       exact⟨ao.out,hI.out.len,by rw [M]; exact hI.out.pre,by rw [M]; exact hI.out.num,fun s hs=>hI.out.rest s (by omega)⟩)
      clear G
      go_wp2_with fail
      exact⟨⟨i,j+1,xs,rfl,by go_num,by omega,by omega,an,a9⟩,by simp [intOf]; omega⟩
    ·obtain rfl:j=n:=by omega
     have E:=hI.out.own
     have aU:∀ty,(Builtin.clear_ #[24] ty #[.slice (some ⟨g,i,none⟩) (j - i) (c - i)]).run Tryz.prog wr=.ok (.tuple #[]) (wr.setCells g i (List.replicate (j - i) (.int .i64 0))):=
      fun ty=>Lib.run_clear_slice wr 24 3 ty (.int .i64 0) Tryz.underlying24 EQ rfl rfl g i _ _ (by omega) (fun s hs=>by
       obtain⟨y,V⟩:=Ay (l:=xs) (i:=i+s) (by rw [hI.out.len]; omega)
       rw [Gt E (Bq (f:=Value.int .i64) (Bq (f:=fun x:Nat=>(x:Int)) V))]; rfl) (fun s hs=>JI E _)
     obtain⟨aV,aE,aF,aG⟩:=HD (List.replicate (j - i) (.int .i64 0)) i wr _ E (by simp; omega)
     have aW:j≤c:=by
      rcases E.2 with⟨hv,_⟩ | ⟨g',aY,aZ,hv,hb,hh,h1,_⟩
      ·cases hv
      ·injection hv with _ _ e
       omega
     clear E ai aj U a7
     go_wp2_with fail
     go_ret
     have ad:=HM aE (m:=i) (by omega)
     rw [Nat.mul_one,aF] at ad
     have ap:=hI.out.pre
     have aq:=hI.out.num
     rw [C.out,List.take_length] at ap aq
     rw [←List.map_take,show(Aj xs).take i=Aj (xs.take i) from by simp [Aj,List.map_take],ap] at ad
     rw [←aq]
     exact⟨O.trans aG fun _ _ e=>e,rfl,ad⟩
  ·have ar:(l.filter fun q=>!p q)=l:=List.filter_eq_self.2 fun q z=>by rw [I q z]; rfl
   have aH:=hide ar
   clear I ar
   go_wp2_with fail
   go_ret
   rw [aH.out]
   refine⟨ah,by rw [←C.out]; rfl,?_⟩
   show w1.ownsRow base 3 1 (.slice (some ⟨g,0,none⟩) n c) l.length _
   rw [C.out]
   exact a4.out
end Go.Proofs.YtlakpndhhelliaaGreatDoor
namespace Go.Proofs.YtlakpndhhelliaaGreatDoor
open Go.RowKit
set_option maxHeartbeats 16000000
set_option maxRecDepth 100000
def B9 (w:World) (base:Nat) (g o n c:Nat) (qs:List Nat):Prop:=
 base≤g∧qs.length=n∧n≤c∧∃cur:Array Value,Blk w g 3 cur∧o+c≤cur.size∧∀j q:Nat,qs[j]?=some q→cur[o+j]?=some (.int .i64 (q:Int))
theorem B9.of_own {w:World} {base g n c:Nat} {qs:List Nat} (h:w.ownsRow base 3 1 (.slice (some ⟨g,0,none⟩) n c) n ((Aj qs).map (Value.int .i64))):B9 w base g 0 n c qs:=by
 rcases h.2 with⟨C,_⟩ | ⟨U,V,E,C,F,G,I,W,Z,J⟩
 ·cases C
 ·injection C with y _ M
  injection y with y
  injection y with y
  subst y M
  refine⟨F,by have:=h.1; simpa [Aj] using this,I,E,G,by omega,fun j q O=>?_⟩
  have z:((Aj qs).map (Value.int .i64))[j]?=some (.int .i64 (q:Int)):=Bq (Bq (f:=fun x:Nat=>(x:Int)) O)
  rw [←J,List.getElem?_take] at z
  split at z
  ·simpa using z
  ·cases z
theorem B9.keep {w w':World} {base g o n c:Nat} {qs:List Nat} (h:B9 w base g o n c qs) {X:Nat→Prop} (hk:Ae w w' X) (f:¬X g):B9 w' base g o n c qs:=by
 obtain⟨y,z,C,E,F,G,I⟩:=h
 exact⟨y,z,C,E,F.kept hk f,G,I⟩
theorem B9.cell {w:World} {base g o n c:Nat} {qs:List Nat} (h:B9 w base g o n c qs) {j q:Nat} (f:qs[j]?=some q):w.cell? ⟨g,o+j,none⟩=some (.int .i64 (q:Int)):=by
 obtain⟨C,E,F,G,y,I,z⟩:=h
 rw [y.cell,z j q f]
theorem B9.tail {w:World} {base g o n c q:Nat} {qs:List Nat} (h:B9 w base g o (n+1) c (q::qs)):B9 w base g (o+1) n (c - 1) qs:=by
 obtain⟨f,z,I,C,E,J,F⟩:=h
 refine⟨f,by simpa using z,by omega,C,E,by omega,fun j y G=>?_⟩
 rw [show o+1+j=o+(j+1) by omega]
 exact F (j+1) y (by simpa using G)
theorem B9.room {w:World} {base g o n c q:Nat} {qs:List Nat} (h:B9 w base g o n c qs) (M:n<c):B9 (w.setCell ⟨g,o+n,none⟩ (.int .i64 (q:Int))) base g o (n+1) c (qs++[q]):=by
 obtain⟨C,z,O,U,E,F,G⟩:=h
 refine⟨C,by simp [z],by omega,_,E.set_ (o+n) _,by simpa using F,fun j y f=>?_⟩
 rw [Array.getElem?_setIfInBounds]
 by_cases I:j=n
 ·subst I
  rw [List.getElem?_append_right (by omega)] at f
  simp [z] at f
  rw [if_pos rfl,if_pos (by omega),f]
 ·have J:=AO f
  rw [List.length_append,List.length_singleton] at J
  rw [List.getElem?_append_left (by omega)] at f
  rw [if_neg (by omega)]
  exact G j y f
theorem Ly {P:Program} {ops:Array Oper} {rest:List Oper} {o:Oper} {a:Act} {Q:Exit→Act→World→Prop} {w:World} {x base:Nat} (R:C4 P 24 3 1) (a4:o.guard=none) (s y:Operand)
    (ho:o.op=.call { callee:=.builtin .append,args:=#[s,y],argTypes:=#[24,24] })
    (g E n c:Nat) (qs:List Nat) (hs:a.eval s=.slice (some ⟨g,E,none⟩) n c) (hq:B9 w base g E n c qs) (M:Nat)
    (hx:a.eval y=.slice (some ⟨w.heap.size,0,none⟩) 1 M) (O:n+1≤4000000) (ar:base≤w.heap.size)
    (h:∀f U G w',B9 w' base f U (n+1) G (qs++[x])→Ae w w' (fun k=>k=g)→(f=g∨w.heap.size≤f)→f<w'.heap.size→
      wpList P ops Q rest (a.put o.dst (.slice (some ⟨f,U,none⟩) (n+1) G)) w'):
    wpList P ops Q (o::rest) a (w.alloc (.cells #[.int .i64 (x:Int)] 3)):=by
  obtain⟨i,z,bytes,hi,hz,ab,ad,ae,hb⟩:=R.info
  have V:Ae w (w.alloc (.cells #[.int .i64 (x:Int)] 3)) (fun k=>k=g):=(Ae.refl w _).alloc _
  obtain⟨q1,W,q3,ai,Z,q5,q6⟩:=hq
  have I:=Z.kept ((Ae.refl w (fun _=>False)).alloc (.cells #[.int .i64 (x:Int)] 3)) id
  have a2:B9 (w.alloc (.cells #[.int .i64 (x:Int)] 3)) base g E n c qs:=⟨q1,W,q3,ai,I,q5,q6⟩
  refine wpList_append_arg _ a4 s y 24 ho 3 i z 1 bytes R.ht hi hz ab ad ae R.pos g E n c ((Aj qs).map (Value.int .i64)) hs (by simp [Aj,W]) ?_ ⟨w.heap.size,0,none⟩ 1 M [.int .i64 (x:Int)] hx rfl ?_ (by simp [Value.oneCell']) ?_ (by unfold maxLen; omega) (Nat.le_trans (Nat.mul_le_mul O hb) (by decide)) ?_ ?_
  · intro j u C
    rw [List.getElem?_map] at C
    rcases J:qs[j]? with _ | q
    · simp [Aj,J] at C
    · have:u=.int .i64 (q:Int):=by simp [Aj,J] at C; exact C.symm
      rw [this]
      exact a2.cell J
  · intro j u C
    have al:(⟨w.heap.size,0,none⟩:Addr).add j=⟨w.heap.size,j,none⟩:=by unfold Addr.add; split <;> simp_all
    rw [al,(Blk.new w 3 #[.int .i64 (x:Int)]).cell]
    simpa using C
  · intro hr j C
    have:j=0:=by simpa using C
    subst this
    refine⟨?_,I.frozen _⟩
    rw [I.cell,Array.getElem?_eq_getElem (by omega)]
    rfl
  · intro hr
    have an:=a2.room (q:=x) (by omega)
    have:=h g E c ((w.alloc (.cells #[.int .i64 (x:Int)] 3)).setCell ⟨g,E+n,none⟩ (.int .i64 (x:Int))) an (V.setCell (p:=⟨g,E+n,none⟩) (fun _=>rfl) _) (.inl rfl) (by have:=Z.lt; simp; omega)
    rw [Nat.mul_one]
    exact this
  · intro hg v' w' a3 F
    have ao:Ae (w.alloc (.cells #[.int .i64 (x:Int)] 3)) w' (fun k=>k=g):=⟨F.os,F.tape,F.output,F.size,fun k hk O=>F.block k hk (by simp)⟩
    rcases a3.2 with⟨rfl,h0⟩ | ⟨f,G,aw,rfl,ax,hh,_⟩
    · exact absurd h0 (by omega)
    · have ay:w.heap.size<f:=by have:(w.alloc (.cells #[.int .i64 (x:Int)] 3)).heap.size=w.heap.size+1:=by simp
                                omega
      refine h f 0 G w' (B9.of_own (base:=base) (Dz ?_ (show base≤(w.alloc (.cells #[.int .i64 (x:Int)] 3)).heap.size by simp; omega))) (V.trans ao fun _ _ e=>e) (.inr (by omega)) (Array.getElem?_eq_some_iff.1 hh).1
      have e:(Aj (qs++[x])).map (Value.int .i64)=(Aj qs).map (Value.int .i64)++[.int .i64 (x:Int)]:=by rw [FE,List.map_append]; rfl
      rw [e]
      exact a3
end Go.Proofs.YtlakpndhhelliaaGreatDoor
