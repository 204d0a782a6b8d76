/-
  Part SK of a proof.
-/
import Derived.Test.YtfcfpoemojjglaaGreatDoorPA
import Derived.Test.YtfcfpoemojjglaaGreatDoorSJ
import Derived.Test.YtfcfpoemojjglaaGreatDoorSB
set_option maxHeartbeats 16000000
set_option maxRecDepth 100000
set_option linter.unusedVariables false
set_option linter.unusedSimpArgs false
namespace Go.Proofs.YtfcfpoemojjglaaGreatDoor
open Go.RowKit
open K (Am Az At AW Ah)
attribute [-go_sem] loadCellsFrom
set_option maxHeartbeats 16000000
set_option maxRecDepth 100000
def AL (p:Am):List TR:=p.rules.map fun r=>(C1 p r).tr
def WB (p:Am):Prop:=∀r∈p.rules,(C1 p r).Good p.states.length
theorem WB.at {p:Am} (h:WB p):∀t∈AL p,t.In∧0≤t.states∧t.letters=(p.states.length:Int)∧t.states≤36:=by
 intro t ht
 obtain⟨r,z,rfl⟩:=List.mem_map.1 ht
 have y:=h r z
 refine⟨y.tr_in,?_,?_,?_⟩
 ·show(0:Int)≤((C1 p r).nm.length:Int); omega
 ·show((C1 p r).L:Int)=_; rw [y.eL]
 ·have:=y.len
  show((C1 p r).nm.length:Int)≤36
  omega
theorem StM.fin {w0 wr E y:World} {g3 g:Nat} {o:TR} {vS vA vM:Value} {ls:Lst} {cs:Array Value} (h:StM w0 wr g3 o vS vA vM ls) (U:Blk wr g 55 cs) (hk:Ac wr E (fun k=>k=g)) (V:Ac E y (fun k=>k<w0.heap.size)) (h1:o.start.length≤4000000) (h2:o.accept.length≤4000000) (h3:o.moves.length≤4000000):
  H6 y y.heap.size (.agg #[.int .i64 o.letters,.int .i64 o.states,vS,vA,vM]) o:=by
 have key:∀{e m s:Nat} {v:Value} {xs:List Value},e≠55→wr.ownsRow w0.heap.size e s v m xs→y.ownsRow w0.heap.size e s v m xs:=fun W ho=>
  V.ownsRow (hk.ownsRow ho fun O z e=>Aw ho U W (by rw [z,e])) fun O z a9=>by have:=Bb ho z; omega
 obtain⟨F,Z,C,r1⟩:=B8 (B:=y.heap.size) (key (by decide) h.st) rfl (Nat.le_refl _) (by omega)
 obtain⟨G,k2,J,r2⟩:=B8 (B:=y.heap.size) (key (by decide) h.ac) rfl (Nat.le_refl _) (by omega)
 obtain⟨I,k3,M,r3⟩:=WN (B:=y.heap.size) (key (by decide) h.mv) rfl (Nat.le_refl _) (by omega)
 exact⟨F,Z,G,k2,I,k3,by rw [C,J,M],r1,r2,r3,WM h.st _ _ _ C⟩
theorem YG {w:World} {cs:List Value} {p:Am} (h:At w w.heap.size cs p) (hL:p.states.length≤60) (hR:p.rules.length≤60) (hG:WB p):
  Calls Tryz.prog 68 #[.agg cs.toArray] w (Ret fun v w'=>Below w.heap.size w w'∧∀z,Ac w' z (fun k=>k<w.heap.size)→H6 z z.heap.size v (TR.sum (p.states.length:Int) (AL p))):=by
 obtain⟨A1,c1,A2,c2,A3,c3,A4,c4,A5,c5,A6,c6,A7,c7,bb,q0,q1,q2,q3,q4,q5,q6,q7,q8,q9,-⟩:=h.cells
 obtain⟨w1,cK,a9,W,-⟩:=Ae w cs.toArray 27
 obtain⟨w2,cL,O,am,-⟩:=Ae w1 #[.int .i64 0,.int .i64 0,sn0,sn0,sn0] 55
 obtain⟨cR,cO,ay,Z,-⟩:=Ae w2 #[.int .i64 0,.int .i64 0,sn0,sn0,sn0] 55
 obtain⟨w3,bd,aJ,aY⟩:=Dn Z (.int .i64 (p.states.length:Int)) (.int .i64 0) sn0 sn0 sn0
 have a2:Below w2.heap.size w2 w3:=ay.trans (aY.below ay.size fun b E (e:b=_)=>by omega)
 unfold CK at bd
 have ck:=Z.cell
 have cp:=Z.frozen
 have cw:=Z.lt
 have ax:=a9.trans (O.mono a9.size)
 have aT:=ax.trans (a2.mono ax.size)
 have cD:=a9.size
 have cE:=O.size
 have ct:=W.lt
 have cu:=am.lt
 have aN:StM w w3 w2.heap.size ⟨(p.states.length:Int),0,[],[],[]⟩ sn0 sn0 sn0 [(w.heap.size,27,cs.toArray),(w1.heap.size,55,#[.int .i64 0,.int .i64 0,sn0,sn0,sn0])]:=by
  refine⟨aT,aJ,World.ownsRow_nil _ _ _ _,World.ownsRow_nil _ _ _ _,World.ownsRow_nil _ _ _ _,fun g e=>(by cases e),fun x C=>?_,by omega⟩
  simp only [List.mem_cons,List.not_mem_nil,or_false] at C
  rcases C with rfl | rfl
  ·exact⟨(W.below O).below a2,by show w.heap.size≠_; omega,by simp [Value.ownBlock,sn0],by simp [Value.ownBlock,sn0],by simp [Value.ownBlock,sn0]⟩
  ·exact⟨am.below a2,by show w1.heap.size≠_; omega,by simp [Value.ownBlock,sn0],by simp [Value.ownBlock,sn0],by simp [Value.ownBlock,sn0]⟩
 have ap:=hide aN
 have bp:=((W.below O).cell 2).trans q2
 have bq:=(((W.below O).below a2).cell 9).trans q9
 have ci:=hide h
 have a5:=hide hG.at
 have bA:=hide bb
 obtain⟨L,ao⟩:∃L,L=p.states.length:=⟨_,rfl⟩
 obtain⟨nr,a3⟩:∃n,n=p.rules.length:=⟨_,rfl⟩
 rw [←ao] at bd ap hL a5 bp ⊢
 rw [←a3] at bq hR
 have cy:=hide a3
 have bu:Hid (∀V (i:Nat) r,Below w.heap.size w V→p.rules[i]?=some r→Calls Tryz.prog 55 #[.agg cs.toArray,.int .i64 (i:Int)] V (Ret fun v w'=>Below V.heap.size V w'∧(C1 p r).size≤10000∧∀z,Ac w' z (fun k=>k<V.heap.size)→H6 z z.heap.size v (C1 p r).tr)):=
  hide (fun V i r E I=>Xh (h.keep (fun _ hp=>E.cell hp) E.size) I (by rw [←ao]; exact hL))
 have bC:Hid ((AL p).length=nr):=hide (by unfold AL; rw [List.length_map,a3])
 have bB:Hid (∀i,i<nr→∃r,p.rules[i]?=some r∧(AL p)[i]?=some (C1 p r).tr):=hide (fun i hi=>by
  obtain⟨r,I⟩:=An (l:=p.rules) (i:=i) (by rw [←a3]; exact hi)
  exact⟨r,I,by unfold AL; rw [List.getElem?_map,I]; rfl⟩)
 generalize cs.toArray=pc at*
 clear h hG bb aN W am aJ Z ay aY a9 O a2 ax aT q0 q1 q2 q3 q4 q5 q6 q7 q8 q9 ao a3
 have h0:Hid (StM w w3 w2.heap.size (TR.sum (L:Int) ((AL p).take 0)) sn0 sn0 sn0 [(w.heap.size,27,pc),(w1.heap.size,55,#[.int .i64 0,.int .i64 0,sn0,sn0,sn0])]):=ap
 clear ap
 go_enter Tryz.func68,Tryz.ntmps68
 go_wp2_with fail
 go_loopw [19] (fun ii wr=>∃(i:Nat) (vS vA vM:Value),ii=.int .i64 (i:Int)∧i≤nr∧Hid (StM w wr w2.heap.size (TR.sum (L:Int) ((AL p).take i)) vS vA vM [(w.heap.size,27,pc),(w1.heap.size,55,#[.int .i64 0,.int .i64 0,sn0,sn0,sn0])])∧
   Hid ((TR.sum (L:Int) ((AL p).take i)).start.length≤10000*i∧(TR.sum (L:Int) ((AL p).take i)).accept.length≤10000*i∧(TR.sum (L:Int) ((AL p).take i)).moves.length≤10000*i)) (fun ii _=>nr - (intOf ii).toNat)
 case atStart=>exact⟨0,_,_,_,rfl,Nat.zero_le _,h0,by show _∧_; simp [TR.sum]⟩
 case round=>
  obtain⟨i,vS,vA,vM,rfl,hi,y,F⟩:=hrel
  have aD:Hid ((TR.sum (L:Int) ((AL p).take i)).In∧0≤(TR.sum (L:Int) ((AL p).take i)).states∧(TR.sum (L:Int) ((AL p).take i)).letters=(L:Int)∧(TR.sum (L:Int) ((AL p).take i)).states≤36*60):=hide (by
   have a:=TR.sum_ok (L:=(L:Int)) ((AL p).take i) fun t ht=>by have:=a5.out t (List.mem_of_mem_take ht); exact⟨this.1,this.2.1,this.2.2.1⟩
   have b:=TR.sum_states (L:=(L:Int)) (m:=36) ((AL p).take i) fun t ht=>(a5.out t (List.mem_of_mem_take ht)).2.2.2
   have c:(((AL p).take i).length:Int)≤60:=by rw [List.length_take]; omega
   exact⟨a.1,a.2.1,a.2.2.1,by omega⟩)
  by_cases bx:i<nr
  ·obtain⟨r,I,aC⟩:=bB.out i bx
   have aH:=y.out.blk (g:=w.heap.size) (t:=27) (cs:=pc) (by simp)
   have bw:=Ah aH bA.out
   have ad:Hid (TR.sum (L:Int) ((AL p).take (i+1))=(TR.sum (L:Int) ((AL p).take i)).plus (C1 p r).tr):=hide (by rw [B5 aC,TR.sum_snoc])
   have U:=hide (a5.out _ (List.mem_of_getElem? aC))
   have aa:=hide (bu.out wr i r y.out.below I)
   have ae:Hid ((C1 p r).tr.start.length+(C1 p r).tr.accept.length+(C1 p r).tr.moves.length≤(C1 p r).size):=hide (by unfold Drw.size Drw.tr; simp only [List.length_map]; omega)
   obtain⟨t,ht⟩:∃t,t=(C1 p r).tr:=⟨_,rfl⟩
   obtain⟨o,ho⟩:∃o,o=TR.sum (L:Int) ((AL p).take i):=⟨_,rfl⟩
   obtain⟨sz,bc⟩:∃n,n=(C1 p r).size:=⟨_,rfl⟩
   rw [←ht] at ad U aa ae
   rw [←ho] at ad y F aD
   rw [←bc] at aa ae
   clear aH I aC ht ho bc
   go_wp2_with fail
   refine Calls.ret aa.out ?_
   rintro v w5 ⟨az,cF,hT⟩
   obtain⟨B1,k1,B2,k2,B3,k3,hv,-⟩:=hT w5 (Ac.refl _ _)
   subst hv
   have aw:=hide hT
   have aO:=y.out.keep az
   obtain⟨w6,bE,a7,aU,aV⟩:=aO.push 55 #[.int .i64 t.letters,.int .i64 t.states,.slice B1 t.start.length k1,.slice B2 t.accept.length k2,.slice B3 t.moves.length k3]
   obtain⟨g5,aW⟩:=Wx aV
   rw [aW] at a7
   have cG:=az.size
   have cr:w2.heap.size<wr.heap.size:=y.out.b3.lt
   have aS:=hide (fun k (e:vS.ownBlock=some k)=>Cj y.out.st e)
   have aG:=hide (fun k (e:vA.ownBlock=some k)=>Cj y.out.ac e)
   have bm:=hide (fun k (e:vM.ownBlock=some k)=>Cj y.out.mv e)
   have aA:=hide (Ac.of_below aU (fun k=>k<wr.heap.size))
   have aP:=hide a7
   have br:=(a7.blk List.mem_cons_self).cell
   have af:Hid (0≤t.states∧t.states≤36):=hide ⟨U.out.2.1,U.out.2.2.2⟩
   have J:Hid (o.start.length≤1000000∧o.accept.length≤1000000∧o.moves.length≤1000000∧t.start.length≤1000000∧t.accept.length≤1000000∧t.moves.length≤1000000):=hide (by have:=F.out; have:=ae.out; omega)
   have ab:Hid (0≤o.states∧o.states≤100000):=hide (by have:=aD.out; omega)
   have cQ:=J.out.2.2.2
   clear y aO a7 az aU aV hT aa bw
   go_wp2_with fail
   clear bE aW
   refine YF (l:=t.start) aP.out (fun wz hk=>(aw.out wz (aA.out.trans hk fun b E e=>?_)).slices.1) (fun x C=>?_) ab.out J.out.1 J.out.2.2.2.1 ?_ ?_
   ·rcases e with e | e
    ·omega
    ·exact aS.out b e
   ·have:=D3.1 (U.out.1.start x C)
    have:=af.out
    omega
   ·repeat (first | refine Reg.NoQ.then ?_ | refine Reg.NoQ.inBlock ?_ | exact Reg.NoQ.body (fun _ _ h=>h) (fun _ h=>h))
   iterate 15 (intro _)
   intro w7 bV aq b0
   have aB:=hide (aA.out.trans b0 fun b E e=>by
    rcases e with e | e
    ·omega
    ·exact aS.out b e)
   have aQ:=hide aq
   have bs:=(aq.blk List.mem_cons_self).cell
   clear aq aP b0 aA br
   go_wp2_with fail
   refine YD (l:=t.accept) aQ.out (fun wz hk=>(aw.out wz (aB.out.trans hk fun b E e=>?_)).slices.2.1) (fun x C=>?_) ab.out J.out.2.1 J.out.2.2.2.2.1 ?_ ?_
   ·rcases e with e | e
    ·omega
    ·exact aG.out b e
   ·have:=D3.1 (U.out.1.accept x C)
    have:=af.out
    omega
   ·repeat (first | refine Reg.NoQ.then ?_ | refine Reg.NoQ.inBlock ?_ | exact Reg.NoQ.body (fun _ _ h=>h) (fun _ h=>h))
   iterate 15 (intro _)
   intro w8 bT ar b1
   have aZ:=hide (aB.out.trans b1 fun b E e=>by
    rcases e with e | e
    ·omega
    ·exact aG.out b e)
   have aR:=hide ar
   have bt:=(ar.blk List.mem_cons_self).cell
   clear ar aQ b1 aB bs
   go_wp2_with fail
   refine YE (l:=t.moves) aR.out (fun wz hk=>(aw.out wz (aZ.out.trans hk fun b E e=>?_)).slices.2.2) (fun x C=>?_) ab.out J.out.2.2.1 J.out.2.2.2.2.2 ?_ ?_
   ·rcases e with e | e
    ·omega
    ·exact bm.out b e
   ·have hm:=U.out.1.move x C
    have:=D3.1 hm.1
    have:=D3.1 hm.2.2.2
    have:=af.out
    omega
   ·repeat (first | refine Reg.NoQ.then ?_ | refine Reg.NoQ.inBlock ?_ | exact Reg.NoQ.body (fun _ _ h=>h) (fun _ h=>h))
   iterate 26 (intro _)
   intro w9 bU a8 bv
   have cm:=(a8.blk List.mem_cons_self).cell
   have G:=a8.b3
   have cj:=G.cell
   have co:=G.frozen 1
   have cv:=G.lt
   have bk:=hide (a8.setN (o.states+t.states))
   obtain⟨cz,cB⟩:=ab.out
   obtain⟨cH,cJ⟩:=af.out
   clear a8 aR bv aZ bt G
   go_wp2_with fail
   refine⟨⟨i+1,bV,bT,bU,by go_num,by omega,?_,?_⟩,by simp [intOf]; omega⟩
   ·show StM _ _ _ _ _ _ _ _
    rw [ad.out]
    exact bk.out.sub fun x C=>List.mem_cons_of_mem _ C
   ·show _∧_
    rw [ad.out]
    unfold TR.plus
    simp only [List.length_append,List.length_map]
    have:=F.out
    have:=ae.out
    omega
  ·obtain rfl:nr=i:=by omega
   obtain⟨AS,cS,rfl⟩:=AH y.out.st
   obtain⟨AA,cA,rfl⟩:=AH y.out.ac
   obtain⟨AM,cM,rfl⟩:=AH y.out.mv
   have M:=y.out.blk (g:=w1.heap.size) (t:=55) (cs:=#[.int .i64 0,.int .i64 0,sn0,sn0,sn0]) (by simp)
   have G:=y.out.b3
   have b2:=Ah G (n:=5) rfl
   obtain⟨o,ho⟩:∃o,o=TR.sum (L:Int) ((AL p).take nr):=⟨_,rfl⟩
   have b9:Hid (o=TR.sum (L:Int) (AL p)):=hide (by rw [ho,List.take_of_length_le (by rw [bC.out]; exact Nat.le_refl _)])
   rw [←ho] at y F b2
   obtain⟨n1,b6⟩:∃n,n=o.start.length:=⟨_,rfl⟩
   obtain⟨n2,b7⟩:∃n,n=o.accept.length:=⟨_,rfl⟩
   obtain⟨n3,b8⟩:∃n,n=o.moves.length:=⟨_,rfl⟩
   have a6:=y.out
   obtain⟨wF,be,aK,an⟩:=Dn M (.int .i64 o.letters) (.int .i64 o.states) (.slice AS o.start.length cS) (.slice AA o.accept.length cA) (.slice AM o.moves.length cM)
   unfold CK at be
   have cn:=M.cell
   have cq:=M.frozen
   have cx:=M.lt
   have b4:=Ah aK (n:=5) rfl
   have bo:=hide (a6.below.trans (an.below (B:=w.heap.size) a6.below.size (fun b E (e:b=_)=>by omega)))
   have av:Hid (∀z,Ac wF z (fun k=>k<w.heap.size)→H6 z z.heap.size (.agg #[.int .i64 o.letters,.int .i64 o.states,.slice AS o.start.length cS,.slice AA o.accept.length cA,.slice AM o.moves.length cM]) o):=hide (fun z hX=>a6.fin M an hX (by have:=F.out; omega) (by have:=F.out; omega) (by have:=F.out; omega))
   rw [←b6,←b7,←b8] at b2 be b4 av
   generalize o.letters=oL at*
   generalize o.states=oS at*
   have ba:=b9.out
   rw [ba] at av
   clear ba
   clear y a6 M G aK an ho b6 b7 b8 b9 aD
   go_wp2_with fail
   exact bodyPost_ret (v:=.agg #[.int .i64 oL,.int .i64 oS,.slice AS n1 cS,.slice AA n2 cA,.slice AM n3 cM]) (by simp [results,Tryz.results68,go_sem,b4]) rfl ⟨bo.out,av.out⟩
end Go.Proofs.YtfcfpoemojjglaaGreatDoor
