/-
  Part BE of a proof.
-/
import Derived.Test.YtfcfpoemojjglaaGreatDoorPA
import Derived.Test.YtfcfpoemojjglaaGreatDoorBD
set_option maxHeartbeats 16000000
set_option maxRecDepth 100000
set_option linter.unusedVariables false
set_option linter.unusedSimpArgs false
namespace Go.Proofs.YtfcfpoemojjglaaGreatDoor
open Go.RowKit
open K (Ah Dv EQ Kc)
attribute [-go_sem] loadCellsFrom storeCells
set_option maxHeartbeats 16000000
set_option maxRecDepth 100000
theorem aBw (L:Nat) (a b:Int):Wd L a b false=⟨(L:Int),3,[0],[2],TA L++[⟨0,a,1⟩,⟨1,b,2⟩]⟩:=by
 simp [Wd,TA]
theorem aBA {w:World} {L:Nat} {a b:Int} (hL:L<=8):
  Calls Tryz.prog 85 #[.int .i64 (L:Int),.int .i64 a,.int .i64 b,.bool false] w (Ret fun r w'=>Below w.heap.size w w'/\Bj w' w'.heap.size r (Wd L a b false)):=by
 obtain⟨w2,aS,W,a4,-⟩:=Ae w #[.int .i64 0,.int .i64 0,.slice none 0 0,.slice none 0 0,.slice none 0 0] 35;obtain⟨h,aT,I,ad,-⟩:=Ae w2 #[.int .i64 0] 3;obtain⟨G,aU,E,ae,-⟩:=Ae h #[.int .i64 2] 3;obtain⟨w5,ak,J,af,-⟩:=Ae G #[.int .i64 (L:Int),.int .i64 3,.slice (some ⟨w2.heap.size,0,none⟩) 1 1,.slice (some ⟨h.heap.size,0,none⟩) 1 1,.slice none 0 0] 35;have aQ:∀c:Array Value,c.size=5->(storeCells ⟨G.heap.size,0,none⟩ [.int .i64 (L:Int),.int .i64 3,.slice (some ⟨w2.heap.size,0,none⟩) 1 1,.slice (some ⟨h.heap.size,0,none⟩) 1 1,.slice none 0 0] 0).run Tryz.prog (G.alloc (.cells c 35))=.ok () w5:=fun c hc=>by
  rw [<-ak];exact Dv G 35 5 (by kernel_rfl) (rc:=#[.int .i64 (L:Int),.int .i64 3,.slice (some ⟨w2.heap.size,0,none⟩) 1 1,.slice (some ⟨h.heap.size,0,none⟩) 1 1,.slice none 0 0]) rfl (by simp [Value.oneCell']) c hc
 have s2:=W.size;have s3:=I.size;have s4:=E.size;have U:=W.trans (I.mono s2);have a3:=U.trans (E.mono U.size);have ab:=a3.trans (J.mono a3.size);have a8:=((a4.below I).below E).below J;have a9:=(ad.below E).below J;have aa:=ae.below J
 have hM:Hid (EbM w w5 w.heap.size G.heap.size #[.int .i64 0,.int .i64 0,.slice none 0 0,.slice none 0 0,.slice none 0 0] (.int .i64 (L:Int)) (.int .i64 3) (.slice (some ⟨w2.heap.size,0,none⟩) 1 1) (.slice (some ⟨h.heap.size,0,none⟩) 1 1) (.slice none 0 0) []
   [(w2.heap.size,3,#[.int .i64 0]),(h.heap.size,3,#[.int .i64 2])]):=hide
  ⟨ab,a8,af,fun x hx=>by
   simp only [List.mem_cons,List.not_mem_nil,or_false] at hx;rcases hx with rfl | rfl
   ·exact⟨a9,show(3:Nat)≠35 by decide,show(3:Nat)≠83 by decide⟩
   ·exact⟨aa,show(3:Nat)≠35 by decide,show(3:Nat)≠83 by decide⟩,World.ownsRow_nil _ _ _ _,by have:=a4.lt; have:=I.size; have:=E.size; omega,⟨Nat.le_refl _,by omega⟩⟩
 have ar:w.heap.size<=w2.heap.size:=W.size;have au:w.heap.size<=h.heap.size:=U.size;clear W I E J a4 ad ae af U a3 ab a8 a9 aa ak;go_enter Tryz.func85,Tryz.ntmps85;go_wp2_with fail;refine aBd hM.out hL ?_;iterate 14 (intro _)
 intro w6 vE C;obtain⟨AE,cE,rfl⟩:=AH C.eds;obtain⟨m,Z⟩:∃m,(TA L).length=m:=⟨_,rfl⟩;have aG:m+2<=1000000:=by rw [<-Z,aA1]; omega
 have aB:=C.b5.cell;have ah:=C.eds;rw [Z] at aB ah;have aJ:=C.below.size;have a7:=hide Z;clear Z;rw [a7.out] at C;have V:=hide C;clear C
 go_wp2_with (
  at_builtin;refine aAY (w:=w6) Ga rfl _ _ rfl w.heap.size (.slice AE m cE) m _ rfl ah [.int .i64 0,.int .i64 a,.int .i64 1,.int .i64 1,.int .i64 b,.int .i64 2] 2 2 rfl rfl (by simp [Value.oneCell']) (by decide) aG aJ ?_;intro y l w7 ai a6 aO;have a5:=V.out.b5.kept a6 (Aw V.out.eds V.out.b5 (by decide));have j:=V.out.addE (d:=[⟨0,a,1⟩,⟨1,b,2⟩]) (vE':=.slice (some ⟨y,0,none⟩) (m+2) l) a6 (by rw [a7.out]; have:=ai; simpa [eC] using this);obtain⟨O,aK⟩:∃O,w7.setCell ⟨G.heap.size,4,none⟩ (.slice (some ⟨y,0,none⟩) (m+2) l)=O:=⟨_,rfl⟩;have aH:=W3 (a5.cell 4) (a5.frozen 4) (v:=.slice (some ⟨y,0,none⟩) (m+2) l) rfl;rw [aK] at j aH;have aw:=hide j;obtain⟨w9,aj,ag,M⟩:=Wn j.b4 #[.int .i64 (L:Int),.int .i64 3,.slice (some ⟨w2.heap.size,0,none⟩) 1 1,.slice (some ⟨h.heap.size,0,none⟩) 1 1,.slice (some ⟨y,0,none⟩) (m+2) l] rfl (by simp [Value.oneCell']);have aR:(storeCells ⟨w.heap.size,0,none⟩ [.int .i64 (L:Int),.int .i64 3,.slice (some ⟨w2.heap.size,0,none⟩) 1 1,.slice (some ⟨h.heap.size,0,none⟩) 1 1,.slice (some ⟨y,0,none⟩) (m+2) l] 0).run Tryz.prog O=.ok () w9:=aj;have aP:=Ah j.b5 (n:=5) rfl;have aF:=hide (Ah ag (n:=5) rfl);have aD:=hide M;clear j aj ag M ai a6 a5)
 have j:=aw.out;have M:=aD.out;have BS:=(j.oth (w2.heap.size,3,#[.int .i64 0]) List.mem_cons_self).1;have BA:=(j.oth (h.heap.size,3,#[.int .i64 2]) (List.mem_cons_of_mem _ List.mem_cons_self)).1;have hS:O.ownsRow w.heap.size 3 1 (.slice (some ⟨w2.heap.size,0,none⟩) 1 1) ([0]:List Int).length (([0]:List Int).map (Value.int .i64)):=DD (base:=w.heap.size) (n:=1) BS ar rfl (by omega);have hA:O.ownsRow w.heap.size 3 1 (.slice (some ⟨h.heap.size,0,none⟩) 1 1) ([2]:List Int).length (([2]:List Int).map (Value.int .i64)):=DD (base:=w.heap.size) (n:=1) BA au rfl (by omega);have aC:=j.fin (n:=3) (M.mono fun b _ e=>.inl e) hS hA (fun A n c e=>by cases e; simp) (by simp) (by simp) (by rw [List.length_append,a7.out]; simp; omega);have hF:Below w.heap.size w w9/\Bj w9 w9.heap.size (.agg #[.int .i64 (L:Int),.int .i64 3,.slice (some ⟨w2.heap.size,0,none⟩) 1 1,.slice (some ⟨h.heap.size,0,none⟩) 1 1,.slice (some ⟨y,0,none⟩) (m+2) l]) (Wd L a b false):=⟨j.below.trans (M.below j.below.size fun b hb (e:b=w.heap.size)=>by omega),by rw [aBw]; exact aC⟩;have hl:=aF.out;exact bodyPost_ret (v:=.agg #[.int .i64 (L:Int),.int .i64 3,.slice (some ⟨w2.heap.size,0,none⟩) 1 1,.slice (some ⟨h.heap.size,0,none⟩) 1 1,.slice (some ⟨y,0,none⟩) (m+2) l]) (by simp [results,Tryz.results85,go_sem,hl]) rfl hF
end Go.Proofs.YtfcfpoemojjglaaGreatDoor
namespace Go.Proofs.YtfcfpoemojjglaaGreatDoor
open Go.RowKit
open K (Ah Dv EQ Kc)
attribute [-go_sem] loadCellsFrom storeCells
set_option maxHeartbeats 16000000
set_option maxRecDepth 100000
theorem EbM.setF {w0 wr:World} {g4 g5:Nat} {c4:Array Value} {v0 v1 vS vA vE:Value} {es:List Edg} {ls:List (Nat×TypeId×Array Value)} (h:EbM w0 wr g4 g5 c4 v0 v1 vS vA vE es ls) (j:Nat) (x C vS' vA':Value)
  (G:(#[v0,v1,vS,vA,vE]:Array Value).setIfInBounds j x=#[v0,C,vS',vA',vE]):EbM w0 (wr.setCell ⟨g5,j,none⟩ x) g4 g5 c4 v0 C vS' vA' vE es ls:=by
 have d:=(Ac.refl wr (fun k=>k=g5)).setCell (p:=⟨g5,j,none⟩) (fun _=>rfl) x;refine⟨h.below.trans (d.below h.below.size fun b hb (e:b=g5)=>by have:=h.ge; omega),h.b4.kept d h.ne,by have:=h.b5.set_ j x; rw [G] at this; exact this,fun y l=>⟨(h.oth y l).1.kept d fun e=>(h.oth y l).1.ne_ h.b5 (h.oth y l).2.1 e,(h.oth y l).2⟩,AK d h.eds (fun g cs e E=>by subst e; exact E.ne_ h.b5 (by decide) rfl),h.ne,h.ge⟩
theorem EbM.more {w0 wr:World} {g4 g5:Nat} {c4:Array Value} {v0 v1 vS vA vE:Value} {es:List Edg} {ls:List (Nat×TypeId×Array Value)} (h:EbM w0 wr g4 g5 c4 v0 v1 vS vA vE es ls) {g:Nat} {t:TypeId} {c:Array Value} (y:Blk wr g t c) (j:t≠35) (l:t≠83):
  EbM w0 wr g4 g5 c4 v0 v1 vS vA vE es ((g,t,c)::ls):=
 ⟨h.below,h.b4,h.b5,fun x d=>by
  rcases List.mem_cons.1 d with rfl | d
  ·exact⟨y,j,l⟩
  ·exact h.oth x d,h.eds,h.ne,h.ge⟩
theorem aBa (L:Nat) (a b:Int):Wd L a b true=⟨(L:Int),6,[0,3],[2,5],TA L++[⟨0,a,1⟩,⟨1,b,2⟩]++aDb L++[⟨3,b,4⟩,⟨4,a,5⟩]++(if a=b then [⟨3,a,5⟩] else [])⟩:=by
 simp [Wd,TA,aDb,List.append_assoc]
theorem aBc {w wr wF:World} {g5 g9 d L:Nat} {c4:Array Value} {vE:Value} {es:List Edg} {ls:List (Nat×TypeId×Array Value)}
  (h:EbM w wr w.heap.size g5 c4 (.int .i64 (L:Int)) (.int .i64 6) (.slice (some ⟨g9,0,none⟩) 2 2) (.slice (some ⟨d,0,none⟩) 2 2) vE es ((d,3,#[.int .i64 2,.int .i64 5])::(g9,3,#[.int .i64 0,.int .i64 3])::ls)) (j:Ac wr wF (fun k=>k=w.heap.size))
  (E:w.heap.size<=g9) (C:w.heap.size<=d) (he:es.length<=4000000):
  Below w.heap.size w wF/\Bj wF wF.heap.size (.agg #[.int .i64 (L:Int),.int .i64 6,.slice (some ⟨g9,0,none⟩) 2 2,.slice (some ⟨d,0,none⟩) 2 2,vE]) ⟨(L:Int),6,[0,3],[2,5],es⟩:=by
 have y:=(h.oth (g9,3,#[.int .i64 0,.int .i64 3]) (List.mem_cons_of_mem _ List.mem_cons_self)).1;have l:=(h.oth (d,3,#[.int .i64 2,.int .i64 5]) List.mem_cons_self).1;have hS:wr.ownsRow w.heap.size 3 1 (.slice (some ⟨g9,0,none⟩) 2 2) ([0,3]:List Int).length (([0,3]:List Int).map (Value.int .i64)):=DD (base:=w.heap.size) (n:=2) y E rfl (by omega);have G:wr.ownsRow w.heap.size 3 1 (.slice (some ⟨d,0,none⟩) 2 2) ([2,5]:List Int).length (([2,5]:List Int).map (Value.int .i64)):=DD (base:=w.heap.size) (n:=2) l C rfl (by omega);have I:=h.fin (n:=6) (j.mono fun b _ e=>.inl e) hS G (fun A n c e=>by cases e; simp) (by simp) (by simp) he;exact⟨h.below.trans (j.below h.below.size fun b hb (e:b=w.heap.size)=>by omega),I⟩
theorem aBB {w:World} {L:Nat} {a b:Int} (hL:L<=8):
    Calls Tryz.prog 85 #[.int .i64 (L:Int),.int .i64 a,.int .i64 b,.bool true] w (Ret fun r w'=>Below w.heap.size w w'/\Bj w' w'.heap.size r (Wd L a b true)):=by
  obtain⟨w2,c5,ak,aq,-⟩:=Ae w #[.int .i64 0,.int .i64 0,.slice none 0 0,.slice none 0 0,.slice none 0 0] 35;obtain⟨Z,c6,a5,aW,-⟩:=Ae w2 #[.int .i64 0] 3;obtain⟨C,c7,a3,aX,-⟩:=Ae Z #[.int .i64 2] 3;obtain⟨w5,bi,a6,aY,-⟩:=Ae C #[.int .i64 (L:Int),.int .i64 3,.slice (some ⟨w2.heap.size,0,none⟩) 1 1,.slice (some ⟨Z.heap.size,0,none⟩) 1 1,.slice none 0 0] 35;have bY:∀c:Array Value,c.size=5->(storeCells ⟨C.heap.size,0,none⟩ [.int .i64 (L:Int),.int .i64 3,.slice (some ⟨w2.heap.size,0,none⟩) 1 1,.slice (some ⟨Z.heap.size,0,none⟩) 1 1,.slice none 0 0] 0).run Tryz.prog (C.alloc (.cells c 35))=.ok () w5:=fun c hc=>by
    rw [<-bi];exact Dv C 35 5 (by kernel_rfl) (rc:=#[.int .i64 (L:Int),.int .i64 3,.slice (some ⟨w2.heap.size,0,none⟩) 1 1,.slice (some ⟨Z.heap.size,0,none⟩) 1 1,.slice none 0 0]) rfl (by simp [Value.oneCell']) c hc
  have s2:=ak.size;have s3:=a5.size;have s4:=a3.size;have aa:=ak.trans (a5.mono s2);have an:=aa.trans (a3.mono aa.size);have aQ:=an.trans (a6.mono an.size);have aN:=((aq.below a5).below a3).below a6;have aO:=(aW.below a3).below a6;have aP:=aX.below a6
  have hM:Hid (EbM w w5 w.heap.size C.heap.size #[.int .i64 0,.int .i64 0,.slice none 0 0,.slice none 0 0,.slice none 0 0] (.int .i64 (L:Int)) (.int .i64 3) (.slice (some ⟨w2.heap.size,0,none⟩) 1 1) (.slice (some ⟨Z.heap.size,0,none⟩) 1 1) (.slice none 0 0) []
      [(w2.heap.size,3,#[.int .i64 0]),(Z.heap.size,3,#[.int .i64 2])]):=hide
    ⟨aQ,aN,aY,fun x hx=>by
      simp only [List.mem_cons,List.not_mem_nil,or_false] at hx;rcases hx with rfl | rfl
      · exact⟨aO,show(3:Nat)≠35 by decide,show(3:Nat)≠83 by decide⟩
      · exact⟨aP,show(3:Nat)≠35 by decide,show(3:Nat)≠83 by decide⟩,World.ownsRow_nil _ _ _ _,by have:=aq.lt; have:=a5.size; have:=a3.size; omega,⟨Nat.le_refl _,by omega⟩⟩
  have bS:w.heap.size<=w2.heap.size:=ak.size;have bT:w.heap.size<=Z.heap.size:=aa.size;clear ak a5 a3 a6 aq aW aX aY aa an aQ aN aO aP bi;go_enter Tryz.func85,Tryz.ntmps85;go_wp2_with fail;refine aBd hM.out hL ?_;iterate 14 (intro _)
  intro w6 vE M;obtain⟨AE,cE,rfl⟩:=AH M.eds;obtain⟨m,hm⟩:∃m,(TA L).length=m:=⟨_,rfl⟩;have bw:m+2<=1000000:=by rw [<-hm,aA1]; omega
  have bt:=M.b5.cell;have ba:=M.eds;rw [hm] at bt ba;have bG:=M.below.size;have be:=hide hm;clear hm;rw [be.out] at M;have hI:=hide M;clear M
  go_wp2_with (
    at_builtin;refine aAY (w:=w6) Ga rfl _ _ rfl w.heap.size (.slice AE m cE) m _ rfl ba [.int .i64 0,.int .i64 a,.int .i64 1,.int .i64 1,.int .i64 b,.int .i64 2] 2 2 rfl rfl (by simp [Value.oneCell']) (by decide) bw bG ?_;intro g' ao w7 bg aB bW;have ax:=hI.out.b5.kept aB (Aw hI.out.eds hI.out.b5 (by decide));have G:=hI.out.addE (d:=[⟨0,a,1⟩,⟨1,b,2⟩]) (vE':=.slice (some ⟨g',0,none⟩) (m+2) ao) aB (by rw [be.out]; have:=bg; simpa [eC] using this);obtain⟨w8,bK⟩:∃w8,w7.setCell ⟨C.heap.size,4,none⟩ (.slice (some ⟨g',0,none⟩) (m+2) ao)=w8:=⟨_,rfl⟩;have bD:=W3 (ax.cell 4) (ax.frozen 4) (v:=.slice (some ⟨g',0,none⟩) (m+2) ao) rfl;rw [bK] at G bD;have bp:=hide G;have bE:=W3 (G.b5.cell 1) (G.b5.frozen 1) (v:=.int .i64 6) rfl;have ah:=G.setF 1 (.int .i64 6) (.int .i64 6) _ _ rfl;obtain⟨j,bL⟩:∃j,w8.setCell ⟨C.heap.size,1,none⟩ (.int .i64 6)=j:=⟨_,rfl⟩;rw [bL] at ah bE;obtain⟨bN,bZ,b7,aU,-⟩:=Ae j #[.int .i64 0,.int .i64 3] 3;have ae:=(ah.keep b7).more aU (by decide) (by decide);have aT:w.heap.size<=j.heap.size:=ah.below.size;have bz:=W3 (ae.b5.cell 2) (ae.b5.frozen 2) (v:=(.slice (some ⟨j.heap.size,0,none⟩) 2 2)) rfl;have af:=ae.setF 2 (.slice (some ⟨j.heap.size,0,none⟩) 2 2) _ (.slice (some ⟨j.heap.size,0,none⟩) 2 2) _ rfl;obtain⟨h,bH⟩:∃h,bN.setCell ⟨C.heap.size,2,none⟩ (.slice (some ⟨j.heap.size,0,none⟩) 2 2)=h:=⟨_,rfl⟩;rw [bH] at af bz;obtain⟨bO,c0,b8,aV,-⟩:=Ae h #[.int .i64 2,.int .i64 5] 3;have ag:=(af.keep b8).more aV (by decide) (by decide);have aS:w.heap.size<=h.heap.size:=af.below.size;have bA:=W3 (ag.b5.cell 3) (ag.b5.frozen 3) (v:=(.slice (some ⟨h.heap.size,0,none⟩) 2 2)) rfl;have ar:=ag.setF 3 (.slice (some ⟨h.heap.size,0,none⟩) 2 2) _ _ (.slice (some ⟨h.heap.size,0,none⟩) 2 2) rfl;obtain⟨bk,bI⟩:∃bk,bO.setCell ⟨C.heap.size,3,none⟩ (.slice (some ⟨h.heap.size,0,none⟩) 2 2)=bk:=⟨_,rfl⟩;rw [bI] at ar bA;have aZ:=hide ar;clear G ah ae af ag ar b7 aU b8 aV bg aB ax)
  have b9:(TA L++[(⟨0,a,1⟩:Edg),⟨1,b,2⟩]).length<=1000:=by rw [List.length_append,aA1]; simp; omega
  refine aBz aZ.out hL b9 ?_;iterate 12 (intro _)
  intro bl vE J;obtain⟨AF,cF,rfl⟩:=AH J.eds;obtain⟨n,hn⟩:∃n,(TA L++[(⟨0,a,1⟩:Edg),⟨1,b,2⟩]++aDb L).length=n:=⟨_,rfl⟩;have bX:n+3<=1000000:=by rw [<-hn,List.length_append,aBo]; omega
  have bs:=J.b5.cell;have ay:=J.eds;rw [hn] at bs ay;have bh:=J.below.size;have V:=hide hn;clear hn b9;rw [V.out] at J;have I:=hide J;clear J aZ bp;by_cases b6:a=b
  · subst b6
    go_wp2_with (
      at_builtin;first
      | (refine aAY (w:=bl) Ga rfl _ _ rfl w.heap.size (.slice AF n cF) n _ rfl ay [.int .i64 3,.int .i64 a,.int .i64 4,.int .i64 4,.int .i64 a,.int .i64 5] 2 2 rfl rfl (by simp [Value.oneCell']) (by decide) (by omega) bh ?_
         intro ad ab bP bf az bV;have aw:=I.out.b5.kept az (Aw I.out.eds I.out.b5 (by decide));have a2:=I.out.addE (d:=[⟨3,a,4⟩,⟨4,a,5⟩]) (vE':=.slice (some ⟨ad,0,none⟩) (n+2) ab) az (by rw [V.out]; have:=bf; simpa [eC] using this);obtain⟨aH,bJ⟩:∃aH,bP.setCell ⟨C.heap.size,4,none⟩ (.slice (some ⟨ad,0,none⟩) (n+2) ab)=aH:=⟨_,rfl⟩;have bB:=W3 (aw.cell 4) (aw.frozen 4) (v:=.slice (some ⟨ad,0,none⟩) (n+2) ab) rfl;rw [bJ] at a2 bB;have bU:=a2.b5.cell;have bd:=a2.eds;rw [List.length_append,V.out] at bd;have bF:=a2.below.size;have aj:=hide a2;clear a2 bf az aw)
      | (refine BP (w:=aH) Ga rfl _ _ rfl w.heap.size (.slice (some ⟨ad,0,none⟩) (n+2) ab) (n+2) _ rfl bd [.int .i64 3,.int .i64 a,.int .i64 5] 1 rfl rfl (by simp [Value.oneCell']) (by omega) bF ?_
         intro y l aJ a8 U bx bu;have O:=aj.out.b5.kept U (Aw aj.out.eds aj.out.b5 (by decide));have E:=aj.out.addE (d:=[⟨3,a,5⟩]) (vE':=.slice (some ⟨y,0,none⟩) (n+2+1) l) U (by rw [List.length_append,V.out]; have:=a8; simpa [eC] using this);obtain⟨W,aG⟩:∃W,aJ.setCell ⟨C.heap.size,4,none⟩ (.slice (some ⟨y,0,none⟩) (n+2+1) l)=W:=⟨_,rfl⟩;have aF:=W3 (O.cell 4) (O.frozen 4) (v:=.slice (some ⟨y,0,none⟩) (n+2+1) l) rfl;rw [aG] at E aF;obtain⟨aK,a9,a4,a7⟩:=Wn E.b4 #[.int .i64 (L:Int),.int .i64 6,.slice (some ⟨j.heap.size,0,none⟩) 2 2,.slice (some ⟨h.heap.size,0,none⟩) 2 2,.slice (some ⟨y,0,none⟩) (n+2+1) l] rfl (by simp [Value.oneCell']);have bC:(storeCells ⟨w.heap.size,0,none⟩ [.int .i64 (L:Int),.int .i64 6,.slice (some ⟨j.heap.size,0,none⟩) 2 2,.slice (some ⟨h.heap.size,0,none⟩) 2 2,.slice (some ⟨y,0,none⟩) (n+2+1) l] 0).run Tryz.prog W=.ok () aK:=a9;have bv:=Ah E.b5 (n:=5) rfl;have aE:=hide (Ah a4 (n:=5) rfl);have aA:=hide a7;have av:=hide E;clear E a9 a4 a7 a8 U bx O))
    have G:=av.out;have aC:=aA.out;have hF:=hide (aBc G aC aT aS (by simp only [List.length_append,V.out,List.length_cons,List.length_nil]; omega));have hl:=aE.out;exact bodyPost_ret (v:=.agg #[.int .i64 (L:Int),.int .i64 6,.slice (some ⟨j.heap.size,0,none⟩) 2 2,.slice (some ⟨h.heap.size,0,none⟩) 2 2,.slice (some ⟨y,0,none⟩) (n+2+1) l]) (by simp [results,Tryz.results85,go_sem,hl]) rfl (by rw [aBa,if_pos rfl]; exact hF.out)
  · go_wp2_with (
      at_builtin;refine aAY (w:=bl) Ga rfl _ _ rfl w.heap.size (.slice AF n cF) n _ rfl ay [.int .i64 3,.int .i64 b,.int .i64 4,.int .i64 4,.int .i64 a,.int .i64 5] 2 2 rfl rfl (by simp [Value.oneCell']) (by decide) (by omega) bh ?_;intro y l aJ a8 U bu;have O:=I.out.b5.kept U (Aw I.out.eds I.out.b5 (by decide));have E:=I.out.addE (d:=[⟨3,b,4⟩,⟨4,a,5⟩]) (vE':=.slice (some ⟨y,0,none⟩) (n+2) l) U (by rw [V.out]; have:=a8; simpa [eC] using this);obtain⟨W,aG⟩:∃W,aJ.setCell ⟨C.heap.size,4,none⟩ (.slice (some ⟨y,0,none⟩) (n+2) l)=W:=⟨_,rfl⟩;have aF:=W3 (O.cell 4) (O.frozen 4) (v:=.slice (some ⟨y,0,none⟩) (n+2) l) rfl;rw [aG] at E aF;obtain⟨aK,a9,a4,a7⟩:=Wn E.b4 #[.int .i64 (L:Int),.int .i64 6,.slice (some ⟨j.heap.size,0,none⟩) 2 2,.slice (some ⟨h.heap.size,0,none⟩) 2 2,.slice (some ⟨y,0,none⟩) (n+2) l] rfl (by simp [Value.oneCell']);have bC:(storeCells ⟨w.heap.size,0,none⟩ [.int .i64 (L:Int),.int .i64 6,.slice (some ⟨j.heap.size,0,none⟩) 2 2,.slice (some ⟨h.heap.size,0,none⟩) 2 2,.slice (some ⟨y,0,none⟩) (n+2) l] 0).run Tryz.prog W=.ok () aK:=a9;have bv:=Ah E.b5 (n:=5) rfl;have aE:=hide (Ah a4 (n:=5) rfl);have aA:=hide a7;have av:=hide E;clear E a9 a4 a7 a8 U O)
    have G:=av.out;have aC:=aA.out;have hF:=hide (aBc G aC aT aS (by simp only [List.length_append,V.out,List.length_cons,List.length_nil]; omega));have hl:=aE.out;exact bodyPost_ret (v:=.agg #[.int .i64 (L:Int),.int .i64 6,.slice (some ⟨j.heap.size,0,none⟩) 2 2,.slice (some ⟨h.heap.size,0,none⟩) 2 2,.slice (some ⟨y,0,none⟩) (n+2) l]) (by simp [results,Tryz.results85,go_sem,hl]) rfl (by rw [aBa,if_neg b6,List.append_nil]; exact hF.out)
theorem L6 {w:World} {L:Nat} {a b:Int} (ring:Bool) (d:L<=8):
  Calls Tryz.prog 85 #[.int .i64 (L:Int),.int .i64 a,.int .i64 b,.bool ring] w (Ret fun r w'=>Below w.heap.size w w'/\Bj w' w'.heap.size r (Wd L a b ring)):=by
 cases ring
 ·exact aBA d
 ·exact aBB d
end Go.Proofs.YtfcfpoemojjglaaGreatDoor
