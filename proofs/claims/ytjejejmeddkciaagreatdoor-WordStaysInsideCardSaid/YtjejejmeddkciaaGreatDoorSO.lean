/-
  Part SO of a proof.
-/
import Derived.Test.YtjejejmeddkciaaGreatDoorPA
import Derived.Test.YtjejejmeddkciaaGreatDoorCI
import Derived.Test.YtjejejmeddkciaaGreatDoorAC
set_option maxHeartbeats 16000000
set_option maxRecDepth 100000
set_option linter.unusedVariables false
set_option linter.unusedSimpArgs false
namespace Go.Proofs.YtjejejmeddkciaaGreatDoor.K
open Go.RowKit
def Fu (w:World) (g:Nat) (b0 b1 b2 b3 b4:Bool):World:=((((w.setCell ⟨g,0,none⟩ (.bool b0)).setCell ⟨g,1,none⟩ (.bool b1)).setCell ⟨g,2,none⟩ (.bool b2)).setCell ⟨g,3,none⟩ (.bool b3)).setCell ⟨g,4,none⟩ (.bool b4)
theorem Tp {w:World} {g:Nat} {t:TypeId} {a0 a1 E F G:Value} (h:Blk w g t #[a0,a1,E,F,G]) (C b1 b2 b3 b4:Bool):
  (storeCells ⟨g,0,none⟩ [.bool C,.bool b1,.bool b2,.bool b3,.bool b4] 0).run Tryz.prog w=.ok () (Fu w g C b1 b2 b3 b4):=by
 have h0:=h.cell;have I:=h.frozen;unfold Fu;simp [storeCells,go_sem,h0,I]
theorem SW {w:World} {g:Nat} {e:TypeId} {a0 a1 E F G:Value} (h:Blk w g e #[a0,a1,E,F,G]) (C b1 b2 b3 b4:Bool):Blk (Fu w g C b1 b2 b3 b4) g e #[.bool C,.bool b1,.bool b2,.bool b3,.bool b4]/\Ac w (Fu w g C b1 b2 b3 b4) (fun k=>k=g):=
 ⟨((((h.set_ 0 (.bool C)).set_ 1 (.bool b1)).set_ 2 (.bool b2)).set_ 3 (.bool b3)).set_ 4 (.bool b4),
  (((((Ac.refl w (fun k=>k=g)).setCell (p:=⟨g,0,none⟩) (fun _=>rfl) _).setCell (p:=⟨g,1,none⟩) (fun _=>rfl) _).setCell (p:=⟨g,2,none⟩) (fun _=>rfl) _).setCell (p:=⟨g,3,none⟩) (fun _=>rfl) _).setCell (p:=⟨g,4,none⟩) (fun _=>rfl) _⟩
attribute [-go_sem] loadCellsFrom storeCells
theorem Fc.cells4 {w:World} {B:Nat} {rc:Array Value} {r:Az} (h:Fc w B rc r):∃A c C c',rc[1]?=some (.int .i64 r.kind)/\rc[2]?=some (.int .i64 r.fr)/\rc[3]?=some (.int .i64 r.to)/\rc[8]?=some (.slice A r.ex.length c)/\rc[9]?=some (.slice C r.fa.length c'):=by
 obtain⟨I,c1,J,c2,E,c3,F,G,M,V,O,W,A7,c7,U,Z,e,_⟩:=h.is;refine⟨E,c3,F,G,?_,?_,?_,?_,?_⟩ <;> (rw [<-Array.getElem?_toList,e];rfl)
theorem MT {w wr:World} {g:Nat} {kt:Int} {J:Array Value} {h C E F G:Bool} (O:Blk wr g 171 #[.bool false,.bool false,.bool false,.bool false,.bool false]) (I:Below w.heap.size w wr) (hg:w.heap.size<=g) (M:E=(kt==2||kt==3))
  (a2:J[2]?.getD undef=.pointer (some ⟨g,0,none⟩)) (a3:J[3]?.getD undef=.int .i64 0):
  bodyPost Tryz.prog Tryz.f93 (Ret fun v w'=>(∃b0 b1 b2 b4:Bool,v=.tuple #[.agg #[.bool b0,.bool b1,.bool (kt==2||kt==3),.bool b2,.bool b4],.int .i64 0])/\Below w.heap.size w w') Exit.ret { tmps:=J,defers:=[] } (Fu wr g h C E F G):=by
 obtain⟨V,W⟩:=SW O h C E F G;have U:=I.trans (W.below I.size (fun b I e=>by omega));have Z:=Ah (n:=5) V rfl;generalize Fu wr g h C E F G=wF at*;exact bodyPost_ret (v:=.tuple #[.agg #[.bool h,.bool C,.bool E,.bool F,.bool G],.int .i64 0]) (by simp [results,Tryz.results93,go_sem,Z,a2,a3]) rfl ⟨⟨h,C,F,G,by rw [M]⟩,U⟩
theorem MY {w:World} {cs:List Value} {p:Am} (h:At w w.heap.size cs p) (C:p.Small) (hT:SpOK w) (he:protE nameOK p=0):
    Calls Tryz.prog 93 #[.agg cs.toArray] w (Ret fun v w'=>(∃b0 b1 b2 b4:Bool,v=.tuple #[.agg #[.bool b0,.bool b1,.bool (p.topo==2||p.topo==3),.bool b2,.bool b4],.int .i64 0])/\Below w.heap.size w w'):=by
  obtain⟨A1,c1,A2,c2,A3,c3,A4,c4,A5,c5,A6,c6,A7,c7,a5,bO,be,bf,bg,bh,bP,bi,bQ,bR,bj,h1,h2,h3,h4,h5,h6,h7,aW⟩:=h.cells;have b8:=C.states;have b9:=C.messages;have ba:=C.values;have bb:=C.res;have bc:=C.rules;have bm:=hide C;have aQ:=hide h7;obtain⟨w1,bV,J,Z,aY⟩:=Ae w cs.toArray 27;obtain⟨w2,bW,F,a8,a3⟩:=Ae w1 #[.bool false,.bool false,.bool false,.bool false,.bool false] 171;have az:=J.size;have bN:=Z.lt;have V:=hide (show C0 w2 w.heap.size cs.toArray p from⟨h.keep (fun _ M=>(F.cell (by omega)).trans (J.cell M)) (by have:=F.size;omega),Z.below F,(hT.below J).below F⟩);have af:=hide (J.trans (F.mono az));have aO:=hide a8;generalize bk:cs.toArray=pc at*;obtain⟨nr,ao⟩:∃n,n=p.res.length:=⟨_,rfl⟩;obtain⟨nm,an⟩:∃n,n=p.messages.length:=⟨_,rfl⟩;obtain⟨nv,aq⟩:∃n,n=p.values.length:=⟨_,rfl⟩;obtain⟨ns,ap⟩:∃n,n=p.states.length:=⟨_,rfl⟩;obtain⟨nu,a4⟩:∃n,n=p.rules.length:=⟨_,rfl⟩;have bd:=hide a4;simp only [<-ao,<-an,<-aq,<-ap,<-a4] at bf bg bh bi bj b8 b9 ba bb bc aW;obtain⟨kt,ak⟩:∃n,n=p.topo:=⟨_,rfl⟩;rw [<-ak] at be ⊢;have bS:=hide a5;have aA:∀U,Hid (C0 U w.heap.size pc p)->Calls Tryz.prog 86 #[.agg pc] U (Ret fun v w'=>v=.int .i64 0/\Below U.heap.size U w'):=fun U hx=>by
    have:=Kt hx.out.pr bm.out hx.out.tab;rw [he] at this;exact this
  have bn:=hide aA;have bE:=V.out.b.cell;have bK:=Ah V.out.b a5;clear h1 h2 h3 h4 h5 h6 h7 h C J F Z a8 aY a3 bk hT a5 he ao an aq ap a4 ak aA;have bC:((0:Int) != 0)=false:=rfl;go_enter Tryz.func93,Tryz.ntmps93;go_wp2_with (go_at_call 86;refine Calls.ret (bn.out _ V) ?_;rintro v w3 ⟨rfl,W⟩;have ab:=hide (V.out.at W);have bF:=ab.out.b.cell;have a9:=hide (aO.out.below W);have ad:=hide (af.out.trans (W.mono af.out.size));clear W);go_loopw [5,6,20] (fun v5 v6 ii wr=>∃(k:Nat) (b5 b6:Bool),v5=.bool b5/\v6=.bool b6/\ii=.int .i64 (k:Int)/\k<=nu/\Hid (Below w3.heap.size w3 wr)) (fun _ _ ii _=>nu - (intOf ii).toNat)
  case atStart=>exact⟨0,true,false,rfl,rfl,rfl,Nat.zero_le _,Below.refl _ _⟩
  case round=>
    obtain⟨k,b5,b6,rfl,rfl,rfl,hk,G⟩:=hrel;have aR:=hide (ab.out.at G.out);have bG:=aR.out.b.cell;have a2:=hide (ad.out.trans (G.out.mono ad.out.size));by_cases bM:k<nu
    · obtain⟨r,hr⟩:∃r,p.rules[k]?=some r:=⟨_,List.getElem?_eq_getElem (by have:=bd.out;omega)⟩
      obtain⟨b,off,rc,hA,bD,I,aX,bL⟩:=Du (aQ.out.keep (w':=wr) (B':=w.heap.size) (R':=AW wr w.heap.size) (fun _ M=>a2.out.cell M) (fun _ _ h=>h.keep (fun _ M=>a2.out.cell M) (Nat.le_refl _)) (Nat.le_refl _)) hr;obtain⟨O,bo,ae,E,b7⟩:=Ae wr rc 109;have bl:=Dv wr 109 18 (by kernel_rfl) I.size I.one;rw [bo] at bl;obtain⟨E1,f1,E2,f2,au,av,aw,ax,ay⟩:=I.cells4;have bT:=I.size;have aT:O.cell? ⟨wr.heap.size,1,none⟩=some (.int .i64 r.kind):=by rw [E.cell,au]
      have aU:O.cell? ⟨wr.heap.size,2,none⟩=some (.int .i64 r.fr):=by rw [E.cell,av]
      have aV:O.cell? ⟨wr.heap.size,3,none⟩=some (.int .i64 r.to):=by rw [E.cell,aw]
      obtain⟨ne,al⟩:∃n,n=r.ex.length:=⟨_,rfl⟩;obtain⟨nf,am⟩:∃n,n=r.fa.length:=⟨_,rfl⟩;have bH:O.cell? ⟨wr.heap.size,8,none⟩=some (.slice E1 ne f1):=by rw [E.cell,ax,al]
      have bI:O.cell? ⟨wr.heap.size,9,none⟩=some (.slice E2 nf f2):=by rw [E.cell,ay,am]
      obtain⟨kk,ai⟩:∃n,n=r.kind:=⟨_,rfl⟩;obtain⟨kf,ah⟩:∃n,n=r.fr:=⟨_,rfl⟩;obtain⟨ko,aj⟩:∃n,n=r.to:=⟨_,rfl⟩;rw [<-ai] at aT;rw [<-ah] at aU;rw [<-aj] at aV;have aS:=hide (G.out.trans (ae.mono G.out.size));subst hA;clear aX I b7 E hr au av aw ax ay ae al am ai ah aj;cases b5 <;> cases b6
      all_goals
        go_wp2_with fail;all_goals exact⟨⟨k+1,_,_,rfl,rfl,by go_num,by omega,aS.out⟩,by simp [intOf];omega⟩
    · have bU:=Tp (a9.out.below G.out)
      have aP:=hide (a9.out.below G.out);go_wp2_with fail
      all_goals
        refine MT aP.out a2.out az ?_ rfl rfl
        first
          | rfl
          | (simp;omega)
          | (rename_i hq;subst hq;rfl)
          | (have a3:kt≠2:=by omega
             have aZ:kt≠3:=by omega
             simp [a3,aZ])
end Go.Proofs.YtjejejmeddkciaaGreatDoor.K
namespace Go.Proofs.YtjejejmeddkciaaGreatDoor.K
open Go.RowKit
attribute [-go_sem] loadCellsFrom storeCells
theorem P9 {w:World} {cs:List Value} {p:Am} (h:At w w.heap.size cs p) (ae:p.Small) (hT:SpOK w) (he:protE nameOK p=0):
  Calls Tryz.prog 46 #[.agg cs.toArray] w (Ret fun v w'=>v=.int .i64 (Ad (!(p.topo==2||p.topo==3)) 7)/\Below w.heap.size w w'):=by
 obtain⟨A1,c1,A2,c2,A3,c3,A4,c4,A5,c5,A6,c6,A7,c7,ad,ak,al,-⟩:=h.cells;obtain⟨w1,aB,J,a7,ai⟩:=Ae w cs.toArray 27;have W:=hide (show C0 w1 w.heap.size cs.toArray p from⟨h.keep (fun _ hp=>J.cell hp) J.size,a7,hT.below J⟩);have V:=hide J;generalize am:cs.toArray=pc at*;have a3:∀U,Hid (C0 U w.heap.size pc p)->Calls Tryz.prog 93 #[.agg pc] U (Ret fun v w'=>(∃C b1 b2 b4:Bool,v=.tuple #[.agg #[.bool C,.bool b1,.bool (p.topo==2||p.topo==3),.bool b2,.bool b4],.int .i64 0])/\Below U.heap.size U w'):=fun U hx=>MY hx.out.pr ae hx.out.tab he;have hl:=Ah W.out.b ad;obtain⟨bt,a9⟩:∃b,b=(p.topo==2||p.topo==3):=⟨_,rfl⟩;rw [<-a9] at a3 ⊢;have aa:=hide a3;clear h ae hT he J a7 ai am a3 a9 ad ak al;cases bt
 ·go_enter Tryz.func46,Tryz.ntmps46;go_wp2_with (go_at_call 93;refine Calls.ret (aa.out _ W) ?_;rintro v F ⟨⟨C,b1,b2,b4,rfl⟩,M⟩;have I:=hide (V.out.trans (M.mono V.out.size));obtain⟨w5,a5,O,G,a4⟩:=Ae F #[.bool C,.bool b1,.bool false,.bool b2,.bool b4] 171;have ah:=G.cell;have Z:=hide (I.out.trans (O.mono I.out.size));have an:∀E:Array Value,E.size=5->(storeCells ⟨F.heap.size,0,none⟩ [.bool C,.bool b1,.bool false,.bool b2,.bool b4] 0).run Tryz.prog (F.alloc (.cells E 171))=.ok () w5:=(fun E hc=>by rw [<-a5];exact Dv F 171 5 (by kernel_rfl) (rc:=#[.bool C,.bool b1,.bool false,.bool b2,.bool b4]) rfl (by simp [Value.oneCell']) E hc);clear M O G a4);go_ret;exact⟨rfl,Z.out⟩
 ·go_enter Tryz.func46,Tryz.ntmps46;go_wp2_with (go_at_call 93;refine Calls.ret (aa.out _ W) ?_;rintro v F ⟨⟨C,b1,b2,b4,rfl⟩,M⟩;have I:=hide (V.out.trans (M.mono V.out.size));obtain⟨w5,a5,O,G,a4⟩:=Ae F #[.bool C,.bool b1,.bool true,.bool b2,.bool b4] 171;have ah:=G.cell;have Z:=hide (I.out.trans (O.mono I.out.size));have an:∀E:Array Value,E.size=5->(storeCells ⟨F.heap.size,0,none⟩ [.bool C,.bool b1,.bool true,.bool b2,.bool b4] 0).run Tryz.prog (F.alloc (.cells E 171))=.ok () w5:=(fun E hc=>by rw [<-a5];exact Dv F 171 5 (by kernel_rfl) (rc:=#[.bool C,.bool b1,.bool true,.bool b2,.bool b4]) rfl (by simp [Value.oneCell']) E hc);clear M O G a4);go_ret;exact⟨rfl,Z.out⟩
end Go.Proofs.YtjejejmeddkciaaGreatDoor.K
