/-
  Part SO of a proof.
-/
import Derived.Test.YtfcfpoemojjglaaGreatDoorPA
import Derived.Test.YtfcfpoemojjglaaGreatDoorCI
import Derived.Test.YtfcfpoemojjglaaGreatDoorAC
set_option maxHeartbeats 16000000
set_option maxRecDepth 100000
set_option linter.unusedVariables false
set_option linter.unusedSimpArgs false
namespace Go.Proofs.YtfcfpoemojjglaaGreatDoor.K
open Go.RowKit
def Fu (w:World) (g:Nat) (b0 b1 b2 b3 b4:Bool):World:=((((w.setCell ⟨g,0,none⟩ (.bool b0)).setCell ⟨g,1,none⟩ (.bool b1)).setCell ⟨g,2,none⟩ (.bool b2)).setCell ⟨g,3,none⟩ (.bool b3)).setCell ⟨g,4,none⟩ (.bool b4)
theorem Tp {w:World} {g:Nat} {t:TypeId} {a0 a1 j l y:Value} (h:Blk w g t #[a0,a1,j,l,y]) (d b1 b2 b3 b4:Bool):
  (storeCells ⟨g,0,none⟩ [.bool d,.bool b1,.bool b2,.bool b3,.bool b4] 0).run Tryz.prog w=.ok () (Fu w g d b1 b2 b3 b4):=by
 have E:=h.cell;have C:=h.frozen;unfold Fu;simp [storeCells,go_sem,E,C]
theorem SW {w:World} {g:Nat} {e:TypeId} {a0 a1 j l y:Value} (h:Blk w g e #[a0,a1,j,l,y]) (d b1 b2 b3 b4:Bool):Blk (Fu w g d b1 b2 b3 b4) g e #[.bool d,.bool b1,.bool b2,.bool b3,.bool b4]/\Ac w (Fu w g d b1 b2 b3 b4) (fun k=>k=g):=
 ⟨((((h.set_ 0 (.bool d)).set_ 1 (.bool b1)).set_ 2 (.bool b2)).set_ 3 (.bool b3)).set_ 4 (.bool b4),
  (((((Ac.refl w (fun k=>k=g)).setCell (p:=⟨g,0,none⟩) (fun _=>rfl) _).setCell (p:=⟨g,1,none⟩) (fun _=>rfl) _).setCell (p:=⟨g,2,none⟩) (fun _=>rfl) _).setCell (p:=⟨g,3,none⟩) (fun _=>rfl) _).setCell (p:=⟨g,4,none⟩) (fun _=>rfl) _⟩
attribute [-go_sem] loadCellsFrom storeCells
theorem Fc.cells4 {w:World} {B:Nat} {rc:Array Value} {r:Az} (h:Fc w B rc r):∃A c d l,rc[1]?=some (.int .i64 r.kind)/\rc[2]?=some (.int .i64 r.fr)/\rc[3]?=some (.int .i64 r.to)/\rc[8]?=some (.slice A r.ex.length c)/\rc[9]?=some (.slice d r.fa.length l):=by
 obtain⟨A1,c1,A2,c2,A3,c3,j,c4,y,I,C,J,E,M,G,O,e,_⟩:=h.is;refine⟨A3,c3,j,c4,?_,?_,?_,?_,?_⟩ <;> (rw [<-Array.getElem?_toList,e]; rfl)
theorem MT {w wr:World} {g:Nat} {kt:Int} {E:Array Value} {d h j l y:Bool} (I:Blk wr g 155 #[.bool false,.bool false,.bool false,.bool false,.bool false]) (C:Below w.heap.size w wr) (Z:w.heap.size<=g) (G:j=(kt==2||kt==3))
  (V:E[2]?.getD undef=.pointer (some ⟨g,0,none⟩)) (W:E[3]?.getD undef=.int .i64 0):
  bodyPost Tryz.prog Tryz.f102 (Ret fun v w'=>(∃b0 b1 b2 b4:Bool,v=.tuple #[.agg #[.bool b0,.bool b1,.bool (kt==2||kt==3),.bool b2,.bool b4],.int .i64 0])/\Below w.heap.size w w') Exit.ret { tmps:=E,defers:=[] } (Fu wr g d h j l y):=by
 obtain⟨M,O⟩:=SW I d h j l y;have J:=C.trans (O.below C.size (fun b C e=>by omega));have U:=Ah (n:=5) M rfl;generalize Fu wr g d h j l y=wF at*;exact bodyPost_ret (v:=.tuple #[.agg #[.bool d,.bool h,.bool j,.bool l,.bool y],.int .i64 0]) (by simp [results,Tryz.results102,go_sem,U,V,W]) rfl ⟨⟨d,h,l,y,by rw [G]⟩,J⟩
theorem MY {w:World} {cs:List Value} {p:Am} (h:At w w.heap.size cs p) (d:p.Small) (hT:SpOK w) (he:protE nameOK p=0):
    Calls Tryz.prog 102 #[.agg cs.toArray] w (Ret fun v w'=>(∃b0 b1 b2 b4:Bool,v=.tuple #[.agg #[.bool b0,.bool b1,.bool (p.topo==2||p.topo==3),.bool b2,.bool b4],.int .i64 0])/\Below w.heap.size w w'):=by
  obtain⟨A1,c1,A2,c2,A3,c3,A4,c4,A5,c5,A6,c6,A7,c7,Z,bJ,ba,bd,be,bf,bK,bg,bL,bM,bh,h1,h2,h3,h4,h5,h6,h7,aS⟩:=h.cells;have aX:=d.states;have aY:=d.messages;have aZ:=d.values;have b7:=d.res;have b8:=d.rules;have bk:=hide d;have aM:=hide h7;obtain⟨w1,bQ,E,O,aU⟩:=Ae w cs.toArray 27;obtain⟨w2,bR,l,a4,V⟩:=Ae w1 #[.bool false,.bool false,.bool false,.bool false,.bool false] 155;have au:=E.size;have bI:=O.lt;have J:=hide (show C0 w2 w.heap.size cs.toArray p from⟨h.keep (fun _ G=>(l.cell (by omega)).trans (E.cell G)) (by have:=l.size; omega),O.below l,(hT.below E).below l⟩);have aa:=hide (E.trans (l.mono au));have aK:=hide a4;generalize bi:cs.toArray=pc at*;obtain⟨nr,aj⟩:∃n,n=p.res.length:=⟨_,rfl⟩;obtain⟨nm,ai⟩:∃n,n=p.messages.length:=⟨_,rfl⟩;obtain⟨nv,al⟩:∃n,n=p.values.length:=⟨_,rfl⟩;obtain⟨ns,ak⟩:∃n,n=p.states.length:=⟨_,rfl⟩;obtain⟨nu,W⟩:∃n,n=p.rules.length:=⟨_,rfl⟩;have b9:=hide W;simp only [<-aj,<-ai,<-al,<-ak,<-W] at bd be bf bg bh aX aY aZ b7 b8 aS;obtain⟨kt,af⟩:∃n,n=p.topo:=⟨_,rfl⟩;rw [<-af] at ba ⊢;have bN:=hide Z;have av:∀wx,Hid (C0 wx w.heap.size pc p)->Calls Tryz.prog 117 #[.agg pc] wx (Ret fun v w'=>v=.int .i64 0/\Below wx.heap.size wx w'):=fun wx hx=>by
    have:=Kt hx.out.pr bk.out hx.out.tab;rw [he] at this;exact this
  have bl:=hide av;have bz:=J.out.b.cell;have bF:=Ah J.out.b Z;clear h1 h2 h3 h4 h5 h6 h7 h d E l O a4 aU V bi hT Z he aj ai al ak W af av;have bw:((0:Int) != 0)=false:=rfl;go_enter Tryz.func102,Tryz.ntmps102;go_wp2_with (go_at_call 117; refine Calls.ret (bl.out _ J) ?_; rintro v w3 ⟨rfl,M⟩; have a7:=hide (J.out.at M); have bA:=a7.out.b.cell; have a5:=hide (aK.out.below M); have a8:=hide (aa.out.trans (M.mono aa.out.size)); clear M);go_loopw [5,6,20] (fun v5 v6 ii wr=>∃(k:Nat) (b5 b6:Bool),v5=.bool b5/\v6=.bool b6/\ii=.int .i64 (k:Int)/\k<=nu/\Hid (Below w3.heap.size w3 wr)) (fun _ _ ii _=>nu - (intOf ii).toNat)
  case atStart=>exact⟨0,true,false,rfl,rfl,rfl,Nat.zero_le _,Below.refl _ _⟩
  case round=>
    obtain⟨k,b5,b6,rfl,rfl,rfl,hk,y⟩:=hrel;have aN:=hide (a7.out.at y.out);have bB:=aN.out.b.cell;have U:=hide (a8.out.trans (y.out.mono a8.out.size));by_cases bH:k<nu
    · obtain⟨r,hr⟩:∃r,p.rules[k]?=some r:=⟨_,List.getElem?_eq_getElem (by have:=b9.out; omega)⟩
      obtain⟨b,bU,rc,hA,bx,C,aT,bG⟩:=Du (aM.out.keep (w':=wr) (B':=w.heap.size) (R':=AW wr w.heap.size) (fun _ G=>U.out.cell G) (fun _ _ h=>h.keep (fun _ G=>U.out.cell G) (Nat.le_refl _)) (Nat.le_refl _)) hr;obtain⟨I,bm,a9,j,aW⟩:=Ae wr rc 99;have bj:=Dv wr 99 18 (by kernel_rfl) C.size C.one;rw [bm] at bj;obtain⟨E1,f1,E2,f2,an,ao,ap,aq,ar⟩:=C.cells4;have bO:=C.size;have aP:I.cell? ⟨wr.heap.size,1,none⟩=some (.int .i64 r.kind):=by rw [j.cell,an]
      have aQ:I.cell? ⟨wr.heap.size,2,none⟩=some (.int .i64 r.fr):=by rw [j.cell,ao]
      have aR:I.cell? ⟨wr.heap.size,3,none⟩=some (.int .i64 r.to):=by rw [j.cell,ap]
      obtain⟨ne,ag⟩:∃n,n=r.ex.length:=⟨_,rfl⟩;obtain⟨nf,ah⟩:∃n,n=r.fa.length:=⟨_,rfl⟩;have bC:I.cell? ⟨wr.heap.size,8,none⟩=some (.slice E1 ne f1):=by rw [j.cell,aq,ag]
      have bD:I.cell? ⟨wr.heap.size,9,none⟩=some (.slice E2 nf f2):=by rw [j.cell,ar,ah]
      obtain⟨kk,ad⟩:∃n,n=r.kind:=⟨_,rfl⟩;obtain⟨kf,ab⟩:∃n,n=r.fr:=⟨_,rfl⟩;obtain⟨ko,ae⟩:∃n,n=r.to:=⟨_,rfl⟩;rw [<-ad] at aP;rw [<-ab] at aQ;rw [<-ae] at aR;have aO:=hide (y.out.trans (a9.mono y.out.size));subst hA;clear aT C aW j hr an ao ap aq ar a9 ag ah ad ab ae;cases b5 <;> cases b6
      all_goals
        go_wp2_with fail;all_goals exact⟨⟨k+1,_,_,rfl,rfl,by go_num,by omega,aO.out⟩,by simp [intOf]; omega⟩
    · have bP:=Tp (a5.out.below y.out)
      have aL:=hide (a5.out.below y.out);go_wp2_with fail
      all_goals
        refine MT aL.out U.out au ?_ rfl rfl
        first
          | rfl
          | (simp; omega)
          | (rename_i hq; subst hq; rfl)
          | (have V:kt≠2:=by omega
             have aV:kt≠3:=by omega
             simp [V,aV])
end Go.Proofs.YtfcfpoemojjglaaGreatDoor.K
namespace Go.Proofs.YtfcfpoemojjglaaGreatDoor.K
open Go.RowKit
attribute [-go_sem] loadCellsFrom storeCells
theorem P9 {w:World} {cs:List Value} {p:Am} (h:At w w.heap.size cs p) (a8:p.Small) (hT:SpOK w) (he:protE nameOK p=0):
  Calls Tryz.prog 54 #[.agg cs.toArray] w (Ret fun v w'=>v=.int .i64 (Ad (!(p.topo==2||p.topo==3)) 7)/\Below w.heap.size w w'):=by
 obtain⟨A1,c1,A2,c2,A3,c3,A4,c4,A5,c5,A6,c6,A7,c7,a7,af,ag,-⟩:=h.cells;obtain⟨w1,ar,E,a3,ad⟩:=Ae w cs.toArray 27;have M:=hide (show C0 w1 w.heap.size cs.toArray p from⟨h.keep (fun _ hp=>E.cell hp) E.size,a3,hT.below E⟩);have J:=hide E;generalize ah:cs.toArray=pc at*;have V:∀wx,Hid (C0 wx w.heap.size pc p)->Calls Tryz.prog 102 #[.agg pc] wx (Ret fun v w'=>(∃d b1 b2 b4:Bool,v=.tuple #[.agg #[.bool d,.bool b1,.bool (p.topo==2||p.topo==3),.bool b2,.bool b4],.int .i64 0])/\Below wx.heap.size wx w'):=fun wx hx=>MY hx.out.pr a8 hx.out.tab he;have hl:=Ah M.out.b a7;obtain⟨bt,a5⟩:∃b,b=(p.topo==2||p.topo==3):=⟨_,rfl⟩;rw [<-a5] at V ⊢;have a6:=hide V;clear h a8 hT he E a3 ad ah V a5 a7 af ag;cases bt
 ·go_enter Tryz.func54,Tryz.ntmps54;go_wp2_with (go_at_call 102; refine Calls.ret (a6.out _ M) ?_; rintro v l ⟨⟨d,b1,b2,b4,rfl⟩,G⟩; have C:=hide (J.out.trans (G.mono J.out.size)); obtain⟨w5,Z,I,y,W⟩:=Ae l #[.bool d,.bool b1,.bool false,.bool b2,.bool b4] 155; have ab:=y.cell; have O:=hide (C.out.trans (I.mono C.out.size)); have ai:∀j:Array Value,j.size=5->(storeCells ⟨l.heap.size,0,none⟩ [.bool d,.bool b1,.bool false,.bool b2,.bool b4] 0).run Tryz.prog (l.alloc (.cells j 155))=.ok () w5:=(fun j U=>by rw [<-Z]; exact Dv l 155 5 (by kernel_rfl) (rc:=#[.bool d,.bool b1,.bool false,.bool b2,.bool b4]) rfl (by simp [Value.oneCell']) j U); clear G I y W);go_ret;exact⟨rfl,O.out⟩
 ·go_enter Tryz.func54,Tryz.ntmps54;go_wp2_with (go_at_call 102; refine Calls.ret (a6.out _ M) ?_; rintro v l ⟨⟨d,b1,b2,b4,rfl⟩,G⟩; have C:=hide (J.out.trans (G.mono J.out.size)); obtain⟨w5,Z,I,y,W⟩:=Ae l #[.bool d,.bool b1,.bool true,.bool b2,.bool b4] 155; have ab:=y.cell; have O:=hide (C.out.trans (I.mono C.out.size)); have ai:∀j:Array Value,j.size=5->(storeCells ⟨l.heap.size,0,none⟩ [.bool d,.bool b1,.bool true,.bool b2,.bool b4] 0).run Tryz.prog (l.alloc (.cells j 155))=.ok () w5:=(fun j U=>by rw [<-Z]; exact Dv l 155 5 (by kernel_rfl) (rc:=#[.bool d,.bool b1,.bool true,.bool b2,.bool b4]) rfl (by simp [Value.oneCell']) j U); clear G I y W);go_ret;exact⟨rfl,O.out⟩
end Go.Proofs.YtfcfpoemojjglaaGreatDoor.K
