/-
  Part SO of a proof.
-/
import Derived.Test.YtfcfpoemojjglaaGreatDoorPA
import Derived.Test.YtfcfpoemojjglaaGreatDoorCI
import Derived.Test.YtfcfpoemojjglaaGreatDoorAC
set_option maxHeartbeats 16000000
set_option maxRecDepth 100000
set_option linter.unusedVariables false
set_option linter.unusedSimpArgs false
namespace Go.Proofs.YtfcfpoemojjglaaGreatDoor.K
open Go.RowKit
def Fu (w:World) (g:Nat) (b0 b1 b2 b3 b4:Bool):World:=((((w.setCell ⟨g,0,none⟩ (.bool b0)).setCell ⟨g,1,none⟩ (.bool b1)).setCell ⟨g,2,none⟩ (.bool b2)).setCell ⟨g,3,none⟩ (.bool b3)).setCell ⟨g,4,none⟩ (.bool b4)
theorem Tp {w:World} {g:Nat} {t:TypeId} {a0 a1 C E F:Value} (h:Blk w g t #[a0,a1,C,E,F]) (x b1 b2 b3 y:Bool):
  (storeCells ⟨g,0,none⟩ [.bool x,.bool b1,.bool b2,.bool b3,.bool y] 0).run Tryz.prog w=.ok () (Fu w g x b1 b2 b3 y):=by
 have h0:=h.cell
 have G:=h.frozen
 unfold Fu
 simp [storeCells,go_sem,h0,G]
theorem SW {w:World} {g:Nat} {e:TypeId} {a0 a1 C E F:Value} (h:Blk w g e #[a0,a1,C,E,F]) (x b1 b2 b3 y:Bool):Blk (Fu w g x b1 b2 b3 y) g e #[.bool x,.bool b1,.bool b2,.bool b3,.bool y]∧Ac w (Fu w g x b1 b2 b3 y) (fun k=>k=g):=
 ⟨((((h.set_ 0 (.bool x)).set_ 1 (.bool b1)).set_ 2 (.bool b2)).set_ 3 (.bool b3)).set_ 4 (.bool y),
  (((((Ac.refl w (fun k=>k=g)).setCell (p:=⟨g,0,none⟩) (fun _=>rfl) _).setCell (p:=⟨g,1,none⟩) (fun _=>rfl) _).setCell (p:=⟨g,2,none⟩) (fun _=>rfl) _).setCell (p:=⟨g,3,none⟩) (fun _=>rfl) _).setCell (p:=⟨g,4,none⟩) (fun _=>rfl) _⟩
attribute [-go_sem] loadCellsFrom storeCells
theorem Fc.cells4 {w:World} {B:Nat} {rc:Array Value} {r:Az} (h:Fc w B rc r):∃A c x c',rc[1]?=some (.int .i64 r.kind)∧rc[2]?=some (.int .i64 r.fr)∧rc[3]?=some (.int .i64 r.to)∧rc[8]?=some (.slice A r.ex.length c)∧rc[9]?=some (.slice x r.fa.length c'):=by
 obtain⟨A1,c1,A2,c2,A3,c3,y,C,E,I,F,J,A7,c7,G,M,e,_⟩:=h.is
 refine⟨A3,c3,y,C,?_,?_,?_,?_,?_⟩ <;> (rw [←Array.getElem?_toList,e]; rfl)
theorem MT {w wr:World} {g:Nat} {kt:Int} {G:Array Value} {h x y C E:Bool} (J:Blk wr g 155 #[.bool false,.bool false,.bool false,.bool false,.bool false]) (F:Below w.heap.size w wr) (hg:w.heap.size≤g) (I:y=(kt==2||kt==3))
  (W:G[2]?.getD undef=.pointer (some ⟨g,0,none⟩)) (Z:G[3]?.getD undef=.int .i64 0):
  bodyPost Tryz.prog Tryz.f102 (Ret fun v w'=>(∃b0 b1 b2 b4:Bool,v=.tuple #[.agg #[.bool b0,.bool b1,.bool (kt==2||kt==3),.bool b2,.bool b4],.int .i64 0])∧Below w.heap.size w w') Exit.ret { tmps:=G,defers:=[] } (Fu wr g h x y C E):=by
 obtain⟨O,U⟩:=SW J h x y C E
 have M:=F.trans (U.below F.size (fun b F e=>by omega))
 have V:=Ah (n:=5) O rfl
 generalize Fu wr g h x y C E=wF at*
 exact bodyPost_ret (v:=.tuple #[.agg #[.bool h,.bool x,.bool y,.bool C,.bool E],.int .i64 0]) (by simp [results,Tryz.results102,go_sem,V,W,Z]) rfl ⟨⟨h,x,C,E,by rw [I]⟩,M⟩
theorem MY {w:World} {cs:List Value} {p:Am} (h:At w w.heap.size cs p) (x:p.Small) (hT:SpOK w) (he:protE nameOK p=0):
    Calls Tryz.prog 102 #[.agg cs.toArray] w (Ret fun v w'=>(∃b0 b1 b2 b4:Bool,v=.tuple #[.agg #[.bool b0,.bool b1,.bool (p.topo==2||p.topo==3),.bool b2,.bool b4],.int .i64 0])∧Below w.heap.size w w'):=by
  obtain⟨A1,c1,A2,c2,A3,c3,A4,c4,A5,c5,A6,c6,A7,c7,a4,bJ,bc,bd,be,bf,bK,bg,bL,bM,bh,h1,h2,h3,h4,h5,h6,h7,aU⟩:=h.cells
  have aZ:=x.states
  have b7:=x.messages
  have b8:=x.values
  have b9:=x.res
  have ba:=x.rules
  have bk:=hide x
  have aO:=hide h7
  obtain⟨w1,bQ,G,W,aW⟩:=Ae w cs.toArray 27
  obtain⟨w2,bR,C,a7,a2⟩:=Ae w1 #[.bool false,.bool false,.bool false,.bool false,.bool false] 155
  have ax:=G.size
  have bI:=W.lt
  have O:=hide (show C0 w2 w.heap.size cs.toArray p from⟨h.keep (fun _ I=>(C.cell (by omega)).trans (G.cell I)) (by have:=C.size; omega),W.below C,(hT.below G).below C⟩)
  have ad:=hide (G.trans (C.mono ax))
  have aM:=hide a7
  generalize bi:cs.toArray=pc at*
  obtain⟨nr,am⟩:∃n,n=p.res.length:=⟨_,rfl⟩
  obtain⟨nm,al⟩:∃n,n=p.messages.length:=⟨_,rfl⟩
  obtain⟨nv,ao⟩:∃n,n=p.values.length:=⟨_,rfl⟩
  obtain⟨ns,an⟩:∃n,n=p.states.length:=⟨_,rfl⟩
  obtain⟨nu,a3⟩:∃n,n=p.rules.length:=⟨_,rfl⟩
  have bb:=hide a3
  simp only [←am,←al,←ao,←an,←a3] at bd be bf bg bh aZ b7 b8 b9 ba aU
  obtain⟨kt,ai⟩:∃n,n=p.topo:=⟨_,rfl⟩
  rw [←ai] at bc ⊢
  have bN:=hide a4
  have ay:∀M,Hid (C0 M w.heap.size pc p)→Calls Tryz.prog 117 #[.agg pc] M (Ret fun v w'=>v=.int .i64 0∧Below M.heap.size M w'):=fun M hx=>by
    have:=Kt hx.out.pr bk.out hx.out.tab
    rw [he] at this
    exact this
  have bl:=hide ay
  have bA:=O.out.b.cell
  have bF:=Ah O.out.b a4
  clear h1 h2 h3 h4 h5 h6 h7 h x G C W a7 aW a2 bi hT a4 he am al ao an a3 ai ay
  have bx:((0:Int) != 0)=false:=rfl
  go_enter Tryz.func102,Tryz.ntmps102
  go_wp2_with (go_at_call 117; refine Calls.ret (bl.out _ O) ?_; rintro v w3 ⟨rfl,U⟩; have aa:=hide (O.out.at U); have bB:=aa.out.b.cell; have a8:=hide (aM.out.below U); have ab:=hide (ad.out.trans (U.mono ad.out.size)); clear U)
  go_loopw [5,6,20] (fun v5 v6 ii wr=>∃(k:Nat) (b5 V:Bool),v5=.bool b5∧v6=.bool V∧ii=.int .i64 (k:Int)∧k≤nu∧Hid (Below w3.heap.size w3 wr)) (fun _ _ ii _=>nu - (intOf ii).toNat)
  case atStart=>exact⟨0,true,false,rfl,rfl,rfl,Nat.zero_le _,Below.refl _ _⟩
  case round=>
    obtain⟨k,b5,V,rfl,rfl,rfl,hk,E⟩:=hrel
    have aP:=hide (aa.out.at E.out)
    have bC:=aP.out.b.cell
    have Z:=hide (ab.out.trans (E.out.mono ab.out.size))
    by_cases bH:k<nu
    · obtain⟨r,hr⟩:∃r,p.rules[k]?=some r:=⟨_,List.getElem?_eq_getElem (by have:=bb.out; omega)⟩
      obtain⟨b,off,rc,hA,bz,F,aV,bG⟩:=Du (aO.out.keep (w':=wr) (B':=w.heap.size) (R':=AW wr w.heap.size) (fun _ I=>Z.out.cell I) (fun _ _ h=>h.keep (fun _ I=>Z.out.cell I) (Nat.le_refl _)) (Nat.le_refl _)) hr
      obtain⟨J,bm,ac,y,aY⟩:=Ae wr rc 99
      have bj:=Dv wr 99 18 (by kernel_rfl) F.size F.one
      rw [bm] at bj
      obtain⟨E1,f1,E2,f2,aq,ar,au,av,aw⟩:=F.cells4
      have bO:=F.size
      have aR:J.cell? ⟨wr.heap.size,1,none⟩=some (.int .i64 r.kind):=by rw [y.cell,aq]
      have aS:J.cell? ⟨wr.heap.size,2,none⟩=some (.int .i64 r.fr):=by rw [y.cell,ar]
      have aT:J.cell? ⟨wr.heap.size,3,none⟩=some (.int .i64 r.to):=by rw [y.cell,au]
      obtain⟨ne,aj⟩:∃n,n=r.ex.length:=⟨_,rfl⟩
      obtain⟨nf,ak⟩:∃n,n=r.fa.length:=⟨_,rfl⟩
      have bD:J.cell? ⟨wr.heap.size,8,none⟩=some (.slice E1 ne f1):=by rw [y.cell,av,aj]
      have bE:J.cell? ⟨wr.heap.size,9,none⟩=some (.slice E2 nf f2):=by rw [y.cell,aw,ak]
      obtain⟨kk,ag⟩:∃n,n=r.kind:=⟨_,rfl⟩
      obtain⟨kf,af⟩:∃n,n=r.fr:=⟨_,rfl⟩
      obtain⟨ko,ah⟩:∃n,n=r.to:=⟨_,rfl⟩
      rw [←ag] at aR
      rw [←af] at aS
      rw [←ah] at aT
      have aQ:=hide (E.out.trans (ac.mono E.out.size))
      subst hA
      clear aV F aY y hr aq ar au av aw ac aj ak ag af ah
      cases b5 <;> cases V
      all_goals
        go_wp2_with fail
        all_goals exact⟨⟨k+1,_,_,rfl,rfl,by go_num,by omega,aQ.out⟩,by simp [intOf]; omega⟩
    · have bP:=Tp (a8.out.below E.out)
      have aN:=hide (a8.out.below E.out)
      go_wp2_with fail
      all_goals
        refine MT aN.out Z.out ax ?_ rfl rfl
        first
          | rfl
          | (simp; omega)
          | (rename_i hq; subst hq; rfl)
          | (have a2:kt≠2:=by omega
             have aX:kt≠3:=by omega
             simp [a2,aX])
end Go.Proofs.YtfcfpoemojjglaaGreatDoor.K
namespace Go.Proofs.YtfcfpoemojjglaaGreatDoor.K
open Go.RowKit
attribute [-go_sem] loadCellsFrom storeCells
theorem P9 {w:World} {cs:List Value} {p:Am} (h:At w w.heap.size cs p) (ac:p.Small) (hT:SpOK w) (he:protE nameOK p=0):
  Calls Tryz.prog 54 #[.agg cs.toArray] w (Ret fun v w'=>v=.int .i64 (Ad (!(p.topo==2||p.topo==3)) 7)∧Below w.heap.size w w'):=by
 obtain⟨A1,c1,A2,c2,A3,c3,A4,c4,A5,c5,A6,c6,A7,c7,ab,ai,aj,-⟩:=h.cells
 obtain⟨w1,aw,I,a6,ag⟩:=Ae w cs.toArray 27
 have V:=hide (show C0 w1 w.heap.size cs.toArray p from⟨h.keep (fun _ hp=>I.cell hp) I.size,a6,hT.below I⟩)
 have U:=hide I
 generalize ak:cs.toArray=pc at*
 have a2:∀O,Hid (C0 O w.heap.size pc p)→Calls Tryz.prog 102 #[.agg pc] O (Ret fun v w'=>(∃x b1 b2 y:Bool,v=.tuple #[.agg #[.bool x,.bool b1,.bool (p.topo==2||p.topo==3),.bool b2,.bool y],.int .i64 0])∧Below O.heap.size O w'):=fun O hx=>MY hx.out.pr ac hx.out.tab he
 have hl:=Ah V.out.b ab
 obtain⟨bt,a8⟩:∃b,b=(p.topo==2||p.topo==3):=⟨_,rfl⟩
 rw [←a8] at a2 ⊢
 have a9:=hide a2
 clear h ac hT he I a6 ag ak a2 a8 ab ai aj
 cases bt
 ·go_enter Tryz.func54,Tryz.ntmps54
  go_wp2_with (go_at_call 102; refine Calls.ret (a9.out _ V) ?_; rintro v E ⟨⟨x,b1,b2,y,rfl⟩,J⟩; have G:=hide (U.out.trans (J.mono U.out.size)); obtain⟨w5,a4,M,F,a3⟩:=Ae E #[.bool x,.bool b1,.bool false,.bool b2,.bool y] 155; have af:=F.cell; have W:=hide (G.out.trans (M.mono G.out.size)); have al:∀C:Array Value,C.size=5→(storeCells ⟨E.heap.size,0,none⟩ [.bool x,.bool b1,.bool false,.bool b2,.bool y] 0).run Tryz.prog (E.alloc (.cells C 155))=.ok () w5:=(fun C Z=>by rw [←a4]; exact Dv E 155 5 (by kernel_rfl) (rc:=#[.bool x,.bool b1,.bool false,.bool b2,.bool y]) rfl (by simp [Value.oneCell']) C Z); clear J M F a3)
  go_ret
  exact⟨rfl,W.out⟩
 ·go_enter Tryz.func54,Tryz.ntmps54
  go_wp2_with (go_at_call 102; refine Calls.ret (a9.out _ V) ?_; rintro v E ⟨⟨x,b1,b2,y,rfl⟩,J⟩; have G:=hide (U.out.trans (J.mono U.out.size)); obtain⟨w5,a4,M,F,a3⟩:=Ae E #[.bool x,.bool b1,.bool true,.bool b2,.bool y] 155; have af:=F.cell; have W:=hide (G.out.trans (M.mono G.out.size)); have al:∀C:Array Value,C.size=5→(storeCells ⟨E.heap.size,0,none⟩ [.bool x,.bool b1,.bool true,.bool b2,.bool y] 0).run Tryz.prog (E.alloc (.cells C 155))=.ok () w5:=(fun C Z=>by rw [←a4]; exact Dv E 155 5 (by kernel_rfl) (rc:=#[.bool x,.bool b1,.bool true,.bool b2,.bool y]) rfl (by simp [Value.oneCell']) C Z); clear J M F a3)
  go_ret
  exact⟨rfl,W.out⟩
end Go.Proofs.YtfcfpoemojjglaaGreatDoor.K
