/-
  Part SO of a proof.
-/
import Derived.Test.YtfcfpoemojjglaaGreatDoorPA
import Derived.Test.YtfcfpoemojjglaaGreatDoorCI
import Derived.Test.YtfcfpoemojjglaaGreatDoorAC
set_option maxHeartbeats 16000000
set_option maxRecDepth 100000
set_option linter.unusedVariables false
set_option linter.unusedSimpArgs false
namespace Go.Proofs.YtfcfpoemojjglaaGreatDoor.K
open Go.RowKit
def Fu (w:World) (g:Nat) (b0 b1 b2 b3 b4:Bool):World:=((((w.setCell ⟨g,0,none⟩ (.bool b0)).setCell ⟨g,1,none⟩ (.bool b1)).setCell ⟨g,2,none⟩ (.bool b2)).setCell ⟨g,3,none⟩ (.bool b3)).setCell ⟨g,4,none⟩ (.bool b4)
theorem Tp {w:World} {g:Nat} {t:TypeId} {a0 a1 z C E:Value} (h:Blk w g t #[a0,a1,z,C,E]) (y b1 b2 b3 b4:Bool):
  (storeCells ⟨g,0,none⟩ [.bool y,.bool b1,.bool b2,.bool b3,.bool b4] 0).run Tryz.prog w=.ok () (Fu w g y b1 b2 b3 b4):=by
 have h0:=h.cell
 have F:=h.frozen
 unfold Fu
 simp [storeCells,go_sem,h0,F]
theorem SW {w:World} {g:Nat} {e:TypeId} {a0 a1 z C E:Value} (h:Blk w g e #[a0,a1,z,C,E]) (y b1 b2 b3 b4:Bool):Blk (Fu w g y b1 b2 b3 b4) g e #[.bool y,.bool b1,.bool b2,.bool b3,.bool b4]∧Ac w (Fu w g y b1 b2 b3 b4) (fun k=>k=g):=
 ⟨((((h.set_ 0 (.bool y)).set_ 1 (.bool b1)).set_ 2 (.bool b2)).set_ 3 (.bool b3)).set_ 4 (.bool b4),
  (((((Ac.refl w (fun k=>k=g)).setCell (p:=⟨g,0,none⟩) (fun _=>rfl) _).setCell (p:=⟨g,1,none⟩) (fun _=>rfl) _).setCell (p:=⟨g,2,none⟩) (fun _=>rfl) _).setCell (p:=⟨g,3,none⟩) (fun _=>rfl) _).setCell (p:=⟨g,4,none⟩) (fun _=>rfl) _⟩
attribute [-go_sem] loadCellsFrom storeCells
theorem Fc.cells4 {w:World} {B:Nat} {rc:Array Value} {r:Az} (h:Fc w B rc r):∃A c y c',rc[1]?=some (.int .i64 r.kind)∧rc[2]?=some (.int .i64 r.fr)∧rc[3]?=some (.int .i64 r.to)∧rc[8]?=some (.slice A r.ex.length c)∧rc[9]?=some (.slice y r.fa.length c'):=by
 obtain⟨G,V,I,c2,z,E,C,F,J,W,M,Z,O,c7,U,c8,e,_⟩:=h.is
 refine⟨z,E,C,F,?_,?_,?_,?_,?_⟩ <;> (rw [←Array.getElem?_toList,e]; rfl)
theorem MT {w wr:World} {g:Nat} {kt:Int} {G:Array Value} {h y z C E:Bool} (J:Blk wr g 155 #[.bool false,.bool false,.bool false,.bool false,.bool false]) (F:Below w.heap.size w wr) (hg:w.heap.size≤g) (I:z=(kt==2||kt==3))
  (W:G[2]?.getD undef=.pointer (some ⟨g,0,none⟩)) (Z:G[3]?.getD undef=.int .i64 0):
  bodyPost Tryz.prog Tryz.f102 (Ret fun v w'=>(∃b0 b1 b2 b4:Bool,v=.tuple #[.agg #[.bool b0,.bool b1,.bool (kt==2||kt==3),.bool b2,.bool b4],.int .i64 0])∧Below w.heap.size w w') Exit.ret { tmps:=G,defers:=[] } (Fu wr g h y z C E):=by
 obtain⟨O,U⟩:=SW J h y z C E
 have M:=F.trans (U.below F.size (fun b F e=>by omega))
 have V:=Ah (n:=5) O rfl
 generalize Fu wr g h y z C E=wF at*
 exact bodyPost_ret (v:=.tuple #[.agg #[.bool h,.bool y,.bool z,.bool C,.bool E],.int .i64 0]) (by simp [results,Tryz.results102,go_sem,V,W,Z]) rfl ⟨⟨h,y,C,E,by rw [I]⟩,M⟩
theorem MY {w:World} {cs:List Value} {p:Am} (h:At w w.heap.size cs p) (y:p.Small) (hT:A0 w) (he:AC Ab p=0):
    Calls Tryz.prog 102 #[.agg cs.toArray] w (Ret fun v w'=>(∃b0 b1 b2 b4:Bool,v=.tuple #[.agg #[.bool b0,.bool b1,.bool (p.topo==2||p.topo==3),.bool b2,.bool b4],.int .i64 0])∧Below w.heap.size w w'):=by
  obtain⟨A1,c1,A2,c2,A3,c3,A4,c4,A5,c5,A6,c6,A7,c7,a3,bM,bb,bc,bd,be,bN,bf,bO,bP,bg,h1,h2,h3,h4,h5,h6,h7,aU⟩:=h.cells
  have aZ:=y.states
  have b3:=y.messages
  have b7:=y.values
  have b8:=y.res
  have b9:=y.rules
  have bj:=hide y
  have aO:=hide h7
  obtain⟨w1,bT,G,V,aW⟩:=Ae w cs.toArray 27
  obtain⟨w2,bU,C,a6,Z⟩:=Ae w1 #[.bool false,.bool false,.bool false,.bool false,.bool false] 155
  have ax:=G.size
  have bL:=V.lt
  have O:=hide (show C0 w2 w.heap.size cs.toArray p from⟨h.keep (fun _ I=>(C.cell (by omega)).trans (G.cell I)) (by have:=C.size; omega),V.below C,(hT.below G).below C⟩)
  have ad:=hide (G.trans (C.mono ax))
  have aM:=hide a6
  generalize bh:cs.toArray=pc at*
  obtain⟨nr,am⟩:∃n,n=p.res.length:=⟨_,rfl⟩
  obtain⟨nm,al⟩:∃n,n=p.messages.length:=⟨_,rfl⟩
  obtain⟨nv,ao⟩:∃n,n=p.values.length:=⟨_,rfl⟩
  obtain⟨ns,an⟩:∃n,n=p.states.length:=⟨_,rfl⟩
  obtain⟨nu,a2⟩:∃n,n=p.rules.length:=⟨_,rfl⟩
  have ba:=hide a2
  simp only [←am,←al,←ao,←an,←a2] at bc bd be bf bg aZ b3 b7 b8 b9 aU
  obtain⟨kt,ai⟩:∃n,n=p.topo:=⟨_,rfl⟩
  rw [←ai] at bb ⊢
  have bQ:=hide a3
  have ay:∀M,Hid (C0 M w.heap.size pc p)→Calls Tryz.prog 117 #[.agg pc] M (Ret fun v w'=>v=.int .i64 0∧Below M.heap.size M w'):=fun M hx=>by
    have:=Kt hx.out.pr bj.out hx.out.tab
    rw [he] at this
    exact this
  have bk:=hide ay
  have bD:=O.out.b.cell
  have bI:=Ah O.out.b a3
  clear h1 h2 h3 h4 h5 h6 h7 h y G C V a6 aW Z bh hT a3 he am al ao an a2 ai ay
  have bB:((0:Int) != 0)=false:=rfl
  go_enter Tryz.func102,Tryz.ntmps102
  go_wp2_with (go_at_call 117; refine Calls.ret (bk.out _ O) ?_; rintro v w3 ⟨rfl,U⟩; have a9:=hide (O.out.at U); have bE:=a9.out.b.cell; have a7:=hide (aM.out.below U); have aa:=hide (ad.out.trans (U.mono ad.out.size)); clear U)
  go_loopw [5,6,20] (fun v5 v6 ii wr=>∃(k:Nat) (b5 b6:Bool),v5=.bool b5∧v6=.bool b6∧ii=.int .i64 (k:Int)∧k≤nu∧Hid (Below w3.heap.size w3 wr)) (fun _ _ ii _=>nu - (intOf ii).toNat)
  case atStart=>exact⟨0,true,false,rfl,rfl,rfl,Nat.zero_le _,Below.refl _ _⟩
  case round=>
    obtain⟨k,b5,b6,rfl,rfl,rfl,hk,E⟩:=hrel
    have aP:=hide (a9.out.at E.out)
    have bF:=aP.out.b.cell
    have W:=hide (aa.out.trans (E.out.mono aa.out.size))
    by_cases bK:k<nu
    · obtain⟨r,hr⟩:∃r,p.rules[k]?=some r:=⟨_,List.getElem?_eq_getElem (by have:=ba.out; omega)⟩
      obtain⟨b,bX,rc,hA,bC,F,aV,bJ⟩:=Du (aO.out.keep (w':=wr) (B':=w.heap.size) (R':=AW wr w.heap.size) (fun _ I=>W.out.cell I) (fun _ _ h=>h.keep (fun _ I=>W.out.cell I) (Nat.le_refl _)) (Nat.le_refl _)) hr
      obtain⟨J,bl,ab,z,aY⟩:=Ae wr rc 99
      have bi:=Dv wr 99 18 (by kernel_rfl) F.size F.one
      rw [bl] at bi
      obtain⟨E1,f1,E2,f2,aq,ar,au,av,aw⟩:=F.cells4
      have bR:=F.size
      have aR:J.cell? ⟨wr.heap.size,1,none⟩=some (.int .i64 r.kind):=by rw [z.cell,aq]
      have aS:J.cell? ⟨wr.heap.size,2,none⟩=some (.int .i64 r.fr):=by rw [z.cell,ar]
      have aT:J.cell? ⟨wr.heap.size,3,none⟩=some (.int .i64 r.to):=by rw [z.cell,au]
      obtain⟨ne,aj⟩:∃n,n=r.ex.length:=⟨_,rfl⟩
      obtain⟨nf,ak⟩:∃n,n=r.fa.length:=⟨_,rfl⟩
      have bG:J.cell? ⟨wr.heap.size,8,none⟩=some (.slice E1 ne f1):=by rw [z.cell,av,aj]
      have bH:J.cell? ⟨wr.heap.size,9,none⟩=some (.slice E2 nf f2):=by rw [z.cell,aw,ak]
      obtain⟨kk,ag⟩:∃n,n=r.kind:=⟨_,rfl⟩
      obtain⟨kf,af⟩:∃n,n=r.fr:=⟨_,rfl⟩
      obtain⟨ko,ah⟩:∃n,n=r.to:=⟨_,rfl⟩
      rw [←ag] at aR
      rw [←af] at aS
      rw [←ah] at aT
      have aQ:=hide (E.out.trans (ab.mono E.out.size))
      subst hA
      clear aV F aY z hr aq ar au av aw ab aj ak ag af ah
      cases b5 <;> cases b6
      all_goals
        go_wp2_with fail
        all_goals exact⟨⟨k+1,_,_,rfl,rfl,by go_num,by omega,aQ.out⟩,by simp [intOf]; omega⟩
    · have bS:=Tp (a7.out.below E.out)
      have aN:=hide (a7.out.below E.out)
      go_wp2_with fail
      all_goals
        refine MT aN.out W.out ax ?_ rfl rfl
        first
          | rfl
          | (simp; omega)
          | (rename_i hq; subst hq; rfl)
          | (have Z:kt≠2:=by omega
             have aX:kt≠3:=by omega
             simp [Z,aX])
end Go.Proofs.YtfcfpoemojjglaaGreatDoor.K
namespace Go.Proofs.YtfcfpoemojjglaaGreatDoor.K
open Go.RowKit
attribute [-go_sem] loadCellsFrom storeCells
theorem P9 {w:World} {cs:List Value} {p:Am} (h:At w w.heap.size cs p) (ab:p.Small) (hT:A0 w) (he:AC Ab p=0):
  Calls Tryz.prog 54 #[.agg cs.toArray] w (Ret fun v w'=>v=.int .i64 (Ad (!(p.topo==2||p.topo==3)) 7)∧Below w.heap.size w w'):=by
 obtain⟨A1,c1,A2,c2,A3,c3,A4,c4,A5,c5,A6,c6,A7,c7,aa,ai,aj,-⟩:=h.cells
 obtain⟨w1,aC,G,a5,ag⟩:=Ae w cs.toArray 27
 have U:=hide (show C0 w1 w.heap.size cs.toArray p from⟨h.keep (fun _ hp=>G.cell hp) G.size,a5,hT.below G⟩)
 have O:=hide G
 generalize ak:cs.toArray=pc at*
 have Z:∀M,Hid (C0 M w.heap.size pc p)→Calls Tryz.prog 102 #[.agg pc] M (Ret fun v w'=>(∃y b1 b2 b4:Bool,v=.tuple #[.agg #[.bool y,.bool b1,.bool (p.topo==2||p.topo==3),.bool b2,.bool b4],.int .i64 0])∧Below M.heap.size M w'):=fun M hx=>MY hx.out.pr ab hx.out.tab he
 have hl:=Ah U.out.b aa
 obtain⟨bt,a7⟩:∃b,b=(p.topo==2||p.topo==3):=⟨_,rfl⟩
 rw [←a7] at Z ⊢
 have a8:=hide Z
 clear h ab hT he G a5 ag ak Z a7 aa ai aj
 cases bt
 ·go_enter Tryz.func54,Tryz.ntmps54
  go_wp2_with (go_at_call 102; refine Calls.ret (a8.out _ U) ?_; rintro v C ⟨⟨y,b1,b2,b4,rfl⟩,I⟩; have F:=hide (O.out.trans (I.mono O.out.size)); obtain⟨w5,a3,J,E,a2⟩:=Ae C #[.bool y,.bool b1,.bool false,.bool b2,.bool b4] 155; have af:=E.cell; have V:=hide (F.out.trans (J.mono F.out.size)); have al:∀z:Array Value,z.size=5→(storeCells ⟨C.heap.size,0,none⟩ [.bool y,.bool b1,.bool false,.bool b2,.bool b4] 0).run Tryz.prog (C.alloc (.cells z 155))=.ok () w5:=(fun z W=>by rw [←a3]; exact Dv C 155 5 (by kernel_rfl) (rc:=#[.bool y,.bool b1,.bool false,.bool b2,.bool b4]) rfl (by simp [Value.oneCell']) z W); clear I J E a2)
  go_ret
  exact⟨rfl,V.out⟩
 ·go_enter Tryz.func54,Tryz.ntmps54
  go_wp2_with (go_at_call 102; refine Calls.ret (a8.out _ U) ?_; rintro v C ⟨⟨y,b1,b2,b4,rfl⟩,I⟩; have F:=hide (O.out.trans (I.mono O.out.size)); obtain⟨w5,a3,J,E,a2⟩:=Ae C #[.bool y,.bool b1,.bool true,.bool b2,.bool b4] 155; have af:=E.cell; have V:=hide (F.out.trans (J.mono F.out.size)); have al:∀z:Array Value,z.size=5→(storeCells ⟨C.heap.size,0,none⟩ [.bool y,.bool b1,.bool true,.bool b2,.bool b4] 0).run Tryz.prog (C.alloc (.cells z 155))=.ok () w5:=(fun z W=>by rw [←a3]; exact Dv C 155 5 (by kernel_rfl) (rc:=#[.bool y,.bool b1,.bool true,.bool b2,.bool b4]) rfl (by simp [Value.oneCell']) z W); clear I J E a2)
  go_ret
  exact⟨rfl,V.out⟩
end Go.Proofs.YtfcfpoemojjglaaGreatDoor.K
