/-
  Part CE of a proof.
-/
import Derived.Deep.MidRow
import Derived.Deep.WholeRow
import Derived.Test.YtfcfpoemojjglaaGreatDoorPA
import Derived.Test.YtfcfpoemojjglaaGreatDoorCB
import Derived.Test.YtfcfpoemojjglaaGreatDoorCC
import Derived.Test.YtfcfpoemojjglaaGreatDoorCD
set_option maxHeartbeats 16000000
set_option maxRecDepth 100000
set_option linter.unusedVariables false
set_option linter.unusedSimpArgs false
namespace Go.Proofs.YtfcfpoemojjglaaGreatDoor.K
open Go.RowKit
attribute [-go_sem] loadCellsFrom storeCells
structure Cp (w:World) (g2 g5:Nat) (pc rc:Array Value) (p:Am) (r:Az):Prop where
 pr:At w w.heap.size pc.toList p
 ru:AW w w.heap.size rc.toList r
 b2:Blk w g2 27 pc
 b5:Blk w g5 99 rc
 tab:SpOK w
theorem Cp.at {w w':World} {g2 g5:Nat} {pc rc:Array Value} {p:Am} {r:Az} (h:Cp w g2 g5 pc rc p r) (x:Below w.heap.size w w'):Cp w' g2 g5 pc rc p r:=
 ⟨h.pr.keep (fun _ y=>x.cell y) x.size,h.ru.keep (fun _ y=>x.cell y) x.size,h.b2.below x,h.b5.below x,h.tab.below x⟩
theorem Ah {w:World} {g n:Nat} {t:TypeId} {cs:Array Value} (h:Blk w g t cs) (x:cs.size=n):(loadCellsFrom ⟨g,0,none⟩ 0 n #[]).run Tryz.prog w=.ok cs w:=by
 have:=run_loadCells_list (P:=Tryz.prog) w ⟨g,0,none⟩ cs.toList (fun j v y=>by
  rw [Addr.add_mid,Nat.zero_add,h.cell]
  simpa using y)
 subst x
 simpa [loadCells] using this
theorem Cp.load2 {w:World} {g2 g5:Nat} {pc rc:Array Value} {p:Am} {r:Az} (h:Cp w g2 g5 pc rc p r) (x:pc.size=10):(loadCellsFrom ⟨g2,0,none⟩ 0 10 #[]).run Tryz.prog w=.ok pc w:=Ah h.b2 x
theorem Cp.load5 {w:World} {g2 g5:Nat} {pc rc:Array Value} {p:Am} {r:Az} (h:Cp w g2 g5 pc rc p r) (x:rc.size=18):(loadCellsFrom ⟨g5,0,none⟩ 0 18 #[]).run Tryz.prog w=.ok rc w:=Ah h.b5 x
theorem Ev {w:World} {B:Nat} {r:Az} {x y C E F G I J:Option Addr} {M O U V W Z f7 f8:Nat} (h:AW w B [.string r.name,.int .i64 r.kind,.int .i64 r.fr,.int .i64 r.to,.int .i64 r.pf,.int .i64 r.pt,.slice x r.resp.length M,.slice y r.guards.length O,.slice C r.ex.length U,.slice E r.fa.length V,.int .i64 r.rd,.int .i64 r.wr,.slice F r.send.length W,.int .i64 r.at_,.slice G r.left.length Z,.slice I r.right.length f7,.slice J r.parent.length f8,.int .i64 r.dir] r):
  Sl w B 1 Ai x r.resp∧Sl w B 6 CS y r.guards∧Sl w B 1 Ai C r.ex∧Sl w B 1 Ai E r.fa∧Sl w B 1 Ai F r.send∧Sl w B 1 Ai G r.left∧Sl w B 1 Ai I r.right∧Sl w B 1 Ai J r.parent:=by
 obtain⟨A1,c1,A2,c2,A3,c3,A4,c4,A5,c5,A6,c6,A7,c7,A8,c8,e,h1,h2,h3,h4,h5,h6,h7,h8⟩:=h
 simp only [List.cons.injEq,Value.slice.injEq,true_and,and_true] at e
 obtain⟨⟨rfl,rfl⟩,⟨rfl,rfl⟩,⟨rfl,rfl⟩,⟨rfl,rfl⟩,⟨rfl,rfl⟩,⟨rfl,rfl⟩,⟨rfl,rfl⟩,⟨rfl,rfl⟩⟩:=e
 exact⟨h1,h2,h3,h4,h5,h6,h7,h8⟩
theorem RJ {w:World} {cs:List Value} {p:Am} {r:Az} {i:Nat} (h:At w w.heap.size cs p) (hr:p.rules[i]?=some r) (hT:SpOK w):
  ∃A1 c1 A2 c2 A3 c3 F c4 G c5 I c6 A7 c7 J f1 M f2 O f3 U f4 V f5 W f6 Z f7 E8 f8 b off x y,p.rules.length≤9223372036854775807∧p.rules.length≤c7∧i<p.rules.length∧cs=[.string p.name,.int .i64 p.topo,.slice A1 p.states.length c1,.slice A2 p.messages.length c2,.slice A3 p.values.length c3,.int .i64 p.fault,.slice F p.res.length c4,.slice G p.initial.length c5,.slice I p.leader.length c6,.slice A7 p.rules.length c7]∧A7=some ⟨b,off,none⟩∧w.alloc (.cells #[.string p.name,.int .i64 p.topo,.slice A1 p.states.length c1,.slice A2 p.messages.length c2,.slice A3 p.values.length c3,.int .i64 p.fault,.slice F p.res.length c4,.slice G p.initial.length c5,.slice I p.leader.length c6,.slice A7 p.rules.length c7] 27)=x∧
   (∀j,x.cell? ⟨w.heap.size,j,none⟩=#[.string p.name,.int .i64 p.topo,.slice A1 p.states.length c1,.slice A2 p.messages.length c2,.slice A3 p.values.length c3,.int .i64 p.fault,.slice F p.res.length c4,.slice G p.initial.length c5,.slice I p.leader.length c6,.slice A7 p.rules.length c7][j]?)∧
   (loadCellsFrom ⟨b,off+i*18,none⟩ 0 18 #[]).run Tryz.prog x=.ok #[.string r.name,.int .i64 r.kind,.int .i64 r.fr,.int .i64 r.to,.int .i64 r.pf,.int .i64 r.pt,.slice J r.resp.length f1,.slice M r.guards.length f2,.slice O r.ex.length f3,.slice U r.fa.length f4,.int .i64 r.rd,.int .i64 r.wr,.slice V r.send.length f5,.int .i64 r.at_,.slice W r.left.length f6,.slice Z r.right.length f7,.slice E8 r.parent.length f8,.int .i64 r.dir] x∧
   (∀c:Array Value,c.size=18→(storeCells ⟨x.heap.size,0,none⟩ [.string r.name,.int .i64 r.kind,.int .i64 r.fr,.int .i64 r.to,.int .i64 r.pf,.int .i64 r.pt,.slice J r.resp.length f1,.slice M r.guards.length f2,.slice O r.ex.length f3,.slice U r.fa.length f4,.int .i64 r.rd,.int .i64 r.wr,.slice V r.send.length f5,.int .i64 r.at_,.slice W r.left.length f6,.slice Z r.right.length f7,.slice E8 r.parent.length f8,.int .i64 r.dir] 0).run Tryz.prog (x.alloc (.cells c 99))=.ok () y)∧
   Cp y w.heap.size x.heap.size #[.string p.name,.int .i64 p.topo,.slice A1 p.states.length c1,.slice A2 p.messages.length c2,.slice A3 p.values.length c3,.int .i64 p.fault,.slice F p.res.length c4,.slice G p.initial.length c5,.slice I p.leader.length c6,.slice A7 p.rules.length c7] #[.string r.name,.int .i64 r.kind,.int .i64 r.fr,.int .i64 r.to,.int .i64 r.pf,.int .i64 r.pt,.slice J r.resp.length f1,.slice M r.guards.length f2,.slice O r.ex.length f3,.slice U r.fa.length f4,.int .i64 r.rd,.int .i64 r.wr,.slice V r.send.length f5,.int .i64 r.at_,.slice W r.left.length f6,.slice Z r.right.length f7,.slice E8 r.parent.length f8,.int .i64 r.dir] p r∧
   BR y y.heap.size 18 (AW y y.heap.size) A7 (p.rules.take i)∧y.cell? ⟨x.heap.size,0,none⟩=some (.string r.name)∧x.heap.size<y.heap.size∧Below w.heap.size w y∧(p.rules.take i).length=i∧b<x.heap.size:=by
 obtain⟨A1,c1,A2,c2,A3,c3,F,c4,G,c5,I,c6,A7,c7,rfl,h1,h2,h3,h4,h5,h6,h7,ak⟩:=h
 have am:=AP hr
 have aG:=h7.1
 obtain⟨x,aJ,ad,ah,aL⟩:=Ae w #[.string p.name,.int .i64 p.topo,.slice A1 p.states.length c1,.slice A2 p.messages.length c2,.slice A3 p.values.length c3,.int .i64 p.fault,.slice F p.res.length c4,.slice G p.initial.length c5,.slice I p.leader.length c6,.slice A7 p.rules.length c7] 27
 have ae:=ad.size
 have ax:At x x.heap.size [.string p.name,.int .i64 p.topo,.slice A1 p.states.length c1,.slice A2 p.messages.length c2,.slice A3 p.values.length c3,.int .i64 p.fault,.slice F p.res.length c4,.slice G p.initial.length c5,.slice I p.leader.length c6,.slice A7 p.rules.length c7] p:=At.keep ⟨A1,c1,A2,c2,A3,c3,F,c4,G,c5,I,c6,A7,c7,rfl,h1,h2,h3,h4,h5,h6,h7,ak⟩ (fun _ C=>ad.cell C) ae
 have aj:=h7.keep (w':=x) (B':=x.heap.size) (R':=AW x x.heap.size) (fun _ C=>ad.cell C) (fun _ _ h=>h.keep (fun _ C=>ad.cell C) ae) ae
 obtain⟨b,off,r',rc,hA,aB,he,-,aD,hR⟩:=aj.at am
 rw [hr] at he
 have aE:=Option.some.inj he
 subst aE
 have ay:=hide hR
 obtain⟨J,f1,M,f2,O,f3,U,f4,V,f5,W,f6,Z,f7,E8,f8,rfl,-⟩:=hR
 have az:AW x x.heap.size [.string r.name,.int .i64 r.kind,.int .i64 r.fr,.int .i64 r.to,.int .i64 r.pf,.int .i64 r.pt,.slice J r.resp.length f1,.slice M r.guards.length f2,.slice O r.ex.length f3,.slice U r.fa.length f4,.int .i64 r.rd,.int .i64 r.wr,.slice V r.send.length f5,.int .i64 r.at_,.slice W r.left.length f6,.slice Z r.right.length f7,.slice E8 r.parent.length f8,.int .i64 r.dir] r:=ay.out
 have aF:=run_loadCells_list (P:=Tryz.prog) x ⟨b,off+i*18,none⟩ [.string r.name,.int .i64 r.kind,.int .i64 r.fr,.int .i64 r.to,.int .i64 r.pf,.int .i64 r.pt,.slice J r.resp.length f1,.slice M r.guards.length f2,.slice O r.ex.length f3,.slice U r.fa.length f4,.int .i64 r.rd,.int .i64 r.wr,.slice V r.send.length f5,.int .i64 r.at_,.slice W r.left.length f6,.slice Z r.right.length f7,.slice E8 r.parent.length f8,.int .i64 r.dir] (fun j v hv=>by rw [Addr.add_mid]; exact aD j v hv)
 obtain⟨y,aK,E,aw,aM⟩:=Ae x #[.string r.name,.int .i64 r.kind,.int .i64 r.fr,.int .i64 r.to,.int .i64 r.pf,.int .i64 r.pt,.slice J r.resp.length f1,.slice M r.guards.length f2,.slice O r.ex.length f3,.slice U r.fa.length f4,.int .i64 r.rd,.int .i64 r.wr,.slice V r.send.length f5,.int .i64 r.at_,.slice W r.left.length f6,.slice Z r.right.length f7,.slice E8 r.parent.length f8,.int .i64 r.dir] 99
 have ag:Cp y w.heap.size x.heap.size #[.string p.name,.int .i64 p.topo,.slice A1 p.states.length c1,.slice A2 p.messages.length c2,.slice A3 p.values.length c3,.int .i64 p.fault,.slice F p.res.length c4,.slice G p.initial.length c5,.slice I p.leader.length c6,.slice A7 p.rules.length c7] #[.string r.name,.int .i64 r.kind,.int .i64 r.fr,.int .i64 r.to,.int .i64 r.pf,.int .i64 r.pt,.slice J r.resp.length f1,.slice M r.guards.length f2,.slice O r.ex.length f3,.slice U r.fa.length f4,.int .i64 r.rd,.int .i64 r.wr,.slice V r.send.length f5,.int .i64 r.at_,.slice W r.left.length f6,.slice Z r.right.length f7,.slice E8 r.parent.length f8,.int .i64 r.dir] p r:=
  ⟨ax.keep (fun _ C=>E.cell C) E.size,az.keep (fun _ C=>E.cell C) E.size,ah.below E,aw,(hT.below ad).below E⟩
 exact⟨A1,c1,A2,c2,A3,c3,F,c4,G,c5,I,c6,A7,c7,J,f1,M,f2,O,f3,U,f4,V,f5,W,f6,Z,f7,E8,f8,b,off,x,y,aG,ak,am,rfl,hA,aJ,ah.cell,aF,fun c hc=>by rw [←aK]; exact run_storeCells_new x 99 c #[.string r.name,.int .i64 r.kind,.int .i64 r.fr,.int .i64 r.to,.int .i64 r.pf,.int .i64 r.pt,.slice J r.resp.length f1,.slice M r.guards.length f2,.slice O r.ex.length f3,.slice U r.fa.length f4,.int .i64 r.rd,.int .i64 r.wr,.slice V r.send.length f5,.int .i64 r.at_,.slice W r.left.length f6,.slice Z r.right.length f7,.slice E8 r.parent.length f8,.int .i64 r.dir] (by kernel_rfl) hc (by simp [Value.oneCell']),ag,
  (aj.keep (w':=y) (B':=y.heap.size) (R':=AW y y.heap.size) (fun _ C=>E.cell C) (fun _ _ h=>h.keep (fun _ C=>E.cell C) E.size) E.size).take i,ag.b5.cell 0,ag.b5.lt,ad.trans (E.mono ae),by rw [List.length_take]; omega,aB⟩
end Go.Proofs.YtfcfpoemojjglaaGreatDoor.K
namespace Go.Proofs.YtfcfpoemojjglaaGreatDoor.K
open Go.RowKit
attribute [-go_sem] loadCellsFrom storeCells
structure Am.Small (p:Am):Prop where
 name:p.name.size≤500
 states:p.states.length≤60
 messages:p.messages.length≤60
 values:p.values.length≤60
 res:p.res.length≤60
 initial:p.initial.length≤60
 leader:p.leader.length≤60
 rules:p.rules.length≤30
 rule:∀r∈p.rules,r.Small∧r.name.size≤500
 names:∀s∈Bd p,s.size≤500
theorem _root_.Go.Proofs.YtfcfpoemojjglaaGreatDoor.Sl.takeS {D:Type} {w:World} {B sz:Nat} {enc:D→Nat→Value} {A:Option Addr} {ds:List D} (h:Sl w B sz enc A ds) (n:Nat):Sl w B sz enc A (ds.take n):=
 ⟨Nat.le_trans (List.length_take_le' ..) h.1,fun C=>by
  obtain⟨b,off,e,x,y⟩:=h.2 (by rintro rfl; simp at C)
  refine⟨b,off,e,x,fun i d hd=>y i d ?_⟩
  rw [List.getElem?_take] at hd
  split at hd
  ·exact hd
  ·cases hd⟩
theorem HP {w:World} {base e size n c:Nat} {A:Option Addr} {xs:List Value} (h:w.ownsRow base e size (.slice A n c) n xs):n≤c:=by
 rcases h.2 with⟨e,h0⟩ | ⟨g,cap,x,e,_,_,h1,_⟩
 ·omega
 ·injection e with y C E
  omega
theorem HS {w:World} {base n c:Nat} {A:Option Addr} {L:List ByteArray} (h:w.ownsRow base 9 1 (.slice A n c) n (DV L)) (U:n≤900000):L.length=n∧Sl w w.heap.size 1 BE A L:=by
 have G:L.length=n:=by
  have:=h.1
  simpa [DV] using this
 refine⟨G,by omega,fun I=>?_⟩
 rcases h.2 with⟨_,h0⟩ | ⟨g,cap,J,e,_,F,_,_,_,_⟩
 ·exact absurd (List.length_eq_zero_iff.1 (by omega)) I
 ·injection e with C M E
  subst C E
  refine⟨g,0,rfl,(Array.getElem?_eq_some_iff.1 F).1,fun k d hd j O=>?_⟩
  have hk:k<L.length:=by
   rcases Nat.lt_or_ge k L.length with x | x
   ·exact x
   ·rw [List.getElem?_eq_none x] at hd; cases hd
  have y:j=0:=by omega
  subst y
  have:=h.cellAt k (by omega)
  rw [show 0+k*1+0=k by omega,this]
  simp [DV,hd]
def nmE (L:List ByteArray) (i:Nat):Int:=Ad (!nameOK (L.getD i .empty)||decide (L.getD i .empty∈L.take i)) 2
theorem HN {L:List ByteArray} {k:Nat} (hk:k<L.length) (h:Aj (nmE L) (List.range k)=0) {s:ByteArray} (y:L[k]?=some s) (h1:nameOK s=true) (x:s∉L.take k):Aj (nmE L) (List.range (k+1))=0:=by
 have C:(List.range L.length)[k]?=some k:=by rw [List.getElem?_range hk]
 have ht:=CD (nmE L) C (by rw [List.take_range,Nat.min_eq_left (by omega)]; exact h)
 rw [List.take_range,Nat.min_eq_left (by omega)] at ht
 rw [ht]
 simp [nmE,y,h1,x,Ad]
theorem Fl {L:List ByteArray} {k:Nat} (hk:k<L.length) (h:Aj (nmE L) (List.range k)=0) {s:ByteArray} (y:L[k]?=some s) (h1:nameOK s=false∨s∈L.take k):CU nameOK L=2:=by
 have C:(List.range L.length)[k]?=some k:=by rw [List.getElem?_range hk]
 have x:nmE L k=2:=by
  rcases h1 with h1 | h1 <;> simp [nmE,y,h1,Ad]
 have ht:=Ct (nmE L) C (by rw [List.take_range,Nat.min_eq_left (by omega)]; exact h) (by rw [x]; decide)
 rw [x] at ht
 exact ht
theorem J6 {w:World} {cs:List Value} {p:Am} (h:At w w.heap.size cs p) (a4:p.Small) (hT:SpOK w):
  Calls Tryz.prog 168 #[.agg cs.toArray] w (Ret fun v w'=>v=.int .i64 (CU nameOK (Bd p))∧Below w.heap.size w w'):=by
 obtain⟨A1,c1,A2,c2,A3,c3,A4,c4,A5,c5,A6,c6,A7,c7,rfl,h1,U,h3,h4,h5,h6,h7,aU⟩:=h
 have bb:=a4.states
 have bc:=a4.messages
 have bd:=a4.values
 have aZ:=hide a4.names
 obtain⟨w1,bg,E,au,aW⟩:=Ae w #[.string p.name,.int .i64 p.topo,.slice A1 p.states.length c1,.slice A2 p.messages.length c2,.slice A3 p.values.length c3,.int .i64 p.fault,.slice A4 p.res.length c4,.slice A5 p.initial.length c5,.slice A6 p.leader.length c6,.slice A7 p.rules.length c7] 27
 have b8:=au.cell
 obtain⟨w2,bh,F,V,aX⟩:=Ae w1 #[.slice A1 p.states.length c1,.slice A2 p.messages.length c2,.slice A3 p.values.length c3] 22
 have b0:=E.size
 have be:=F.size
 have ao:=h1.keep (w':=w2) (B':=w.heap.size) (fun _ I=>(F.cell (by omega)).trans (E.cell I)) (Nat.le_refl _)
 have ap:=U.keep (w':=w2) (B':=w.heap.size) (fun _ I=>(F.cell (by omega)).trans (E.cell I)) (Nat.le_refl _)
 have ar:=h3.keep (w':=w2) (B':=w.heap.size) (fun _ I=>(F.cell (by omega)).trans (E.cell I)) (Nat.le_refl _)
 have av:LL w2 w.heap.size w1.heap.size 0 (fun k=>[A1,A2,A3].getD k none) (fun k=>[c1,c2,c3].getD k 0) [p.states,p.messages,p.values]:=by
  intro k l C
  match k,C with
  | 0,C=>obtain rfl:=Option.some.inj C; exact⟨V.cell 0,ao⟩
  | 1,C=>obtain rfl:=Option.some.inj C; exact⟨V.cell 1,ap⟩
  | 2,C=>obtain rfl:=Option.some.inj C; exact⟨V.cell 2,ar⟩
  | k+3,C=>simp at C
 have ag:([p.states,p.messages,p.values]:List (List ByteArray)).flatten=Bd p:=by simp [Bd]
 have ba:(Bd p).length≤180:=by simp only [Bd,List.length_append]; omega
 have af:=M4 (c:=3) av V.lt (by omega) (by rw [ag]; omega) (by simp) (by simp)
 rw [ag] at af
 have aV:=hide af
 have ay:=hide (E.trans (F.mono b0))
 have aS:=hide ((hT.below E).below F)
 have aY:=hide (show CU nameOK (Bd p)=Aj (nmE (Bd p)) (List.range (Bd p).length) from rfl)
 clear af av ao ap ar ag E F au aW aX V h1 U h3 h4 h5 h6 h7 a4 hT aU
 generalize Bd p=L at*
 go_enter Tryz.func168,Tryz.ntmps168
 go_wp2_with (go_at_call 203; refine Calls.ret aV.out ?_; rintro v w3 ⟨a9,ae⟩; obtain⟨Av,cv,hv⟩:=AH a9; subst hv; have aw:=hide (HS a9 (by omega)).2; have b9:=HP a9; have J:=hide (ay.out.trans (ae.mono ay.out.size)); have aR:=hide (aS.out.below ae); clear a9 ae)
 go_loopw [16] (fun ii wr=>∃(k:Nat),ii=.int .i64 (k:Int)∧k≤L.length∧Hid (Aj (nmE L) (List.range k)=0)∧Hid (Below w3.heap.size w3 wr)) (fun ii _=>L.length - (intOf ii).toNat)
 case atStart=>exact⟨0,rfl,Nat.zero_le _,by show _=_; rfl,Below.refl _ _⟩
 case round=>
  obtain⟨k,rfl,hk,W,Z⟩:=hrel
  by_cases a7:k<L.length
  ·obtain⟨b,off,s,hA,aT,aj,hc⟩:=aw.out.at a7
   have d0:=hc 0 (by omega)
   simp only [Nat.add_zero,Nat.mul_one,BE] at d0
   have d1:=(Z.out.cell (p:=⟨b,off+k,none⟩) aT).trans d0
   have bf:=aZ.out s (List.mem_of_getElem? aj)
   have ak:=hide aj
   subst hA
   clear hc d0 aj
   have a6:∀y,Below wr.heap.size wr y→Hid (Below w3.heap.size w3 y):=fun y hx=>hide (Z.out.trans (hx.mono Z.out.size))
   have ad:=hide (aR.out.below Z.out)
   cases a8:nameOK s with
   | false=>
    have O:=hide a8
    clear a8
    go_wp2_with (go_at_call 118; refine Calls.ret (Da s _ (by omega) ad.out) ?_; rintro v y ⟨rfl,G⟩; rw [O.out])
    go_ret
    refine⟨?_,J.out.trans ((a6 _ G).out.mono J.out.size)⟩
    rw [Fl a7 W.out ak.out (.inl O.out)]
    rfl
   | true=>
    have O:=hide a8
    clear a8
    have aC:(L.take k).length=k:=by rw [List.length_take]; omega
    have b4:=hide aC
    clear aC
    have aA:∀y,Below wr.heap.size wr y→Hid (Calls Tryz.prog 204 #[.slice (some ⟨b,off,none⟩) k cv,.string s] y fun r w'=>r=.returned (.bool (decide (s∈L.take k)))∧y=w'):=by
     intro y hx
     have h1:=(aw.out.keep (w':=y) (B':=w3.heap.size) (fun _ I=>(a6 y hx).out.cell I) (Nat.le_refl _)).takeS k
     have U:=Je (c:=cv) (x:=s) h1
     rw [b4.out] at U
     exact U
    have aB:=hide aA
    clear aA
    by_cases M:s∈L.take k
    ·have ai:=hide M
     have a3:decide (s∈L.take k)=true:=decide_eq_true M
     have ah:=hide a3
     clear M a3
     go_wp2_with (first
      | (go_at_call 118; refine Calls.ret (Da s _ (by omega) ad.out) ?_; rintro v y ⟨rfl,G⟩; rw [O.out]; have a2:=hide G; clear G)
      | (go_at_call 204; refine(aB.out _ a2.out).out.mono ?_; rintro r w' ⟨rfl,rfl⟩; rw [ah.out]))
     go_ret
     refine⟨?_,J.out.trans ((a6 _ a2.out).out.mono J.out.size)⟩
     rw [Fl a7 W.out ak.out (.inr ai.out)]
     rfl
    ·have ai:=hide M
     have a3:decide (s∈L.take k)=false:=decide_eq_false M
     have ah:=hide a3
     clear M a3
     go_wp2_with (first
      | (go_at_call 118; refine Calls.ret (Da s _ (by omega) ad.out) ?_; rintro v y ⟨rfl,G⟩; rw [O.out]; have a2:=hide G; clear G)
      | (go_at_call 204; refine(aB.out _ a2.out).out.mono ?_; rintro r w' ⟨rfl,rfl⟩; rw [ah.out]))
     exact⟨⟨k+1,by go_num,by omega,HN a7 W.out ak.out O.out ai.out,a6 _ a2.out⟩,by simp [intOf]; omega⟩
  ·have e:k=L.length:=by omega
   have ac:=W.out
   rw [e,←aY.out] at ac
   have aQ:=hide ac
   clear ac e W
   go_wp2_with fail
   go_ret
   exact⟨by rw [aQ.out]; rfl,J.out.trans (Z.out.mono J.out.size)⟩
end Go.Proofs.YtfcfpoemojjglaaGreatDoor.K
namespace Go.Proofs.YtfcfpoemojjglaaGreatDoor.K
open Go.RowKit
attribute [-go_sem] loadCellsFrom storeCells
theorem At.rules_at {w:World} {B:Nat} {cs:List Value} {p:Am} (h:At w B cs p):cs.toArray.size=10∧∃A c,cs.toArray[9]?=some (.slice A p.rules.length c)∧BR w B 18 (AW w B) A p.rules∧p.rules.length≤c:=by
 obtain⟨A1,c1,A2,c2,A3,c3,C,G,E,I,F,J,A7,c7,rfl,h1,M,O,U,V,W,x,y⟩:=h
 exact⟨rfl,A7,c7,rfl,x,y⟩
structure Fc (w:World) (B:Nat) (rc:Array Value) (r:Az):Prop where
 size:rc.size=18
 one:rc.all (·.oneCell')=true
 is:AW w B rc.toList r
theorem AW.c {w:World} {B:Nat} {cs:List Value} {r:Az} (h:AW w B cs r):Fc w B cs.toArray r:=by
 refine⟨?_,?_,by simpa using h⟩ <;> obtain⟨A1,c1,A2,c2,A3,c3,x,F,y,G,C,I,A7,c7,E,J,rfl,_⟩:=h
 ·rfl
 ·simp [Value.oneCell']
theorem Fc.guards {w:World} {B:Nat} {rc:Array Value} {r:Az} (h:Fc w B rc r):∃A c,rc[7]?=some (.slice A r.guards.length c)∧Sl w B 6 CS A r.guards:=by
 obtain⟨A1,c1,A2,c2,A3,c3,y,G,C,I,E,J,A7,c7,F,M,e,h1,x,O,U,V,W,Z,h8⟩:=h.is
 refine⟨A2,c2,?_,x⟩
 rw [←Array.getElem?_toList,e]
 rfl
theorem Du {w:World} {B:Nat} {A:Option Addr} {l:List Az} (h:BR w B 18 (AW w B) A l) {i:Nat} {r:Az} (E:l[i]?=some r):
  ∃b off rc,A=some ⟨b,off,none⟩∧b<B∧Fc w B rc r∧(∀j v,rc[j]?=some v→w.cell? ⟨b,off+i*18+j,none⟩=some v)∧((loadCellsFrom ⟨b,off+i*18,none⟩ 0 18 #[]).run Tryz.prog w=.ok rc w):=by
 obtain⟨b,off,V,rc,F,I,C,U,y,G⟩:=h.at (AP E)
 rw [E] at C
 have O:=Option.some.inj C
 subst O
 have J:=G.c
 have M:∀j v,rc.toArray[j]?=some v→w.cell? ⟨b,off+i*18+j,none⟩=some v:=fun j v x=>y j v (by simpa using x)
 refine⟨b,off,rc.toArray,F,I,J,M,?_⟩
 have:=run_loadCells_list (P:=Tryz.prog) w ⟨b,off+i*18,none⟩ rc (fun j v x=>by rw [Addr.add_mid]; exact y j v x)
 rw [U] at this
 simpa [loadCells] using this
theorem Dv (w:World) (t n:Nat) (y:(Tryz.prog.info? t).map (·.size)=some n) {rc:Array Value} (h:rc.size=n) (h1:rc.all (·.oneCell')=true):
  ∀c:Array Value,c.size=n→(storeCells ⟨w.heap.size,0,none⟩ rc.toList 0).run Tryz.prog (w.alloc (.cells c t))=.ok () (w.alloc (.cells rc t)):=fun c x=>
 run_storeCells_new w t c rc (by rw [y,h]) (by rw [x,h]) h1
theorem EQ {w w':World} {base e size n:Nat} {v:Value} {xs:List Value} (h:w.ownsRow base e size v n xs) (x:Below w.heap.size w w'):w'.ownsRow base e size v n xs:=(Ac.of_below x fun _=>False).ownsRow h (fun _ _=>id)
theorem Kc {w:World} {base x e size n:Nat} {v:Value} {xs:List Value} (h:w.ownsRow base e size v n xs) (F:x≤base):w.ownsRow x e size v n xs:=by
 refine⟨h.1,?_⟩
 rcases h.2 with h1 | ⟨g,cap,y,e,E,C⟩
 ·exact .inl h1
 ·exact .inr ⟨g,cap,y,e,by omega,C⟩
theorem Qh:(Tryz.prog.info? 217).map (fun i=>(i.zero,i.size,i.bytes))=some (some (DG ⟨0,0,⟨0,0,0,0⟩⟩),6,48):=by kernel_rfl
theorem KR:Dd Tryz.prog 97 217 6:=EX Tryz.underlying97 Qh rfl (by omega) (by omega)
def C4 (g:Thr):List Value:=[.int .i64 g.msg,.int .i64 g.coef,.int .i64 g.bound.c,.int .i64 g.bound.n,.int .i64 g.bound.t,.int .i64 g.bound.f]
def CM (L:List Thr):List Value:=L.flatMap C4
theorem TJ (L:List Thr):(CM L).length=L.length*6:=by
 induction L with
 | nil=>rfl
 | cons x L ih=>
  have:CM (x::L)=C4 x++CM L:=rfl
  rw [this,List.length_append,ih,List.length_cons]
  show 6+_=_
  omega
theorem Lx (L:List Thr) (g:Thr):CM (L++[g])=CM L++C4 g:=by simp [CM]
theorem Ly:∀(L:List Thr) (k:Nat) (d:Thr),L[k]?=some d→∀j,j<6→(CM L)[k*6+j]?=some (CS d j)
 | [],k,d,h,_,_=>by simp at h
 | x::L,0,d,h,j,hj=>by
  obtain rfl:x=d:=by simpa using h
  have:CM (x::L)=C4 x++CM L:=rfl
  rw [this,Nat.zero_mul,Nat.zero_add,List.getElem?_append_left (by show j<6; exact hj)]
  match j,hj with
  | 0,_=>rfl
  | 1,_=>rfl
  | 2,_=>rfl
  | 3,_=>rfl
  | 4,_=>rfl
  | 5,_=>rfl
 | x::L,k+1,d,h,j,hj=>by
  have:CM (x::L)=C4 x++CM L:=rfl
  rw [this,List.getElem?_append_right (by show 6≤_; omega),show(k+1)*6+j - (C4 x).length=k*6+j from by show(k+1)*6+j - 6=_; omega]
  exact Ly L k d (by simpa using h) j hj
theorem Kh {w:World} {base n c:Nat} {A:Option Addr} {L:List Thr} (h:w.ownsRow base 217 6 (.slice A n c) n (CM L)) (M:n≤900000):L.length=n∧Sl w w.heap.size 6 CS A L:=by
 have F:L.length=n:=by
  have:=h.1
  rw [TJ] at this
  omega
 refine⟨F,by omega,fun G=>?_⟩
 rcases h.2 with⟨_,h0⟩ | ⟨g,cap,I,e,_,C,_,_,_,_⟩
 ·exact absurd (List.length_eq_zero_iff.1 (by omega)) G
 ·injection e with x J y
  subst x y
  refine⟨g,0,rfl,(Array.getElem?_eq_some_iff.1 C).1,fun k d hd j E=>?_⟩
  have hk:=AP hd
  rw [show 0+k*6+j=k*6+j by omega,h.cellAt (k*6+j) (by omega)]
  exact Ly L k d hd j E
theorem L5 (s:List Thr) (g:Thr):(Bx s g).length≤s.length+1:=by
 unfold Bx
 split <;> simp
theorem Jz:∀(l s:List Thr),(l.foldl Bx s).length≤s.length+l.length
 | [],s=>by simp
 | g::l,s=>by
  have h1:=Jz l (Bx s g)
  have h:=L5 s g
  simp only [List.foldl_cons,List.length_cons]
  omega
theorem JB {l:List Thr} {k:Nat} {g:Thr} (h:l[k]?=some g) (s:List Thr):(l.take (k+1)).foldl Bx s=Bx ((l.take k).foldl Bx s) g:=by
 rw [show l.take (k+1)=l.take k++[g] by rw [List.take_add_one,h]; rfl,List.foldl_append]
 rfl
theorem LA {l:List Az} {i:Nat} {r:Az} (h:l[i]?=some r):BO (l.take (i+1))=r.guards.foldl Bx (BO (l.take i)):=by
 unfold BO
 rw [show l.take (i+1)=l.take i++[r] by rw [List.take_add_one,h]; rfl,List.flatMap_append,List.foldl_append]
 simp
theorem Jw:∀(l:List Az),(∀r∈l,r.guards.length≤60)→(l.flatMap Az.guards).length≤60*l.length
 | [],_=>by simp
 | r::l,h=>by
  have h1:=Jw l (fun x y=>h x (by simp [y]))
  have C:=h r (by simp)
  rw [List.flatMap_cons,List.length_append,List.length_cons]
  omega
theorem FB (l:List Az) (h:∀r∈l,r.guards.length≤60):(BO l).length≤60*l.length:=by
 have h1:=Jz (l.flatMap Az.guards) []
 have x:=Jw l h
 unfold BO
 rw [List.length_nil] at h1
 omega
theorem Lz {w:World} {cs:List Value} {p:Am} (h:At w w.heap.size cs p) (ai:p.Small):
  Calls Tryz.prog 171 #[.agg cs.toArray] w (Ret fun v w'=>w'.ownsRow w.heap.size 217 6 v (BO p.rules).length (CM (BO p.rules))∧Below w.heap.size w w'):=by
 have aw:=hide (show ∀r∈p.rules,r.guards.length≤60 from fun r I=>(ai.rule r I).1.2.1)
 have bx:=ai.rules
 obtain⟨bw,A7,c7,az,aA,bk⟩:=h.rules_at
 generalize b4:cs.toArray=pc at*
 clear b4 h
 generalize b5:p.rules=rs at*
 clear b5 ai
 obtain⟨y,bC,a2,ac,aR⟩:=Ae w pc 27
 have ab:=a2.size
 have bj:y.cell? ⟨w.heap.size,9,none⟩=some (.slice A7 rs.length c7):=by rw [ac.cell,az]
 have aL:=hide (aA.keep (w':=y) (B':=y.heap.size) (R':=AW y y.heap.size) (fun _ E=>a2.cell E) (fun _ _ h=>h.keep (fun _ E=>a2.cell E) ab) ab)
 have aO:=hide a2
 have bt:=ac.lt
 clear aA a2 aR ac az
 go_enter Tryz.func171,Tryz.ntmps171
 go_wp2_with fail
 go_loopw [3,11] (fun vv ii wr=>∃(i n:Nat),ii=.int .i64 (i:Int)∧i≤rs.length∧Hid (wr.ownsRow y.heap.size 217 6 vv n (CM (BO (rs.take i))))∧Hid (n=(BO (rs.take i)).length)∧Hid (Below y.heap.size y wr)) (fun _ ii _=>rs.length - (intOf ii).toNat)
 case atStart=>exact⟨0,0,rfl,Nat.zero_le _,World.ownsRow_nil _ _ _ _,by show _=_; rfl,Below.refl _ _⟩
 case round=>
  obtain⟨i,n,rfl,hi,F,hn,U⟩:=hrel
  by_cases aU:i<rs.length
  ·obtain⟨r,I⟩:∃r,rs[i]?=some r:=⟨_,List.getElem?_eq_getElem aU⟩
   obtain⟨b,off,rc,hA,bg,V,aQ,br⟩:=Du (aL.out.keep (w':=wr) (B':=y.heap.size) (R':=AW wr y.heap.size) (fun _ E=>U.out.cell E) (fun _ _ h=>h.keep (fun _ E=>U.out.cell E) (Nat.le_refl _)) (Nat.le_refl _)) I
   obtain⟨w2,b8,ae,an,aS⟩:=Ae wr rc 99
   have b6:=Dv wr 99 18 (by kernel_rfl) V.size V.one
   rw [b8] at b6
   obtain⟨Eg,fg,au,aq⟩:=V.guards
   have bz:=hide I
   have be:=hide V
   have bi:w2.cell? ⟨wr.heap.size,7,none⟩=some (.slice Eg r.guards.length fg):=by rw [an.cell,au]
   have bm:=aw.out r (List.mem_of_getElem? I)
   have G:=hide (EQ F.out ae)
   have bA:=V.size
   have aM:=hide (aq.keep (w':=y) (B':=y.heap.size) (fun _ E=>(U.out.cell E).symm) (Nat.le_refl _))
   have ao:=hide (U.out.trans (ae.mono U.out.size))
   have b7:=hide (LA I)
   have aZ:=hide (FB (rs.take i) (fun r I=>aw.out r (List.mem_of_mem_take I)))
   have bv:n≤1800:=by
    have h1:=aZ.out
    rw [hn.out]
    rw [List.length_take] at h1
    omega
   subst hA
   clear aQ V aS an I au F aq ae
   go_wp2_with fail
   go_loopw [3,18] (fun vv jj wr=>∃(j n:Nat),jj=.int .i64 (j:Int)∧j≤r.guards.length∧n≤1800+j∧Hid (wr.ownsRow y.heap.size 217 6 vv n (CM ((r.guards.take j).foldl Bx (BO (rs.take i)))))∧Hid (n=((r.guards.take j).foldl Bx (BO (rs.take i))).length)∧Hid (Below y.heap.size y wr)) (fun _ jj _=>r.guards.length - (intOf jj).toNat)
   case atStart=>exact⟨0,n,rfl,Nat.zero_le _,by omega,by show World.ownsRow _ _ _ _ _ _ _; simpa using G.out,by show _=_; simpa using hn.out,ao.out⟩
   case round=>
    obtain⟨j,m,rfl,hj,hm,F,a4,a6⟩:=hrel
    by_cases aW:j<r.guards.length
    ·obtain⟨b2,aB,g,aH,bh,hg,av⟩:=(aM.out.keep (w':=wr) (B':=y.heap.size) (fun _ E=>a6.out.cell E) (Nat.le_refl _)).at aW
     have bs:(loadCellsFrom ⟨b2,aB+j*6,none⟩ 0 6 #[]).run Tryz.prog wr=.ok #[.int .i64 g.msg,.int .i64 g.coef,.int .i64 g.bound.c,.int .i64 g.bound.n,.int .i64 g.bound.t,.int .i64 g.bound.f] wr:=by
      have:=run_loadCells_list (P:=Tryz.prog) wr ⟨b2,aB+j*6,none⟩ (C4 g) (fun k v C=>by
       rw [Addr.add_mid]
       have hk:=AP C
       rw [av k hk]
       match k,hk,C with
       | 0,_,C=>exact congrArg some (Option.some.inj C)
       | 1,_,C=>exact congrArg some (Option.some.inj C)
       | 2,_,C=>exact congrArg some (Option.some.inj C)
       | 3,_,C=>exact congrArg some (Option.some.inj C)
       | 4,_,C=>exact congrArg some (Option.some.inj C)
       | 5,_,C=>exact congrArg some (Option.some.inj C))
      simpa [loadCells,C4] using this
     have a8:=hide (JB hg (BO (rs.take i)))
     have aN:=hide (show DG g=.agg #[.int .i64 g.msg,.int .i64 g.coef,.int .i64 g.bound.c,.int .i64 g.bound.n,.int .i64 g.bound.t,.int .i64 g.bound.f] from rfl)
     obtain⟨w3,b9,af,ad,aT⟩:=Ae wr #[.int .i64 g.msg,.int .i64 g.coef,.int .i64 g.bound.c,.int .i64 g.bound.n,.int .i64 g.bound.t,.int .i64 g.bound.f] 217
     have bB:∀c:Array Value,c.size=6→(storeCells ⟨wr.heap.size,0,none⟩ [.int .i64 g.msg,.int .i64 g.coef,.int .i64 g.bound.c,.int .i64 g.bound.n,.int .i64 g.bound.t,.int .i64 g.bound.f] 0).run Tryz.prog (wr.alloc (.cells c 217))=.ok () w3:=fun c hc=>by rw [←b9]; exact Dv wr 217 6 (by kernel_rfl) (rc:=#[.int .i64 g.msg,.int .i64 g.coef,.int .i64 g.bound.c,.int .i64 g.bound.n,.int .i64 g.bound.t,.int .i64 g.bound.f]) rfl (by simp [Value.oneCell']) c hc
     have bp:(loadCellsFrom ⟨wr.heap.size,0,none⟩ 0 6 #[]).run Tryz.prog w3=.ok #[.int .i64 g.msg,.int .i64 g.coef,.int .i64 g.bound.c,.int .i64 g.bound.n,.int .i64 g.bound.t,.int .i64 g.bound.f] w3:=Ah ad rfl
     have M:=EQ F.out af
     obtain⟨Av,cv,C⟩:=AH F.out
     subst C
     have ar:=(Kh M (by omega)).2
     have ay:((r.guards.take j).foldl Bx (BO (rs.take i))).length=m:=a4.out.symm
     have ag:=hide (M8 (c:=cv) (x:=g) ar (Nat.le_refl _))
     rw [ay,aN.out] at ag
     have a5:=hide (a6.out.trans (af.mono a6.out.size))
     have bl:=hide hg
     have aJ:=hide ad
     have ap:=hide M
     subst aH
     clear av aT ad af hg ar ay F M
     generalize ((r.guards.take j).foldl Bx (BO (rs.take i)))=L at*
     cases a9:decide (g∈L)
     ·have a3:=hide a9
      clear a9
      have Z:=hide (show Bx L g=L++[g] from if_neg (of_decide_eq_false a3.out))
      go_wp2_with (first
       | (go_at_call 213; refine Calls.ret ag.out ?_; rintro v w4 ⟨rfl,J⟩; rw [a3.out]; have bq:=Ah (n:=6) (aJ.out.below J) rfl; have a7:=hide (EQ ap.out J); have W:=hide (a5.out.trans (J.mono a5.out.size)); clear J)
       | (at_builtin; refine BP KR rfl _ _ rfl y.heap.size _ m _ rfl a7.out (C4 g) _ rfl rfl (by simp [C4,Value.oneCell']) (by omega) (by have:=W.out.size; have:=ao.out.size; omega) ?_; intro g5 bd w5 b0 ax aX aV))
      have aK:=hide (W.out.trans (ax.below W.out.size fun b' bf e=>by have:=(a7.out.lt b' e).1; omega))
      clear ax aX aV
      exact⟨⟨j+1,m+1,by go_num,by omega,by omega,by show World.ownsRow _ _ _ _ _ _ _; rw [a8.out,Z.out,Lx]; exact b0,by show _=_; rw [a8.out,Z.out,List.length_append,a4.out]; rfl,aK.out⟩,by simp [intOf]; omega⟩
     ·have a3:=hide a9
      clear a9
      have Z:=hide (show Bx L g=L from if_pos (of_decide_eq_true a3.out))
      go_wp2_with (go_at_call 213; refine Calls.ret ag.out ?_; rintro v w4 ⟨rfl,J⟩; rw [a3.out]; have a7:=hide (EQ ap.out J); have W:=hide (a5.out.trans (J.mono a5.out.size)); clear J)
      exact⟨⟨j+1,m,by go_num,by omega,by omega,by show World.ownsRow _ _ _ _ _ _ _; rw [a8.out,Z.out]; exact a7.out,by show _=_; rw [a8.out,Z.out,a4.out],W.out⟩,by simp [intOf]; omega⟩
    ·have e:j=r.guards.length:=by omega
     have G:=F.out
     have O:=a4.out
     rw [e,List.take_length,←b7.out] at G O
     have M:=hide G
     have aY:=hide O
     clear G O e F a4
     go_wp2_with fail
     exact⟨⟨i+1,m,by go_num,by omega,M.out,aY.out,a6.out⟩,by simp [intOf]; omega⟩
  ·have e:i=rs.length:=by omega
   have G:=F.out
   have O:=hn.out
   rw [e,List.take_length] at G O
   rw [O] at G
   have M:=hide (Kc G ab)
   clear G O e F hn
   go_wp2_with fail
   go_ret
   exact⟨M.out,aO.out.trans (U.out.mono ab)⟩
end Go.Proofs.YtfcfpoemojjglaaGreatDoor.K
