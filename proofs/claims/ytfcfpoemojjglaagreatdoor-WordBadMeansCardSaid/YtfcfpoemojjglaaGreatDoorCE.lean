/-
  Part CE of a proof.
-/
import Derived.Deep.MidRow
import Derived.Deep.WholeRow
import Derived.Test.YtfcfpoemojjglaaGreatDoorPA
import Derived.Test.YtfcfpoemojjglaaGreatDoorCB
import Derived.Test.YtfcfpoemojjglaaGreatDoorCC
import Derived.Test.YtfcfpoemojjglaaGreatDoorCD
set_option maxHeartbeats 16000000
set_option maxRecDepth 100000
set_option linter.unusedVariables false
set_option linter.unusedSimpArgs false
namespace Go.Proofs.YtfcfpoemojjglaaGreatDoor.K
open Go.RowKit
attribute [-go_sem] loadCellsFrom storeCells
structure Cp (w:World) (g2 g5:Nat) (pc rc:Array Value) (p:Am) (r:Az):Prop where
 pr:At w w.heap.size pc.toList p
 ru:AW w w.heap.size rc.toList r
 b2:Blk w g2 27 pc
 b5:Blk w g5 99 rc
 tab:SpOK w
theorem Cp.at {w w':World} {g2 g5:Nat} {C rc:Array Value} {p:Am} {r:Az} (h:Cp w g2 g5 C rc p r) (y:Below w.heap.size w w'):Cp w' g2 g5 C rc p r:=
 ⟨h.pr.keep (fun _ z=>y.cell z) y.size,h.ru.keep (fun _ z=>y.cell z) y.size,h.b2.below y,h.b5.below y,h.tab.below y⟩
theorem Ah {w:World} {g n:Nat} {t:TypeId} {cs:Array Value} (h:Blk w g t cs) (y:cs.size=n):(loadCellsFrom ⟨g,0,none⟩ 0 n #[]).run Tryz.prog w=.ok cs w:=by
 have:=run_loadCells_list (P:=Tryz.prog) w ⟨g,0,none⟩ cs.toList (fun j v z=>by
  rw [Addr.add_mid,Nat.zero_add,h.cell]
  simpa using z)
 subst y
 simpa [loadCells] using this
theorem Cp.load2 {w:World} {g2 g5:Nat} {y rc:Array Value} {p:Am} {r:Az} (h:Cp w g2 g5 y rc p r) (z:y.size=10):(loadCellsFrom ⟨g2,0,none⟩ 0 10 #[]).run Tryz.prog w=.ok y w:=Ah h.b2 z
theorem Cp.load5 {w:World} {g2 g5:Nat} {z rc:Array Value} {p:Am} {r:Az} (h:Cp w g2 g5 z rc p r) (y:rc.size=18):(loadCellsFrom ⟨g5,0,none⟩ 0 18 #[]).run Tryz.prog w=.ok rc w:=Ah h.b5 y
theorem Ev {w:World} {B:Nat} {r:Az} {y z C E G I J M:Option Addr} {O U f3 V f5 W Z f8:Nat} (h:AW w B [.string r.name,.int .i64 r.kind,.int .i64 r.fr,.int .i64 r.to,.int .i64 r.pf,.int .i64 r.pt,.slice y r.resp.length O,.slice z r.guards.length U,.slice C r.ex.length f3,.slice E r.fa.length V,.int .i64 r.rd,.int .i64 r.wr,.slice G r.send.length f5,.int .i64 r.at_,.slice I r.left.length W,.slice J r.right.length Z,.slice M r.parent.length f8,.int .i64 r.dir] r):
  Sl w B 1 Ai y r.resp∧Sl w B 6 CS z r.guards∧Sl w B 1 Ai C r.ex∧Sl w B 1 Ai E r.fa∧Sl w B 1 Ai G r.send∧Sl w B 1 Ai I r.left∧Sl w B 1 Ai J r.right∧Sl w B 1 Ai M r.parent:=by
 obtain⟨A1,c1,A2,c2,A3,c3,A4,c4,A5,c5,A6,c6,A7,c7,A8,c8,e,h1,h2,h3,h4,h5,h6,h7,h8⟩:=h
 simp only [List.cons.injEq,Value.slice.injEq,true_and,and_true] at e
 obtain⟨⟨rfl,rfl⟩,⟨rfl,rfl⟩,⟨rfl,rfl⟩,⟨rfl,rfl⟩,⟨rfl,rfl⟩,⟨rfl,rfl⟩,⟨rfl,rfl⟩,⟨rfl,rfl⟩⟩:=e
 exact⟨h1,h2,h3,h4,h5,h6,h7,h8⟩
theorem RJ {w:World} {cs:List Value} {p:Am} {r:Az} {i:Nat} (h:At w w.heap.size cs p) (hr:p.rules[i]?=some r) (hT:SpOK w):
  ∃G c1 I c2 J c3 M c4 O c5 U c6 z C V f1 W f2 Z f3 E4 f4 E5 f5 E6 f6 E7 f7 E8 f8 b aj w1 w2,p.rules.length≤9223372036854775807∧p.rules.length≤C∧i<p.rules.length∧cs=[.string p.name,.int .i64 p.topo,.slice G p.states.length c1,.slice I p.messages.length c2,.slice J p.values.length c3,.int .i64 p.fault,.slice M p.res.length c4,.slice O p.initial.length c5,.slice U p.leader.length c6,.slice z p.rules.length C]∧z=some ⟨b,aj,none⟩∧w.alloc (.cells #[.string p.name,.int .i64 p.topo,.slice G p.states.length c1,.slice I p.messages.length c2,.slice J p.values.length c3,.int .i64 p.fault,.slice M p.res.length c4,.slice O p.initial.length c5,.slice U p.leader.length c6,.slice z p.rules.length C] 27)=w1∧
   (∀j,w1.cell? ⟨w.heap.size,j,none⟩=#[.string p.name,.int .i64 p.topo,.slice G p.states.length c1,.slice I p.messages.length c2,.slice J p.values.length c3,.int .i64 p.fault,.slice M p.res.length c4,.slice O p.initial.length c5,.slice U p.leader.length c6,.slice z p.rules.length C][j]?)∧
   (loadCellsFrom ⟨b,aj+i*18,none⟩ 0 18 #[]).run Tryz.prog w1=.ok #[.string r.name,.int .i64 r.kind,.int .i64 r.fr,.int .i64 r.to,.int .i64 r.pf,.int .i64 r.pt,.slice V r.resp.length f1,.slice W r.guards.length f2,.slice Z r.ex.length f3,.slice E4 r.fa.length f4,.int .i64 r.rd,.int .i64 r.wr,.slice E5 r.send.length f5,.int .i64 r.at_,.slice E6 r.left.length f6,.slice E7 r.right.length f7,.slice E8 r.parent.length f8,.int .i64 r.dir] w1∧
   (∀c:Array Value,c.size=18→(storeCells ⟨w1.heap.size,0,none⟩ [.string r.name,.int .i64 r.kind,.int .i64 r.fr,.int .i64 r.to,.int .i64 r.pf,.int .i64 r.pt,.slice V r.resp.length f1,.slice W r.guards.length f2,.slice Z r.ex.length f3,.slice E4 r.fa.length f4,.int .i64 r.rd,.int .i64 r.wr,.slice E5 r.send.length f5,.int .i64 r.at_,.slice E6 r.left.length f6,.slice E7 r.right.length f7,.slice E8 r.parent.length f8,.int .i64 r.dir] 0).run Tryz.prog (w1.alloc (.cells c 99))=.ok () w2)∧
   Cp w2 w.heap.size w1.heap.size #[.string p.name,.int .i64 p.topo,.slice G p.states.length c1,.slice I p.messages.length c2,.slice J p.values.length c3,.int .i64 p.fault,.slice M p.res.length c4,.slice O p.initial.length c5,.slice U p.leader.length c6,.slice z p.rules.length C] #[.string r.name,.int .i64 r.kind,.int .i64 r.fr,.int .i64 r.to,.int .i64 r.pf,.int .i64 r.pt,.slice V r.resp.length f1,.slice W r.guards.length f2,.slice Z r.ex.length f3,.slice E4 r.fa.length f4,.int .i64 r.rd,.int .i64 r.wr,.slice E5 r.send.length f5,.int .i64 r.at_,.slice E6 r.left.length f6,.slice E7 r.right.length f7,.slice E8 r.parent.length f8,.int .i64 r.dir] p r∧
   BR w2 w2.heap.size 18 (AW w2 w2.heap.size) z (p.rules.take i)∧w2.cell? ⟨w1.heap.size,0,none⟩=some (.string r.name)∧w1.heap.size<w2.heap.size∧Below w.heap.size w w2∧(p.rules.take i).length=i∧b<w1.heap.size:=by
 obtain⟨G,c1,I,c2,J,c3,M,c4,O,c5,U,c6,z,C,rfl,h1,h2,h3,h4,h5,h6,h7,aq⟩:=h
 have au:=AP hr
 have aO:=h7.1
 obtain⟨w1,aQ,ai,an,aS⟩:=Ae w #[.string p.name,.int .i64 p.topo,.slice G p.states.length c1,.slice I p.messages.length c2,.slice J p.values.length c3,.int .i64 p.fault,.slice M p.res.length c4,.slice O p.initial.length c5,.slice U p.leader.length c6,.slice z p.rules.length C] 27
 have ak:=ai.size
 have aE:At w1 w1.heap.size [.string p.name,.int .i64 p.topo,.slice G p.states.length c1,.slice I p.messages.length c2,.slice J p.values.length c3,.int .i64 p.fault,.slice M p.res.length c4,.slice O p.initial.length c5,.slice U p.leader.length c6,.slice z p.rules.length C] p:=At.keep ⟨G,c1,I,c2,J,c3,M,c4,O,c5,U,c6,z,C,rfl,h1,h2,h3,h4,h5,h6,h7,aq⟩ (fun _ y=>ai.cell y) ak
 have ap:=h7.keep (w':=w1) (B':=w1.heap.size) (R':=AW w1 w1.heap.size) (fun _ y=>ai.cell y) (fun _ _ h=>h.keep (fun _ y=>ai.cell y) ak) ak
 obtain⟨b,aj,r',rc,hA,aJ,he,-,aL,hR⟩:=ap.at au
 rw [hr] at he
 have aM:=Option.some.inj he
 subst aM
 have aF:=hide hR
 obtain⟨V,f1,W,f2,Z,f3,E4,f4,E5,f5,E6,f6,E7,f7,E8,f8,rfl,-⟩:=hR
 have aG:AW w1 w1.heap.size [.string r.name,.int .i64 r.kind,.int .i64 r.fr,.int .i64 r.to,.int .i64 r.pf,.int .i64 r.pt,.slice V r.resp.length f1,.slice W r.guards.length f2,.slice Z r.ex.length f3,.slice E4 r.fa.length f4,.int .i64 r.rd,.int .i64 r.wr,.slice E5 r.send.length f5,.int .i64 r.at_,.slice E6 r.left.length f6,.slice E7 r.right.length f7,.slice E8 r.parent.length f8,.int .i64 r.dir] r:=aF.out
 have aN:=run_loadCells_list (P:=Tryz.prog) w1 ⟨b,aj+i*18,none⟩ [.string r.name,.int .i64 r.kind,.int .i64 r.fr,.int .i64 r.to,.int .i64 r.pf,.int .i64 r.pt,.slice V r.resp.length f1,.slice W r.guards.length f2,.slice Z r.ex.length f3,.slice E4 r.fa.length f4,.int .i64 r.rd,.int .i64 r.wr,.slice E5 r.send.length f5,.int .i64 r.at_,.slice E6 r.left.length f6,.slice E7 r.right.length f7,.slice E8 r.parent.length f8,.int .i64 r.dir] (fun j v hv=>by rw [Addr.add_mid]; exact aL j v hv)
 obtain⟨w2,aR,E,aD,aT⟩:=Ae w1 #[.string r.name,.int .i64 r.kind,.int .i64 r.fr,.int .i64 r.to,.int .i64 r.pf,.int .i64 r.pt,.slice V r.resp.length f1,.slice W r.guards.length f2,.slice Z r.ex.length f3,.slice E4 r.fa.length f4,.int .i64 r.rd,.int .i64 r.wr,.slice E5 r.send.length f5,.int .i64 r.at_,.slice E6 r.left.length f6,.slice E7 r.right.length f7,.slice E8 r.parent.length f8,.int .i64 r.dir] 99
 have am:Cp w2 w.heap.size w1.heap.size #[.string p.name,.int .i64 p.topo,.slice G p.states.length c1,.slice I p.messages.length c2,.slice J p.values.length c3,.int .i64 p.fault,.slice M p.res.length c4,.slice O p.initial.length c5,.slice U p.leader.length c6,.slice z p.rules.length C] #[.string r.name,.int .i64 r.kind,.int .i64 r.fr,.int .i64 r.to,.int .i64 r.pf,.int .i64 r.pt,.slice V r.resp.length f1,.slice W r.guards.length f2,.slice Z r.ex.length f3,.slice E4 r.fa.length f4,.int .i64 r.rd,.int .i64 r.wr,.slice E5 r.send.length f5,.int .i64 r.at_,.slice E6 r.left.length f6,.slice E7 r.right.length f7,.slice E8 r.parent.length f8,.int .i64 r.dir] p r:=
  ⟨aE.keep (fun _ y=>E.cell y) E.size,aG.keep (fun _ y=>E.cell y) E.size,an.below E,aD,(hT.below ai).below E⟩
 exact⟨G,c1,I,c2,J,c3,M,c4,O,c5,U,c6,z,C,V,f1,W,f2,Z,f3,E4,f4,E5,f5,E6,f6,E7,f7,E8,f8,b,aj,w1,w2,aO,aq,au,rfl,hA,aQ,an.cell,aN,fun c hc=>by rw [←aR]; exact run_storeCells_new w1 99 c #[.string r.name,.int .i64 r.kind,.int .i64 r.fr,.int .i64 r.to,.int .i64 r.pf,.int .i64 r.pt,.slice V r.resp.length f1,.slice W r.guards.length f2,.slice Z r.ex.length f3,.slice E4 r.fa.length f4,.int .i64 r.rd,.int .i64 r.wr,.slice E5 r.send.length f5,.int .i64 r.at_,.slice E6 r.left.length f6,.slice E7 r.right.length f7,.slice E8 r.parent.length f8,.int .i64 r.dir] (by kernel_rfl) hc (by simp [Value.oneCell']),am,
  (ap.keep (w':=w2) (B':=w2.heap.size) (R':=AW w2 w2.heap.size) (fun _ y=>E.cell y) (fun _ _ h=>h.keep (fun _ y=>E.cell y) E.size) E.size).take i,am.b5.cell 0,am.b5.lt,ai.trans (E.mono ak),by rw [List.length_take]; omega,aJ⟩
end Go.Proofs.YtfcfpoemojjglaaGreatDoor.K
namespace Go.Proofs.YtfcfpoemojjglaaGreatDoor.K
open Go.RowKit
attribute [-go_sem] loadCellsFrom storeCells
structure Am.Small (p:Am):Prop where
 name:p.name.size≤500
 states:p.states.length≤60
 messages:p.messages.length≤60
 values:p.values.length≤60
 res:p.res.length≤60
 initial:p.initial.length≤60
 leader:p.leader.length≤60
 rules:p.rules.length≤30
 rule:∀r∈p.rules,r.Small∧r.name.size≤500
 names:∀s∈Bd p,s.size≤500
theorem _root_.Go.Proofs.YtfcfpoemojjglaaGreatDoor.Sl.takeS {D:Type} {w:World} {B sz:Nat} {enc:D→Nat→Value} {A:Option Addr} {ds:List D} (h:Sl w B sz enc A ds) (n:Nat):Sl w B sz enc A (ds.take n):=
 ⟨Nat.le_trans (List.length_take_le' ..) h.1,fun C=>by
  obtain⟨b,E,e,y,z⟩:=h.2 (by rintro rfl; simp at C)
  refine⟨b,E,e,y,fun i d hd=>z i d ?_⟩
  rw [List.getElem?_take] at hd
  split at hd
  ·exact hd
  ·cases hd⟩
theorem HP {w:World} {base e size n c:Nat} {A:Option Addr} {xs:List Value} (h:w.ownsRow base e size (.slice A n c) n xs):n≤c:=by
 rcases h.2 with⟨e,I⟩ | ⟨g,y,z,e,_,_,J,_⟩
 ·omega
 ·injection e with C E G
  omega
theorem HS {w:World} {base n c:Nat} {A:Option Addr} {L:List ByteArray} (h:w.ownsRow base 9 1 (.slice A n c) n (DV L)) (W:n≤900000):L.length=n∧Sl w w.heap.size 1 BE A L:=by
 have G:L.length=n:=by
  have:=h.1
  simpa [DV] using this
 refine⟨G,by omega,fun I=>?_⟩
 rcases h.2 with⟨_,U⟩ | ⟨g,J,M,e,_,E,_,_,_,_⟩
 ·exact absurd (List.length_eq_zero_iff.1 (by omega)) I
 ·injection e with z O C
  subst z C
  refine⟨g,0,rfl,(Array.getElem?_eq_some_iff.1 E).1,fun k d hd j V=>?_⟩
  have hk:k<L.length:=by
   rcases Nat.lt_or_ge k L.length with y | y
   ·exact y
   ·rw [List.getElem?_eq_none y] at hd; cases hd
  have e0:j=0:=by omega
  subst e0
  have:=h.cellAt k (by omega)
  rw [show 0+k*1+0=k by omega,this]
  simp [DV,hd]
def nmE (L:List ByteArray) (i:Nat):Int:=Ad (!nameOK (L.getD i .empty)||decide (L.getD i .empty∈L.take i)) 2
theorem HN {L:List ByteArray} {k:Nat} (hk:k<L.length) (h:Aj (nmE L) (List.range k)=0) {s:ByteArray} (C:L[k]?=some s) (y:nameOK s=true) (z:s∉L.take k):Aj (nmE L) (List.range (k+1))=0:=by
 have E:(List.range L.length)[k]?=some k:=by rw [List.getElem?_range hk]
 have ht:=CD (nmE L) E (by rw [List.take_range,Nat.min_eq_left (by omega)]; exact h)
 rw [List.take_range,Nat.min_eq_left (by omega)] at ht
 rw [ht]
 simp [nmE,C,y,z,Ad]
theorem Fl {L:List ByteArray} {k:Nat} (hk:k<L.length) (h:Aj (nmE L) (List.range k)=0) {s:ByteArray} (C:L[k]?=some s) (y:nameOK s=false∨s∈L.take k):CU nameOK L=2:=by
 have E:(List.range L.length)[k]?=some k:=by rw [List.getElem?_range hk]
 have z:nmE L k=2:=by
  rcases y with y | y <;> simp [nmE,C,y,Ad]
 have ht:=Ct (nmE L) E (by rw [List.take_range,Nat.min_eq_left (by omega)]; exact h) (by rw [z]; decide)
 rw [z] at ht
 exact ht
theorem J6 {w:World} {cs:List Value} {p:Am} (h:At w w.heap.size cs p) (a4:p.Small) (hT:SpOK w):
  Calls Tryz.prog 168 #[.agg cs.toArray] w (Ret fun v w'=>v=.int .i64 (CU nameOK (Bd p))∧Below w.heap.size w w'):=by
 obtain⟨A1,c1,A2,c2,A3,c3,A4,c4,A5,c5,A6,c6,A7,c7,rfl,h1,U,h3,h4,h5,h6,h7,b1⟩:=h
 have bg:=a4.states
 have bh:=a4.messages
 have bi:=a4.values
 have b6:=hide a4.names
 obtain⟨w1,bl,C,az,b3⟩:=Ae w #[.string p.name,.int .i64 p.topo,.slice A1 p.states.length c1,.slice A2 p.messages.length c2,.slice A3 p.values.length c3,.int .i64 p.fault,.slice A4 p.res.length c4,.slice A5 p.initial.length c5,.slice A6 p.leader.length c6,.slice A7 p.rules.length c7] 27
 have bd:=az.cell
 obtain⟨w2,bm,E,V,b4⟩:=Ae w1 #[.slice A1 p.states.length c1,.slice A2 p.messages.length c2,.slice A3 p.values.length c3] 22
 have b7:=C.size
 have bj:=E.size
 have av:=h1.keep (w':=w2) (B':=w.heap.size) (fun _ I=>(E.cell (by omega)).trans (C.cell I)) (Nat.le_refl _)
 have aw:=U.keep (w':=w2) (B':=w.heap.size) (fun _ I=>(E.cell (by omega)).trans (C.cell I)) (Nat.le_refl _)
 have ay:=h3.keep (w':=w2) (B':=w.heap.size) (fun _ I=>(E.cell (by omega)).trans (C.cell I)) (Nat.le_refl _)
 have aA:LL w2 w.heap.size w1.heap.size 0 (fun k=>[A1,A2,A3].getD k none) (fun k=>[c1,c2,c3].getD k 0) [p.states,p.messages,p.values]:=by
  intro k l z
  match k,z with
  | 0,z=>obtain rfl:=Option.some.inj z; exact⟨V.cell 0,av⟩
  | 1,z=>obtain rfl:=Option.some.inj z; exact⟨V.cell 1,aw⟩
  | 2,z=>obtain rfl:=Option.some.inj z; exact⟨V.cell 2,ay⟩
  | k+3,z=>simp at z
 have al:([p.states,p.messages,p.values]:List (List ByteArray)).flatten=Bd p:=by simp [Bd]
 have bf:(Bd p).length≤180:=by simp only [Bd,List.length_append]; omega
 have ak:=M4 (c:=3) aA V.lt (by omega) (by rw [al]; omega) (by simp) (by simp)
 rw [al] at ak
 have b2:=hide ak
 have aD:=hide (C.trans (E.mono b7))
 have aZ:=hide ((hT.below C).below E)
 have b5:=hide (show CU nameOK (Bd p)=Aj (nmE (Bd p)) (List.range (Bd p).length) from rfl)
 clear ak aA av aw ay al C E az b3 b4 V h1 U h3 h4 h5 h6 h7 a4 hT b1
 generalize Bd p=L at*
 go_enter Tryz.func168,Tryz.ntmps168
 go_wp2_with (go_at_call 203; refine Calls.ret b2.out ?_; rintro v w3 ⟨aa,aj⟩; obtain⟨Av,cv,hv⟩:=AH aa; subst hv; have aB:=hide (HS aa (by omega)).2; have be:=HP aa; have J:=hide (aD.out.trans (aj.mono aD.out.size)); have aY:=hide (aZ.out.below aj); clear aa aj)
 go_loopw [16] (fun ii wr=>∃(k:Nat),ii=.int .i64 (k:Int)∧k≤L.length∧Hid (Aj (nmE L) (List.range k)=0)∧Hid (Below w3.heap.size w3 wr)) (fun ii _=>L.length - (intOf ii).toNat)
 case atStart=>exact⟨0,rfl,Nat.zero_le _,by show _=_; rfl,Below.refl _ _⟩
 case round=>
  obtain⟨k,rfl,hk,W,Z⟩:=hrel
  by_cases a8:k<L.length
  ·obtain⟨b,aJ,s,hA,b0,ao,hc⟩:=aB.out.at a8
   have d0:=hc 0 (by omega)
   simp only [Nat.add_zero,Nat.mul_one,BE] at d0
   have d1:=(Z.out.cell (p:=⟨b,aJ+k,none⟩) b0).trans d0
   have bk:=b6.out s (List.mem_of_getElem? ao)
   have ap:=hide ao
   subst hA
   clear hc d0 ao
   have a7:∀y,Below wr.heap.size wr y→Hid (Below w3.heap.size w3 y):=fun y hx=>hide (Z.out.trans (hx.mono Z.out.size))
   have ai:=hide (aY.out.below Z.out)
   cases a9:nameOK s with
   | false=>
    have O:=hide a9
    clear a9
    go_wp2_with (go_at_call 118; refine Calls.ret (Da s _ (by omega) ai.out) ?_; rintro v y ⟨rfl,G⟩; rw [O.out])
    go_ret
    refine⟨?_,J.out.trans ((a7 _ G).out.mono J.out.size)⟩
    rw [Fl a8 W.out ap.out (.inl O.out)]
    rfl
   | true=>
    have O:=hide a9
    clear a9
    have aH:(L.take k).length=k:=by rw [List.length_take]; omega
    have b8:=hide aH
    clear aH
    have aF:∀y,Below wr.heap.size wr y→Hid (Calls Tryz.prog 204 #[.slice (some ⟨b,aJ,none⟩) k cv,.string s] y fun r w'=>r=.returned (.bool (decide (s∈L.take k)))∧y=w'):=by
     intro y hx
     have h1:=(aB.out.keep (w':=y) (B':=w3.heap.size) (fun _ I=>(a7 y hx).out.cell I) (Nat.le_refl _)).takeS k
     have U:=Je (c:=cv) (x:=s) h1
     rw [b8.out] at U
     exact U
    have aG:=hide aF
    clear aF
    by_cases M:s∈L.take k
    ·have an:=hide M
     have a3:decide (s∈L.take k)=true:=decide_eq_true M
     have am:=hide a3
     clear M a3
     go_wp2_with (first
      | (go_at_call 118; refine Calls.ret (Da s _ (by omega) ai.out) ?_; rintro v y ⟨rfl,G⟩; rw [O.out]; have a2:=hide G; clear G)
      | (go_at_call 204; refine(aG.out _ a2.out).out.mono ?_; rintro r w' ⟨rfl,rfl⟩; rw [am.out]))
     go_ret
     refine⟨?_,J.out.trans ((a7 _ a2.out).out.mono J.out.size)⟩
     rw [Fl a8 W.out ap.out (.inr an.out)]
     rfl
    ·have an:=hide M
     have a3:decide (s∈L.take k)=false:=decide_eq_false M
     have am:=hide a3
     clear M a3
     go_wp2_with (first
      | (go_at_call 118; refine Calls.ret (Da s _ (by omega) ai.out) ?_; rintro v y ⟨rfl,G⟩; rw [O.out]; have a2:=hide G; clear G)
      | (go_at_call 204; refine(aG.out _ a2.out).out.mono ?_; rintro r w' ⟨rfl,rfl⟩; rw [am.out]))
     exact⟨⟨k+1,by go_num,by omega,HN a8 W.out ap.out O.out an.out,a7 _ a2.out⟩,by simp [intOf]; omega⟩
  ·have e:k=L.length:=by omega
   have ah:=W.out
   rw [e,←b5.out] at ah
   have aX:=hide ah
   clear ah e W
   go_wp2_with fail
   go_ret
   exact⟨by rw [aX.out]; rfl,J.out.trans (Z.out.mono J.out.size)⟩
end Go.Proofs.YtfcfpoemojjglaaGreatDoor.K
namespace Go.Proofs.YtfcfpoemojjglaaGreatDoor.K
open Go.RowKit
attribute [-go_sem] loadCellsFrom storeCells
theorem At.rules_at {w:World} {B:Nat} {cs:List Value} {p:Am} (h:At w B cs p):cs.toArray.size=10∧∃A c,cs.toArray[9]?=some (.slice A p.rules.length c)∧BR w B 18 (AW w B) A p.rules∧p.rules.length≤c:=by
 obtain⟨G,c1,I,c2,J,V,M,W,O,Z,U,c6,y,z,rfl,h1,h2,h3,h4,h5,h6,C,E⟩:=h
 exact⟨rfl,y,z,rfl,C,E⟩
structure Fc (w:World) (B:Nat) (rc:Array Value) (r:Az):Prop where
 size:rc.size=18
 one:rc.all (·.oneCell')=true
 is:AW w B rc.toList r
theorem AW.c {w:World} {B:Nat} {cs:List Value} {r:Az} (h:AW w B cs r):Fc w B cs.toArray r:=by
 refine⟨?_,?_,by simpa using h⟩ <;> obtain⟨y,c1,z,c2,C,O,E,U,G,V,I,W,J,Z,M,c8,rfl,_⟩:=h
 ·rfl
 ·simp [Value.oneCell']
theorem Fc.guards {w:World} {B:Nat} {rc:Array Value} {r:Az} (h:Fc w B rc r):∃A c,rc[7]?=some (.slice A r.guards.length c)∧Sl w B 6 CS A r.guards:=by
 obtain⟨C,c1,y,c2,E,U,G,V,I,W,J,Z,M,c7,O,c8,e,h1,z,h3,h4,h5,h6,h7,h8⟩:=h.is
 refine⟨y,c2,?_,z⟩
 rw [←Array.getElem?_toList,e]
 rfl
theorem Du {w:World} {B:Nat} {A:Option Addr} {l:List Az} (h:BR w B 18 (AW w B) A l) {i:Nat} {r:Az} (G:l[i]?=some r):
  ∃b y rc,A=some ⟨b,y,none⟩∧b<B∧Fc w B rc r∧(∀j v,rc[j]?=some v→w.cell? ⟨b,y+i*18+j,none⟩=some v)∧((loadCellsFrom ⟨b,y+i*18,none⟩ 0 18 #[]).run Tryz.prog w=.ok rc w):=by
 obtain⟨b,y,Z,rc,I,M,E,W,C,J⟩:=h.at (AP G)
 rw [G] at E
 have V:=Option.some.inj E
 subst V
 have O:=J.c
 have U:∀j v,rc.toArray[j]?=some v→w.cell? ⟨b,y+i*18+j,none⟩=some v:=fun j v z=>C j v (by simpa using z)
 refine⟨b,y,rc.toArray,I,M,O,U,?_⟩
 have:=run_loadCells_list (P:=Tryz.prog) w ⟨b,y+i*18,none⟩ rc (fun j v z=>by rw [Addr.add_mid]; exact C j v z)
 rw [W] at this
 simpa [loadCells] using this
theorem Dv (w:World) (t n:Nat) (C:(Tryz.prog.info? t).map (·.size)=some n) {rc:Array Value} (h:rc.size=n) (y:rc.all (·.oneCell')=true):
  ∀c:Array Value,c.size=n→(storeCells ⟨w.heap.size,0,none⟩ rc.toList 0).run Tryz.prog (w.alloc (.cells c t))=.ok () (w.alloc (.cells rc t)):=fun c z=>
 run_storeCells_new w t c rc (by rw [C,h]) (by rw [z,h]) y
theorem EQ {w w':World} {base e size n:Nat} {v:Value} {xs:List Value} (h:w.ownsRow base e size v n xs) (y:Below w.heap.size w w'):w'.ownsRow base e size v n xs:=(Ac.of_below y fun _=>False).ownsRow h (fun _ _=>id)
theorem Kc {w:World} {base base' e size n:Nat} {v:Value} {xs:List Value} (h:w.ownsRow base e size v n xs) (I:base'≤base):w.ownsRow base' e size v n xs:=by
 refine⟨h.1,?_⟩
 rcases h.2 with C | ⟨g,y,z,e,G,E⟩
 ·exact .inl C
 ·exact .inr ⟨g,y,z,e,by omega,E⟩
theorem Qh:(Tryz.prog.info? 217).map (fun i=>(i.zero,i.size,i.bytes))=some (some (DG ⟨0,0,⟨0,0,0,0⟩⟩),6,48):=by kernel_rfl
theorem KR:Dd Tryz.prog 97 217 6:=EX Tryz.underlying97 Qh rfl (by omega) (by omega)
def C4 (g:Thr):List Value:=[.int .i64 g.msg,.int .i64 g.coef,.int .i64 g.bound.c,.int .i64 g.bound.n,.int .i64 g.bound.t,.int .i64 g.bound.f]
def CM (L:List Thr):List Value:=L.flatMap C4
theorem TJ (L:List Thr):(CM L).length=L.length*6:=by
 induction L with
 | nil=>rfl
 | cons x L ih=>
  have:CM (x::L)=C4 x++CM L:=rfl
  rw [this,List.length_append,ih,List.length_cons]
  show 6+_=_
  omega
theorem Lx (L:List Thr) (g:Thr):CM (L++[g])=CM L++C4 g:=by simp [CM]
theorem Ly:∀(L:List Thr) (k:Nat) (d:Thr),L[k]?=some d→∀j,j<6→(CM L)[k*6+j]?=some (CS d j)
 | [],k,d,h,_,_=>by simp at h
 | x::L,0,d,h,j,hj=>by
  obtain rfl:x=d:=by simpa using h
  have:CM (x::L)=C4 x++CM L:=rfl
  rw [this,Nat.zero_mul,Nat.zero_add,List.getElem?_append_left (by show j<6; exact hj)]
  match j,hj with
  | 0,_=>rfl
  | 1,_=>rfl
  | 2,_=>rfl
  | 3,_=>rfl
  | 4,_=>rfl
  | 5,_=>rfl
 | x::L,k+1,d,h,j,hj=>by
  have:CM (x::L)=C4 x++CM L:=rfl
  rw [this,List.getElem?_append_right (by show 6≤_; omega),show(k+1)*6+j - (C4 x).length=k*6+j from by show(k+1)*6+j - 6=_; omega]
  exact Ly L k d (by simpa using h) j hj
theorem Kh {w:World} {base n c:Nat} {A:Option Addr} {L:List Thr} (h:w.ownsRow base 217 6 (.slice A n c) n (CM L)) (V:n≤900000):L.length=n∧Sl w w.heap.size 6 CS A L:=by
 have G:L.length=n:=by
  have:=h.1
  rw [TJ] at this
  omega
 refine⟨G,by omega,fun I=>?_⟩
 rcases h.2 with⟨_,U⟩ | ⟨g,J,M,e,_,C,_,_,_,_⟩
 ·exact absurd (List.length_eq_zero_iff.1 (by omega)) I
 ·injection e with y O z
  subst y z
  refine⟨g,0,rfl,(Array.getElem?_eq_some_iff.1 C).1,fun k d hd j E=>?_⟩
  have hk:=AP hd
  rw [show 0+k*6+j=k*6+j by omega,h.cellAt (k*6+j) (by omega)]
  exact Ly L k d hd j E
theorem L5 (s:List Thr) (g:Thr):(Bx s g).length≤s.length+1:=by
 unfold Bx
 split <;> simp
theorem Jz:∀(l s:List Thr),(l.foldl Bx s).length≤s.length+l.length
 | [],s=>by simp
 | g::l,s=>by
  have h:=Jz l (Bx s g)
  have y:=L5 s g
  simp only [List.foldl_cons,List.length_cons]
  omega
theorem JB {l:List Thr} {k:Nat} {g:Thr} (h:l[k]?=some g) (s:List Thr):(l.take (k+1)).foldl Bx s=Bx ((l.take k).foldl Bx s) g:=by
 rw [show l.take (k+1)=l.take k++[g] by rw [List.take_add_one,h]; rfl,List.foldl_append]
 rfl
theorem LA {l:List Az} {i:Nat} {r:Az} (h:l[i]?=some r):BO (l.take (i+1))=r.guards.foldl Bx (BO (l.take i)):=by
 unfold BO
 rw [show l.take (i+1)=l.take i++[r] by rw [List.take_add_one,h]; rfl,List.flatMap_append,List.foldl_append]
 simp
theorem Jw:∀(l:List Az),(∀r∈l,r.guards.length≤60)→(l.flatMap Az.guards).length≤60*l.length
 | [],_=>by simp
 | r::l,h=>by
  have z:=Jw l (fun x y=>h x (by simp [y]))
  have C:=h r (by simp)
  rw [List.flatMap_cons,List.length_append,List.length_cons]
  omega
theorem FB (l:List Az) (h:∀r∈l,r.guards.length≤60):(BO l).length≤60*l.length:=by
 have y:=Jz (l.flatMap Az.guards) []
 have z:=Jw l h
 unfold BO
 rw [List.length_nil] at y
 omega
theorem Lz {w:World} {cs:List Value} {p:Am} (h:At w w.heap.size cs p) (ai:p.Small):
  Calls Tryz.prog 171 #[.agg cs.toArray] w (Ret fun v w'=>w'.ownsRow w.heap.size 217 6 v (BO p.rules).length (CM (BO p.rules))∧Below w.heap.size w w'):=by
 have aw:=hide (show ∀r∈p.rules,r.guards.length≤60 from fun r G=>(ai.rule r G).1.2.1)
 have bz:=ai.rules
 obtain⟨bx,A7,c7,az,aA,bl⟩:=h.rules_at
 generalize b5:cs.toArray=pc at*
 clear b5 h
 generalize b6:p.rules=rs at*
 clear b6 ai
 obtain⟨w1,bD,Z,ab,aU⟩:=Ae w pc 27
 have aa:=Z.size
 have bk:w1.cell? ⟨w.heap.size,9,none⟩=some (.slice A7 rs.length c7):=by rw [ab.cell,az]
 have aO:=hide (aA.keep (w':=w1) (B':=w1.heap.size) (R':=AW w1 w1.heap.size) (fun _ z=>Z.cell z) (fun _ _ h=>h.keep (fun _ z=>Z.cell z) aa) aa)
 have aR:=hide Z
 have bu:=ab.lt
 clear aA Z aU ab az
 go_enter Tryz.func171,Tryz.ntmps171
 go_wp2_with fail
 go_loopw [3,11] (fun vv ii wr=>∃(i n:Nat),ii=.int .i64 (i:Int)∧i≤rs.length∧Hid (wr.ownsRow w1.heap.size 217 6 vv n (CM (BO (rs.take i))))∧Hid (n=(BO (rs.take i)).length)∧Hid (Below w1.heap.size w1 wr)) (fun _ ii _=>rs.length - (intOf ii).toNat)
 case atStart=>exact⟨0,0,rfl,Nat.zero_le _,World.ownsRow_nil _ _ _ _,by show _=_; rfl,Below.refl _ _⟩
 case round=>
  obtain⟨i,n,rfl,hi,C,hn,O⟩:=hrel
  by_cases aX:i<rs.length
  ·obtain⟨r,G⟩:∃r,rs[i]?=some r:=⟨_,List.getElem?_eq_getElem aX⟩
   obtain⟨b,bE,rc,hA,bh,U,aT,bs⟩:=Du (aO.out.keep (w':=wr) (B':=w1.heap.size) (R':=AW wr w1.heap.size) (fun _ z=>O.out.cell z) (fun _ _ h=>h.keep (fun _ z=>O.out.cell z) (Nat.le_refl _)) (Nat.le_refl _)) G
   obtain⟨w2,b9,ae,an,aV⟩:=Ae wr rc 99
   have b7:=Dv wr 99 18 (by kernel_rfl) U.size U.one
   rw [b9] at b7
   obtain⟨Eg,fg,au,aq⟩:=U.guards
   have bA:=hide G
   have bf:=hide U
   have bj:w2.cell? ⟨wr.heap.size,7,none⟩=some (.slice Eg r.guards.length fg):=by rw [an.cell,au]
   have bn:=aw.out r (List.mem_of_getElem? G)
   have E:=hide (EQ C.out ae)
   have bB:=U.size
   have aP:=hide (aq.keep (w':=w1) (B':=w1.heap.size) (fun _ z=>(O.out.cell z).symm) (Nat.le_refl _))
   have ao:=hide (O.out.trans (ae.mono O.out.size))
   have b8:=hide (LA G)
   have b3:=hide (FB (rs.take i) (fun r G=>aw.out r (List.mem_of_mem_take G)))
   have bw:n≤1800:=by
    have h1:=b3.out
    rw [hn.out]
    rw [List.length_take] at h1
    omega
   subst hA
   clear aT U aV an G au C aq ae
   go_wp2_with fail
   go_loopw [3,18] (fun vv jj wr=>∃(j n:Nat),jj=.int .i64 (j:Int)∧j≤r.guards.length∧n≤1800+j∧Hid (wr.ownsRow w1.heap.size 217 6 vv n (CM ((r.guards.take j).foldl Bx (BO (rs.take i)))))∧Hid (n=((r.guards.take j).foldl Bx (BO (rs.take i))).length)∧Hid (Below w1.heap.size w1 wr)) (fun _ jj _=>r.guards.length - (intOf jj).toNat)
   case atStart=>exact⟨0,n,rfl,Nat.zero_le _,by omega,by show World.ownsRow _ _ _ _ _ _ _; simpa using E.out,by show _=_; simpa using hn.out,ao.out⟩
   case round=>
    obtain⟨j,m,rfl,hj,hm,C,a3,a5⟩:=hrel
    by_cases aZ:j<r.guards.length
    ·obtain⟨b2,aB,g,aL,bi,hg,av⟩:=(aP.out.keep (w':=wr) (B':=w1.heap.size) (fun _ z=>a5.out.cell z) (Nat.le_refl _)).at aZ
     have bt:(loadCellsFrom ⟨b2,aB+j*6,none⟩ 0 6 #[]).run Tryz.prog wr=.ok #[.int .i64 g.msg,.int .i64 g.coef,.int .i64 g.bound.c,.int .i64 g.bound.n,.int .i64 g.bound.t,.int .i64 g.bound.f] wr:=by
      have:=run_loadCells_list (P:=Tryz.prog) wr ⟨b2,aB+j*6,none⟩ (C4 g) (fun k v y=>by
       rw [Addr.add_mid]
       have hk:=AP y
       rw [av k hk]
       match k,hk,y with
       | 0,_,y=>exact congrArg some (Option.some.inj y)
       | 1,_,y=>exact congrArg some (Option.some.inj y)
       | 2,_,y=>exact congrArg some (Option.some.inj y)
       | 3,_,y=>exact congrArg some (Option.some.inj y)
       | 4,_,y=>exact congrArg some (Option.some.inj y)
       | 5,_,y=>exact congrArg some (Option.some.inj y))
      simpa [loadCells,C4] using this
     have a7:=hide (JB hg (BO (rs.take i)))
     have aQ:=hide (show DG g=.agg #[.int .i64 g.msg,.int .i64 g.coef,.int .i64 g.bound.c,.int .i64 g.bound.n,.int .i64 g.bound.t,.int .i64 g.bound.f] from rfl)
     obtain⟨w3,ba,af,ad,aW⟩:=Ae wr #[.int .i64 g.msg,.int .i64 g.coef,.int .i64 g.bound.c,.int .i64 g.bound.n,.int .i64 g.bound.t,.int .i64 g.bound.f] 217
     have bC:∀c:Array Value,c.size=6→(storeCells ⟨wr.heap.size,0,none⟩ [.int .i64 g.msg,.int .i64 g.coef,.int .i64 g.bound.c,.int .i64 g.bound.n,.int .i64 g.bound.t,.int .i64 g.bound.f] 0).run Tryz.prog (wr.alloc (.cells c 217))=.ok () w3:=fun c hc=>by rw [←ba]; exact Dv wr 217 6 (by kernel_rfl) (rc:=#[.int .i64 g.msg,.int .i64 g.coef,.int .i64 g.bound.c,.int .i64 g.bound.n,.int .i64 g.bound.t,.int .i64 g.bound.f]) rfl (by simp [Value.oneCell']) c hc
     have bq:(loadCellsFrom ⟨wr.heap.size,0,none⟩ 0 6 #[]).run Tryz.prog w3=.ok #[.int .i64 g.msg,.int .i64 g.coef,.int .i64 g.bound.c,.int .i64 g.bound.n,.int .i64 g.bound.t,.int .i64 g.bound.f] w3:=Ah ad rfl
     have J:=EQ C.out af
     obtain⟨Av,cv,y⟩:=AH C.out
     subst y
     have ar:=(Kh J (by omega)).2
     have ay:((r.guards.take j).foldl Bx (BO (rs.take i))).length=m:=a3.out.symm
     have ag:=hide (M8 (c:=cv) (x:=g) ar (Nat.le_refl _))
     rw [ay,aQ.out] at ag
     have a4:=hide (a5.out.trans (af.mono a5.out.size))
     have bm:=hide hg
     have aM:=hide ad
     have ap:=hide J
     subst aL
     clear av aW ad af hg ar ay C J
     generalize ((r.guards.take j).foldl Bx (BO (rs.take i)))=L at*
     cases a8:decide (g∈L)
     ·have a2:=hide a8
      clear a8
      have W:=hide (show Bx L g=L++[g] from if_neg (of_decide_eq_false a2.out))
      go_wp2_with (first
       | (go_at_call 213; refine Calls.ret ag.out ?_; rintro v w4 ⟨rfl,I⟩; rw [a2.out]; have br:=Ah (n:=6) (aM.out.below I) rfl; have a6:=hide (EQ ap.out I); have V:=hide (a4.out.trans (I.mono a4.out.size)); clear I)
       | (at_builtin; refine BP KR rfl _ _ rfl w1.heap.size _ m _ rfl a6.out (C4 g) _ rfl rfl (by simp [C4,Value.oneCell']) (by omega) (by have:=V.out.size; have:=ao.out.size; omega) ?_; intro g5 be w5 b4 ax b0 aY))
      have aN:=hide (V.out.trans (ax.below V.out.size fun b' bg e=>by have:=(a6.out.lt b' e).1; omega))
      clear ax b0 aY
      exact⟨⟨j+1,m+1,by go_num,by omega,by omega,by show World.ownsRow _ _ _ _ _ _ _; rw [a7.out,W.out,Lx]; exact b4,by show _=_; rw [a7.out,W.out,List.length_append,a3.out]; rfl,aN.out⟩,by simp [intOf]; omega⟩
     ·have a2:=hide a8
      clear a8
      have W:=hide (show Bx L g=L from if_pos (of_decide_eq_true a2.out))
      go_wp2_with (go_at_call 213; refine Calls.ret ag.out ?_; rintro v w4 ⟨rfl,I⟩; rw [a2.out]; have a6:=hide (EQ ap.out I); have V:=hide (a4.out.trans (I.mono a4.out.size)); clear I)
      exact⟨⟨j+1,m,by go_num,by omega,by omega,by show World.ownsRow _ _ _ _ _ _ _; rw [a7.out,W.out]; exact a6.out,by show _=_; rw [a7.out,W.out,a3.out],V.out⟩,by simp [intOf]; omega⟩
    ·have e:j=r.guards.length:=by omega
     have E:=C.out
     have M:=a3.out
     rw [e,List.take_length,←b8.out] at E M
     have J:=hide E
     have b1:=hide M
     clear E M e C a3
     go_wp2_with fail
     exact⟨⟨i+1,m,by go_num,by omega,J.out,b1.out,a5.out⟩,by simp [intOf]; omega⟩
  ·have e:i=rs.length:=by omega
   have E:=C.out
   have M:=hn.out
   rw [e,List.take_length] at E M
   rw [M] at E
   have J:=hide (Kc E aa)
   clear E M e C hn
   go_wp2_with fail
   go_ret
   exact⟨J.out,aR.out.trans (O.out.mono aa)⟩
end Go.Proofs.YtfcfpoemojjglaaGreatDoor.K
