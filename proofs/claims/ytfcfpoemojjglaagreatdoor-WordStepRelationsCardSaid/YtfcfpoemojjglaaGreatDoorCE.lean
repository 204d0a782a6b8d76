/-
  Part CE of a proof.
-/
import Derived.Deep.MidRow
import Derived.Deep.WholeRow
import Derived.Test.YtfcfpoemojjglaaGreatDoorPA
import Derived.Test.YtfcfpoemojjglaaGreatDoorCB
import Derived.Test.YtfcfpoemojjglaaGreatDoorCC
import Derived.Test.YtfcfpoemojjglaaGreatDoorCD
set_option maxHeartbeats 16000000
set_option maxRecDepth 100000
set_option linter.unusedVariables false
set_option linter.unusedSimpArgs false
namespace Go.Proofs.YtfcfpoemojjglaaGreatDoor.K
open Go.RowKit
attribute [-go_sem] loadCellsFrom storeCells
structure Cp (w:World) (g2 g5:Nat) (pc rc:Array Value) (p:Am) (r:Az):Prop where
 pr:At w w.heap.size pc.toList p
 ru:AW w w.heap.size rc.toList r
 b2:Blk w g2 27 pc
 b5:Blk w g5 99 rc
 tab:A0 w
theorem Cp.at {w w':World} {g2 g5:Nat} {C rc:Array Value} {p:Am} {r:Az} (h:Cp w g2 g5 C rc p r) (y:Below w.heap.size w w'):Cp w' g2 g5 C rc p r:=
 ⟨h.pr.keep (fun _ z=>y.cell z) y.size,h.ru.keep (fun _ z=>y.cell z) y.size,h.b2.below y,h.b5.below y,h.tab.below y⟩
theorem Ah {w:World} {g n:Nat} {t:TypeId} {cs:Array Value} (h:Blk w g t cs) (y:cs.size=n):(loadCellsFrom ⟨g,0,none⟩ 0 n #[]).run Tryz.prog w=.ok cs w:=by
 have:=run_loadCells_list (P:=Tryz.prog) w ⟨g,0,none⟩ cs.toList (fun j v z=>by
  rw [Addr.add_mid,Nat.zero_add,h.cell]
  simpa using z)
 subst y
 simpa [loadCells] using this
theorem Cp.load2 {w:World} {g2 g5:Nat} {y rc:Array Value} {p:Am} {r:Az} (h:Cp w g2 g5 y rc p r) (z:y.size=10):(loadCellsFrom ⟨g2,0,none⟩ 0 10 #[]).run Tryz.prog w=.ok y w:=Ah h.b2 z
theorem Cp.load5 {w:World} {g2 g5:Nat} {z rc:Array Value} {p:Am} {r:Az} (h:Cp w g2 g5 z rc p r) (y:rc.size=18):(loadCellsFrom ⟨g5,0,none⟩ 0 18 #[]).run Tryz.prog w=.ok rc w:=Ah h.b5 y
theorem Ev {w:World} {B:Nat} {r:Az} {y z C E F G I J:Option Addr} {M O U V W Z f7 f8:Nat} (h:AW w B [.string r.name,.int .i64 r.kind,.int .i64 r.fr,.int .i64 r.to,.int .i64 r.pf,.int .i64 r.pt,.slice y r.resp.length M,.slice z r.guards.length O,.slice C r.ex.length U,.slice E r.fa.length V,.int .i64 r.rd,.int .i64 r.wr,.slice F r.send.length W,.int .i64 r.at_,.slice G r.left.length Z,.slice I r.right.length f7,.slice J r.parent.length f8,.int .i64 r.dir] r):
  Sl w B 1 Ai y r.resp∧Sl w B 6 CS z r.guards∧Sl w B 1 Ai C r.ex∧Sl w B 1 Ai E r.fa∧Sl w B 1 Ai F r.send∧Sl w B 1 Ai G r.left∧Sl w B 1 Ai I r.right∧Sl w B 1 Ai J r.parent:=by
 obtain⟨A1,c1,A2,c2,A3,c3,A4,c4,A5,c5,A6,c6,A7,c7,A8,c8,e,h1,h2,h3,h4,h5,h6,h7,h8⟩:=h
 simp only [List.cons.injEq,Value.slice.injEq,true_and,and_true] at e
 obtain⟨⟨rfl,rfl⟩,⟨rfl,rfl⟩,⟨rfl,rfl⟩,⟨rfl,rfl⟩,⟨rfl,rfl⟩,⟨rfl,rfl⟩,⟨rfl,rfl⟩,⟨rfl,rfl⟩⟩:=e
 exact⟨h1,h2,h3,h4,h5,h6,h7,h8⟩
theorem RJ {w:World} {cs:List Value} {p:Am} {r:Az} {i:Nat} (h:At w w.heap.size cs p) (hr:p.rules[i]?=some r) (hT:A0 w):
  ∃F c1 G c2 I c3 J c4 M c5 O c6 z C U f1 V f2 W f3 Z f4 E5 f5 E6 f6 E7 f7 E8 f8 b ak w1 w2,p.rules.length≤9223372036854775807∧p.rules.length≤C∧i<p.rules.length∧cs=[.string p.name,.int .i64 p.topo,.slice F p.states.length c1,.slice G p.messages.length c2,.slice I p.values.length c3,.int .i64 p.fault,.slice J p.res.length c4,.slice M p.initial.length c5,.slice O p.leader.length c6,.slice z p.rules.length C]∧z=some ⟨b,ak,none⟩∧w.alloc (.cells #[.string p.name,.int .i64 p.topo,.slice F p.states.length c1,.slice G p.messages.length c2,.slice I p.values.length c3,.int .i64 p.fault,.slice J p.res.length c4,.slice M p.initial.length c5,.slice O p.leader.length c6,.slice z p.rules.length C] 27)=w1∧
   (∀j,w1.cell? ⟨w.heap.size,j,none⟩=#[.string p.name,.int .i64 p.topo,.slice F p.states.length c1,.slice G p.messages.length c2,.slice I p.values.length c3,.int .i64 p.fault,.slice J p.res.length c4,.slice M p.initial.length c5,.slice O p.leader.length c6,.slice z p.rules.length C][j]?)∧
   (loadCellsFrom ⟨b,ak+i*18,none⟩ 0 18 #[]).run Tryz.prog w1=.ok #[.string r.name,.int .i64 r.kind,.int .i64 r.fr,.int .i64 r.to,.int .i64 r.pf,.int .i64 r.pt,.slice U r.resp.length f1,.slice V r.guards.length f2,.slice W r.ex.length f3,.slice Z r.fa.length f4,.int .i64 r.rd,.int .i64 r.wr,.slice E5 r.send.length f5,.int .i64 r.at_,.slice E6 r.left.length f6,.slice E7 r.right.length f7,.slice E8 r.parent.length f8,.int .i64 r.dir] w1∧
   (∀c:Array Value,c.size=18→(storeCells ⟨w1.heap.size,0,none⟩ [.string r.name,.int .i64 r.kind,.int .i64 r.fr,.int .i64 r.to,.int .i64 r.pf,.int .i64 r.pt,.slice U r.resp.length f1,.slice V r.guards.length f2,.slice W r.ex.length f3,.slice Z r.fa.length f4,.int .i64 r.rd,.int .i64 r.wr,.slice E5 r.send.length f5,.int .i64 r.at_,.slice E6 r.left.length f6,.slice E7 r.right.length f7,.slice E8 r.parent.length f8,.int .i64 r.dir] 0).run Tryz.prog (w1.alloc (.cells c 99))=.ok () w2)∧
   Cp w2 w.heap.size w1.heap.size #[.string p.name,.int .i64 p.topo,.slice F p.states.length c1,.slice G p.messages.length c2,.slice I p.values.length c3,.int .i64 p.fault,.slice J p.res.length c4,.slice M p.initial.length c5,.slice O p.leader.length c6,.slice z p.rules.length C] #[.string r.name,.int .i64 r.kind,.int .i64 r.fr,.int .i64 r.to,.int .i64 r.pf,.int .i64 r.pt,.slice U r.resp.length f1,.slice V r.guards.length f2,.slice W r.ex.length f3,.slice Z r.fa.length f4,.int .i64 r.rd,.int .i64 r.wr,.slice E5 r.send.length f5,.int .i64 r.at_,.slice E6 r.left.length f6,.slice E7 r.right.length f7,.slice E8 r.parent.length f8,.int .i64 r.dir] p r∧
   BR w2 w2.heap.size 18 (AW w2 w2.heap.size) z (p.rules.take i)∧w2.cell? ⟨w1.heap.size,0,none⟩=some (.string r.name)∧w1.heap.size<w2.heap.size∧Below w.heap.size w w2∧(p.rules.take i).length=i∧b<w1.heap.size:=by
 obtain⟨F,c1,G,c2,I,c3,J,c4,M,c5,O,c6,z,C,rfl,h1,h2,h3,h4,h5,h6,h7,ar⟩:=h
 have av:=AP hr
 have aO:=h7.1
 obtain⟨w1,aQ,aj,ao,aS⟩:=Ae w #[.string p.name,.int .i64 p.topo,.slice F p.states.length c1,.slice G p.messages.length c2,.slice I p.values.length c3,.int .i64 p.fault,.slice J p.res.length c4,.slice M p.initial.length c5,.slice O p.leader.length c6,.slice z p.rules.length C] 27
 have al:=aj.size
 have aE:At w1 w1.heap.size [.string p.name,.int .i64 p.topo,.slice F p.states.length c1,.slice G p.messages.length c2,.slice I p.values.length c3,.int .i64 p.fault,.slice J p.res.length c4,.slice M p.initial.length c5,.slice O p.leader.length c6,.slice z p.rules.length C] p:=At.keep ⟨F,c1,G,c2,I,c3,J,c4,M,c5,O,c6,z,C,rfl,h1,h2,h3,h4,h5,h6,h7,ar⟩ (fun _ y=>aj.cell y) al
 have aq:=h7.keep (w':=w1) (B':=w1.heap.size) (R':=AW w1 w1.heap.size) (fun _ y=>aj.cell y) (fun _ _ h=>h.keep (fun _ y=>aj.cell y) al) al
 obtain⟨b,ak,r',rc,hA,aJ,he,-,aL,hR⟩:=aq.at av
 rw [hr] at he
 have aM:=Option.some.inj he
 subst aM
 have aF:=hide hR
 obtain⟨U,f1,V,f2,W,f3,Z,f4,E5,f5,E6,f6,E7,f7,E8,f8,rfl,-⟩:=hR
 have aG:AW w1 w1.heap.size [.string r.name,.int .i64 r.kind,.int .i64 r.fr,.int .i64 r.to,.int .i64 r.pf,.int .i64 r.pt,.slice U r.resp.length f1,.slice V r.guards.length f2,.slice W r.ex.length f3,.slice Z r.fa.length f4,.int .i64 r.rd,.int .i64 r.wr,.slice E5 r.send.length f5,.int .i64 r.at_,.slice E6 r.left.length f6,.slice E7 r.right.length f7,.slice E8 r.parent.length f8,.int .i64 r.dir] r:=aF.out
 have aN:=run_loadCells_list (P:=Tryz.prog) w1 ⟨b,ak+i*18,none⟩ [.string r.name,.int .i64 r.kind,.int .i64 r.fr,.int .i64 r.to,.int .i64 r.pf,.int .i64 r.pt,.slice U r.resp.length f1,.slice V r.guards.length f2,.slice W r.ex.length f3,.slice Z r.fa.length f4,.int .i64 r.rd,.int .i64 r.wr,.slice E5 r.send.length f5,.int .i64 r.at_,.slice E6 r.left.length f6,.slice E7 r.right.length f7,.slice E8 r.parent.length f8,.int .i64 r.dir] (fun j v hv=>by rw [Addr.add_mid]; exact aL j v hv)
 obtain⟨w2,aR,E,aD,aT⟩:=Ae w1 #[.string r.name,.int .i64 r.kind,.int .i64 r.fr,.int .i64 r.to,.int .i64 r.pf,.int .i64 r.pt,.slice U r.resp.length f1,.slice V r.guards.length f2,.slice W r.ex.length f3,.slice Z r.fa.length f4,.int .i64 r.rd,.int .i64 r.wr,.slice E5 r.send.length f5,.int .i64 r.at_,.slice E6 r.left.length f6,.slice E7 r.right.length f7,.slice E8 r.parent.length f8,.int .i64 r.dir] 99
 have an:Cp w2 w.heap.size w1.heap.size #[.string p.name,.int .i64 p.topo,.slice F p.states.length c1,.slice G p.messages.length c2,.slice I p.values.length c3,.int .i64 p.fault,.slice J p.res.length c4,.slice M p.initial.length c5,.slice O p.leader.length c6,.slice z p.rules.length C] #[.string r.name,.int .i64 r.kind,.int .i64 r.fr,.int .i64 r.to,.int .i64 r.pf,.int .i64 r.pt,.slice U r.resp.length f1,.slice V r.guards.length f2,.slice W r.ex.length f3,.slice Z r.fa.length f4,.int .i64 r.rd,.int .i64 r.wr,.slice E5 r.send.length f5,.int .i64 r.at_,.slice E6 r.left.length f6,.slice E7 r.right.length f7,.slice E8 r.parent.length f8,.int .i64 r.dir] p r:=
  ⟨aE.keep (fun _ y=>E.cell y) E.size,aG.keep (fun _ y=>E.cell y) E.size,ao.below E,aD,(hT.below aj).below E⟩
 exact⟨F,c1,G,c2,I,c3,J,c4,M,c5,O,c6,z,C,U,f1,V,f2,W,f3,Z,f4,E5,f5,E6,f6,E7,f7,E8,f8,b,ak,w1,w2,aO,ar,av,rfl,hA,aQ,ao.cell,aN,fun c hc=>by rw [←aR]; exact run_storeCells_new w1 99 c #[.string r.name,.int .i64 r.kind,.int .i64 r.fr,.int .i64 r.to,.int .i64 r.pf,.int .i64 r.pt,.slice U r.resp.length f1,.slice V r.guards.length f2,.slice W r.ex.length f3,.slice Z r.fa.length f4,.int .i64 r.rd,.int .i64 r.wr,.slice E5 r.send.length f5,.int .i64 r.at_,.slice E6 r.left.length f6,.slice E7 r.right.length f7,.slice E8 r.parent.length f8,.int .i64 r.dir] (by kernel_rfl) hc (by simp [Value.oneCell']),an,
  (aq.keep (w':=w2) (B':=w2.heap.size) (R':=AW w2 w2.heap.size) (fun _ y=>E.cell y) (fun _ _ h=>h.keep (fun _ y=>E.cell y) E.size) E.size).take i,an.b5.cell 0,an.b5.lt,aj.trans (E.mono al),by rw [List.length_take]; omega,aJ⟩
end Go.Proofs.YtfcfpoemojjglaaGreatDoor.K
namespace Go.Proofs.YtfcfpoemojjglaaGreatDoor.K
open Go.RowKit
attribute [-go_sem] loadCellsFrom storeCells
structure Am.Small (p:Am):Prop where
 name:p.name.size≤500
 states:p.states.length≤60
 messages:p.messages.length≤60
 values:p.values.length≤60
 res:p.res.length≤60
 initial:p.initial.length≤60
 leader:p.leader.length≤60
 rules:p.rules.length≤30
 rule:∀r∈p.rules,r.Small∧r.name.size≤500
 names:∀s∈Bd p,s.size≤500
theorem _root_.Go.Proofs.YtfcfpoemojjglaaGreatDoor.Sl.takeS {D:Type} {w:World} {B sz:Nat} {enc:D→Nat→Value} {A:Option Addr} {ds:List D} (h:Sl w B sz enc A ds) (n:Nat):Sl w B sz enc A (ds.take n):=
 ⟨Nat.le_trans (List.length_take_le' ..) h.1,fun C=>by
  obtain⟨b,E,e,y,z⟩:=h.2 (by rintro rfl; simp at C)
  refine⟨b,E,e,y,fun i d hd=>z i d ?_⟩
  rw [List.getElem?_take] at hd
  split at hd
  ·exact hd
  ·cases hd⟩
theorem HP {w:World} {base e size n c:Nat} {A:Option Addr} {xs:List Value} (h:w.ownsRow base e size (.slice A n c) n xs):n≤c:=by
 rcases h.2 with⟨e,h0⟩ | ⟨g,y,z,e,_,_,h1,_⟩
 ·omega
 ·injection e with C E F
  omega
theorem HS {w:World} {base n c:Nat} {A:Option Addr} {L:List ByteArray} (h:w.ownsRow base 9 1 (.slice A n c) n (DV L)) (V:n≤900000):L.length=n∧Sl w w.heap.size 1 BE A L:=by
 have G:L.length=n:=by
  have:=h.1
  simpa [DV] using this
 refine⟨G,by omega,fun I=>?_⟩
 rcases h.2 with⟨_,h0⟩ | ⟨g,J,M,e,_,F,_,_,_,_⟩
 ·exact absurd (List.length_eq_zero_iff.1 (by omega)) I
 ·injection e with C O E
  subst C E
  refine⟨g,0,rfl,(Array.getElem?_eq_some_iff.1 F).1,fun k d hd j U=>?_⟩
  have hk:k<L.length:=by
   rcases Nat.lt_or_ge k L.length with y | y
   ·exact y
   ·rw [List.getElem?_eq_none y] at hd; cases hd
  have z:j=0:=by omega
  subst z
  have:=h.cellAt k (by omega)
  rw [show 0+k*1+0=k by omega,this]
  simp [DV,hd]
def nmE (L:List ByteArray) (i:Nat):Int:=Ad (!Ab (L.getD i .empty)||decide (L.getD i .empty∈L.take i)) 2
theorem HN {L:List ByteArray} {k:Nat} (hk:k<L.length) (h:Aj (nmE L) (List.range k)=0) {s:ByteArray} (z:L[k]?=some s) (h1:Ab s=true) (y:s∉L.take k):Aj (nmE L) (List.range (k+1))=0:=by
 have C:(List.range L.length)[k]?=some k:=by rw [List.getElem?_range hk]
 have ht:=CD (nmE L) C (by rw [List.take_range,Nat.min_eq_left (by omega)]; exact h)
 rw [List.take_range,Nat.min_eq_left (by omega)] at ht
 rw [ht]
 simp [nmE,z,h1,y,Ad]
theorem Fl {L:List ByteArray} {k:Nat} (hk:k<L.length) (h:Aj (nmE L) (List.range k)=0) {s:ByteArray} (z:L[k]?=some s) (h1:Ab s=false∨s∈L.take k):CU Ab L=2:=by
 have C:(List.range L.length)[k]?=some k:=by rw [List.getElem?_range hk]
 have y:nmE L k=2:=by
  rcases h1 with h1 | h1 <;> simp [nmE,z,h1,Ad]
 have ht:=Ct (nmE L) C (by rw [List.take_range,Nat.min_eq_left (by omega)]; exact h) (by rw [y]; decide)
 rw [y] at ht
 exact ht
theorem J6 {w:World} {cs:List Value} {p:Am} (h:At w w.heap.size cs p) (a3:p.Small) (hT:A0 w):
  Calls Tryz.prog 168 #[.agg cs.toArray] w (Ret fun v w'=>v=.int .i64 (CU Ab (Bd p))∧Below w.heap.size w w'):=by
 obtain⟨A1,c1,A2,c2,A3,c3,A4,c4,A5,c5,A6,c6,A7,c7,rfl,h1,O,h3,h4,h5,h6,h7,b0⟩:=h
 have be:=a3.states
 have bf:=a3.messages
 have bg:=a3.values
 have b5:=hide a3.names
 obtain⟨w1,bj,C,ay,b2⟩:=Ae w #[.string p.name,.int .i64 p.topo,.slice A1 p.states.length c1,.slice A2 p.messages.length c2,.slice A3 p.values.length c3,.int .i64 p.fault,.slice A4 p.res.length c4,.slice A5 p.initial.length c5,.slice A6 p.leader.length c6,.slice A7 p.rules.length c7] 27
 have bb:=ay.cell
 obtain⟨w2,bk,E,U,b3⟩:=Ae w1 #[.slice A1 p.states.length c1,.slice A2 p.messages.length c2,.slice A3 p.values.length c3] 22
 have b6:=C.size
 have bh:=E.size
 have au:=h1.keep (w':=w2) (B':=w.heap.size) (fun _ G=>(E.cell (by omega)).trans (C.cell G)) (Nat.le_refl _)
 have av:=O.keep (w':=w2) (B':=w.heap.size) (fun _ G=>(E.cell (by omega)).trans (C.cell G)) (Nat.le_refl _)
 have ax:=h3.keep (w':=w2) (B':=w.heap.size) (fun _ G=>(E.cell (by omega)).trans (C.cell G)) (Nat.le_refl _)
 have az:LL w2 w.heap.size w1.heap.size 0 (fun k=>[A1,A2,A3].getD k none) (fun k=>[c1,c2,c3].getD k 0) [p.states,p.messages,p.values]:=by
  intro k l z
  match k,z with
  | 0,z=>obtain rfl:=Option.some.inj z; exact⟨U.cell 0,au⟩
  | 1,z=>obtain rfl:=Option.some.inj z; exact⟨U.cell 1,av⟩
  | 2,z=>obtain rfl:=Option.some.inj z; exact⟨U.cell 2,ax⟩
  | k+3,z=>simp at z
 have ak:([p.states,p.messages,p.values]:List (List ByteArray)).flatten=Bd p:=by simp [Bd]
 have bd:(Bd p).length≤180:=by simp only [Bd,List.length_append]; omega
 have aj:=M4 (c:=3) az U.lt (by omega) (by rw [ak]; omega) (by simp) (by simp)
 rw [ak] at aj
 have b1:=hide aj
 have aC:=hide (C.trans (E.mono b6))
 have aY:=hide ((hT.below C).below E)
 have b4:=hide (show CU Ab (Bd p)=Aj (nmE (Bd p)) (List.range (Bd p).length) from rfl)
 clear aj az au av ax ak C E ay b2 b3 U h1 O h3 h4 h5 h6 h7 a3 hT b0
 generalize Bd p=L at*
 go_enter Tryz.func168,Tryz.ntmps168
 go_wp2_with (go_at_call 203; refine Calls.ret b1.out ?_; rintro v w3 ⟨a8,ai⟩; obtain⟨Av,cv,hv⟩:=AH a8; subst hv; have aA:=hide (HS a8 (by omega)).2; have bc:=HP a8; have I:=hide (aC.out.trans (ai.mono aC.out.size)); have aX:=hide (aY.out.below ai); clear a8 ai)
 go_loopw [16] (fun ii wr=>∃(k:Nat),ii=.int .i64 (k:Int)∧k≤L.length∧Hid (Aj (nmE L) (List.range k)=0)∧Hid (Below w3.heap.size w3 wr)) (fun ii _=>L.length - (intOf ii).toNat)
 case atStart=>exact⟨0,rfl,Nat.zero_le _,by show _=_; rfl,Below.refl _ _⟩
 case round=>
  obtain⟨k,rfl,hk,V,W⟩:=hrel
  by_cases a6:k<L.length
  ·obtain⟨b,aH,s,hA,aZ,an,hc⟩:=aA.out.at a6
   have d0:=hc 0 (by omega)
   simp only [Nat.add_zero,Nat.mul_one,BE] at d0
   have d1:=(W.out.cell (p:=⟨b,aH+k,none⟩) aZ).trans d0
   have bi:=b5.out s (List.mem_of_getElem? an)
   have ao:=hide an
   subst hA
   clear hc d0 an
   have a5:∀y,Below wr.heap.size wr y→Hid (Below w3.heap.size w3 y):=fun y hx=>hide (W.out.trans (hx.mono W.out.size))
   have ah:=hide (aX.out.below W.out)
   cases a7:Ab s with
   | false=>
    have M:=hide a7
    clear a7
    go_wp2_with (go_at_call 118; refine Calls.ret (Da s _ (by omega) ah.out) ?_; rintro v y ⟨rfl,F⟩; rw [M.out])
    go_ret
    refine⟨?_,I.out.trans ((a5 _ F).out.mono I.out.size)⟩
    rw [Fl a6 V.out ao.out (.inl M.out)]
    rfl
   | true=>
    have M:=hide a7
    clear a7
    have aG:(L.take k).length=k:=by rw [List.length_take]; omega
    have b7:=hide aG
    clear aG
    have aE:∀y,Below wr.heap.size wr y→Hid (Calls Tryz.prog 204 #[.slice (some ⟨b,aH,none⟩) k cv,.string s] y fun r w'=>r=.returned (.bool (decide (s∈L.take k)))∧y=w'):=by
     intro y hx
     have h1:=(aA.out.keep (w':=y) (B':=w3.heap.size) (fun _ G=>(a5 y hx).out.cell G) (Nat.le_refl _)).takeS k
     have O:=Je (c:=cv) (x:=s) h1
     rw [b7.out] at O
     exact O
    have aF:=hide aE
    clear aE
    by_cases J:s∈L.take k
    ·have am:=hide J
     have a2:decide (s∈L.take k)=true:=decide_eq_true J
     have al:=hide a2
     clear J a2
     go_wp2_with (first
      | (go_at_call 118; refine Calls.ret (Da s _ (by omega) ah.out) ?_; rintro v y ⟨rfl,F⟩; rw [M.out]; have Z:=hide F; clear F)
      | (go_at_call 204; refine(aF.out _ Z.out).out.mono ?_; rintro r w' ⟨rfl,rfl⟩; rw [al.out]))
     go_ret
     refine⟨?_,I.out.trans ((a5 _ Z.out).out.mono I.out.size)⟩
     rw [Fl a6 V.out ao.out (.inr am.out)]
     rfl
    ·have am:=hide J
     have a2:decide (s∈L.take k)=false:=decide_eq_false J
     have al:=hide a2
     clear J a2
     go_wp2_with (first
      | (go_at_call 118; refine Calls.ret (Da s _ (by omega) ah.out) ?_; rintro v y ⟨rfl,F⟩; rw [M.out]; have Z:=hide F; clear F)
      | (go_at_call 204; refine(aF.out _ Z.out).out.mono ?_; rintro r w' ⟨rfl,rfl⟩; rw [al.out]))
     exact⟨⟨k+1,by go_num,by omega,HN a6 V.out ao.out M.out am.out,a5 _ Z.out⟩,by simp [intOf]; omega⟩
  ·have e:k=L.length:=by omega
   have ag:=V.out
   rw [e,←b4.out] at ag
   have aW:=hide ag
   clear ag e V
   go_wp2_with fail
   go_ret
   exact⟨by rw [aW.out]; rfl,I.out.trans (W.out.mono I.out.size)⟩
end Go.Proofs.YtfcfpoemojjglaaGreatDoor.K
namespace Go.Proofs.YtfcfpoemojjglaaGreatDoor.K
open Go.RowKit
attribute [-go_sem] loadCellsFrom storeCells
theorem At.rules_at {w:World} {B:Nat} {cs:List Value} {p:Am} (h:At w B cs p):cs.toArray.size=10∧∃A c,cs.toArray[9]?=some (.slice A p.rules.length c)∧BR w B 18 (AW w B) A p.rules∧p.rules.length≤c:=by
 obtain⟨F,U,G,c2,I,V,J,W,M,Z,O,c6,y,z,rfl,h1,h2,h3,h4,h5,h6,C,E⟩:=h
 exact⟨rfl,y,z,rfl,C,E⟩
structure Fc (w:World) (B:Nat) (rc:Array Value) (r:Az):Prop where
 size:rc.size=18
 one:rc.all (·.oneCell')=true
 is:AW w B rc.toList r
theorem AW.c {w:World} {B:Nat} {cs:List Value} {r:Az} (h:AW w B cs r):Fc w B cs.toArray r:=by
 refine⟨?_,?_,by simpa using h⟩ <;> obtain⟨y,M,z,c2,C,O,E,U,F,V,G,W,I,Z,J,c8,rfl,_⟩:=h
 ·rfl
 ·simp [Value.oneCell']
theorem Fc.guards {w:World} {B:Nat} {rc:Array Value} {r:Az} (h:Fc w B rc r):∃A c,rc[7]?=some (.slice A r.guards.length c)∧Sl w B 6 CS A r.guards:=by
 obtain⟨C,O,y,c2,E,U,F,V,G,W,I,Z,J,c7,M,c8,e,h1,z,h3,h4,h5,h6,h7,h8⟩:=h.is
 refine⟨y,c2,?_,z⟩
 rw [←Array.getElem?_toList,e]
 rfl
theorem Du {w:World} {B:Nat} {A:Option Addr} {l:List Az} (h:BR w B 18 (AW w B) A l) {i:Nat} {r:Az} (F:l[i]?=some r):
  ∃b y rc,A=some ⟨b,y,none⟩∧b<B∧Fc w B rc r∧(∀j v,rc[j]?=some v→w.cell? ⟨b,y+i*18+j,none⟩=some v)∧((loadCellsFrom ⟨b,y+i*18,none⟩ 0 18 #[]).run Tryz.prog w=.ok rc w):=by
 obtain⟨b,y,W,rc,G,J,E,V,C,I⟩:=h.at (AP F)
 rw [F] at E
 have U:=Option.some.inj E
 subst U
 have M:=I.c
 have O:∀j v,rc.toArray[j]?=some v→w.cell? ⟨b,y+i*18+j,none⟩=some v:=fun j v z=>C j v (by simpa using z)
 refine⟨b,y,rc.toArray,G,J,M,O,?_⟩
 have:=run_loadCells_list (P:=Tryz.prog) w ⟨b,y+i*18,none⟩ rc (fun j v z=>by rw [Addr.add_mid]; exact C j v z)
 rw [V] at this
 simpa [loadCells] using this
theorem Dv (w:World) (t n:Nat) (z:(Tryz.prog.info? t).map (·.size)=some n) {rc:Array Value} (h:rc.size=n) (h1:rc.all (·.oneCell')=true):
  ∀c:Array Value,c.size=n→(storeCells ⟨w.heap.size,0,none⟩ rc.toList 0).run Tryz.prog (w.alloc (.cells c t))=.ok () (w.alloc (.cells rc t)):=fun c y=>
 run_storeCells_new w t c rc (by rw [z,h]) (by rw [y,h]) h1
theorem EQ {w w':World} {base e size n:Nat} {v:Value} {xs:List Value} (h:w.ownsRow base e size v n xs) (y:Below w.heap.size w w'):w'.ownsRow base e size v n xs:=(Ac.of_below y fun _=>False).ownsRow h (fun _ _=>id)
theorem Kc {w:World} {base base' e size n:Nat} {v:Value} {xs:List Value} (h:w.ownsRow base e size v n xs) (F:base'≤base):w.ownsRow base' e size v n xs:=by
 refine⟨h.1,?_⟩
 rcases h.2 with h1 | ⟨g,y,z,e,E,C⟩
 ·exact .inl h1
 ·exact .inr ⟨g,y,z,e,by omega,C⟩
theorem Qh:(Tryz.prog.info? 217).map (fun i=>(i.zero,i.size,i.bytes))=some (some (DG ⟨0,0,⟨0,0,0,0⟩⟩),6,48):=by kernel_rfl
theorem KR:Dd Tryz.prog 97 217 6:=EX Tryz.underlying97 Qh rfl (by omega) (by omega)
def C4 (g:Thr):List Value:=[.int .i64 g.msg,.int .i64 g.coef,.int .i64 g.bound.c,.int .i64 g.bound.n,.int .i64 g.bound.t,.int .i64 g.bound.f]
def CM (L:List Thr):List Value:=L.flatMap C4
theorem TJ (L:List Thr):(CM L).length=L.length*6:=by
 induction L with
 | nil=>rfl
 | cons x L ih=>
  have:CM (x::L)=C4 x++CM L:=rfl
  rw [this,List.length_append,ih,List.length_cons]
  show 6+_=_
  omega
theorem Lx (L:List Thr) (g:Thr):CM (L++[g])=CM L++C4 g:=by simp [CM]
theorem Ly:∀(L:List Thr) (k:Nat) (d:Thr),L[k]?=some d→∀j,j<6→(CM L)[k*6+j]?=some (CS d j)
 | [],k,d,h,_,_=>by simp at h
 | x::L,0,d,h,j,hj=>by
  obtain rfl:x=d:=by simpa using h
  have:CM (x::L)=C4 x++CM L:=rfl
  rw [this,Nat.zero_mul,Nat.zero_add,List.getElem?_append_left (by show j<6; exact hj)]
  match j,hj with
  | 0,_=>rfl
  | 1,_=>rfl
  | 2,_=>rfl
  | 3,_=>rfl
  | 4,_=>rfl
  | 5,_=>rfl
 | x::L,k+1,d,h,j,hj=>by
  have:CM (x::L)=C4 x++CM L:=rfl
  rw [this,List.getElem?_append_right (by show 6≤_; omega),show(k+1)*6+j - (C4 x).length=k*6+j from by show(k+1)*6+j - 6=_; omega]
  exact Ly L k d (by simpa using h) j hj
theorem Kh {w:World} {base n c:Nat} {A:Option Addr} {L:List Thr} (h:w.ownsRow base 217 6 (.slice A n c) n (CM L)) (O:n≤900000):L.length=n∧Sl w w.heap.size 6 CS A L:=by
 have F:L.length=n:=by
  have:=h.1
  rw [TJ] at this
  omega
 refine⟨F,by omega,fun G=>?_⟩
 rcases h.2 with⟨_,h0⟩ | ⟨g,I,J,e,_,C,_,_,_,_⟩
 ·exact absurd (List.length_eq_zero_iff.1 (by omega)) G
 ·injection e with y M z
  subst y z
  refine⟨g,0,rfl,(Array.getElem?_eq_some_iff.1 C).1,fun k d hd j E=>?_⟩
  have hk:=AP hd
  rw [show 0+k*6+j=k*6+j by omega,h.cellAt (k*6+j) (by omega)]
  exact Ly L k d hd j E
theorem L5 (s:List Thr) (g:Thr):(Bx s g).length≤s.length+1:=by
 unfold Bx
 split <;> simp
theorem Jz:∀(l s:List Thr),(l.foldl Bx s).length≤s.length+l.length
 | [],s=>by simp
 | g::l,s=>by
  have h1:=Jz l (Bx s g)
  have h:=L5 s g
  simp only [List.foldl_cons,List.length_cons]
  omega
theorem JB {l:List Thr} {k:Nat} {g:Thr} (h:l[k]?=some g) (s:List Thr):(l.take (k+1)).foldl Bx s=Bx ((l.take k).foldl Bx s) g:=by
 rw [show l.take (k+1)=l.take k++[g] by rw [List.take_add_one,h]; rfl,List.foldl_append]
 rfl
theorem LA {l:List Az} {i:Nat} {r:Az} (h:l[i]?=some r):BO (l.take (i+1))=r.guards.foldl Bx (BO (l.take i)):=by
 unfold BO
 rw [show l.take (i+1)=l.take i++[r] by rw [List.take_add_one,h]; rfl,List.flatMap_append,List.foldl_append]
 simp
theorem Jw:∀(l:List Az),(∀r∈l,r.guards.length≤60)→(l.flatMap Az.guards).length≤60*l.length
 | [],_=>by simp
 | r::l,h=>by
  have h1:=Jw l (fun x y=>h x (by simp [y]))
  have z:=h r (by simp)
  rw [List.flatMap_cons,List.length_append,List.length_cons]
  omega
theorem FB (l:List Az) (h:∀r∈l,r.guards.length≤60):(BO l).length≤60*l.length:=by
 have h1:=Jz (l.flatMap Az.guards) []
 have y:=Jw l h
 unfold BO
 rw [List.length_nil] at h1
 omega
theorem Lz {w:World} {cs:List Value} {p:Am} (h:At w w.heap.size cs p) (ah:p.Small):
  Calls Tryz.prog 171 #[.agg cs.toArray] w (Ret fun v w'=>w'.ownsRow w.heap.size 217 6 v (BO p.rules).length (CM (BO p.rules))∧Below w.heap.size w w'):=by
 have av:=hide (show ∀r∈p.rules,r.guards.length≤60 from fun r F=>(ah.rule r F).1.2.1)
 have bv:=ah.rules
 obtain⟨bu,A7,c7,ay,az,bi⟩:=h.rules_at
 generalize b3:cs.toArray=pc at*
 clear b3 h
 generalize b4:p.rules=rs at*
 clear b4 ah
 obtain⟨w1,bA,W,aa,aS⟩:=Ae w pc 27
 have a9:=W.size
 have bh:w1.cell? ⟨w.heap.size,9,none⟩=some (.slice A7 rs.length c7):=by rw [aa.cell,ay]
 have aM:=hide (az.keep (w':=w1) (B':=w1.heap.size) (R':=AW w1 w1.heap.size) (fun _ z=>W.cell z) (fun _ _ h=>h.keep (fun _ z=>W.cell z) a9) a9)
 have aP:=hide W
 have br:=aa.lt
 clear az W aS aa ay
 go_enter Tryz.func171,Tryz.ntmps171
 go_wp2_with fail
 go_loopw [3,11] (fun vv ii wr=>∃(i n:Nat),ii=.int .i64 (i:Int)∧i≤rs.length∧Hid (wr.ownsRow w1.heap.size 217 6 vv n (CM (BO (rs.take i))))∧Hid (n=(BO (rs.take i)).length)∧Hid (Below w1.heap.size w1 wr)) (fun _ ii _=>rs.length - (intOf ii).toNat)
 case atStart=>exact⟨0,0,rfl,Nat.zero_le _,World.ownsRow_nil _ _ _ _,by show _=_; rfl,Below.refl _ _⟩
 case round=>
  obtain⟨i,n,rfl,hi,C,hn,M⟩:=hrel
  by_cases aV:i<rs.length
  ·obtain⟨r,F⟩:∃r,rs[i]?=some r:=⟨_,List.getElem?_eq_getElem aV⟩
   obtain⟨b,bB,rc,hA,be,O,aR,bp⟩:=Du (aM.out.keep (w':=wr) (B':=w1.heap.size) (R':=AW wr w1.heap.size) (fun _ z=>M.out.cell z) (fun _ _ h=>h.keep (fun _ z=>M.out.cell z) (Nat.le_refl _)) (Nat.le_refl _)) F
   obtain⟨w2,b7,ad,am,aT⟩:=Ae wr rc 99
   have b5:=Dv wr 99 18 (by kernel_rfl) O.size O.one
   rw [b7] at b5
   obtain⟨Eg,fg,ar,ap⟩:=O.guards
   have bw:=hide F
   have bc:=hide O
   have bg:w2.cell? ⟨wr.heap.size,7,none⟩=some (.slice Eg r.guards.length fg):=by rw [am.cell,ar]
   have bk:=av.out r (List.mem_of_getElem? F)
   have E:=hide (EQ C.out ad)
   have bx:=O.size
   have aN:=hide (ap.keep (w':=w1) (B':=w1.heap.size) (fun _ z=>(M.out.cell z).symm) (Nat.le_refl _))
   have an:=hide (M.out.trans (ad.mono M.out.size))
   have b6:=hide (LA F)
   have b0:=hide (FB (rs.take i) (fun r F=>av.out r (List.mem_of_mem_take F)))
   have bt:n≤1800:=by
    have h1:=b0.out
    rw [hn.out]
    rw [List.length_take] at h1
    omega
   subst hA
   clear aR O aT am F ar C ap ad
   go_wp2_with fail
   go_loopw [3,18] (fun vv jj wr=>∃(j n:Nat),jj=.int .i64 (j:Int)∧j≤r.guards.length∧n≤1800+j∧Hid (wr.ownsRow w1.heap.size 217 6 vv n (CM ((r.guards.take j).foldl Bx (BO (rs.take i)))))∧Hid (n=((r.guards.take j).foldl Bx (BO (rs.take i))).length)∧Hid (Below w1.heap.size w1 wr)) (fun _ jj _=>r.guards.length - (intOf jj).toNat)
   case atStart=>exact⟨0,n,rfl,Nat.zero_le _,by omega,by show World.ownsRow _ _ _ _ _ _ _; simpa using E.out,by show _=_; simpa using hn.out,an.out⟩
   case round=>
    obtain⟨j,m,rfl,hj,hm,C,a2,a4⟩:=hrel
    by_cases aX:j<r.guards.length
    ·obtain⟨b2,aA,g,aJ,bf,hg,au⟩:=(aN.out.keep (w':=wr) (B':=w1.heap.size) (fun _ z=>a4.out.cell z) (Nat.le_refl _)).at aX
     have bq:(loadCellsFrom ⟨b2,aA+j*6,none⟩ 0 6 #[]).run Tryz.prog wr=.ok #[.int .i64 g.msg,.int .i64 g.coef,.int .i64 g.bound.c,.int .i64 g.bound.n,.int .i64 g.bound.t,.int .i64 g.bound.f] wr:=by
      have:=run_loadCells_list (P:=Tryz.prog) wr ⟨b2,aA+j*6,none⟩ (C4 g) (fun k v y=>by
       rw [Addr.add_mid]
       have hk:=AP y
       rw [au k hk]
       match k,hk,y with
       | 0,_,y=>exact congrArg some (Option.some.inj y)
       | 1,_,y=>exact congrArg some (Option.some.inj y)
       | 2,_,y=>exact congrArg some (Option.some.inj y)
       | 3,_,y=>exact congrArg some (Option.some.inj y)
       | 4,_,y=>exact congrArg some (Option.some.inj y)
       | 5,_,y=>exact congrArg some (Option.some.inj y))
      simpa [loadCells,C4] using this
     have a6:=hide (JB hg (BO (rs.take i)))
     have aO:=hide (show DG g=.agg #[.int .i64 g.msg,.int .i64 g.coef,.int .i64 g.bound.c,.int .i64 g.bound.n,.int .i64 g.bound.t,.int .i64 g.bound.f] from rfl)
     obtain⟨w3,b8,ae,ab,aU⟩:=Ae wr #[.int .i64 g.msg,.int .i64 g.coef,.int .i64 g.bound.c,.int .i64 g.bound.n,.int .i64 g.bound.t,.int .i64 g.bound.f] 217
     have bz:∀c:Array Value,c.size=6→(storeCells ⟨wr.heap.size,0,none⟩ [.int .i64 g.msg,.int .i64 g.coef,.int .i64 g.bound.c,.int .i64 g.bound.n,.int .i64 g.bound.t,.int .i64 g.bound.f] 0).run Tryz.prog (wr.alloc (.cells c 217))=.ok () w3:=fun c hc=>by rw [←b8]; exact Dv wr 217 6 (by kernel_rfl) (rc:=#[.int .i64 g.msg,.int .i64 g.coef,.int .i64 g.bound.c,.int .i64 g.bound.n,.int .i64 g.bound.t,.int .i64 g.bound.f]) rfl (by simp [Value.oneCell']) c hc
     have bn:(loadCellsFrom ⟨wr.heap.size,0,none⟩ 0 6 #[]).run Tryz.prog w3=.ok #[.int .i64 g.msg,.int .i64 g.coef,.int .i64 g.bound.c,.int .i64 g.bound.n,.int .i64 g.bound.t,.int .i64 g.bound.f] w3:=Ah ab rfl
     have I:=EQ C.out ae
     obtain⟨Av,cv,y⟩:=AH C.out
     subst y
     have aq:=(Kh I (by omega)).2
     have ax:((r.guards.take j).foldl Bx (BO (rs.take i))).length=m:=a2.out.symm
     have af:=hide (M8 (c:=cv) (x:=g) aq (Nat.le_refl _))
     rw [ax,aO.out] at af
     have a3:=hide (a4.out.trans (ae.mono a4.out.size))
     have bj:=hide hg
     have aK:=hide ab
     have ao:=hide I
     subst aJ
     clear au aU ab ae hg aq ax C I
     generalize ((r.guards.take j).foldl Bx (BO (rs.take i)))=L at*
     cases a7:decide (g∈L)
     ·have Z:=hide a7
      clear a7
      have V:=hide (show Bx L g=L++[g] from if_neg (of_decide_eq_false Z.out))
      go_wp2_with (first
       | (go_at_call 213; refine Calls.ret af.out ?_; rintro v w4 ⟨rfl,G⟩; rw [Z.out]; have bo:=Ah (n:=6) (aK.out.below G) rfl; have a5:=hide (EQ ao.out G); have U:=hide (a3.out.trans (G.mono a3.out.size)); clear G)
       | (at_builtin; refine BP KR rfl _ _ rfl w1.heap.size _ m _ rfl a5.out (C4 g) _ rfl rfl (by simp [C4,Value.oneCell']) (by omega) (by have:=U.out.size; have:=an.out.size; omega) ?_; intro g5 bb w5 b1 aw aY aW))
      have aL:=hide (U.out.trans (aw.below U.out.size fun b' bd e=>by have:=(a5.out.lt b' e).1; omega))
      clear aw aY aW
      exact⟨⟨j+1,m+1,by go_num,by omega,by omega,by show World.ownsRow _ _ _ _ _ _ _; rw [a6.out,V.out,Lx]; exact b1,by show _=_; rw [a6.out,V.out,List.length_append,a2.out]; rfl,aL.out⟩,by simp [intOf]; omega⟩
     ·have Z:=hide a7
      clear a7
      have V:=hide (show Bx L g=L from if_pos (of_decide_eq_true Z.out))
      go_wp2_with (go_at_call 213; refine Calls.ret af.out ?_; rintro v w4 ⟨rfl,G⟩; rw [Z.out]; have a5:=hide (EQ ao.out G); have U:=hide (a3.out.trans (G.mono a3.out.size)); clear G)
      exact⟨⟨j+1,m,by go_num,by omega,by omega,by show World.ownsRow _ _ _ _ _ _ _; rw [a6.out,V.out]; exact a5.out,by show _=_; rw [a6.out,V.out,a2.out],U.out⟩,by simp [intOf]; omega⟩
    ·have e:j=r.guards.length:=by omega
     have E:=C.out
     have J:=a2.out
     rw [e,List.take_length,←b6.out] at E J
     have I:=hide E
     have aZ:=hide J
     clear E J e C a2
     go_wp2_with fail
     exact⟨⟨i+1,m,by go_num,by omega,I.out,aZ.out,a4.out⟩,by simp [intOf]; omega⟩
  ·have e:i=rs.length:=by omega
   have E:=C.out
   have J:=hn.out
   rw [e,List.take_length] at E J
   rw [J] at E
   have I:=hide (Kc E a9)
   clear E J e C hn
   go_wp2_with fail
   go_ret
   exact⟨I.out,aP.out.trans (M.out.mono a9)⟩
end Go.Proofs.YtfcfpoemojjglaaGreatDoor.K
