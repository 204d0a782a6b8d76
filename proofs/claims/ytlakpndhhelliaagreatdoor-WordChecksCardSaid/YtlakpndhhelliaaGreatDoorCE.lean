/-
  Part CE of a proof.
-/
import Derived.Deep.MidRow
import Derived.Deep.WholeRow
import Derived.Test.YtlakpndhhelliaaGreatDoorPA
import Derived.Test.YtlakpndhhelliaaGreatDoorCB
import Derived.Test.YtlakpndhhelliaaGreatDoorCC
import Derived.Test.YtlakpndhhelliaaGreatDoorCD
set_option maxHeartbeats 16000000
set_option maxRecDepth 100000
set_option linter.unusedVariables false
set_option linter.unusedSimpArgs false
namespace Go.Proofs.YtlakpndhhelliaaGreatDoor.K
open Go.RowKit
attribute [-go_sem] loadCellsFrom storeCells
structure BM (w:World) (g2 g5:Nat) (pc rc:Array Value) (p:Ao) (r:As):Prop where
 pr:Ax w w.heap.size pc.toList p
 ru:AB w w.heap.size rc.toList r
 b2:Blk w g2 27 pc
 b5:Blk w g5 48 rc
 tab:AL w
theorem BM.at {w w':World} {g2 g5:Nat} {z rc:Array Value} {p:Ao} {r:As} (h:BM w g2 g5 z rc p r) (f:Below w.heap.size w w'):BM w' g2 g5 z rc p r:=
 ⟨h.pr.keep (fun _ y=>f.cell y) f.size,h.ru.keep (fun _ y=>f.cell y) f.size,h.b2.below f,h.b5.below f,h.tab.below f⟩
theorem Am {w:World} {g n:Nat} {t:TypeId} {cs:Array Value} (h:Blk w g t cs) (f:cs.size=n):(loadCellsFrom ⟨g,0,none⟩ 0 n #[]).run Tryz.prog w=.ok cs w:=by
 have:=run_loadCells_list (P:=Tryz.prog) w ⟨g,0,none⟩ cs.toList (fun j v y=>by
  rw [Addr.add_mid,Nat.zero_add,h.cell]
  simpa using y)
 subst f
 simpa [loadCells] using this
theorem BM.load2 {w:World} {g2 g5:Nat} {f rc:Array Value} {p:Ao} {r:As} (h:BM w g2 g5 f rc p r) (y:f.size=10):(loadCellsFrom ⟨g2,0,none⟩ 0 10 #[]).run Tryz.prog w=.ok f w:=Am h.b2 y
theorem BM.load5 {w:World} {g2 g5:Nat} {f rc:Array Value} {p:Ao} {r:As} (h:BM w g2 g5 f rc p r) (y:rc.size=18):(loadCellsFrom ⟨g5,0,none⟩ 0 18 #[]).run Tryz.prog w=.ok rc w:=Am h.b5 y
theorem D4 {w:World} {B:Nat} {r:As} {f y z C E F G I:Option Addr} {J M f3 O U V W Z:Nat} (h:AB w B [.string r.name,.int .i64 r.kind,.int .i64 r.fr,.int .i64 r.to,.int .i64 r.pf,.int .i64 r.pt,.slice f r.resp.length J,.slice y r.guards.length M,.slice z r.ex.length f3,.slice C r.fa.length O,.int .i64 r.rd,.int .i64 r.wr,.slice E r.send.length U,.int .i64 r.at_,.slice F r.left.length V,.slice G r.right.length W,.slice I r.parent.length Z,.int .i64 r.dir] r):
  Sl w B 1 Ai f r.resp∧Sl w B 6 CC y r.guards∧Sl w B 1 Ai z r.ex∧Sl w B 1 Ai C r.fa∧Sl w B 1 Ai E r.send∧Sl w B 1 Ai F r.left∧Sl w B 1 Ai G r.right∧Sl w B 1 Ai I r.parent:=by
 obtain⟨A1,c1,A2,c2,A3,c3,A4,c4,A5,c5,A6,c6,A7,c7,A8,c8,e,h1,h2,h3,h4,h5,h6,h7,h8⟩:=h
 simp only [List.cons.injEq,Value.slice.injEq,true_and,and_true] at e
 obtain⟨⟨rfl,rfl⟩,⟨rfl,rfl⟩,⟨rfl,rfl⟩,⟨rfl,rfl⟩,⟨rfl,rfl⟩,⟨rfl,rfl⟩,⟨rfl,rfl⟩,⟨rfl,rfl⟩⟩:=e
 exact⟨h1,h2,h3,h4,h5,h6,h7,h8⟩
theorem K5 {w:World} {cs:List Value} {p:Ao} {r:As} {i:Nat} (h:Ax w w.heap.size cs p) (hr:p.rules[i]?=some r) (hT:AL w):
  ∃E F G c2 I J M O U V W Z y z E1 f1 E2 f2 E3 f3 E4 f4 E5 f5 E6 f6 E7 f7 E8 f8 b aj w1 w2,p.rules.length≤9223372036854775807∧p.rules.length≤z∧i<p.rules.length∧cs=[.string p.name,.int .i64 p.topo,.slice E p.states.length F,.slice G p.messages.length c2,.slice I p.values.length J,.int .i64 p.fault,.slice M p.res.length O,.slice U p.initial.length V,.slice W p.leader.length Z,.slice y p.rules.length z]∧y=some ⟨b,aj,none⟩∧w.alloc (.cells #[.string p.name,.int .i64 p.topo,.slice E p.states.length F,.slice G p.messages.length c2,.slice I p.values.length J,.int .i64 p.fault,.slice M p.res.length O,.slice U p.initial.length V,.slice W p.leader.length Z,.slice y p.rules.length z] 27)=w1∧
   (∀j,w1.cell? ⟨w.heap.size,j,none⟩=#[.string p.name,.int .i64 p.topo,.slice E p.states.length F,.slice G p.messages.length c2,.slice I p.values.length J,.int .i64 p.fault,.slice M p.res.length O,.slice U p.initial.length V,.slice W p.leader.length Z,.slice y p.rules.length z][j]?)∧
   (loadCellsFrom ⟨b,aj+i*18,none⟩ 0 18 #[]).run Tryz.prog w1=.ok #[.string r.name,.int .i64 r.kind,.int .i64 r.fr,.int .i64 r.to,.int .i64 r.pf,.int .i64 r.pt,.slice E1 r.resp.length f1,.slice E2 r.guards.length f2,.slice E3 r.ex.length f3,.slice E4 r.fa.length f4,.int .i64 r.rd,.int .i64 r.wr,.slice E5 r.send.length f5,.int .i64 r.at_,.slice E6 r.left.length f6,.slice E7 r.right.length f7,.slice E8 r.parent.length f8,.int .i64 r.dir] w1∧
   (∀c:Array Value,c.size=18→(storeCells ⟨w1.heap.size,0,none⟩ [.string r.name,.int .i64 r.kind,.int .i64 r.fr,.int .i64 r.to,.int .i64 r.pf,.int .i64 r.pt,.slice E1 r.resp.length f1,.slice E2 r.guards.length f2,.slice E3 r.ex.length f3,.slice E4 r.fa.length f4,.int .i64 r.rd,.int .i64 r.wr,.slice E5 r.send.length f5,.int .i64 r.at_,.slice E6 r.left.length f6,.slice E7 r.right.length f7,.slice E8 r.parent.length f8,.int .i64 r.dir] 0).run Tryz.prog (w1.alloc (.cells c 48))=.ok () w2)∧
   BM w2 w.heap.size w1.heap.size #[.string p.name,.int .i64 p.topo,.slice E p.states.length F,.slice G p.messages.length c2,.slice I p.values.length J,.int .i64 p.fault,.slice M p.res.length O,.slice U p.initial.length V,.slice W p.leader.length Z,.slice y p.rules.length z] #[.string r.name,.int .i64 r.kind,.int .i64 r.fr,.int .i64 r.to,.int .i64 r.pf,.int .i64 r.pt,.slice E1 r.resp.length f1,.slice E2 r.guards.length f2,.slice E3 r.ex.length f3,.slice E4 r.fa.length f4,.int .i64 r.rd,.int .i64 r.wr,.slice E5 r.send.length f5,.int .i64 r.at_,.slice E6 r.left.length f6,.slice E7 r.right.length f7,.slice E8 r.parent.length f8,.int .i64 r.dir] p r∧
   BJ w2 w2.heap.size 18 (AB w2 w2.heap.size) y (p.rules.take i)∧w2.cell? ⟨w1.heap.size,0,none⟩=some (.string r.name)∧w1.heap.size<w2.heap.size∧Below w.heap.size w w2∧(p.rules.take i).length=i∧b<w1.heap.size:=by
 obtain⟨E,F,G,c2,I,J,M,O,U,V,W,Z,y,z,rfl,h1,h2,h3,h4,h5,h6,h7,ao⟩:=h
 have ap:=AO hr
 have aD:=h7.1
 obtain⟨w1,aE,ai,aq,aS⟩:=Ag w #[.string p.name,.int .i64 p.topo,.slice E p.states.length F,.slice G p.messages.length c2,.slice I p.values.length J,.int .i64 p.fault,.slice M p.res.length O,.slice U p.initial.length V,.slice W p.leader.length Z,.slice y p.rules.length z] 27
 have ak:=ai.size
 have aF:Ax w1 w1.heap.size [.string p.name,.int .i64 p.topo,.slice E p.states.length F,.slice G p.messages.length c2,.slice I p.values.length J,.int .i64 p.fault,.slice M p.res.length O,.slice U p.initial.length V,.slice W p.leader.length Z,.slice y p.rules.length z] p:=Ax.keep ⟨E,F,G,c2,I,J,M,O,U,V,W,Z,y,z,rfl,h1,h2,h3,h4,h5,h6,h7,ao⟩ (fun _ f=>ai.cell f) ak
 have ar:=h7.keep (w':=w1) (B':=w1.heap.size) (R':=AB w1 w1.heap.size) (fun _ f=>ai.cell f) (fun _ _ h=>h.keep (fun _ f=>ai.cell f) ak) ak
 obtain⟨b,aj,r',rc,hA,aH,he,-,aJ,hR⟩:=ar.at ap
 rw [hr] at he
 have aK:=Option.some.inj he
 subst aK
 have aL:=hide hR
 obtain⟨E1,f1,E2,f2,E3,f3,E4,f4,E5,f5,E6,f6,E7,f7,E8,f8,rfl,-⟩:=hR
 have aM:AB w1 w1.heap.size [.string r.name,.int .i64 r.kind,.int .i64 r.fr,.int .i64 r.to,.int .i64 r.pf,.int .i64 r.pt,.slice E1 r.resp.length f1,.slice E2 r.guards.length f2,.slice E3 r.ex.length f3,.slice E4 r.fa.length f4,.int .i64 r.rd,.int .i64 r.wr,.slice E5 r.send.length f5,.int .i64 r.at_,.slice E6 r.left.length f6,.slice E7 r.right.length f7,.slice E8 r.parent.length f8,.int .i64 r.dir] r:=aL.out
 have aN:=run_loadCells_list (P:=Tryz.prog) w1 ⟨b,aj+i*18,none⟩ [.string r.name,.int .i64 r.kind,.int .i64 r.fr,.int .i64 r.to,.int .i64 r.pf,.int .i64 r.pt,.slice E1 r.resp.length f1,.slice E2 r.guards.length f2,.slice E3 r.ex.length f3,.slice E4 r.fa.length f4,.int .i64 r.rd,.int .i64 r.wr,.slice E5 r.send.length f5,.int .i64 r.at_,.slice E6 r.left.length f6,.slice E7 r.right.length f7,.slice E8 r.parent.length f8,.int .i64 r.dir] (fun j v hv=>by rw [Addr.add_mid]; exact aJ j v hv)
 obtain⟨w2,aP,C,aQ,aU⟩:=Ag w1 #[.string r.name,.int .i64 r.kind,.int .i64 r.fr,.int .i64 r.to,.int .i64 r.pf,.int .i64 r.pt,.slice E1 r.resp.length f1,.slice E2 r.guards.length f2,.slice E3 r.ex.length f3,.slice E4 r.fa.length f4,.int .i64 r.rd,.int .i64 r.wr,.slice E5 r.send.length f5,.int .i64 r.at_,.slice E6 r.left.length f6,.slice E7 r.right.length f7,.slice E8 r.parent.length f8,.int .i64 r.dir] 48
 have am:BM w2 w.heap.size w1.heap.size #[.string p.name,.int .i64 p.topo,.slice E p.states.length F,.slice G p.messages.length c2,.slice I p.values.length J,.int .i64 p.fault,.slice M p.res.length O,.slice U p.initial.length V,.slice W p.leader.length Z,.slice y p.rules.length z] #[.string r.name,.int .i64 r.kind,.int .i64 r.fr,.int .i64 r.to,.int .i64 r.pf,.int .i64 r.pt,.slice E1 r.resp.length f1,.slice E2 r.guards.length f2,.slice E3 r.ex.length f3,.slice E4 r.fa.length f4,.int .i64 r.rd,.int .i64 r.wr,.slice E5 r.send.length f5,.int .i64 r.at_,.slice E6 r.left.length f6,.slice E7 r.right.length f7,.slice E8 r.parent.length f8,.int .i64 r.dir] p r:=
  ⟨aF.keep (fun _ f=>C.cell f) C.size,aM.keep (fun _ f=>C.cell f) C.size,aq.below C,aQ,(hT.below ai).below C⟩
 exact⟨E,F,G,c2,I,J,M,O,U,V,W,Z,y,z,E1,f1,E2,f2,E3,f3,E4,f4,E5,f5,E6,f6,E7,f7,E8,f8,b,aj,w1,w2,aD,ao,ap,rfl,hA,aE,aq.cell,aN,fun c hc=>by rw [←aP]; exact run_storeCells_new w1 48 c #[.string r.name,.int .i64 r.kind,.int .i64 r.fr,.int .i64 r.to,.int .i64 r.pf,.int .i64 r.pt,.slice E1 r.resp.length f1,.slice E2 r.guards.length f2,.slice E3 r.ex.length f3,.slice E4 r.fa.length f4,.int .i64 r.rd,.int .i64 r.wr,.slice E5 r.send.length f5,.int .i64 r.at_,.slice E6 r.left.length f6,.slice E7 r.right.length f7,.slice E8 r.parent.length f8,.int .i64 r.dir] (by kernel_rfl) hc (by simp [Value.oneCell']),am,
  (ar.keep (w':=w2) (B':=w2.heap.size) (R':=AB w2 w2.heap.size) (fun _ f=>C.cell f) (fun _ _ h=>h.keep (fun _ f=>C.cell f) C.size) C.size).take i,am.b5.cell 0,am.b5.lt,ai.trans (C.mono ak),by rw [List.length_take]; omega,aH⟩
end Go.Proofs.YtlakpndhhelliaaGreatDoor.K
namespace Go.Proofs.YtlakpndhhelliaaGreatDoor.K
open Go.RowKit
attribute [-go_sem] loadCellsFrom storeCells
structure Ao.Small (p:Ao):Prop where
 name:p.name.size≤500
 states:p.states.length≤60
 messages:p.messages.length≤60
 values:p.values.length≤60
 res:p.res.length≤60
 initial:p.initial.length≤60
 leader:p.leader.length≤60
 rules:p.rules.length≤30
 rule:∀r∈p.rules,r.Small∧r.name.size≤500
 names:∀s∈AP p,s.size≤500
theorem _root_.Go.Proofs.YtlakpndhhelliaaGreatDoor.Sl.takeS {D:Type} {w:World} {B sz:Nat} {enc:D→Nat→Value} {A:Option Addr} {ds:List D} (h:Sl w B sz enc A ds) (n:Nat):Sl w B sz enc A (ds.take n):=
 ⟨Nat.le_trans (List.length_take_le' ..) h.1,fun f=>by
  obtain⟨b,y,e,z,C⟩:=h.2 (by rintro rfl; simp at f)
  refine⟨b,y,e,z,fun i d hd=>C i d ?_⟩
  rw [List.getElem?_take] at hd
  split at hd
  ·exact hd
  ·cases hd⟩
theorem Gr {w:World} {base e size n c:Nat} {A:Option Addr} {xs:List Value} (h:w.ownsRow base e size (.slice A n c) n xs):n≤c:=by
 rcases h.2 with⟨e,f⟩ | ⟨g,y,z,e,_,_,C,_⟩
 ·omega
 ·injection e with E F G
  omega
theorem Hj {w:World} {base n c:Nat} {A:Option Addr} {L:List ByteArray} (h:w.ownsRow base 9 1 (.slice A n c) n (Dl L)) (I:n≤900000):L.length=n∧Sl w w.heap.size 1 Bx A L:=by
 have y:L.length=n:=by
  have:=h.1
  simpa [Dl] using this
 refine⟨y,by omega,fun z=>?_⟩
 rcases h.2 with⟨_,J⟩ | ⟨g,M,O,e,_,C,_,_,_,_⟩
 ·exact absurd (List.length_eq_zero_iff.1 (by omega)) z
 ·injection e with E U F
  subst E F
  refine⟨g,0,rfl,(Array.getElem?_eq_some_iff.1 C).1,fun k d hd j V=>?_⟩
  have hk:k<L.length:=by
   rcases Nat.lt_or_ge k L.length with f | f
   ·exact f
   ·rw [List.getElem?_eq_none f] at hd; cases hd
  have G:j=0:=by omega
  subst G
  have:=h.cellAt k (by omega)
  rw [show 0+k*1+0=k by omega,this]
  simp [Dl,hd]
def nmE (L:List ByteArray) (i:Nat):Int:=Ac (!Ab (L.getD i .empty)||decide (L.getD i .empty∈L.take i)) 2
theorem G8 {L:List ByteArray} {k:Nat} (hk:k<L.length) (h:Ah (nmE L) (List.range k)=0) {s:ByteArray} (f:L[k]?=some s) (y:Ab s=true) (z:s∉L.take k):Ah (nmE L) (List.range (k+1))=0:=by
 have C:(List.range L.length)[k]?=some k:=by rw [List.getElem?_range hk]
 have ht:=Cq (nmE L) C (by rw [List.take_range,Nat.min_eq_left (by omega)]; exact h)
 rw [List.take_range,Nat.min_eq_left (by omega)] at ht
 rw [ht]
 simp [nmE,f,y,z,Ac]
theorem ET {L:List ByteArray} {k:Nat} (hk:k<L.length) (h:Ah (nmE L) (List.range k)=0) {s:ByteArray} (z:L[k]?=some s) (f:Ab s=false∨s∈L.take k):CB Ab L=2:=by
 have C:(List.range L.length)[k]?=some k:=by rw [List.getElem?_range hk]
 have y:nmE L k=2:=by
  rcases f with f | f <;> simp [nmE,z,f,Ac]
 have ht:=Cd (nmE L) C (by rw [List.take_range,Nat.min_eq_left (by omega)]; exact h) (by rw [y]; decide)
 rw [y] at ht
 exact ht
theorem I8 {w:World} {cs:List Value} {p:Ao} (h:Ax w w.heap.size cs p) (M:p.Small) (hT:AL w):
  Calls Tryz.prog 46 #[.agg cs.toArray] w (Ret fun v w'=>v=.int .i64 (CB Ab (AP p))∧Below w.heap.size w w'):=by
 obtain⟨A1,c1,A2,c2,A3,c3,A4,c4,A5,c5,A6,c6,A7,c7,rfl,h1,O,h3,h4,h5,h6,h7,aV⟩:=h
 have b9:=M.states
 have ba:=M.messages
 have bb:=M.values
 have aW:=hide M.names
 obtain⟨w1,bc,z,av,aX⟩:=Ag w #[.string p.name,.int .i64 p.topo,.slice A1 p.states.length c1,.slice A2 p.messages.length c2,.slice A3 p.values.length c3,.int .i64 p.fault,.slice A4 p.res.length c4,.slice A5 p.initial.length c5,.slice A6 p.leader.length c6,.slice A7 p.rules.length c7] 27
 have bd:=av.cell
 obtain⟨w2,be,C,U,aY⟩:=Ag w1 #[.slice A1 p.states.length c1,.slice A2 p.messages.length c2,.slice A3 p.values.length c3] 22
 have aZ:=z.size
 have bf:=C.size
 have aw:=h1.keep (w':=w2) (B':=w.heap.size) (fun _ E=>(C.cell (by omega)).trans (z.cell E)) (Nat.le_refl _)
 have ax:=O.keep (w':=w2) (B':=w.heap.size) (fun _ E=>(C.cell (by omega)).trans (z.cell E)) (Nat.le_refl _)
 have ay:=h3.keep (w':=w2) (B':=w.heap.size) (fun _ E=>(C.cell (by omega)).trans (z.cell E)) (Nat.le_refl _)
 have az:LL w2 w.heap.size w1.heap.size 0 (fun k=>[A1,A2,A3].getD k none) (fun k=>[c1,c2,c3].getD k 0) [p.states,p.messages,p.values]:=by
  intro k l y
  match k,y with
  | 0,y=>obtain rfl:=Option.some.inj y; exact⟨U.cell 0,aw⟩
  | 1,y=>obtain rfl:=Option.some.inj y; exact⟨U.cell 1,ax⟩
  | 2,y=>obtain rfl:=Option.some.inj y; exact⟨U.cell 2,ay⟩
  | k+3,y=>simp at y
 have af:([p.states,p.messages,p.values]:List (List ByteArray)).flatten=AP p:=by simp [AP]
 have bg:(AP p).length≤180:=by simp only [AP,List.length_append]; omega
 have ag:=MA (c:=3) az U.lt (by omega) (by rw [af]; omega) (by simp) (by simp)
 rw [af] at ag
 have b0:=hide ag
 have aA:=hide (z.trans (C.mono aZ))
 have b1:=hide ((hT.below z).below C)
 have b2:=hide (show CB Ab (AP p)=Ah (nmE (AP p)) (List.range (AP p).length) from rfl)
 clear ag az aw ax ay af z C av aX aY U h1 O h3 h4 h5 h6 h7 M hT aV
 generalize AP p=L at*
 go_enter Tryz.func46,Tryz.ntmps46
 go_wp2_with (go_at_call 69; refine Calls.ret b0.out ?_; rintro v V ⟨a5,ah⟩; obtain⟨Av,cv,hv⟩:=AV a5; subst hv; have aC:=hide (Hj a5 (by omega)).2; have bi:=Gr a5; have G:=hide (aA.out.trans (ah.mono aA.out.size)); have b4:=hide (b1.out.below ah); clear a5 ah)
 go_loopw [16] (fun ii wr=>∃(k:Nat),ii=.int .i64 (k:Int)∧k≤L.length∧Hid (Ah (nmE L) (List.range k)=0)∧Hid (Below V.heap.size V wr)) (fun ii _=>L.length - (intOf ii).toNat)
 case atStart=>exact⟨0,rfl,Nat.zero_le _,by show _=_; rfl,Below.refl _ _⟩
 case round=>
  obtain⟨k,rfl,hk,W,Z⟩:=hrel
  by_cases a6:k<L.length
  ·obtain⟨b,aD,s,hA,b6,aj,hc⟩:=aC.out.at a6
   have d0:=hc 0 (by omega)
   simp only [Nat.add_zero,Nat.mul_one,Bx] at d0
   have d1:=(Z.out.cell (p:=⟨b,aD+k,none⟩) b6).trans d0
   have bk:=aW.out s (List.mem_of_getElem? aj)
   have al:=hide aj
   subst hA
   clear hc d0 aj
   have a7:∀f,Below wr.heap.size wr f→Hid (Below V.heap.size V f):=fun f hx=>hide (Z.out.trans (hx.mono Z.out.size))
   have an:=hide (b4.out.below Z.out)
   cases a8:Ab s with
   | false=>
    have I:=hide a8
    clear a8
    go_wp2_with (go_at_call 23; refine Calls.ret (CG s _ (by omega) an.out) ?_; rintro v f ⟨rfl,F⟩; rw [I.out])
    go_ret
    refine⟨?_,G.out.trans ((a7 _ F).out.mono G.out.size)⟩
    rw [ET a6 W.out al.out (.inl I.out)]
    rfl
   | true=>
    have I:=hide a8
    clear a8
    have aF:(L.take k).length=k:=by rw [List.length_take]; omega
    have b7:=hide aF
    clear aF
    have aG:∀f,Below wr.heap.size wr f→Hid (Calls Tryz.prog 70 #[.slice (some ⟨b,aD,none⟩) k cv,.string s] f fun r w'=>r=.returned (.bool (decide (s∈L.take k)))∧f=w'):=by
     intro f hx
     have h1:=(aC.out.keep (w':=f) (B':=V.heap.size) (fun _ E=>(a7 f hx).out.cell E) (Nat.le_refl _)).takeS k
     have O:=IH (c:=cv) (x:=s) h1
     rw [b7.out] at O
     exact O
    have aH:=hide aG
    clear aG
    by_cases J:s∈L.take k
    ·have ao:=hide J
     have a2:decide (s∈L.take k)=true:=decide_eq_true J
     have ap:=hide a2
     clear J a2
     go_wp2_with (first
      | (go_at_call 23; refine Calls.ret (CG s _ (by omega) an.out) ?_; rintro v f ⟨rfl,F⟩; rw [I.out]; have a3:=hide F; clear F)
      | (go_at_call 70; refine(aH.out _ a3.out).out.mono ?_; rintro r w' ⟨rfl,rfl⟩; rw [ap.out]))
     go_ret
     refine⟨?_,G.out.trans ((a7 _ a3.out).out.mono G.out.size)⟩
     rw [ET a6 W.out al.out (.inr ao.out)]
     rfl
    ·have ao:=hide J
     have a2:decide (s∈L.take k)=false:=decide_eq_false J
     have ap:=hide a2
     clear J a2
     go_wp2_with (first
      | (go_at_call 23; refine Calls.ret (CG s _ (by omega) an.out) ?_; rintro v f ⟨rfl,F⟩; rw [I.out]; have a3:=hide F; clear F)
      | (go_at_call 70; refine(aH.out _ a3.out).out.mono ?_; rintro r w' ⟨rfl,rfl⟩; rw [ap.out]))
     exact⟨⟨k+1,by go_num,by omega,G8 a6 W.out al.out I.out ao.out,a7 _ a3.out⟩,by simp [intOf]; omega⟩
  ·have e:k=L.length:=by omega
   have aq:=W.out
   rw [e,←b2.out] at aq
   have b8:=hide aq
   clear aq e W
   go_wp2_with fail
   go_ret
   exact⟨by rw [b8.out]; rfl,G.out.trans (Z.out.mono G.out.size)⟩
end Go.Proofs.YtlakpndhhelliaaGreatDoor.K
namespace Go.Proofs.YtlakpndhhelliaaGreatDoor.K
open Go.RowKit
attribute [-go_sem] loadCellsFrom storeCells
theorem Ax.rules_at {w:World} {B:Nat} {cs:List Value} {p:Ao} (h:Ax w B cs p):cs.toArray.size=10∧∃A c,cs.toArray[9]?=some (.slice A p.rules.length c)∧BJ w B 18 (AB w B) A p.rules∧p.rules.length≤c:=by
 obtain⟨E,F,G,c2,I,J,M,O,U,V,W,Z,f,y,rfl,h1,h2,h3,h4,h5,h6,z,C⟩:=h
 exact⟨rfl,f,y,rfl,z,C⟩
structure ED (w:World) (B:Nat) (rc:Array Value) (r:As):Prop where
 size:rc.size=18
 one:rc.all (·.oneCell')=true
 is:AB w B rc.toList r
theorem AB.c {w:World} {B:Nat} {cs:List Value} {r:As} (h:AB w B cs r):ED w B cs.toArray r:=by
 refine⟨?_,?_,by simpa using h⟩ <;> obtain⟨f,y,z,c2,C,E,F,G,I,J,M,O,U,V,W,Z,rfl,_⟩:=h
 ·rfl
 ·simp [Value.oneCell']
theorem ED.guards {w:World} {B:Nat} {rc:Array Value} {r:As} (h:ED w B rc r):∃A c,rc[7]?=some (.slice A r.guards.length c)∧Sl w B 6 CC A r.guards:=by
 obtain⟨z,C,f,c2,E,F,G,I,J,M,O,U,V,W,Z,c8,e,h1,y,h3,h4,h5,h6,h7,h8⟩:=h.is
 refine⟨f,c2,?_,y⟩
 rw [←Array.getElem?_toList,e]
 rfl
theorem BU {w:World} {B:Nat} {A:Option Addr} {l:List As} (h:BJ w B 18 (AB w B) A l) {i:Nat} {r:As} (z:l[i]?=some r):
  ∃b f rc,A=some ⟨b,f,none⟩∧b<B∧ED w B rc r∧(∀j v,rc[j]?=some v→w.cell? ⟨b,f+i*18+j,none⟩=some v)∧((loadCellsFrom ⟨b,f+i*18,none⟩ 0 18 #[]).run Tryz.prog w=.ok rc w):=by
 obtain⟨b,f,V,rc,F,G,C,I,E,J⟩:=h.at (AO z)
 rw [z] at C
 have M:=Option.some.inj C
 subst M
 have O:=J.c
 have U:∀j v,rc.toArray[j]?=some v→w.cell? ⟨b,f+i*18+j,none⟩=some v:=fun j v y=>E j v (by simpa using y)
 refine⟨b,f,rc.toArray,F,G,O,U,?_⟩
 have:=run_loadCells_list (P:=Tryz.prog) w ⟨b,f+i*18,none⟩ rc (fun j v y=>by rw [Addr.add_mid]; exact E j v y)
 rw [I] at this
 simpa [loadCells] using this
theorem Cf (w:World) (t n:Nat) (h:(Tryz.prog.info? t).map (·.size)=some n) {rc:Array Value} (f:rc.size=n) (y:rc.all (·.oneCell')=true):
  ∀c:Array Value,c.size=n→(storeCells ⟨w.heap.size,0,none⟩ rc.toList 0).run Tryz.prog (w.alloc (.cells c t))=.ok () (w.alloc (.cells rc t)):=fun c z=>
 run_storeCells_new w t c rc (by rw [h,f]) (by rw [z,f]) y
theorem Ej {w w':World} {base e size n:Nat} {v:Value} {xs:List Value} (h:w.ownsRow base e size v n xs) (f:Below w.heap.size w w'):w'.ownsRow base e size v n xs:=(Ae.of_below f fun _=>False).ownsRow h (fun _ _=>id)
theorem Ib {w:World} {base base' e size n:Nat} {v:Value} {xs:List Value} (h:w.ownsRow base e size v n xs) (E:base'≤base):w.ownsRow base' e size v n xs:=by
 refine⟨h.1,?_⟩
 rcases h.2 with f | ⟨g,y,z,e,F,C⟩
 ·exact .inl f
 ·exact .inr ⟨g,y,z,e,by omega,C⟩
theorem OI:(Tryz.prog.info? 128).map (fun i=>(i.zero,i.size,i.bytes))=some (some (Dj ⟨0,0,⟨0,0,0,0⟩⟩),6,48):=by kernel_rfl
theorem JA:C4 Tryz.prog 46 128 6:=EH Tryz.underlying46 OI rfl (by omega) (by omega)
def CH (g:Thr):List Value:=[.int .i64 g.msg,.int .i64 g.coef,.int .i64 g.bound.c,.int .i64 g.bound.n,.int .i64 g.bound.t,.int .i64 g.bound.f]
def Co (L:List Thr):List Value:=L.flatMap CH
theorem Pu (L:List Thr):(Co L).length=L.length*6:=by
 induction L with
 | nil=>rfl
 | cons x L ih=>
  have:Co (x::L)=CH x++Co L:=rfl
  rw [this,List.length_append,ih,List.length_cons]
  show 6+_=_
  omega
theorem Ir (L:List Thr) (g:Thr):Co (L++[g])=Co L++CH g:=by simp [Co]
theorem JJ:∀(L:List Thr) (k:Nat) (d:Thr),L[k]?=some d→∀j,j<6→(Co L)[k*6+j]?=some (CC d j)
 | [],k,d,h,_,_=>by simp at h
 | x::L,0,d,h,j,hj=>by
  obtain rfl:x=d:=by simpa using h
  have:Co (x::L)=CH x++Co L:=rfl
  rw [this,Nat.zero_mul,Nat.zero_add,List.getElem?_append_left (by show j<6; exact hj)]
  match j,hj with
  | 0,_=>rfl
  | 1,_=>rfl
  | 2,_=>rfl
  | 3,_=>rfl
  | 4,_=>rfl
  | 5,_=>rfl
 | x::L,k+1,d,h,j,hj=>by
  have:Co (x::L)=CH x++Co L:=rfl
  rw [this,List.getElem?_append_right (by show 6≤_; omega),show(k+1)*6+j - (CH x).length=k*6+j from by show(k+1)*6+j - 6=_; omega]
  exact JJ L k d (by simpa using h) j hj
theorem JV {w:World} {base n c:Nat} {A:Option Addr} {L:List Thr} (h:w.ownsRow base 128 6 (.slice A n c) n (Co L)) (G:n≤900000):L.length=n∧Sl w w.heap.size 6 CC A L:=by
 have f:L.length=n:=by
  have:=h.1
  rw [Pu] at this
  omega
 refine⟨f,by omega,fun y=>?_⟩
 rcases h.2 with⟨_,I⟩ | ⟨g,J,M,e,_,z,_,_,_,_⟩
 ·exact absurd (List.length_eq_zero_iff.1 (by omega)) y
 ·injection e with C O E
  subst C E
  refine⟨g,0,rfl,(Array.getElem?_eq_some_iff.1 z).1,fun k d hd j F=>?_⟩
  have hk:=AO hd
  rw [show 0+k*6+j=k*6+j by omega,h.cellAt (k*6+j) (by omega)]
  exact JJ L k d hd j F
theorem NN (s:List Thr) (g:Thr):(Bp s g).length≤s.length+1:=by
 unfold Bp
 split <;> simp
theorem Is:∀(l s:List Thr),(l.foldl Bp s).length≤s.length+l.length
 | [],s=>by simp
 | g::l,s=>by
  have f:=Is l (Bp s g)
  have h:=NN s g
  simp only [List.foldl_cons,List.length_cons]
  omega
theorem IA {l:List Thr} {k:Nat} {g:Thr} (h:l[k]?=some g) (s:List Thr):(l.take (k+1)).foldl Bp s=Bp ((l.take k).foldl Bp s) g:=by
 rw [show l.take (k+1)=l.take k++[g] by rw [List.take_add_one,h]; rfl,List.foldl_append]
 rfl
theorem Hv {l:List As} {i:Nat} {r:As} (h:l[i]?=some r):BH (l.take (i+1))=r.guards.foldl Bp (BH (l.take i)):=by
 unfold BH
 rw [show l.take (i+1)=l.take i++[r] by rw [List.take_add_one,h]; rfl,List.flatMap_append,List.foldl_append]
 simp
theorem H7:∀(l:List As),(∀r∈l,r.guards.length≤60)→(l.flatMap As.guards).length≤60*l.length
 | [],_=>by simp
 | r::l,h=>by
  have y:=H7 l (fun x f=>h x (by simp [f]))
  have z:=h r (by simp)
  rw [List.flatMap_cons,List.length_append,List.length_cons]
  omega
theorem Ez (l:List As) (h:∀r∈l,r.guards.length≤60):(BH l).length≤60*l.length:=by
 have f:=Is (l.flatMap As.guards) []
 have y:=H7 l h
 unfold BH
 rw [List.length_nil] at f
 omega
theorem HN {w:World} {cs:List Value} {p:Ao} (h:Ax w w.heap.size cs p) (aa:p.Small):
  Calls Tryz.prog 49 #[.agg cs.toArray] w (Ret fun v w'=>w'.ownsRow w.heap.size 128 6 v (BH p.rules).length (Co (BH p.rules))∧Below w.heap.size w w'):=by
 have am:=hide (show ∀r∈p.rules,r.guards.length≤60 from fun r F=>(aa.rule r F).1.2.1)
 have bb:=aa.rules
 obtain⟨bc,A7,c7,an,ao,bd⟩:=h.rules_at
 generalize aD:cs.toArray=pc at*
 clear aD h
 generalize aE:p.rules=rs at*
 clear aE aa
 obtain⟨w1,be,U,ab,aF⟩:=Ag w pc 27
 have a3:=U.size
 have bf:w1.cell? ⟨w.heap.size,9,none⟩=some (.slice A7 rs.length c7):=by rw [ab.cell,an]
 have aG:=hide (ao.keep (w':=w1) (B':=w1.heap.size) (R':=AB w1 w1.heap.size) (fun _ z=>U.cell z) (fun _ _ h=>h.keep (fun _ z=>U.cell z) a3) a3)
 have aH:=hide U
 have bg:=ab.lt
 clear ao U aF ab an
 go_enter Tryz.func49,Tryz.ntmps49
 go_wp2_with fail
 go_loopw [3,11] (fun vv ii wr=>∃(i n:Nat),ii=.int .i64 (i:Int)∧i≤rs.length∧Hid (wr.ownsRow w1.heap.size 128 6 vv n (Co (BH (rs.take i))))∧Hid (n=(BH (rs.take i)).length)∧Hid (Below w1.heap.size w1 wr)) (fun _ ii _=>rs.length - (intOf ii).toNat)
 case atStart=>exact⟨0,0,rfl,Nat.zero_le _,World.ownsRow_nil _ _ _ _,by show _=_; rfl,Below.refl _ _⟩
 case round=>
  obtain⟨i,n,rfl,hi,C,hn,M⟩:=hrel
  by_cases aJ:i<rs.length
  ·obtain⟨r,F⟩:∃r,rs[i]?=some r:=⟨_,List.getElem?_eq_getElem aJ⟩
   obtain⟨b,bi,rc,hA,bj,O,aL,bk⟩:=BU (aG.out.keep (w':=wr) (B':=w1.heap.size) (R':=AB wr w1.heap.size) (fun _ z=>M.out.cell z) (fun _ _ h=>h.keep (fun _ z=>M.out.cell z) (Nat.le_refl _)) (Nat.le_refl _)) F
   obtain⟨w2,aM,af,ap,aN⟩:=Ag wr rc 48
   have aO:=Cf wr 48 18 (by kernel_rfl) O.size O.one
   rw [aM] at aO
   obtain⟨Eg,fg,aq,ar⟩:=O.guards
   have bl:=hide F
   have bm:=hide O
   have bn:w2.cell? ⟨wr.heap.size,7,none⟩=some (.slice Eg r.guards.length fg):=by rw [ap.cell,aq]
   have bo:=am.out r (List.mem_of_getElem? F)
   have E:=hide (Ej C.out af)
   have bp:=O.size
   have aR:=hide (ar.keep (w':=w1) (B':=w1.heap.size) (fun _ z=>(M.out.cell z).symm) (Nat.le_refl _))
   have au:=hide (M.out.trans (af.mono M.out.size))
   have aS:=hide (Hv F)
   have aT:=hide (Ez (rs.take i) (fun r F=>am.out r (List.mem_of_mem_take F)))
   have bq:n≤1800:=by
    have h1:=aT.out
    rw [hn.out]
    rw [List.length_take] at h1
    omega
   subst hA
   clear aL O aN ap F aq C ar af
   go_wp2_with fail
   go_loopw [3,18] (fun vv jj wr=>∃(j n:Nat),jj=.int .i64 (j:Int)∧j≤r.guards.length∧n≤1800+j∧Hid (wr.ownsRow w1.heap.size 128 6 vv n (Co ((r.guards.take j).foldl Bp (BH (rs.take i)))))∧Hid (n=((r.guards.take j).foldl Bp (BH (rs.take i))).length)∧Hid (Below w1.heap.size w1 wr)) (fun _ jj _=>r.guards.length - (intOf jj).toNat)
   case atStart=>exact⟨0,n,rfl,Nat.zero_le _,by omega,by show World.ownsRow _ _ _ _ _ _ _; simpa using E.out,by show _=_; simpa using hn.out,au.out⟩
   case round=>
    obtain⟨j,m,rfl,hj,hm,C,V,a5⟩:=hrel
    by_cases aV:j<r.guards.length
    ·obtain⟨b2,av,g,aW,bt,hg,aw⟩:=(aR.out.keep (w':=wr) (B':=w1.heap.size) (fun _ z=>a5.out.cell z) (Nat.le_refl _)).at aV
     have bu:(loadCellsFrom ⟨b2,av+j*6,none⟩ 0 6 #[]).run Tryz.prog wr=.ok #[.int .i64 g.msg,.int .i64 g.coef,.int .i64 g.bound.c,.int .i64 g.bound.n,.int .i64 g.bound.t,.int .i64 g.bound.f] wr:=by
      have:=run_loadCells_list (P:=Tryz.prog) wr ⟨b2,av+j*6,none⟩ (CH g) (fun k v y=>by
       rw [Addr.add_mid]
       have hk:=AO y
       rw [aw k hk]
       match k,hk,y with
       | 0,_,y=>exact congrArg some (Option.some.inj y)
       | 1,_,y=>exact congrArg some (Option.some.inj y)
       | 2,_,y=>exact congrArg some (Option.some.inj y)
       | 3,_,y=>exact congrArg some (Option.some.inj y)
       | 4,_,y=>exact congrArg some (Option.some.inj y)
       | 5,_,y=>exact congrArg some (Option.some.inj y))
      simpa [loadCells,CH] using this
     have a6:=hide (IA hg (BH (rs.take i)))
     have aX:=hide (show Dj g=.agg #[.int .i64 g.msg,.int .i64 g.coef,.int .i64 g.bound.c,.int .i64 g.bound.n,.int .i64 g.bound.t,.int .i64 g.bound.f] from rfl)
     obtain⟨w3,aY,aj,ak,aZ⟩:=Ag wr #[.int .i64 g.msg,.int .i64 g.coef,.int .i64 g.bound.c,.int .i64 g.bound.n,.int .i64 g.bound.t,.int .i64 g.bound.f] 128
     have bv:∀c:Array Value,c.size=6→(storeCells ⟨wr.heap.size,0,none⟩ [.int .i64 g.msg,.int .i64 g.coef,.int .i64 g.bound.c,.int .i64 g.bound.n,.int .i64 g.bound.t,.int .i64 g.bound.f] 0).run Tryz.prog (wr.alloc (.cells c 128))=.ok () w3:=fun c hc=>by rw [←aY]; exact Cf wr 128 6 (by kernel_rfl) (rc:=#[.int .i64 g.msg,.int .i64 g.coef,.int .i64 g.bound.c,.int .i64 g.bound.n,.int .i64 g.bound.t,.int .i64 g.bound.f]) rfl (by simp [Value.oneCell']) c hc
     have bw:(loadCellsFrom ⟨wr.heap.size,0,none⟩ 0 6 #[]).run Tryz.prog w3=.ok #[.int .i64 g.msg,.int .i64 g.coef,.int .i64 g.bound.c,.int .i64 g.bound.n,.int .i64 g.bound.t,.int .i64 g.bound.f] w3:=Am ak rfl
     have I:=Ej C.out aj
     obtain⟨Av,cv,y⟩:=AV C.out
     subst y
     have ax:=(JV I (by omega)).2
     have ay:((r.guards.take j).foldl Bp (BH (rs.take i))).length=m:=V.out.symm
     have al:=hide (Kt (c:=cv) (x:=g) ax (Nat.le_refl _))
     rw [ay,aX.out] at al
     have a7:=hide (a5.out.trans (aj.mono a5.out.size))
     have bz:=hide hg
     have b3:=hide ak
     have az:=hide I
     subst aW
     clear aw aZ ak aj hg ax ay C I
     generalize ((r.guards.take j).foldl Bp (BH (rs.take i)))=L at*
     cases a8:decide (g∈L)
     ·have W:=hide a8
      clear a8
      have Z:=hide (show Bp L g=L++[g] from if_neg (of_decide_eq_false W.out))
      go_wp2_with (first
       | (go_at_call 79; refine Calls.ret al.out ?_; rintro v w4 ⟨rfl,G⟩; rw [W.out]; have bA:=Am (n:=6) (b3.out.below G) rfl; have a9:=hide (Ej az.out G); have a2:=hide (a7.out.trans (G.mono a7.out.size)); clear G)
       | (at_builtin; refine CO JA rfl _ _ rfl w1.heap.size _ m _ rfl a9.out (CH g) _ rfl rfl (by simp [CH,Value.oneCell']) (by omega) (by have:=a2.out.size; have:=au.out.size; omega) ?_; intro g5 bB w5 b5 aA b6 b7))
      have b8:=hide (a2.out.trans (aA.below a2.out.size fun b' bD e=>by have:=(a9.out.lt b' e).1; omega))
      clear aA b6 b7
      exact⟨⟨j+1,m+1,by go_num,by omega,by omega,by show World.ownsRow _ _ _ _ _ _ _; rw [a6.out,Z.out,Ir]; exact b5,by show _=_; rw [a6.out,Z.out,List.length_append,V.out]; rfl,b8.out⟩,by simp [intOf]; omega⟩
     ·have W:=hide a8
      clear a8
      have Z:=hide (show Bp L g=L from if_pos (of_decide_eq_true W.out))
      go_wp2_with (go_at_call 79; refine Calls.ret al.out ?_; rintro v w4 ⟨rfl,G⟩; rw [W.out]; have a9:=hide (Ej az.out G); have a2:=hide (a7.out.trans (G.mono a7.out.size)); clear G)
      exact⟨⟨j+1,m,by go_num,by omega,by omega,by show World.ownsRow _ _ _ _ _ _ _; rw [a6.out,Z.out]; exact a9.out,by show _=_; rw [a6.out,Z.out,V.out],a2.out⟩,by simp [intOf]; omega⟩
    ·have e:j=r.guards.length:=by omega
     have E:=C.out
     have J:=V.out
     rw [e,List.take_length,←aS.out] at E J
     have I:=hide E
     have ba:=hide J
     clear E J e C V
     go_wp2_with fail
     exact⟨⟨i+1,m,by go_num,by omega,I.out,ba.out,a5.out⟩,by simp [intOf]; omega⟩
  ·have e:i=rs.length:=by omega
   have E:=C.out
   have J:=hn.out
   rw [e,List.take_length] at E J
   rw [J] at E
   have I:=hide (Ib E a3)
   clear E J e C hn
   go_wp2_with fail
   go_ret
   exact⟨I.out,aH.out.trans (M.out.mono a3)⟩
end Go.Proofs.YtlakpndhhelliaaGreatDoor.K
