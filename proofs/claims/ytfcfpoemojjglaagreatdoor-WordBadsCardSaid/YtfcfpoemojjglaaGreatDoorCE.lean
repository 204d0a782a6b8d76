/-
  Part CE of a proof.
-/
import Derived.Deep.MidRow
import Derived.Deep.WholeRow
import Derived.Test.YtfcfpoemojjglaaGreatDoorPA
import Derived.Test.YtfcfpoemojjglaaGreatDoorCB
import Derived.Test.YtfcfpoemojjglaaGreatDoorCC
import Derived.Test.YtfcfpoemojjglaaGreatDoorCD
set_option maxHeartbeats 16000000
set_option maxRecDepth 100000
set_option linter.unusedVariables false
set_option linter.unusedSimpArgs false
namespace Go.Proofs.YtfcfpoemojjglaaGreatDoor.K
open Go.RowKit
attribute [-go_sem] loadCellsFrom storeCells
structure Cp (w:World) (g2 g5:Nat) (pc rc:Array Value) (p:Am) (r:Az):Prop where
 pr:At w w.heap.size pc.toList p
 ru:AW w w.heap.size rc.toList r
 b2:Blk w g2 27 pc
 b5:Blk w g5 99 rc
 tab:SpOK w
theorem Cp.at {w w':World} {g2 g5:Nat} {pc rc:Array Value} {p:Am} {r:Az} (h:Cp w g2 g5 pc rc p r) (d:Below w.heap.size w w'):Cp w' g2 g5 pc rc p r:=
 ⟨h.pr.keep (fun _ j=>d.cell j) d.size,h.ru.keep (fun _ j=>d.cell j) d.size,h.b2.below d,h.b5.below d,h.tab.below d⟩
theorem Ah {w:World} {g n:Nat} {t:TypeId} {cs:Array Value} (h:Blk w g t cs) (d:cs.size=n):(loadCellsFrom ⟨g,0,none⟩ 0 n #[]).run Tryz.prog w=.ok cs w:=by
 have:=run_loadCells_list (P:=Tryz.prog) w ⟨g,0,none⟩ cs.toList (fun j v l=>by
  rw [Addr.add_mid,Nat.zero_add,h.cell];simpa using l)
 subst d;simpa [loadCells] using this
theorem Cp.load2 {w:World} {g2 g5:Nat} {pc rc:Array Value} {p:Am} {r:Az} (h:Cp w g2 g5 pc rc p r) (d:pc.size=10):(loadCellsFrom ⟨g2,0,none⟩ 0 10 #[]).run Tryz.prog w=.ok pc w:=Ah h.b2 d
theorem Cp.load5 {w:World} {g2 g5:Nat} {pc rc:Array Value} {p:Am} {r:Az} (h:Cp w g2 g5 pc rc p r) (d:rc.size=18):(loadCellsFrom ⟨g5,0,none⟩ 0 18 #[]).run Tryz.prog w=.ok rc w:=Ah h.b5 d
theorem Ev {w:World} {B:Nat} {r:Az} {d j l y C E G I:Option Addr} {J M O f4 U V W Z:Nat} (h:AW w B [.string r.name,.int .i64 r.kind,.int .i64 r.fr,.int .i64 r.to,.int .i64 r.pf,.int .i64 r.pt,.slice d r.resp.length J,.slice j r.guards.length M,.slice l r.ex.length O,.slice y r.fa.length f4,.int .i64 r.rd,.int .i64 r.wr,.slice C r.send.length U,.int .i64 r.at_,.slice E r.left.length V,.slice G r.right.length W,.slice I r.parent.length Z,.int .i64 r.dir] r):
  Sl w B 1 Ai d r.resp/\Sl w B 6 CS j r.guards/\Sl w B 1 Ai l r.ex/\Sl w B 1 Ai y r.fa/\Sl w B 1 Ai C r.send/\Sl w B 1 Ai E r.left/\Sl w B 1 Ai G r.right/\Sl w B 1 Ai I r.parent:=by
 obtain⟨A1,c1,A2,c2,A3,c3,A4,c4,A5,c5,A6,c6,A7,c7,A8,c8,e,h1,h2,h3,h4,h5,h6,h7,h8⟩:=h;simp only [List.cons.injEq,Value.slice.injEq,true_and,and_true] at e;obtain⟨⟨rfl,rfl⟩,⟨rfl,rfl⟩,⟨rfl,rfl⟩,⟨rfl,rfl⟩,⟨rfl,rfl⟩,⟨rfl,rfl⟩,⟨rfl,rfl⟩,⟨rfl,rfl⟩⟩:=e;exact⟨h1,h2,h3,h4,h5,h6,h7,h8⟩
theorem RJ {w:World} {cs:List Value} {p:Am} {r:Az} {i:Nat} (h:At w w.heap.size cs p) (hr:p.rules[i]?=some r) (hT:SpOK w):
  ∃A1 c1 A2 c2 A3 c3 E c4 G c5 I c6 l y J f1 M f2 O f3 U f4 V f5 W f6 Z f7 E8 f8 b ae w1 w2,p.rules.length<=9223372036854775807/\p.rules.length<=y/\i<p.rules.length/\cs=[.string p.name,.int .i64 p.topo,.slice A1 p.states.length c1,.slice A2 p.messages.length c2,.slice A3 p.values.length c3,.int .i64 p.fault,.slice E p.res.length c4,.slice G p.initial.length c5,.slice I p.leader.length c6,.slice l p.rules.length y]/\l=some ⟨b,ae,none⟩/\w.alloc (.cells #[.string p.name,.int .i64 p.topo,.slice A1 p.states.length c1,.slice A2 p.messages.length c2,.slice A3 p.values.length c3,.int .i64 p.fault,.slice E p.res.length c4,.slice G p.initial.length c5,.slice I p.leader.length c6,.slice l p.rules.length y] 27)=w1/\
   (∀j,w1.cell? ⟨w.heap.size,j,none⟩=#[.string p.name,.int .i64 p.topo,.slice A1 p.states.length c1,.slice A2 p.messages.length c2,.slice A3 p.values.length c3,.int .i64 p.fault,.slice E p.res.length c4,.slice G p.initial.length c5,.slice I p.leader.length c6,.slice l p.rules.length y][j]?)/\
   (loadCellsFrom ⟨b,ae+i*18,none⟩ 0 18 #[]).run Tryz.prog w1=.ok #[.string r.name,.int .i64 r.kind,.int .i64 r.fr,.int .i64 r.to,.int .i64 r.pf,.int .i64 r.pt,.slice J r.resp.length f1,.slice M r.guards.length f2,.slice O r.ex.length f3,.slice U r.fa.length f4,.int .i64 r.rd,.int .i64 r.wr,.slice V r.send.length f5,.int .i64 r.at_,.slice W r.left.length f6,.slice Z r.right.length f7,.slice E8 r.parent.length f8,.int .i64 r.dir] w1/\
   (∀c:Array Value,c.size=18->(storeCells ⟨w1.heap.size,0,none⟩ [.string r.name,.int .i64 r.kind,.int .i64 r.fr,.int .i64 r.to,.int .i64 r.pf,.int .i64 r.pt,.slice J r.resp.length f1,.slice M r.guards.length f2,.slice O r.ex.length f3,.slice U r.fa.length f4,.int .i64 r.rd,.int .i64 r.wr,.slice V r.send.length f5,.int .i64 r.at_,.slice W r.left.length f6,.slice Z r.right.length f7,.slice E8 r.parent.length f8,.int .i64 r.dir] 0).run Tryz.prog (w1.alloc (.cells c 99))=.ok () w2)/\
   Cp w2 w.heap.size w1.heap.size #[.string p.name,.int .i64 p.topo,.slice A1 p.states.length c1,.slice A2 p.messages.length c2,.slice A3 p.values.length c3,.int .i64 p.fault,.slice E p.res.length c4,.slice G p.initial.length c5,.slice I p.leader.length c6,.slice l p.rules.length y] #[.string r.name,.int .i64 r.kind,.int .i64 r.fr,.int .i64 r.to,.int .i64 r.pf,.int .i64 r.pt,.slice J r.resp.length f1,.slice M r.guards.length f2,.slice O r.ex.length f3,.slice U r.fa.length f4,.int .i64 r.rd,.int .i64 r.wr,.slice V r.send.length f5,.int .i64 r.at_,.slice W r.left.length f6,.slice Z r.right.length f7,.slice E8 r.parent.length f8,.int .i64 r.dir] p r/\
   BR w2 w2.heap.size 18 (AW w2 w2.heap.size) l (p.rules.take i)/\w2.cell? ⟨w1.heap.size,0,none⟩=some (.string r.name)/\w1.heap.size<w2.heap.size/\Below w.heap.size w w2/\(p.rules.take i).length=i/\b<w1.heap.size:=by
 obtain⟨A1,c1,A2,c2,A3,c3,E,c4,G,c5,I,c6,l,y,rfl,h1,h2,h3,h4,h5,h6,h7,al⟩:=h;have am:=AP hr;have aH:=h7.1;obtain⟨w1,aK,ad,ai,aM⟩:=Ae w #[.string p.name,.int .i64 p.topo,.slice A1 p.states.length c1,.slice A2 p.messages.length c2,.slice A3 p.values.length c3,.int .i64 p.fault,.slice E p.res.length c4,.slice G p.initial.length c5,.slice I p.leader.length c6,.slice l p.rules.length y] 27;have af:=ad.size;have ay:At w1 w1.heap.size [.string p.name,.int .i64 p.topo,.slice A1 p.states.length c1,.slice A2 p.messages.length c2,.slice A3 p.values.length c3,.int .i64 p.fault,.slice E p.res.length c4,.slice G p.initial.length c5,.slice I p.leader.length c6,.slice l p.rules.length y] p:=At.keep ⟨A1,c1,A2,c2,A3,c3,E,c4,G,c5,I,c6,l,y,rfl,h1,h2,h3,h4,h5,h6,h7,al⟩ (fun _ d=>ad.cell d) af;have ak:=h7.keep (w':=w1) (B':=w1.heap.size) (R':=AW w1 w1.heap.size) (fun _ d=>ad.cell d) (fun _ _ h=>h.keep (fun _ d=>ad.cell d) af) af;obtain⟨b,ae,r',rc,hA,aC,he,-,aE,hR⟩:=ak.at am;rw [hr] at he;have aF:=Option.some.inj he;subst aF;have az:=hide hR;obtain⟨J,f1,M,f2,O,f3,U,f4,V,f5,W,f6,Z,f7,E8,f8,rfl,-⟩:=hR;have aA:AW w1 w1.heap.size [.string r.name,.int .i64 r.kind,.int .i64 r.fr,.int .i64 r.to,.int .i64 r.pf,.int .i64 r.pt,.slice J r.resp.length f1,.slice M r.guards.length f2,.slice O r.ex.length f3,.slice U r.fa.length f4,.int .i64 r.rd,.int .i64 r.wr,.slice V r.send.length f5,.int .i64 r.at_,.slice W r.left.length f6,.slice Z r.right.length f7,.slice E8 r.parent.length f8,.int .i64 r.dir] r:=az.out;have aG:=run_loadCells_list (P:=Tryz.prog) w1 ⟨b,ae+i*18,none⟩ [.string r.name,.int .i64 r.kind,.int .i64 r.fr,.int .i64 r.to,.int .i64 r.pf,.int .i64 r.pt,.slice J r.resp.length f1,.slice M r.guards.length f2,.slice O r.ex.length f3,.slice U r.fa.length f4,.int .i64 r.rd,.int .i64 r.wr,.slice V r.send.length f5,.int .i64 r.at_,.slice W r.left.length f6,.slice Z r.right.length f7,.slice E8 r.parent.length f8,.int .i64 r.dir] (fun j v hv=>by rw [Addr.add_mid]; exact aE j v hv);obtain⟨w2,aL,C,ax,aN⟩:=Ae w1 #[.string r.name,.int .i64 r.kind,.int .i64 r.fr,.int .i64 r.to,.int .i64 r.pf,.int .i64 r.pt,.slice J r.resp.length f1,.slice M r.guards.length f2,.slice O r.ex.length f3,.slice U r.fa.length f4,.int .i64 r.rd,.int .i64 r.wr,.slice V r.send.length f5,.int .i64 r.at_,.slice W r.left.length f6,.slice Z r.right.length f7,.slice E8 r.parent.length f8,.int .i64 r.dir] 99;have ah:Cp w2 w.heap.size w1.heap.size #[.string p.name,.int .i64 p.topo,.slice A1 p.states.length c1,.slice A2 p.messages.length c2,.slice A3 p.values.length c3,.int .i64 p.fault,.slice E p.res.length c4,.slice G p.initial.length c5,.slice I p.leader.length c6,.slice l p.rules.length y] #[.string r.name,.int .i64 r.kind,.int .i64 r.fr,.int .i64 r.to,.int .i64 r.pf,.int .i64 r.pt,.slice J r.resp.length f1,.slice M r.guards.length f2,.slice O r.ex.length f3,.slice U r.fa.length f4,.int .i64 r.rd,.int .i64 r.wr,.slice V r.send.length f5,.int .i64 r.at_,.slice W r.left.length f6,.slice Z r.right.length f7,.slice E8 r.parent.length f8,.int .i64 r.dir] p r:=
  ⟨ay.keep (fun _ d=>C.cell d) C.size,aA.keep (fun _ d=>C.cell d) C.size,ai.below C,ax,(hT.below ad).below C⟩
 exact⟨A1,c1,A2,c2,A3,c3,E,c4,G,c5,I,c6,l,y,J,f1,M,f2,O,f3,U,f4,V,f5,W,f6,Z,f7,E8,f8,b,ae,w1,w2,aH,al,am,rfl,hA,aK,ai.cell,aG,fun c hc=>by rw [<-aL]; exact run_storeCells_new w1 99 c #[.string r.name,.int .i64 r.kind,.int .i64 r.fr,.int .i64 r.to,.int .i64 r.pf,.int .i64 r.pt,.slice J r.resp.length f1,.slice M r.guards.length f2,.slice O r.ex.length f3,.slice U r.fa.length f4,.int .i64 r.rd,.int .i64 r.wr,.slice V r.send.length f5,.int .i64 r.at_,.slice W r.left.length f6,.slice Z r.right.length f7,.slice E8 r.parent.length f8,.int .i64 r.dir] (by kernel_rfl) hc (by simp [Value.oneCell']),ah,
  (ak.keep (w':=w2) (B':=w2.heap.size) (R':=AW w2 w2.heap.size) (fun _ d=>C.cell d) (fun _ _ h=>h.keep (fun _ d=>C.cell d) C.size) C.size).take i,ah.b5.cell 0,ah.b5.lt,ad.trans (C.mono af),by rw [List.length_take]; omega,aC⟩
end Go.Proofs.YtfcfpoemojjglaaGreatDoor.K
namespace Go.Proofs.YtfcfpoemojjglaaGreatDoor.K
open Go.RowKit
attribute [-go_sem] loadCellsFrom storeCells
structure Am.Small (p:Am):Prop where
 name:p.name.size<=500
 states:p.states.length<=60
 messages:p.messages.length<=60
 values:p.values.length<=60
 res:p.res.length<=60
 initial:p.initial.length<=60
 leader:p.leader.length<=60
 rules:p.rules.length<=30
 rule:∀r∈p.rules,r.Small/\r.name.size<=500
 names:∀s∈Bd p,s.size<=500
theorem _root_.Go.Proofs.YtfcfpoemojjglaaGreatDoor.Sl.takeS {D:Type} {w:World} {B sz:Nat} {enc:D->Nat->Value} {A:Option Addr} {ds:List D} (h:Sl w B sz enc A ds) (n:Nat):Sl w B sz enc A (ds.take n):=
 ⟨Nat.le_trans (List.length_take_le' ..) h.1,fun C=>by
  obtain⟨b,E,e,l,y⟩:=h.2 (by rintro rfl; simp at C);refine⟨b,E,e,l,fun i d j=>y i d ?_⟩;rw [List.getElem?_take] at j;split at j
  ·exact j
  ·cases j⟩
theorem HP {w:World} {base e size n c:Nat} {A:Option Addr} {xs:List Value} (h:w.ownsRow base e size (.slice A n c) n xs):n<=c:=by
 rcases h.2 with⟨e,E⟩ | ⟨g,d,j,e,_,_,G,_⟩
 ·omega
 ·injection e with l y C
  omega
theorem HS {w:World} {base n c:Nat} {A:Option Addr} {L:List ByteArray} (h:w.ownsRow base 9 1 (.slice A n c) n (DV L)) (hn:n<=900000):L.length=n/\Sl w w.heap.size 1 BE A L:=by
 have J:L.length=n:=by
  have:=h.1;simpa [DV] using this
 refine⟨J,by omega,fun M=>?_⟩;rcases h.2 with⟨_,W⟩ | ⟨g,O,U,e,_,I,_,_,_,_⟩
 ·exact absurd (List.length_eq_zero_iff.1 (by omega)) M
 ·injection e with E V G
  subst E G;refine⟨g,0,rfl,(Array.getElem?_eq_some_iff.1 I).1,fun k d y j Z=>?_⟩;have hk:k<L.length:=by
   rcases Nat.lt_or_ge k L.length with l | l
   ·exact l
   ·rw [List.getElem?_eq_none l] at y; cases y
  have C:j=0:=by omega
  subst C;have:=h.cellAt k (by omega);rw [show 0+k*1+0=k by omega,this];simp [DV,y]
def nmE (L:List ByteArray) (i:Nat):Int:=Ad (!nameOK (L.getD i .empty)||decide (L.getD i .empty∈L.take i)) 2
theorem HN {L:List ByteArray} {k:Nat} (l:k<L.length) (h:Aj (nmE L) (List.range k)=0) {s:ByteArray} (y:L[k]?=some s) (d:nameOK s=true) (j:s∉L.take k):Aj (nmE L) (List.range (k+1))=0:=by
 have C:(List.range L.length)[k]?=some k:=by rw [List.getElem?_range l]
 have ht:=CD (nmE L) C (by rw [List.take_range,Nat.min_eq_left (by omega)]; exact h);rw [List.take_range,Nat.min_eq_left (by omega)] at ht;rw [ht];simp [nmE,y,d,j,Ad]
theorem Fl {L:List ByteArray} {k:Nat} (l:k<L.length) (h:Aj (nmE L) (List.range k)=0) {s:ByteArray} (y:L[k]?=some s) (d:nameOK s=false\/s∈L.take k):CU nameOK L=2:=by
 have C:(List.range L.length)[k]?=some k:=by rw [List.getElem?_range l]
 have j:nmE L k=2:=by
  rcases d with d | d <;> simp [nmE,y,d,Ad]
 have ht:=Ct (nmE L) C (by rw [List.take_range,Nat.min_eq_left (by omega)]; exact h) (by rw [j]; decide);rw [j] at ht;exact ht
theorem J6 {w:World} {cs:List Value} {p:Am} (h:At w w.heap.size cs p) (a2:p.Small) (hT:SpOK w):
  Calls Tryz.prog 168 #[.agg cs.toArray] w (Ret fun v w'=>v=.int .i64 (CU nameOK (Bd p))/\Below w.heap.size w w'):=by
 obtain⟨A1,c1,A2,c2,A3,c3,A4,c4,A5,c5,A6,c6,A7,c7,rfl,h1,M,h3,h4,h5,h6,h7,aU⟩:=h;have be:=a2.states;have bf:=a2.messages;have bg:=a2.values;have aZ:=hide a2.names;obtain⟨w1,bj,j,ar,aW⟩:=Ae w #[.string p.name,.int .i64 p.topo,.slice A1 p.states.length c1,.slice A2 p.messages.length c2,.slice A3 p.values.length c3,.int .i64 p.fault,.slice A4 p.res.length c4,.slice A5 p.initial.length c5,.slice A6 p.leader.length c6,.slice A7 p.rules.length c7] 27;have b8:=ar.cell;obtain⟨w2,bk,y,O,aX⟩:=Ae w1 #[.slice A1 p.states.length c1,.slice A2 p.messages.length c2,.slice A3 p.values.length c3] 22;have b0:=j.size;have bh:=y.size;have an:=h1.keep (w':=w2) (B':=w.heap.size) (fun _ E=>(y.cell (by omega)).trans (j.cell E)) (Nat.le_refl _);have ao:=M.keep (w':=w2) (B':=w.heap.size) (fun _ E=>(y.cell (by omega)).trans (j.cell E)) (Nat.le_refl _);have aq:=h3.keep (w':=w2) (B':=w.heap.size) (fun _ E=>(y.cell (by omega)).trans (j.cell E)) (Nat.le_refl _);have au:LL w2 w.heap.size w1.heap.size 0 (fun k=>[A1,A2,A3].getD k none) (fun k=>[c1,c2,c3].getD k 0) [p.states,p.messages,p.values]:=by
  intro k l d
  match k,d with
  | 0,d=>obtain rfl:=Option.some.inj d; exact⟨O.cell 0,an⟩
  | 1,d=>obtain rfl:=Option.some.inj d; exact⟨O.cell 1,ao⟩
  | 2,d=>obtain rfl:=Option.some.inj d; exact⟨O.cell 2,aq⟩
  | k+3,d=>simp at d
 have af:([p.states,p.messages,p.values]:List (List ByteArray)).flatten=Bd p:=by simp [Bd]
 have bd:(Bd p).length<=180:=by simp only [Bd,List.length_append]; omega
 have ae:=M4 (c:=3) au O.lt (by omega) (by rw [af]; omega) (by simp) (by simp);rw [af] at ae;have aV:=hide ae;have ax:=hide (j.trans (y.mono b0));have aS:=hide ((hT.below j).below y);have aY:=hide (show CU nameOK (Bd p)=Aj (nmE (Bd p)) (List.range (Bd p).length) from rfl);clear ae au an ao aq af j y ar aW aX O h1 M h3 h4 h5 h6 h7 a2 hT aU;generalize Bd p=L at*;go_enter Tryz.func168,Tryz.ntmps168;go_wp2_with (go_at_call 203; refine Calls.ret aV.out ?_; rintro v w3 ⟨a8,ad⟩; obtain⟨Av,cv,hv⟩:=AH a8; subst hv; have av:=hide (HS a8 (by omega)).2; have b9:=HP a8; have G:=hide (ax.out.trans (ad.mono ax.out.size)); have aR:=hide (aS.out.below ad); clear a8 ad);go_loopw [16] (fun ii wr=>∃(k:Nat),ii=.int .i64 (k:Int)/\k<=L.length/\Hid (Aj (nmE L) (List.range k)=0)/\Hid (Below w3.heap.size w3 wr)) (fun ii _=>L.length - (intOf ii).toNat)
 case atStart=>exact⟨0,rfl,Nat.zero_le _,by show _=_; rfl,Below.refl _ _⟩
 case round=>
  obtain⟨k,rfl,hk,U,V⟩:=hrel;by_cases a6:k<L.length
  ·obtain⟨b,aC,s,hA,aT,ai,hc⟩:=av.out.at a6;have d0:=hc 0 (by omega);simp only [Nat.add_zero,Nat.mul_one,BE] at d0;have d1:=(V.out.cell (p:=⟨b,aC+k,none⟩) aT).trans d0;have bi:=aZ.out s (List.mem_of_getElem? ai);have aj:=hide ai;subst hA;clear hc d0 ai;have a5:∀wx,Below wr.heap.size wr wx->Hid (Below w3.heap.size w3 wx):=fun wx hx=>hide (V.out.trans (hx.mono V.out.size));have ab:=hide (aR.out.below V.out);cases a7:nameOK s with
   | false=>
    have J:=hide a7;clear a7;go_wp2_with (go_at_call 118; refine Calls.ret (Da s _ (by omega) ab.out) ?_; rintro v wx ⟨rfl,C⟩; rw [J.out]);go_ret;refine⟨?_,G.out.trans ((a5 _ C).out.mono G.out.size)⟩;rw [Fl a6 U.out aj.out (.inl J.out)];rfl
   | true=>
    have J:=hide a7;clear a7;have aB:(L.take k).length=k:=by rw [List.length_take]; omega
    have b4:=hide aB;clear aB;have az:∀wx,Below wr.heap.size wr wx->Hid (Calls Tryz.prog 204 #[.slice (some ⟨b,aC,none⟩) k cv,.string s] wx fun r w'=>r=.returned (.bool (decide (s∈L.take k)))/\wx=w'):=by
     intro wx hx;have h1:=(av.out.keep (w':=wx) (B':=w3.heap.size) (fun _ E=>(a5 wx hx).out.cell E) (Nat.le_refl _)).takeS k;have M:=Je (c:=cv) (x:=s) h1;rw [b4.out] at M;exact M
    have aA:=hide az;clear az;by_cases I:s∈L.take k
    ·have ah:=hide I;have Z:decide (s∈L.take k)=true:=decide_eq_true I;have ag:=hide Z;clear I Z
     go_wp2_with (first
      | (go_at_call 118; refine Calls.ret (Da s _ (by omega) ab.out) ?_; rintro v wx ⟨rfl,C⟩; rw [J.out]; have W:=hide C; clear C)
      | (go_at_call 204; refine(aA.out _ W.out).out.mono ?_; rintro r w' ⟨rfl,rfl⟩; rw [ag.out]))
     go_ret;refine⟨?_,G.out.trans ((a5 _ W.out).out.mono G.out.size)⟩;rw [Fl a6 U.out aj.out (.inr ah.out)];rfl
    ·have ah:=hide I;have Z:decide (s∈L.take k)=false:=decide_eq_false I;have ag:=hide Z;clear I Z
     go_wp2_with (first
      | (go_at_call 118; refine Calls.ret (Da s _ (by omega) ab.out) ?_; rintro v wx ⟨rfl,C⟩; rw [J.out]; have W:=hide C; clear C)
      | (go_at_call 204; refine(aA.out _ W.out).out.mono ?_; rintro r w' ⟨rfl,rfl⟩; rw [ag.out]))
     exact⟨⟨k+1,by go_num,by omega,HN a6 U.out aj.out J.out ah.out,a5 _ W.out⟩,by simp [intOf]; omega⟩
  ·have e:k=L.length:=by omega
   have aa:=U.out;rw [e,<-aY.out] at aa;have aQ:=hide aa;clear aa e U;go_wp2_with fail;go_ret;exact⟨by rw [aQ.out]; rfl,G.out.trans (V.out.mono G.out.size)⟩
end Go.Proofs.YtfcfpoemojjglaaGreatDoor.K
namespace Go.Proofs.YtfcfpoemojjglaaGreatDoor.K
open Go.RowKit
attribute [-go_sem] loadCellsFrom storeCells
theorem At.rules_at {w:World} {B:Nat} {cs:List Value} {p:Am} (h:At w B cs p):cs.toArray.size=10/\∃A c,cs.toArray[9]?=some (.slice A p.rules.length c)/\BR w B 18 (AW w B) A p.rules/\p.rules.length<=c:=by
 obtain⟨A1,c1,A2,c2,A3,c3,C,c4,E,I,G,J,d,j,rfl,M,O,U,V,W,Z,l,y⟩:=h;exact⟨rfl,d,j,rfl,l,y⟩
structure Fc (w:World) (B:Nat) (rc:Array Value) (r:Az):Prop where
 size:rc.size=18
 one:rc.all (·.oneCell')=true
 is:AW w B rc.toList r
theorem AW.c {w:World} {B:Nat} {cs:List Value} {r:Az} (h:AW w B cs r):Fc w B cs.toArray r:=by
 refine⟨?_,?_,by simpa using h⟩ <;> obtain⟨A1,c1,A2,c2,A3,c3,d,c4,j,E,l,G,y,I,C,J,rfl,_⟩:=h
 ·rfl
 ·simp [Value.oneCell']
theorem Fc.guards {w:World} {B:Nat} {rc:Array Value} {r:Az} (h:Fc w B rc r):∃A c,rc[7]?=some (.slice A r.guards.length c)/\Sl w B 6 CS A r.guards:=by
 obtain⟨A1,c1,A2,c2,A3,c3,j,c4,l,G,y,I,C,J,E,M,e,O,d,U,V,W,Z,h7,h8⟩:=h.is;refine⟨A2,c2,?_,d⟩;rw [<-Array.getElem?_toList,e];rfl
theorem Du {w:World} {B:Nat} {A:Option Addr} {l:List Az} (h:BR w B 18 (AW w B) A l) {i:Nat} {r:Az} (E:l[i]?=some r):
  ∃b d rc,A=some ⟨b,d,none⟩/\b<B/\Fc w B rc r/\(∀j v,rc[j]?=some v->w.cell? ⟨b,d+i*18+j,none⟩=some v)/\((loadCellsFrom ⟨b,d+i*18,none⟩ 0 18 #[]).run Tryz.prog w=.ok rc w):=by
 obtain⟨b,d,W,rc,G,J,he,V,C,I⟩:=h.at (AP E);rw [E] at he;have U:=Option.some.inj he;subst U;have M:=I.c;have O:∀j v,rc.toArray[j]?=some v->w.cell? ⟨b,d+i*18+j,none⟩=some v:=fun j v y=>C j v (by simpa using y);refine⟨b,d,rc.toArray,G,J,M,O,?_⟩;have:=run_loadCells_list (P:=Tryz.prog) w ⟨b,d+i*18,none⟩ rc (fun j v y=>by rw [Addr.add_mid]; exact C j v y);rw [V] at this;simpa [loadCells] using this
theorem Dv (w:World) (t n:Nat) (l:(Tryz.prog.info? t).map (·.size)=some n) {rc:Array Value} (d:rc.size=n) (h:rc.all (·.oneCell')=true):
  ∀c:Array Value,c.size=n->(storeCells ⟨w.heap.size,0,none⟩ rc.toList 0).run Tryz.prog (w.alloc (.cells c t))=.ok () (w.alloc (.cells rc t)):=fun c j=>
 run_storeCells_new w t c rc (by rw [l,d]) (by rw [j,d]) h
theorem EQ {w w':World} {base e size n:Nat} {v:Value} {xs:List Value} (h:w.ownsRow base e size v n xs) (d:Below w.heap.size w w'):w'.ownsRow base e size v n xs:=(Ac.of_below d fun _=>False).ownsRow h (fun _ _=>id)
theorem Kc {w:World} {base base' e size n:Nat} {v:Value} {xs:List Value} (h:w.ownsRow base e size v n xs) (E:base'<=base):w.ownsRow base' e size v n xs:=by
 refine⟨h.1,?_⟩;rcases h.2 with l | ⟨g,d,j,e,C,y⟩
 ·exact .inl l
 ·exact .inr ⟨g,d,j,e,by omega,y⟩
theorem Qh:(Tryz.prog.info? 217).map (fun i=>(i.zero,i.size,i.bytes))=some (some (DG ⟨0,0,⟨0,0,0,0⟩⟩),6,48):=by kernel_rfl
theorem KR:Dd Tryz.prog 97 217 6:=EX Tryz.underlying97 Qh rfl (by omega) (by omega)
def C4 (g:Thr):List Value:=[.int .i64 g.msg,.int .i64 g.coef,.int .i64 g.bound.c,.int .i64 g.bound.n,.int .i64 g.bound.t,.int .i64 g.bound.f]
def CM (L:List Thr):List Value:=L.flatMap C4
theorem TJ (L:List Thr):(CM L).length=L.length*6:=by
 induction L with
 | nil=>rfl
 | cons x L ih=>
  have:CM (x::L)=C4 x++CM L:=rfl;rw [this,List.length_append,ih,List.length_cons];show 6+_=_
  omega
theorem Lx (L:List Thr) (g:Thr):CM (L++[g])=CM L++C4 g:=by simp [CM]
theorem Ly:∀(L:List Thr) (k:Nat) (d:Thr),L[k]?=some d->∀j,j<6->(CM L)[k*6+j]?=some (CS d j)
 | [],k,d,h,_,_=>by simp at h
 | x::L,0,d,h,j,hj=>by
  obtain rfl:x=d:=by simpa using h
  have:CM (x::L)=C4 x++CM L:=rfl;rw [this,Nat.zero_mul,Nat.zero_add,List.getElem?_append_left (by show j<6; exact hj)]
  match j,hj with
  | 0,_=>rfl
  | 1,_=>rfl
  | 2,_=>rfl
  | 3,_=>rfl
  | 4,_=>rfl
  | 5,_=>rfl
 | x::L,k+1,d,h,j,hj=>by
  have:CM (x::L)=C4 x++CM L:=rfl;rw [this,List.getElem?_append_right (by show 6<=_; omega),show(k+1)*6+j - (C4 x).length=k*6+j from by show(k+1)*6+j - 6=_; omega];exact Ly L k d (by simpa using h) j hj
theorem Kh {w:World} {base n c:Nat} {A:Option Addr} {L:List Thr} (h:w.ownsRow base 217 6 (.slice A n c) n (CM L)) (Z:n<=900000):L.length=n/\Sl w w.heap.size 6 CS A L:=by
 have I:L.length=n:=by
  have:=h.1;rw [TJ] at this;omega
 refine⟨I,by omega,fun J=>?_⟩;rcases h.2 with⟨_,V⟩ | ⟨g,M,O,e,_,E,_,_,_,_⟩
 ·exact absurd (List.length_eq_zero_iff.1 (by omega)) J
 ·injection e with y U C
  subst y C;refine⟨g,0,rfl,(Array.getElem?_eq_some_iff.1 E).1,fun k d l j G=>?_⟩;have W:=AP l;rw [show 0+k*6+j=k*6+j by omega,h.cellAt (k*6+j) (by omega)];exact Ly L k d l j G
theorem L5 (s:List Thr) (g:Thr):(Bx s g).length<=s.length+1:=by
 unfold Bx;split <;> simp
theorem Jz:∀(l s:List Thr),(l.foldl Bx s).length<=s.length+l.length
 | [],s=>by simp
 | g::l,s=>by
  have d:=Jz l (Bx s g);have h:=L5 s g;simp only [List.foldl_cons,List.length_cons];omega
theorem JB {l:List Thr} {k:Nat} {g:Thr} (h:l[k]?=some g) (s:List Thr):(l.take (k+1)).foldl Bx s=Bx ((l.take k).foldl Bx s) g:=by
 rw [show l.take (k+1)=l.take k++[g] by rw [List.take_add_one,h]; rfl,List.foldl_append];rfl
theorem LA {l:List Az} {i:Nat} {r:Az} (h:l[i]?=some r):BO (l.take (i+1))=r.guards.foldl Bx (BO (l.take i)):=by
 unfold BO;rw [show l.take (i+1)=l.take i++[r] by rw [List.take_add_one,h]; rfl,List.flatMap_append,List.foldl_append];simp
theorem Jw:∀(l:List Az),(∀r∈l,r.guards.length<=60)->(l.flatMap Az.guards).length<=60*l.length
 | [],_=>by simp
 | r::l,h=>by
  have j:=Jw l (fun x d=>h x (by simp [d]));have y:=h r (by simp);rw [List.flatMap_cons,List.length_append,List.length_cons];omega
theorem FB (l:List Az) (h:∀r∈l,r.guards.length<=60):(BO l).length<=60*l.length:=by
 have d:=Jz (l.flatMap Az.guards) [];have j:=Jw l h;unfold BO;rw [List.length_nil] at d;omega
theorem Lz {w:World} {cs:List Value} {p:Am} (h:At w w.heap.size cs p) (ah:p.Small):
  Calls Tryz.prog 171 #[.agg cs.toArray] w (Ret fun v w'=>w'.ownsRow w.heap.size 217 6 v (BO p.rules).length (CM (BO p.rules))/\Below w.heap.size w w'):=by
 have av:=hide (show ∀r∈p.rules,r.guards.length<=60 from fun r E=>(ah.rule r E).1.2.1);have bC:=ah.rules;obtain⟨bB,A7,c7,az,aA,bo⟩:=h.rules_at;generalize b7:cs.toArray=pc at*;clear b7 h;generalize b8:p.rules=rs at*;clear b8 ah;obtain⟨w1,bG,W,aa,aU⟩:=Ae w pc 27;have a9:=W.size;have bn:w1.cell? ⟨w.heap.size,9,none⟩=some (.slice A7 rs.length c7):=by rw [aa.cell,az]
 have aO:=hide (aA.keep (w':=w1) (B':=w1.heap.size) (R':=AW w1 w1.heap.size) (fun _ l=>W.cell l) (fun _ _ h=>h.keep (fun _ l=>W.cell l) a9) a9);have aR:=hide W;have bx:=aa.lt;clear aA W aU aa az;go_enter Tryz.func171,Tryz.ntmps171;go_wp2_with fail;go_loopw [3,11] (fun vv ii wr=>∃(i n:Nat),ii=.int .i64 (i:Int)/\i<=rs.length/\Hid (wr.ownsRow w1.heap.size 217 6 vv n (CM (BO (rs.take i))))/\Hid (n=(BO (rs.take i)).length)/\Hid (Below w1.heap.size w1 wr)) (fun _ ii _=>rs.length - (intOf ii).toNat)
 case atStart=>exact⟨0,0,rfl,Nat.zero_le _,World.ownsRow_nil _ _ _ _,by show _=_; rfl,Below.refl _ _⟩
 case round=>
  obtain⟨i,n,rfl,hi,y,hn,M⟩:=hrel;by_cases aX:i<rs.length
  ·obtain⟨r,E⟩:∃r,rs[i]?=some r:=⟨_,List.getElem?_eq_getElem aX⟩;obtain⟨b,bH,rc,hA,bk,O,aT,bv⟩:=Du (aO.out.keep (w':=wr) (B':=w1.heap.size) (R':=AW wr w1.heap.size) (fun _ l=>M.out.cell l) (fun _ _ h=>h.keep (fun _ l=>M.out.cell l) (Nat.le_refl _)) (Nat.le_refl _)) E;obtain⟨w2,bd,ad,am,aV⟩:=Ae wr rc 99;have b9:=Dv wr 99 18 (by kernel_rfl) O.size O.one;rw [bd] at b9;obtain⟨Eg,fg,ar,ap⟩:=O.guards;have bD:=hide E;have bi:=hide O;have bm:w2.cell? ⟨wr.heap.size,7,none⟩=some (.slice Eg r.guards.length fg):=by rw [am.cell,ar]
   have bq:=av.out r (List.mem_of_getElem? E);have C:=hide (EQ y.out ad);have bE:=O.size;have aP:=hide (ap.keep (w':=w1) (B':=w1.heap.size) (fun _ l=>(M.out.cell l).symm) (Nat.le_refl _));have an:=hide (M.out.trans (ad.mono M.out.size));have ba:=hide (LA E);have b5:=hide (FB (rs.take i) (fun r E=>av.out r (List.mem_of_mem_take E)));have bA:n<=1800:=by
    have h1:=b5.out;rw [hn.out];rw [List.length_take] at h1;omega
   subst hA;clear aT O aV am E ar y ap ad;go_wp2_with fail;go_loopw [3,18] (fun vv jj wr=>∃(j n:Nat),jj=.int .i64 (j:Int)/\j<=r.guards.length/\n<=1800+j/\Hid (wr.ownsRow w1.heap.size 217 6 vv n (CM ((r.guards.take j).foldl Bx (BO (rs.take i)))))/\Hid (n=((r.guards.take j).foldl Bx (BO (rs.take i))).length)/\Hid (Below w1.heap.size w1 wr)) (fun _ jj _=>r.guards.length - (intOf jj).toNat)
   case atStart=>exact⟨0,n,rfl,Nat.zero_le _,by omega,by show World.ownsRow _ _ _ _ _ _ _; simpa using C.out,by show _=_; simpa using hn.out,an.out⟩
   case round=>
    obtain⟨j,m,rfl,hj,hm,y,a2,a4⟩:=hrel;by_cases aZ:j<r.guards.length
    ·obtain⟨b2,aB,g,aL,bl,hg,au⟩:=(aP.out.keep (w':=wr) (B':=w1.heap.size) (fun _ l=>a4.out.cell l) (Nat.le_refl _)).at aZ;have bw:(loadCellsFrom ⟨b2,aB+j*6,none⟩ 0 6 #[]).run Tryz.prog wr=.ok #[.int .i64 g.msg,.int .i64 g.coef,.int .i64 g.bound.c,.int .i64 g.bound.n,.int .i64 g.bound.t,.int .i64 g.bound.f] wr:=by
      have:=run_loadCells_list (P:=Tryz.prog) wr ⟨b2,aB+j*6,none⟩ (C4 g) (fun k v d=>by
       rw [Addr.add_mid];have hk:=AP d;rw [au k hk]
       match k,hk,d with
       | 0,_,d=>exact congrArg some (Option.some.inj d)
       | 1,_,d=>exact congrArg some (Option.some.inj d)
       | 2,_,d=>exact congrArg some (Option.some.inj d)
       | 3,_,d=>exact congrArg some (Option.some.inj d)
       | 4,_,d=>exact congrArg some (Option.some.inj d)
       | 5,_,d=>exact congrArg some (Option.some.inj d))
      simpa [loadCells,C4] using this
     have a6:=hide (JB hg (BO (rs.take i)));have aQ:=hide (show DG g=.agg #[.int .i64 g.msg,.int .i64 g.coef,.int .i64 g.bound.c,.int .i64 g.bound.n,.int .i64 g.bound.t,.int .i64 g.bound.f] from rfl);obtain⟨w3,be,ae,ab,aW⟩:=Ae wr #[.int .i64 g.msg,.int .i64 g.coef,.int .i64 g.bound.c,.int .i64 g.bound.n,.int .i64 g.bound.t,.int .i64 g.bound.f] 217;have bF:∀c:Array Value,c.size=6->(storeCells ⟨wr.heap.size,0,none⟩ [.int .i64 g.msg,.int .i64 g.coef,.int .i64 g.bound.c,.int .i64 g.bound.n,.int .i64 g.bound.t,.int .i64 g.bound.f] 0).run Tryz.prog (wr.alloc (.cells c 217))=.ok () w3:=fun c hc=>by rw [<-be]; exact Dv wr 217 6 (by kernel_rfl) (rc:=#[.int .i64 g.msg,.int .i64 g.coef,.int .i64 g.bound.c,.int .i64 g.bound.n,.int .i64 g.bound.t,.int .i64 g.bound.f]) rfl (by simp [Value.oneCell']) c hc
     have bt:(loadCellsFrom ⟨wr.heap.size,0,none⟩ 0 6 #[]).run Tryz.prog w3=.ok #[.int .i64 g.msg,.int .i64 g.coef,.int .i64 g.bound.c,.int .i64 g.bound.n,.int .i64 g.bound.t,.int .i64 g.bound.f] w3:=Ah ab rfl;have I:=EQ y.out ae;obtain⟨Av,cv,d⟩:=AH y.out;subst d;have aq:=(Kh I (by omega)).2;have ay:((r.guards.take j).foldl Bx (BO (rs.take i))).length=m:=a2.out.symm;have af:=hide (M8 (c:=cv) (x:=g) aq (Nat.le_refl _));rw [ay,aQ.out] at af;have a3:=hide (a4.out.trans (ae.mono a4.out.size));have bp:=hide hg;have aM:=hide ab;have ao:=hide I;subst aL;clear au aW ab ae hg aq ay y I;generalize ((r.guards.take j).foldl Bx (BO (rs.take i)))=L at*;cases a7:decide (g∈L)
     ·have Z:=hide a7;clear a7;have V:=hide (show Bx L g=L++[g] from if_neg (of_decide_eq_false Z.out))
      go_wp2_with (first
       | (go_at_call 213; refine Calls.ret af.out ?_; rintro v w4 ⟨rfl,G⟩; rw [Z.out]; have bu:=Ah (n:=6) (aM.out.below G) rfl; have a5:=hide (EQ ao.out G); have U:=hide (a3.out.trans (G.mono a3.out.size)); clear G)
       | (at_builtin; refine BP KR rfl _ _ rfl w1.heap.size _ m _ rfl a5.out (C4 g) _ rfl rfl (by simp [C4,Value.oneCell']) (by omega) (by have:=U.out.size; have:=an.out.size; omega) ?_; intro g5 bh w5 b6 ax b0 aY))
      have aN:=hide (U.out.trans (ax.below U.out.size fun b' bj e=>by have:=(a5.out.lt b' e).1; omega));clear ax b0 aY;exact⟨⟨j+1,m+1,by go_num,by omega,by omega,by show World.ownsRow _ _ _ _ _ _ _; rw [a6.out,V.out,Lx]; exact b6,by show _=_; rw [a6.out,V.out,List.length_append,a2.out]; rfl,aN.out⟩,by simp [intOf]; omega⟩
     ·have Z:=hide a7;clear a7;have V:=hide (show Bx L g=L from if_pos (of_decide_eq_true Z.out));go_wp2_with (go_at_call 213; refine Calls.ret af.out ?_; rintro v w4 ⟨rfl,G⟩; rw [Z.out]; have a5:=hide (EQ ao.out G); have U:=hide (a3.out.trans (G.mono a3.out.size)); clear G);exact⟨⟨j+1,m,by go_num,by omega,by omega,by show World.ownsRow _ _ _ _ _ _ _; rw [a6.out,V.out]; exact a5.out,by show _=_; rw [a6.out,V.out,a2.out],U.out⟩,by simp [intOf]; omega⟩
    ·have e:j=r.guards.length:=by omega
     have C:=y.out;have J:=a2.out;rw [e,List.take_length,<-ba.out] at C J;have I:=hide C;have b4:=hide J;clear C J e y a2;go_wp2_with fail;exact⟨⟨i+1,m,by go_num,by omega,I.out,b4.out,a4.out⟩,by simp [intOf]; omega⟩
  ·have e:i=rs.length:=by omega
   have C:=y.out;have J:=hn.out;rw [e,List.take_length] at C J;rw [J] at C;have I:=hide (Kc C a9);clear C J e y hn;go_wp2_with fail;go_ret;exact⟨I.out,aR.out.trans (M.out.mono a9)⟩
end Go.Proofs.YtfcfpoemojjglaaGreatDoor.K
