/-
  Part CE of a proof.
-/
import Derived.Deep.MidRow
import Derived.Deep.WholeRow
import Derived.Test.YtjejejmeddkciaaGreatDoorPA
import Derived.Test.YtjejejmeddkciaaGreatDoorCB
import Derived.Test.YtjejejmeddkciaaGreatDoorCC
import Derived.Test.YtjejejmeddkciaaGreatDoorCD
set_option maxHeartbeats 16000000
set_option maxRecDepth 100000
set_option linter.unusedVariables false
set_option linter.unusedSimpArgs false
namespace Go.Proofs.YtjejejmeddkciaaGreatDoor.K
open Go.RowKit
attribute [-go_sem] loadCellsFrom storeCells
structure Cp (w:World) (g2 g5:Nat) (pc rc:Array Value) (p:Am) (r:Az):Prop where
 pr:At w w.heap.size pc.toList p
 ru:AW w w.heap.size rc.toList r
 b2:Blk w g2 27 pc
 b5:Blk w g5 109 rc
 tab:SpOK w
theorem Cp.at {w w':World} {g2 g5:Nat} {F rc:Array Value} {p:Am} {r:Az} (h:Cp w g2 g5 F rc p r) (C:Below w.heap.size w w'):Cp w' g2 g5 F rc p r:=
 ⟨h.pr.keep (fun _ E=>C.cell E) C.size,h.ru.keep (fun _ E=>C.cell E) C.size,h.b2.below C,h.b5.below C,h.tab.below C⟩
theorem Ah {w:World} {g n:Nat} {t:TypeId} {cs:Array Value} (h:Blk w g t cs) (C:cs.size=n):(loadCellsFrom ⟨g,0,none⟩ 0 n #[]).run Tryz.prog w=.ok cs w:=by
 have:=run_loadCells_list (P:=Tryz.prog) w ⟨g,0,none⟩ cs.toList (fun j v E=>by
  rw [Addr.add_mid,Nat.zero_add,h.cell];simpa using E)
 subst C;simpa [loadCells] using this
theorem Cp.load2 {w:World} {g2 g5:Nat} {C rc:Array Value} {p:Am} {r:Az} (h:Cp w g2 g5 C rc p r) (E:C.size=10):(loadCellsFrom ⟨g2,0,none⟩ 0 10 #[]).run Tryz.prog w=.ok C w:=Ah h.b2 E
theorem Cp.load5 {w:World} {g2 g5:Nat} {E rc:Array Value} {p:Am} {r:Az} (h:Cp w g2 g5 E rc p r) (C:rc.size=18):(loadCellsFrom ⟨g5,0,none⟩ 0 18 #[]).run Tryz.prog w=.ok rc w:=Ah h.b5 C
theorem Ev {w:World} {B:Nat} {r:Az} {C E F G I J M O:Option Addr} {U V f3 W Z f6 f7 f8:Nat} (h:AW w B [.string r.name,.int .i64 r.kind,.int .i64 r.fr,.int .i64 r.to,.int .i64 r.pf,.int .i64 r.pt,.slice C r.resp.length U,.slice E r.guards.length V,.slice F r.ex.length f3,.slice G r.fa.length W,.int .i64 r.rd,.int .i64 r.wr,.slice I r.send.length Z,.int .i64 r.at_,.slice J r.left.length f6,.slice M r.right.length f7,.slice O r.parent.length f8,.int .i64 r.dir] r):
  Sl w B 1 Ai C r.resp/\Sl w B 6 CS E r.guards/\Sl w B 1 Ai F r.ex/\Sl w B 1 Ai G r.fa/\Sl w B 1 Ai I r.send/\Sl w B 1 Ai J r.left/\Sl w B 1 Ai M r.right/\Sl w B 1 Ai O r.parent:=by
 obtain⟨A1,c1,A2,c2,A3,c3,A4,c4,A5,c5,A6,c6,A7,c7,A8,c8,e,h1,h2,h3,h4,h5,h6,h7,h8⟩:=h;simp only [List.cons.injEq,Value.slice.injEq,true_and,and_true] at e;obtain⟨⟨rfl,rfl⟩,⟨rfl,rfl⟩,⟨rfl,rfl⟩,⟨rfl,rfl⟩,⟨rfl,rfl⟩,⟨rfl,rfl⟩,⟨rfl,rfl⟩,⟨rfl,rfl⟩⟩:=e;exact⟨h1,h2,h3,h4,h5,h6,h7,h8⟩
theorem RJ {w:World} {cs:List Value} {p:Am} {r:Az} {i:Nat} (h:At w w.heap.size cs p) (hr:p.rules[i]?=some r) (hT:SpOK w):
  ∃G c1 I c2 J c3 M c4 O c5 U c6 A7 c7 V f1 W f2 Z f3 E4 f4 E5 f5 E6 f6 E7 f7 E8 f8 b off C w2,p.rules.length<=9223372036854775807/\p.rules.length<=c7/\i<p.rules.length/\cs=[.string p.name,.int .i64 p.topo,.slice G p.states.length c1,.slice I p.messages.length c2,.slice J p.values.length c3,.int .i64 p.fault,.slice M p.res.length c4,.slice O p.initial.length c5,.slice U p.leader.length c6,.slice A7 p.rules.length c7]/\A7=some ⟨b,off,none⟩/\w.alloc (.cells #[.string p.name,.int .i64 p.topo,.slice G p.states.length c1,.slice I p.messages.length c2,.slice J p.values.length c3,.int .i64 p.fault,.slice M p.res.length c4,.slice O p.initial.length c5,.slice U p.leader.length c6,.slice A7 p.rules.length c7] 27)=C/\
   (∀j,C.cell? ⟨w.heap.size,j,none⟩=#[.string p.name,.int .i64 p.topo,.slice G p.states.length c1,.slice I p.messages.length c2,.slice J p.values.length c3,.int .i64 p.fault,.slice M p.res.length c4,.slice O p.initial.length c5,.slice U p.leader.length c6,.slice A7 p.rules.length c7][j]?)/\
   (loadCellsFrom ⟨b,off+i*18,none⟩ 0 18 #[]).run Tryz.prog C=.ok #[.string r.name,.int .i64 r.kind,.int .i64 r.fr,.int .i64 r.to,.int .i64 r.pf,.int .i64 r.pt,.slice V r.resp.length f1,.slice W r.guards.length f2,.slice Z r.ex.length f3,.slice E4 r.fa.length f4,.int .i64 r.rd,.int .i64 r.wr,.slice E5 r.send.length f5,.int .i64 r.at_,.slice E6 r.left.length f6,.slice E7 r.right.length f7,.slice E8 r.parent.length f8,.int .i64 r.dir] C/\
   (∀c:Array Value,c.size=18->(storeCells ⟨C.heap.size,0,none⟩ [.string r.name,.int .i64 r.kind,.int .i64 r.fr,.int .i64 r.to,.int .i64 r.pf,.int .i64 r.pt,.slice V r.resp.length f1,.slice W r.guards.length f2,.slice Z r.ex.length f3,.slice E4 r.fa.length f4,.int .i64 r.rd,.int .i64 r.wr,.slice E5 r.send.length f5,.int .i64 r.at_,.slice E6 r.left.length f6,.slice E7 r.right.length f7,.slice E8 r.parent.length f8,.int .i64 r.dir] 0).run Tryz.prog (C.alloc (.cells c 109))=.ok () w2)/\
   Cp w2 w.heap.size C.heap.size #[.string p.name,.int .i64 p.topo,.slice G p.states.length c1,.slice I p.messages.length c2,.slice J p.values.length c3,.int .i64 p.fault,.slice M p.res.length c4,.slice O p.initial.length c5,.slice U p.leader.length c6,.slice A7 p.rules.length c7] #[.string r.name,.int .i64 r.kind,.int .i64 r.fr,.int .i64 r.to,.int .i64 r.pf,.int .i64 r.pt,.slice V r.resp.length f1,.slice W r.guards.length f2,.slice Z r.ex.length f3,.slice E4 r.fa.length f4,.int .i64 r.rd,.int .i64 r.wr,.slice E5 r.send.length f5,.int .i64 r.at_,.slice E6 r.left.length f6,.slice E7 r.right.length f7,.slice E8 r.parent.length f8,.int .i64 r.dir] p r/\
   BR w2 w2.heap.size 18 (AW w2 w2.heap.size) A7 (p.rules.take i)/\w2.cell? ⟨C.heap.size,0,none⟩=some (.string r.name)/\C.heap.size<w2.heap.size/\Below w.heap.size w w2/\(p.rules.take i).length=i/\b<C.heap.size:=by
 obtain⟨G,c1,I,c2,J,c3,M,c4,O,c5,U,c6,A7,c7,rfl,h1,h2,h3,h4,h5,h6,h7,ap⟩:=h;have ar:=AP hr;have aM:=h7.1;obtain⟨C,aO,ai,am,aQ⟩:=Ae w #[.string p.name,.int .i64 p.topo,.slice G p.states.length c1,.slice I p.messages.length c2,.slice J p.values.length c3,.int .i64 p.fault,.slice M p.res.length c4,.slice O p.initial.length c5,.slice U p.leader.length c6,.slice A7 p.rules.length c7] 27;have aj:=ai.size;have aC:At C C.heap.size [.string p.name,.int .i64 p.topo,.slice G p.states.length c1,.slice I p.messages.length c2,.slice J p.values.length c3,.int .i64 p.fault,.slice M p.res.length c4,.slice O p.initial.length c5,.slice U p.leader.length c6,.slice A7 p.rules.length c7] p:=At.keep ⟨G,c1,I,c2,J,c3,M,c4,O,c5,U,c6,A7,c7,rfl,h1,h2,h3,h4,h5,h6,h7,ap⟩ (fun _ E=>ai.cell E) aj;have ao:=h7.keep (w':=C) (B':=C.heap.size) (R':=AW C C.heap.size) (fun _ E=>ai.cell E) (fun _ _ h=>h.keep (fun _ E=>ai.cell E) aj) aj;obtain⟨b,off,r',rc,hA,aG,he,-,aJ,hR⟩:=ao.at ar;rw [hr] at he;have aK:=Option.some.inj he;subst aK;have aD:=hide hR;obtain⟨V,f1,W,f2,Z,f3,E4,f4,E5,f5,E6,f6,E7,f7,E8,f8,rfl,-⟩:=hR;have aE:AW C C.heap.size [.string r.name,.int .i64 r.kind,.int .i64 r.fr,.int .i64 r.to,.int .i64 r.pf,.int .i64 r.pt,.slice V r.resp.length f1,.slice W r.guards.length f2,.slice Z r.ex.length f3,.slice E4 r.fa.length f4,.int .i64 r.rd,.int .i64 r.wr,.slice E5 r.send.length f5,.int .i64 r.at_,.slice E6 r.left.length f6,.slice E7 r.right.length f7,.slice E8 r.parent.length f8,.int .i64 r.dir] r:=aD.out;have aL:=run_loadCells_list (P:=Tryz.prog) C ⟨b,off+i*18,none⟩ [.string r.name,.int .i64 r.kind,.int .i64 r.fr,.int .i64 r.to,.int .i64 r.pf,.int .i64 r.pt,.slice V r.resp.length f1,.slice W r.guards.length f2,.slice Z r.ex.length f3,.slice E4 r.fa.length f4,.int .i64 r.rd,.int .i64 r.wr,.slice E5 r.send.length f5,.int .i64 r.at_,.slice E6 r.left.length f6,.slice E7 r.right.length f7,.slice E8 r.parent.length f8,.int .i64 r.dir] (fun j v hv=>by rw [Addr.add_mid];exact aJ j v hv);obtain⟨w2,aP,F,aB,aR⟩:=Ae C #[.string r.name,.int .i64 r.kind,.int .i64 r.fr,.int .i64 r.to,.int .i64 r.pf,.int .i64 r.pt,.slice V r.resp.length f1,.slice W r.guards.length f2,.slice Z r.ex.length f3,.slice E4 r.fa.length f4,.int .i64 r.rd,.int .i64 r.wr,.slice E5 r.send.length f5,.int .i64 r.at_,.slice E6 r.left.length f6,.slice E7 r.right.length f7,.slice E8 r.parent.length f8,.int .i64 r.dir] 109;have al:Cp w2 w.heap.size C.heap.size #[.string p.name,.int .i64 p.topo,.slice G p.states.length c1,.slice I p.messages.length c2,.slice J p.values.length c3,.int .i64 p.fault,.slice M p.res.length c4,.slice O p.initial.length c5,.slice U p.leader.length c6,.slice A7 p.rules.length c7] #[.string r.name,.int .i64 r.kind,.int .i64 r.fr,.int .i64 r.to,.int .i64 r.pf,.int .i64 r.pt,.slice V r.resp.length f1,.slice W r.guards.length f2,.slice Z r.ex.length f3,.slice E4 r.fa.length f4,.int .i64 r.rd,.int .i64 r.wr,.slice E5 r.send.length f5,.int .i64 r.at_,.slice E6 r.left.length f6,.slice E7 r.right.length f7,.slice E8 r.parent.length f8,.int .i64 r.dir] p r:=
  ⟨aC.keep (fun _ E=>F.cell E) F.size,aE.keep (fun _ E=>F.cell E) F.size,am.below F,aB,(hT.below ai).below F⟩
 exact⟨G,c1,I,c2,J,c3,M,c4,O,c5,U,c6,A7,c7,V,f1,W,f2,Z,f3,E4,f4,E5,f5,E6,f6,E7,f7,E8,f8,b,off,C,w2,aM,ap,ar,rfl,hA,aO,am.cell,aL,fun c hc=>by rw [<-aP];exact run_storeCells_new C 109 c #[.string r.name,.int .i64 r.kind,.int .i64 r.fr,.int .i64 r.to,.int .i64 r.pf,.int .i64 r.pt,.slice V r.resp.length f1,.slice W r.guards.length f2,.slice Z r.ex.length f3,.slice E4 r.fa.length f4,.int .i64 r.rd,.int .i64 r.wr,.slice E5 r.send.length f5,.int .i64 r.at_,.slice E6 r.left.length f6,.slice E7 r.right.length f7,.slice E8 r.parent.length f8,.int .i64 r.dir] (by kernel_rfl) hc (by simp [Value.oneCell']),al,
  (ao.keep (w':=w2) (B':=w2.heap.size) (R':=AW w2 w2.heap.size) (fun _ E=>F.cell E) (fun _ _ h=>h.keep (fun _ E=>F.cell E) F.size) F.size).take i,al.b5.cell 0,al.b5.lt,ai.trans (F.mono aj),by rw [List.length_take];omega,aG⟩
end Go.Proofs.YtjejejmeddkciaaGreatDoor.K
namespace Go.Proofs.YtjejejmeddkciaaGreatDoor.K
open Go.RowKit
attribute [-go_sem] loadCellsFrom storeCells
structure Am.Small (p:Am):Prop where
 name:p.name.size<=500
 states:p.states.length<=60
 messages:p.messages.length<=60
 values:p.values.length<=60
 res:p.res.length<=60
 initial:p.initial.length<=60
 leader:p.leader.length<=60
 rules:p.rules.length<=30
 rule:∀r∈p.rules,r.Small/\r.name.size<=500
 names:∀s∈Bd p,s.size<=500
theorem _root_.Go.Proofs.YtjejejmeddkciaaGreatDoor.Sl.takeS {D:Type} {w:World} {B sz:Nat} {enc:D->Nat->Value} {A:Option Addr} {ds:List D} (h:Sl w B sz enc A ds) (n:Nat):Sl w B sz enc A (ds.take n):=
 ⟨Nat.le_trans (List.length_take_le' ..) h.1,fun G=>by
  obtain⟨b,off,e,E,F⟩:=h.2 (by rintro rfl;simp at G);refine⟨b,off,e,E,fun i d C=>F i d ?_⟩;rw [List.getElem?_take] at C;split at C
  ·exact C
  ·cases C⟩
theorem HP {w:World} {base e size n c:Nat} {A:Option Addr} {xs:List Value} (h:w.ownsRow base e size (.slice A n c) n xs):n<=c:=by
 rcases h.2 with⟨e,h0⟩|⟨g,cap,C,e,_,_,h1,_⟩
 ·omega
 ·injection e with E F G
  omega
theorem HS {w:World} {base n c:Nat} {A:Option Addr} {L:List ByteArray} (h:w.ownsRow base 9 1 (.slice A n c) n (DV L)) (hn:n<=900000):L.length=n/\Sl w w.heap.size 1 BE A L:=by
 have M:L.length=n:=by
  have:=h.1;simpa [DV] using this
 refine⟨M,by omega,fun O=>?_⟩;rcases h.2 with⟨_,h0⟩|⟨g,cap,U,e,_,J,_,_,_,_⟩
 ·exact absurd (List.length_eq_zero_iff.1 (by omega)) O
 ·injection e with G V I
  subst G I;refine⟨g,0,rfl,(Array.getElem?_eq_some_iff.1 J).1,fun k d E j W=>?_⟩;have Z:k<L.length:=by
   rcases Nat.lt_or_ge k L.length with C|C
   ·exact C
   ·rw [List.getElem?_eq_none C] at E;cases E
  have F:j=0:=by omega
  subst F;have:=h.cellAt k (by omega);rw [show 0+k*1+0=k by omega,this];simp [DV,E]
def nmE (L:List ByteArray) (i:Nat):Int:=Ad (!nameOK (L.getD i .empty)||decide (L.getD i .empty∈L.take i)) 2
theorem HN {L:List ByteArray} {k:Nat} (E:k<L.length) (h:Aj (nmE L) (List.range k)=0) {s:ByteArray} (F:L[k]?=some s) (h1:nameOK s=true) (C:s∉L.take k):Aj (nmE L) (List.range (k+1))=0:=by
 have G:(List.range L.length)[k]?=some k:=by rw [List.getElem?_range E]
 have ht:=CD (nmE L) G (by rw [List.take_range,Nat.min_eq_left (by omega)];exact h);rw [List.take_range,Nat.min_eq_left (by omega)] at ht;rw [ht];simp [nmE,F,h1,C,Ad]
theorem Fl {L:List ByteArray} {k:Nat} (E:k<L.length) (h:Aj (nmE L) (List.range k)=0) {s:ByteArray} (F:L[k]?=some s) (h1:nameOK s=false\/s∈L.take k):CU nameOK L=2:=by
 have G:(List.range L.length)[k]?=some k:=by rw [List.getElem?_range E]
 have C:nmE L k=2:=by
  rcases h1 with h1|h1 <;> simp [nmE,F,h1,Ad]
 have ht:=Ct (nmE L) G (by rw [List.take_range,Nat.min_eq_left (by omega)];exact h) (by rw [C];decide);rw [C] at ht;exact ht
theorem J6 {w:World} {cs:List Value} {p:Am} (h:At w w.heap.size cs p) (a5:p.Small) (hT:SpOK w):
  Calls Tryz.prog 140 #[.agg cs.toArray] w (Ret fun v w'=>v=.int .i64 (CU nameOK (Bd p))/\Below w.heap.size w w'):=by
 obtain⟨A1,c1,A2,c2,A3,c3,A4,c4,A5,c5,A6,c6,A7,c7,rfl,h1,V,h3,h4,h5,h6,h7,aY⟩:=h;have bg:=a5.states;have bh:=a5.messages;have bi:=a5.values;have b6:=hide a5.names;obtain⟨w1,bl,F,ay,b0⟩:=Ae w #[.string p.name,.int .i64 p.topo,.slice A1 p.states.length c1,.slice A2 p.messages.length c2,.slice A3 p.values.length c3,.int .i64 p.fault,.slice A4 p.res.length c4,.slice A5 p.initial.length c5,.slice A6 p.leader.length c6,.slice A7 p.rules.length c7] 27;have bc:=ay.cell;obtain⟨w2,bm,G,W,b4⟩:=Ae w1 #[.slice A1 p.states.length c1,.slice A2 p.messages.length c2,.slice A3 p.values.length c3] 22;have b7:=F.size;have bj:=G.size;have au:=h1.keep (w':=w2) (B':=w.heap.size) (fun _ J=>(G.cell (by omega)).trans (F.cell J)) (Nat.le_refl _);have av:=V.keep (w':=w2) (B':=w.heap.size) (fun _ J=>(G.cell (by omega)).trans (F.cell J)) (Nat.le_refl _);have ax:=h3.keep (w':=w2) (B':=w.heap.size) (fun _ J=>(G.cell (by omega)).trans (F.cell J)) (Nat.le_refl _);have az:LL w2 w.heap.size w1.heap.size 0 (fun k=>[A1,A2,A3].getD k none) (fun k=>[c1,c2,c3].getD k 0) [p.states,p.messages,p.values]:=by
  intro k l E
  match k,E with
  | 0,E=>obtain rfl:=Option.some.inj E;exact⟨W.cell 0,au⟩
  | 1,E=>obtain rfl:=Option.some.inj E;exact⟨W.cell 1,av⟩
  | 2,E=>obtain rfl:=Option.some.inj E;exact⟨W.cell 2,ax⟩
  | k+3,E=>simp at E
 have ak:([p.states,p.messages,p.values]:List (List ByteArray)).flatten=Bd p:=by simp [Bd]
 have bf:(Bd p).length<=180:=by simp only [Bd,List.length_append];omega
 have aj:=M4 (c:=3) az W.lt (by omega) (by rw [ak];omega) (by simp) (by simp);rw [ak] at aj;have aZ:=hide aj;have aC:=hide (F.trans (G.mono b7));have aW:=hide ((hT.below F).below G);have b5:=hide (show CU nameOK (Bd p)=Aj (nmE (Bd p)) (List.range (Bd p).length) from rfl);clear aj az au av ax ak F G ay b0 b4 W h1 V h3 h4 h5 h6 h7 a5 hT aY;generalize Bd p=L at*;go_enter Tryz.func140,Tryz.ntmps140;go_wp2_with (go_at_call 168;refine Calls.ret aZ.out ?_;rintro v w3 ⟨aa,ai⟩;obtain⟨Av,cv,hv⟩:=AH aa;subst hv;have aA:=hide (HS aa (by omega)).2;have bd:=HP aa;have M:=hide (aC.out.trans (ai.mono aC.out.size));have aV:=hide (aW.out.below ai);clear aa ai);go_loopw [16] (fun ii wr=>∃(k:Nat),ii=.int .i64 (k:Int)/\k<=L.length/\Hid (Aj (nmE L) (List.range k)=0)/\Hid (Below w3.heap.size w3 wr)) (fun ii _=>L.length - (intOf ii).toNat)
 case atStart=>exact⟨0,rfl,Nat.zero_le _,by show _=_;rfl,Below.refl _ _⟩
 case round=>
  obtain⟨k,rfl,hk,Z,a2⟩:=hrel;by_cases a8:k<L.length
  ·obtain⟨b,off,s,hA,aX,an,hc⟩:=aA.out.at a8;have d0:=hc 0 (by omega);simp only [Nat.add_zero,Nat.mul_one,BE] at d0;have d1:=(a2.out.cell (p:=⟨b,off+k,none⟩) aX).trans d0;have bk:=b6.out s (List.mem_of_getElem? an);have ao:=hide an;subst hA;clear hc d0 an;have a7:∀C,Below wr.heap.size wr C->Hid (Below w3.heap.size w3 C):=fun C hx=>hide (a2.out.trans (hx.mono a2.out.size));have ah:=hide (aV.out.below a2.out);cases a9:nameOK s with
   | false=>
    have U:=hide a9;clear a9;go_wp2_with (go_at_call 87;refine Calls.ret (Da s _ (by omega) ah.out) ?_;rintro v C ⟨rfl,I⟩;rw [U.out]);go_ret;refine⟨?_,M.out.trans ((a7 _ I).out.mono M.out.size)⟩;rw [Fl a8 Z.out ao.out (.inl U.out)];rfl
   | true=>
    have U:=hide a9;clear a9;have aG:(L.take k).length=k:=by rw [List.length_take];omega
    have b8:=hide aG;clear aG;have aE:∀C,Below wr.heap.size wr C->Hid (Calls Tryz.prog 169 #[.slice (some ⟨b,off,none⟩) k cv,.string s] C fun r w'=>r=.returned (.bool (decide (s∈L.take k)))/\C=w'):=by
     intro C hx;have h1:=(aA.out.keep (w':=C) (B':=w3.heap.size) (fun _ J=>(a7 C hx).out.cell J) (Nat.le_refl _)).takeS k;have V:=Je (c:=cv) (x:=s) h1;rw [b8.out] at V;exact V
    have aF:=hide aE;clear aE;by_cases O:s∈L.take k
    ·have am:=hide O;have a4:decide (s∈L.take k)=true:=decide_eq_true O;have al:=hide a4;clear O a4
     go_wp2_with (first
      | (go_at_call 87;refine Calls.ret (Da s _ (by omega) ah.out) ?_;rintro v C ⟨rfl,I⟩;rw [U.out];have a3:=hide I;clear I)
      | (go_at_call 169;refine(aF.out _ a3.out).out.mono ?_;rintro r w' ⟨rfl,rfl⟩;rw [al.out]))
     go_ret;refine⟨?_,M.out.trans ((a7 _ a3.out).out.mono M.out.size)⟩;rw [Fl a8 Z.out ao.out (.inr am.out)];rfl
    ·have am:=hide O;have a4:decide (s∈L.take k)=false:=decide_eq_false O;have al:=hide a4;clear O a4
     go_wp2_with (first
      | (go_at_call 87;refine Calls.ret (Da s _ (by omega) ah.out) ?_;rintro v C ⟨rfl,I⟩;rw [U.out];have a3:=hide I;clear I)
      | (go_at_call 169;refine(aF.out _ a3.out).out.mono ?_;rintro r w' ⟨rfl,rfl⟩;rw [al.out]))
     exact⟨⟨k+1,by go_num,by omega,HN a8 Z.out ao.out U.out am.out,a7 _ a3.out⟩,by simp [intOf];omega⟩
  ·have e:k=L.length:=by omega
   have ag:=Z.out;rw [e,<-b5.out] at ag;have aU:=hide ag;clear ag e Z;go_wp2_with fail;go_ret;exact⟨by rw [aU.out];rfl,M.out.trans (a2.out.mono M.out.size)⟩
end Go.Proofs.YtjejejmeddkciaaGreatDoor.K
namespace Go.Proofs.YtjejejmeddkciaaGreatDoor.K
open Go.RowKit
attribute [-go_sem] loadCellsFrom storeCells
theorem At.rules_at {w:World} {B:Nat} {cs:List Value} {p:Am} (h:At w B cs p):cs.toArray.size=10/\∃A c,cs.toArray[9]?=some (.slice A p.rules.length c)/\BR w B 18 (AW w B) A p.rules/\p.rules.length<=c:=by
 obtain⟨F,c1,G,c2,I,c3,J,U,M,V,O,W,A7,c7,rfl,h1,Z,h3,h4,h5,h6,C,E⟩:=h;exact⟨rfl,A7,c7,rfl,C,E⟩
structure Fc (w:World) (B:Nat) (rc:Array Value) (r:Az):Prop where
 size:rc.size=18
 one:rc.all (·.oneCell')=true
 is:AW w B rc.toList r
theorem AW.c {w:World} {B:Nat} {cs:List Value} {r:Az} (h:AW w B cs r):Fc w B cs.toArray r:=by
 refine⟨?_,?_,by simpa using h⟩ <;> obtain⟨C,c1,E,c2,F,c3,G,O,I,U,J,V,A7,c7,M,W,rfl,_⟩:=h
 ·rfl
 ·simp [Value.oneCell']
theorem Fc.guards {w:World} {B:Nat} {rc:Array Value} {r:Az} (h:Fc w B rc r):∃A c,rc[7]?=some (.slice A r.guards.length c)/\Sl w B 6 CS A r.guards:=by
 obtain⟨F,c1,C,c2,G,c3,I,U,J,V,M,W,A7,c7,O,Z,e,h1,E,h3,h4,h5,h6,h7,h8⟩:=h.is;refine⟨C,c2,?_,E⟩;rw [<-Array.getElem?_toList,e];rfl
theorem Du {w:World} {B:Nat} {A:Option Addr} {l:List Az} (h:BR w B 18 (AW w B) A l) {i:Nat} {r:Az} (G:l[i]?=some r):
  ∃b off rc,A=some ⟨b,off,none⟩/\b<B/\Fc w B rc r/\(∀j v,rc[j]?=some v->w.cell? ⟨b,off+i*18+j,none⟩=some v)/\((loadCellsFrom ⟨b,off+i*18,none⟩ 0 18 #[]).run Tryz.prog w=.ok rc w):=by
 obtain⟨b,off,Z,rc,I,M,F,W,E,J⟩:=h.at (AP G);rw [G] at F;have V:=Option.some.inj F;subst V;have O:=J.c;have U:∀j v,rc.toArray[j]?=some v->w.cell? ⟨b,off+i*18+j,none⟩=some v:=fun j v C=>E j v (by simpa using C);refine⟨b,off,rc.toArray,I,M,O,U,?_⟩;have:=run_loadCells_list (P:=Tryz.prog) w ⟨b,off+i*18,none⟩ rc (fun j v C=>by rw [Addr.add_mid];exact E j v C);rw [W] at this;simpa [loadCells] using this
theorem Dv (w:World) (t n:Nat) (E:(Tryz.prog.info? t).map (·.size)=some n) {rc:Array Value} (h:rc.size=n) (h1:rc.all (·.oneCell')=true):
  ∀c:Array Value,c.size=n->(storeCells ⟨w.heap.size,0,none⟩ rc.toList 0).run Tryz.prog (w.alloc (.cells c t))=.ok () (w.alloc (.cells rc t)):=fun c C=>
 run_storeCells_new w t c rc (by rw [E,h]) (by rw [C,h]) h1
theorem EQ {w w':World} {base e size n:Nat} {v:Value} {xs:List Value} (h:w.ownsRow base e size v n xs) (C:Below w.heap.size w w'):w'.ownsRow base e size v n xs:=(Ac.of_below C fun _=>False).ownsRow h (fun _ _=>id)
theorem Kc {w:World} {base base' e size n:Nat} {v:Value} {xs:List Value} (h:w.ownsRow base e size v n xs) (G:base'<=base):w.ownsRow base' e size v n xs:=by
 refine⟨h.1,?_⟩;rcases h.2 with h1|⟨g,cap,C,e,F,E⟩
 ·exact .inl h1
 ·exact .inr ⟨g,cap,C,e,by omega,E⟩
theorem Qh:(Tryz.prog.info? 208).map (fun i=>(i.zero,i.size,i.bytes))=some (some (DG ⟨0,0,⟨0,0,0,0⟩⟩),6,48):=by kernel_rfl
theorem KR:Dd Tryz.prog 107 208 6:=EX Tryz.underlying107 Qh rfl (by omega) (by omega)
def C4 (g:Thr):List Value:=[.int .i64 g.msg,.int .i64 g.coef,.int .i64 g.bound.c,.int .i64 g.bound.n,.int .i64 g.bound.t,.int .i64 g.bound.f]
def CM (L:List Thr):List Value:=L.flatMap C4
theorem TJ (L:List Thr):(CM L).length=L.length*6:=by
 induction L with
 | nil=>rfl
 | cons x L ih=>
  have:CM (x::L)=C4 x++CM L:=rfl;rw [this,List.length_append,ih,List.length_cons];show 6+_=_
  omega
theorem Lx (L:List Thr) (g:Thr):CM (L++[g])=CM L++C4 g:=by simp [CM]
theorem Ly:∀(L:List Thr) (k:Nat) (d:Thr),L[k]?=some d->∀j,j<6->(CM L)[k*6+j]?=some (CS d j)
 | [],k,d,h,_,_=>by simp at h
 | x::L,0,d,h,j,hj=>by
  obtain rfl:x=d:=by simpa using h
  have:CM (x::L)=C4 x++CM L:=rfl;rw [this,Nat.zero_mul,Nat.zero_add,List.getElem?_append_left (by show j<6;exact hj)]
  match j,hj with
  | 0,_=>rfl
  | 1,_=>rfl
  | 2,_=>rfl
  | 3,_=>rfl
  | 4,_=>rfl
  | 5,_=>rfl
 | x::L,k+1,d,h,j,hj=>by
  have:CM (x::L)=C4 x++CM L:=rfl;rw [this,List.getElem?_append_right (by show 6<=_;omega),show(k+1)*6+j - (C4 x).length=k*6+j from by show(k+1)*6+j - 6=_;omega];exact Ly L k d (by simpa using h) j hj
theorem Kh {w:World} {base n c:Nat} {A:Option Addr} {L:List Thr} (h:w.ownsRow base 208 6 (.slice A n c) n (CM L)) (W:n<=900000):L.length=n/\Sl w w.heap.size 6 CS A L:=by
 have J:L.length=n:=by
  have:=h.1;rw [TJ] at this;omega
 refine⟨J,by omega,fun M=>?_⟩;rcases h.2 with⟨_,h0⟩|⟨g,cap,O,e,_,G,_,_,_,_⟩
 ·exact absurd (List.length_eq_zero_iff.1 (by omega)) M
 ·injection e with E U F
  subst E F;refine⟨g,0,rfl,(Array.getElem?_eq_some_iff.1 G).1,fun k d C j I=>?_⟩;have V:=AP C;rw [show 0+k*6+j=k*6+j by omega,h.cellAt (k*6+j) (by omega)];exact Ly L k d C j I
theorem L5 (s:List Thr) (g:Thr):(Bx s g).length<=s.length+1:=by
 unfold Bx;split <;> simp
theorem Jz:∀(l s:List Thr),(l.foldl Bx s).length<=s.length+l.length
 | [],s=>by simp
 | g::l,s=>by
  have h1:=Jz l (Bx s g);have h:=L5 s g;simp only [List.foldl_cons,List.length_cons];omega
theorem JB {l:List Thr} {k:Nat} {g:Thr} (h:l[k]?=some g) (s:List Thr):(l.take (k+1)).foldl Bx s=Bx ((l.take k).foldl Bx s) g:=by
 rw [show l.take (k+1)=l.take k++[g] by rw [List.take_add_one,h];rfl,List.foldl_append];rfl
theorem LA {l:List Az} {i:Nat} {r:Az} (h:l[i]?=some r):BO (l.take (i+1))=r.guards.foldl Bx (BO (l.take i)):=by
 unfold BO;rw [show l.take (i+1)=l.take i++[r] by rw [List.take_add_one,h];rfl,List.flatMap_append,List.foldl_append];simp
theorem Jw:∀(l:List Az),(∀r∈l,r.guards.length<=60)->(l.flatMap Az.guards).length<=60*l.length
 | [],_=>by simp
 | r::l,h=>by
  have h1:=Jw l (fun x C=>h x (by simp [C]));have E:=h r (by simp);rw [List.flatMap_cons,List.length_append,List.length_cons];omega
theorem FB (l:List Az) (h:∀r∈l,r.guards.length<=60):(BO l).length<=60*l.length:=by
 have h1:=Jz (l.flatMap Az.guards) [];have C:=Jw l h;unfold BO;rw [List.length_nil] at h1;omega
theorem Lz {w:World} {cs:List Value} {p:Am} (h:At w w.heap.size cs p) (ak:p.Small):
  Calls Tryz.prog 143 #[.agg cs.toArray] w (Ret fun v w'=>w'.ownsRow w.heap.size 208 6 v (BO p.rules).length (CM (BO p.rules))/\Below w.heap.size w w'):=by
 have ay:=hide (show ∀r∈p.rules,r.guards.length<=60 from fun r J=>(ak.rule r J).1.2.1);have bA:=ak.rules;obtain⟨bz,A7,c7,aC,aD,bm⟩:=h.rules_at;generalize b7:cs.toArray=pc at*;clear b7 h;generalize b8:p.rules=rs at*;clear b8 ak;obtain⟨C,bE,a3,ae,aU⟩:=Ae w pc 27;have ad:=a3.size;have bl:C.cell? ⟨w.heap.size,9,none⟩=some (.slice A7 rs.length c7):=by rw [ae.cell,aC]
 have aO:=hide (aD.keep (w':=C) (B':=C.heap.size) (R':=AW C C.heap.size) (fun _ F=>a3.cell F) (fun _ _ h=>h.keep (fun _ F=>a3.cell F) ad) ad);have aR:=hide a3;have bv:=ae.lt;clear aD a3 aU ae aC;go_enter Tryz.func143,Tryz.ntmps143;go_wp2_with fail;go_loopw [3,11] (fun vv ii wr=>∃(i n:Nat),ii=.int .i64 (i:Int)/\i<=rs.length/\Hid (wr.ownsRow C.heap.size 208 6 vv n (CM (BO (rs.take i))))/\Hid (n=(BO (rs.take i)).length)/\Hid (Below C.heap.size C wr)) (fun _ ii _=>rs.length - (intOf ii).toNat)
 case atStart=>exact⟨0,0,rfl,Nat.zero_le _,World.ownsRow_nil _ _ _ _,by show _=_;rfl,Below.refl _ _⟩
 case round=>
  obtain⟨i,n,rfl,hi,G,hn,V⟩:=hrel;by_cases aX:i<rs.length
  ·obtain⟨r,J⟩:∃r,rs[i]?=some r:=⟨_,List.getElem?_eq_getElem aX⟩;obtain⟨b,off,rc,hA,bi,W,aT,bt⟩:=Du (aO.out.keep (w':=wr) (B':=C.heap.size) (R':=AW wr C.heap.size) (fun _ F=>V.out.cell F) (fun _ _ h=>h.keep (fun _ F=>V.out.cell F) (Nat.le_refl _)) (Nat.le_refl _)) J;obtain⟨w2,bb,ag,ap,aV⟩:=Ae wr rc 109;have b9:=Dv wr 109 18 (by kernel_rfl) W.size W.one;rw [bb] at b9;obtain⟨Eg,fg,aw,au⟩:=W.guards;have bB:=hide J;have bg:=hide W;have bk:w2.cell? ⟨wr.heap.size,7,none⟩=some (.slice Eg r.guards.length fg):=by rw [ap.cell,aw]
   have bo:=ay.out r (List.mem_of_getElem? J);have I:=hide (EQ G.out ag);have bC:=W.size;have aP:=hide (au.keep (w':=C) (B':=C.heap.size) (fun _ F=>(V.out.cell F).symm) (Nat.le_refl _));have aq:=hide (V.out.trans (ag.mono V.out.size));have ba:=hide (LA J);have b5:=hide (FB (rs.take i) (fun r J=>ay.out r (List.mem_of_mem_take J)));have bx:n<=1800:=by
    have h1:=b5.out;rw [hn.out];rw [List.length_take] at h1;omega
   subst hA;clear aT W aV ap J aw G au ag;go_wp2_with fail;go_loopw [3,18] (fun vv jj wr=>∃(j n:Nat),jj=.int .i64 (j:Int)/\j<=r.guards.length/\n<=1800+j/\Hid (wr.ownsRow C.heap.size 208 6 vv n (CM ((r.guards.take j).foldl Bx (BO (rs.take i)))))/\Hid (n=((r.guards.take j).foldl Bx (BO (rs.take i))).length)/\Hid (Below C.heap.size C wr)) (fun _ jj _=>r.guards.length - (intOf jj).toNat)
   case atStart=>exact⟨0,n,rfl,Nat.zero_le _,by omega,by show World.ownsRow _ _ _ _ _ _ _;simpa using I.out,by show _=_;simpa using hn.out,aq.out⟩
   case round=>
    obtain⟨j,m,rfl,hj,hm,G,a5,a7⟩:=hrel;by_cases aZ:j<r.guards.length
    ·obtain⟨b2,aE,g,aL,bj,hg,ax⟩:=(aP.out.keep (w':=wr) (B':=C.heap.size) (fun _ F=>a7.out.cell F) (Nat.le_refl _)).at aZ;have bu:(loadCellsFrom ⟨b2,aE+j*6,none⟩ 0 6 #[]).run Tryz.prog wr=.ok #[.int .i64 g.msg,.int .i64 g.coef,.int .i64 g.bound.c,.int .i64 g.bound.n,.int .i64 g.bound.t,.int .i64 g.bound.f] wr:=by
      have:=run_loadCells_list (P:=Tryz.prog) wr ⟨b2,aE+j*6,none⟩ (C4 g) (fun k v E=>by
       rw [Addr.add_mid];have hk:=AP E;rw [ax k hk]
       match k,hk,E with
       | 0,_,E=>exact congrArg some (Option.some.inj E)
       | 1,_,E=>exact congrArg some (Option.some.inj E)
       | 2,_,E=>exact congrArg some (Option.some.inj E)
       | 3,_,E=>exact congrArg some (Option.some.inj E)
       | 4,_,E=>exact congrArg some (Option.some.inj E)
       | 5,_,E=>exact congrArg some (Option.some.inj E))
      simpa [loadCells,C4] using this
     have a9:=hide (JB hg (BO (rs.take i)));have aQ:=hide (show DG g=.agg #[.int .i64 g.msg,.int .i64 g.coef,.int .i64 g.bound.c,.int .i64 g.bound.n,.int .i64 g.bound.t,.int .i64 g.bound.f] from rfl);obtain⟨w3,bc,ah,af,aW⟩:=Ae wr #[.int .i64 g.msg,.int .i64 g.coef,.int .i64 g.bound.c,.int .i64 g.bound.n,.int .i64 g.bound.t,.int .i64 g.bound.f] 208;have bD:∀c:Array Value,c.size=6->(storeCells ⟨wr.heap.size,0,none⟩ [.int .i64 g.msg,.int .i64 g.coef,.int .i64 g.bound.c,.int .i64 g.bound.n,.int .i64 g.bound.t,.int .i64 g.bound.f] 0).run Tryz.prog (wr.alloc (.cells c 208))=.ok () w3:=fun c hc=>by rw [<-bc];exact Dv wr 208 6 (by kernel_rfl) (rc:=#[.int .i64 g.msg,.int .i64 g.coef,.int .i64 g.bound.c,.int .i64 g.bound.n,.int .i64 g.bound.t,.int .i64 g.bound.f]) rfl (by simp [Value.oneCell']) c hc
     have br:(loadCellsFrom ⟨wr.heap.size,0,none⟩ 0 6 #[]).run Tryz.prog w3=.ok #[.int .i64 g.msg,.int .i64 g.coef,.int .i64 g.bound.c,.int .i64 g.bound.n,.int .i64 g.bound.t,.int .i64 g.bound.f] w3:=Ah af rfl;have O:=EQ G.out ah;obtain⟨Av,cv,E⟩:=AH G.out;subst E;have av:=(Kh O (by omega)).2;have aB:((r.guards.take j).foldl Bx (BO (rs.take i))).length=m:=a5.out.symm;have ai:=hide (M8 (c:=cv) (x:=g) av (Nat.le_refl _));rw [aB,aQ.out] at ai;have a6:=hide (a7.out.trans (ah.mono a7.out.size));have bn:=hide hg;have aM:=hide af;have ar:=hide O;subst aL;clear ax aW af ah hg av aB G O;generalize ((r.guards.take j).foldl Bx (BO (rs.take i)))=L at*;cases aa:decide (g∈L)
     ·have a4:=hide aa;clear aa;have a2:=hide (show Bx L g=L++[g] from if_neg (of_decide_eq_false a4.out))
      go_wp2_with (first
       | (go_at_call 178;refine Calls.ret ai.out ?_;rintro v w4 ⟨rfl,M⟩;rw [a4.out];have bs:=Ah (n:=6) (aM.out.below M) rfl;have a8:=hide (EQ ar.out M);have Z:=hide (a6.out.trans (M.mono a6.out.size));clear M)
       | (at_builtin;refine BP KR rfl _ _ rfl C.heap.size _ m _ rfl a8.out (C4 g) _ rfl rfl (by simp [C4,Value.oneCell']) (by omega) (by have:=Z.out.size;have:=aq.out.size;omega) ?_;intro g5 bf w5 b6 aA b0 aY))
      have aN:=hide (Z.out.trans (aA.below Z.out.size fun b' bh e=>by have:=(a8.out.lt b' e).1;omega));clear aA b0 aY;exact⟨⟨j+1,m+1,by go_num,by omega,by omega,by show World.ownsRow _ _ _ _ _ _ _;rw [a9.out,a2.out,Lx];exact b6,by show _=_;rw [a9.out,a2.out,List.length_append,a5.out];rfl,aN.out⟩,by simp [intOf];omega⟩
     ·have a4:=hide aa;clear aa;have a2:=hide (show Bx L g=L from if_pos (of_decide_eq_true a4.out));go_wp2_with (go_at_call 178;refine Calls.ret ai.out ?_;rintro v w4 ⟨rfl,M⟩;rw [a4.out];have a8:=hide (EQ ar.out M);have Z:=hide (a6.out.trans (M.mono a6.out.size));clear M);exact⟨⟨j+1,m,by go_num,by omega,by omega,by show World.ownsRow _ _ _ _ _ _ _;rw [a9.out,a2.out];exact a8.out,by show _=_;rw [a9.out,a2.out,a5.out],Z.out⟩,by simp [intOf];omega⟩
    ·have e:j=r.guards.length:=by omega
     have I:=G.out;have U:=a5.out;rw [e,List.take_length,<-ba.out] at I U;have O:=hide I;have b4:=hide U;clear I U e G a5;go_wp2_with fail;exact⟨⟨i+1,m,by go_num,by omega,O.out,b4.out,a7.out⟩,by simp [intOf];omega⟩
  ·have e:i=rs.length:=by omega
   have I:=G.out;have U:=hn.out;rw [e,List.take_length] at I U;rw [U] at I;have O:=hide (Kc I ad);clear I U e G hn;go_wp2_with fail;go_ret;exact⟨O.out,aR.out.trans (V.out.mono ad)⟩
end Go.Proofs.YtjejejmeddkciaaGreatDoor.K
