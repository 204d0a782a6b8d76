/-
  Part CJ of a proof.
-/
import Derived.Test.YtjejejmeddkciaaGreatDoorPA
import Derived.Test.YtjejejmeddkciaaGreatDoorAC
import Derived.Test.YtjejejmeddkciaaGreatDoorCE
set_option maxHeartbeats 16000000
set_option maxRecDepth 100000
set_option linter.unusedVariables false
set_option linter.unusedSimpArgs false
namespace Go.Proofs.YtjejejmeddkciaaGreatDoor.K
open Go.RowKit
attribute [-go_sem] loadCellsFrom storeCells
structure PQX (w:World) (g2 g3:Nat) (pc qc:Array Value) (p:Am) (q:AB):Prop where
 pr:At w w.heap.size pc.toList p
 qr:Ba w w.heap.size qc.toList q
 b2:Blk w g2 27 pc
 b3:Blk w g3 30 qc
 tab:SpOK w
theorem PQX.at {w w':World} {g2 g3:Nat} {F G:Array Value} {p:Am} {q:AB} (h:PQX w g2 g3 F G p q) (C:Below w.heap.size w w'):PQX w' g2 g3 F G p q:=
 ⟨h.pr.keep (fun _ E=>C.cell E) C.size,h.qr.keep (fun _ E=>C.cell E) C.size,h.b2.below C,h.b3.below C,h.tab.below C⟩
theorem Ba.cells {w:World} {B:Nat} {cs:List Value} {q:AB} (h:Ba w B cs q):∃C c1 E c2 F c3 G I,
  cs.toArray.size=6/\cs.toArray[0]?=some (.string q.name)/\cs.toArray[1]?=some (.int .i64 q.kind)/\cs.toArray[2]?=some (.slice C q.start.length c1)/\cs.toArray[3]?=some (.slice E q.bad.length c2)/\cs.toArray[4]?=some (.slice F q.adj.length c3)/\cs.toArray[5]?=some (.slice G q.goal.length I)/\
  Sl w B 1 Ai C q.start/\BR w B 2 (Db w B) E q.bad/\Sl w B 1 Ai F q.adj/\Sl w B 1 Ai G q.goal:=by
 obtain⟨C,c1,E,c2,F,c3,G,I,rfl,h1,J,M,O⟩:=h;exact⟨C,c1,E,c2,F,c3,G,I,rfl,rfl,rfl,rfl,rfl,rfl,rfl,h1,J,M,O⟩
structure AB.Small (q:AB):Prop where
 name:q.name.size<=500
 start:q.start.length<=60
 bad:q.bad.length<=60
 adj:q.adj.length<=60
 goal:q.goal.length<=60
 counts:∀c∈q.bad,c.states.length<=60
structure PQH (w w1 w2:World) (pc qc:Array Value) (p:Am) (q:AB) (A1:Option Addr) (c1:Nat) (A5:Option Addr) (c5:Nat) (B1:Option Addr) (d1:Nat) (B2:Option Addr) (d2:Nat) (B3:Option Addr) (d3:Nat) (B4:Option Addr) (d4 ns ni nt nb na ng:Nat) (kq:Int):Prop where
 e1:w.alloc (.cells pc 27)=w1
 e2:w1.alloc (.cells qc 30)=w2
 b02:Hid (Below w.heap.size w w2)
 s01:w.heap.size<=w1.heap.size
 x2:Hid (PQX w2 w.heap.size w1.heap.size pc qc p q)
 lh:Hid (ns=p.states.length/\ni=p.initial.length/\nt=q.start.length/\nb=q.bad.length/\na=q.adj.length/\ng=q.goal.length/\kq=q.kind)
 sm:Hid p.Small
 sl:Hid (Sl w w.heap.size 1 Ai A5 p.initial)/\Hid (Sl w w.heap.size 1 Ai B1 q.start)/\Hid (BR w w.heap.size 2 (Db w w.heap.size) B2 q.bad)/\Hid (Sl w w.heap.size 1 Ai B3 q.adj)/\Hid (Sl w w.heap.size 1 Ai B4 q.goal)
 sz:Hid (pc.size=10)
 bd:q.name.size<=500/\nt<=60/\nb<=60/\na<=60/\ng<=60/\ns<=60/\ni<=60
 pp:pc[1]?=some (.int .i64 p.topo)/\pc[2]?=some (.slice A1 ns c1)/\pc[7]?=some (.slice A5 ni c5)
 qq:qc[0]?=some (.string q.name)/\qc[1]?=some (.int .i64 kq)/\qc[2]?=some (.slice B1 nt d1)/\qc[3]?=some (.slice B2 nb d2)/\qc[4]?=some (.slice B3 na d3)/\qc[5]?=some (.slice B4 ng d4)
theorem Dj {w:World} {cs ds:List Value} {p:Am} {q:AB} (h:At w w.heap.size cs p) (h':Ba w w.heap.size ds q) (a6:p.Small) (E:q.Small) (hT:SpOK w):
  ∃F w2 G c1 I V J W M Z O d3 U d4 ns ni nt nb na ng kq,PQH w F w2 cs.toArray ds.toArray p q G c1 I V J W M Z O d3 U d4 ns ni nt nb na ng kq:=by
 obtain⟨G,c1,A2,c2,A3,c3,A4,c4,I,V,A6,c6,A7,c7,ah,aR,ae,af,aS,aT,aU,aV,ag,aW,aX,h1,h2,h3,h4,h5,h6,h7,aO⟩:=h.cells;obtain⟨J,W,M,Z,O,d3,U,d4,aY,ai,aj,ak,al,am,an,k1,k2,k3,k4⟩:=h'.cells;obtain⟨F,ao,a4,aa,aP⟩:=Ae w cs.toArray 27;obtain⟨w2,ap,a8,ab,aQ⟩:=Ae F ds.toArray 30;have C:=hide (a4.trans (a8.mono a4.size))
 exact⟨F,w2,G,c1,I,V,J,W,M,Z,O,d3,U,d4,_,_,_,_,_,_,_,ao,ap,C,a4.size,
  hide ⟨h.keep (fun _ hp=>C.out.cell hp) C.out.size,h'.keep (fun _ hp=>C.out.cell hp) C.out.size,aa.below a8,ab,hT.below C.out⟩,
  hide ⟨rfl,rfl,rfl,rfl,rfl,rfl,rfl⟩,hide a6,⟨hide h5,hide k1,hide k2,hide k3,hide k4⟩,hide ah,⟨E.name,E.start,E.bad,E.adj,E.goal,a6.states,a6.initial⟩,⟨ae,af,ag⟩,ai,aj,ak,al,am,an⟩
def CF (p:Am) (q:AB):Bool:=q.start.all fun x=>decide (x∈p.initial)
section
variable {p:Am} {q:AB}
theorem Ky (h:protE nameOK p≠0):aCq nameOK p q=protE nameOK p:=BF h
theorem Kx (h:protE nameOK p=0) (h1:nameOK q.name=false):aCq nameOK p q=2:=by
 unfold aCq;rw [h,h1];rfl
theorem Kw (h:protE nameOK p=0) (h1:nameOK q.name=true) (C:q.kind≠1) (E:q.kind≠2):aCq nameOK p q=1:=by
 unfold aCq;rw [h,h1,decide_eq_false C,decide_eq_false E];rfl
theorem Kv (h:protE nameOK p=0) (h1:nameOK q.name=true) (C:q.kind=1) (E:q.goal.length≠0):aCq nameOK p q=1:=by
 unfold aCq;rw [h,h1,C,Bv q.goal,decide_eq_false E];rfl
theorem GJ (h:protE nameOK p=0) (h1:nameOK q.name=true) (E:q.kind=2) (C:q.bad.length≠0\/q.adj.length≠0):aCq nameOK p q=1:=by
 unfold aCq;rw [h,h1,E,Bv q.bad,Bv q.adj];rcases C with C|C
 ·rw [decide_eq_false C];rfl
 ·rw [decide_eq_false C];cases decide (q.bad.length=0) <;> rfl
def DL (p:Am) (q:AB):Int:=
 orE (Ad (q.bad.isEmpty&&q.adj.isEmpty) 1) (orE (Ad (decide (3<q.bad.length)) 4) (orE (Aj (AV p.states.length) q.bad) (BA p.topo p.states.length q.adj)))
def Ez (p:Am) (q:AB):Int:=orE (Aa q.goal p.states.length) (Ad q.goal.isEmpty 1)
theorem HZ (h:protE nameOK p=0) (h1:nameOK q.name=true) (C:q.kind=1) (E:q.goal.length=0):aCq nameOK p q=orE (Aa q.start p.states.length) (orE (Ad (!CF p q) 5) (DL p q)):=by
 unfold aCq;rw [h,h1,C,Bv q.goal,decide_eq_true E];rfl
theorem H7 (h:protE nameOK p=0) (h1:nameOK q.name=true) (C:q.kind=2) (E:q.bad.length=0) (F:q.adj.length=0):aCq nameOK p q=orE (Aa q.start p.states.length) (orE (Ad (!CF p q) 5) (Ez p q)):=by
 unfold aCq;rw [h,h1,C,Bv q.bad,Bv q.adj,decide_eq_true E,decide_eq_true F];rfl
end
end Go.Proofs.YtjejejmeddkciaaGreatDoor.K
namespace Go.Proofs.YtjejejmeddkciaaGreatDoor.K
open Go.RowKit
def inN (x:Int) (n:Int):Bool:=inC x 0 (n - 1)
structure Un (r:Az):Prop where
 g:r.kind≠1->r.guards=[]/\r.ex=[]/\r.fa=[]/\r.send=[]
 v:r.kind=4\/r.kind=5->r.rd= -1/\r.wr= -1
 l:r.kind≠4->r.left=[]/\r.right=[]/\r.parent=[]
theorem DF {topo:Int} {r:Az} (h:B9 topo r=false):Un r:=by
 unfold B9 at h;simp only [Bool.or_eq_false_iff,Bool.and_eq_false_iff,Bool.not_eq_false',decide_eq_true_eq,List.isEmpty_iff] at h;obtain⟨⟨⟨⟨⟨⟨h1,F⟩,G⟩,I⟩,J⟩,C⟩,E⟩:=h;refine⟨fun k=>?_,fun k=>?_,fun k=>?_⟩
 ·rcases h1 with h1|h1
  ·exact absurd h1 k
  ·exact⟨h1.1.1.1,h1.1.1.2,h1.1.2,h1.2⟩
 ·rcases F with F|F
  ·rcases k with k|k <;> omega
  ·exact F
 ·rcases C with C|C
  ·exact absurd C k
  ·rcases E with E|E
   ·exact⟨C.1.2,C.2,E⟩
   ·simp [k] at E
section
variable {ok:ByteArray->Bool} {topo n m k:Int} {r:Az}
theorem Eh (n:Int):Aa [] n=0:=rfl
structure KOK (ok:ByteArray->Bool) (topo:Int) (r:Az):Prop where
 name:ok r.name=true
 kind:(decide (1<=r.kind)&&decide (r.kind<=5))=true
 cl:(decide (r.kind<=3) != decide (topo=1))=false
 un:B9 topo r=false
theorem Sj (h:ok r.name=false) (t:Bool):BC ok topo n m k t r=2:=by
 unfold BC;rw [h];rfl
theorem Sk:BC ok topo n m k true r=2:=by
 unfold BC;cases ok r.name <;> rfl
theorem Ib (h:ok r.name=true) (C:(!(decide (1<=r.kind)&&decide (r.kind<=5))||(decide (r.kind<=3) != decide (topo=1))||B9 topo r)=true):BC ok topo n m k false r=6:=by
 unfold BC;rw [h,C];rfl
theorem Se (h:KOK ok topo r) (F:r.kind=1):BC ok topo n m k false r=orE (Ad (!inN r.fr n||!inN r.to n) 5) (orE (Aj (B7 m) r.guards) (orE (Ad (decide (2<r.guards.length)) 4) (orE (Aa r.ex n) (orE (Aa r.fa n) (orE (Ad (!AO r.rd k||!AO r.wr k) 5) (Aa r.send m)))))):=by
 obtain⟨a1,C,E⟩:=(DF h.un).l (by omega);unfold BC;rw [h.name,h.kind,h.cl,h.un,a1,C,E,Eh,F];simp [Ad,Bk,inN,C5,AY]
theorem Sf (h:KOK ok topo r) (F:r.kind=2):BC ok topo n m k false r=orE (Ad (!inN r.fr n||!inN r.to n||(!inN r.pf n||!inN r.pt n)) 5) (Ad (!AO r.rd k||!AO r.wr k) 5):=by
 obtain⟨a1,C,E⟩:=(DF h.un).l (by omega);obtain⟨b1,b2,b3,b4⟩:=(DF h.un).g (by omega);unfold BC;rw [h.name,h.kind,h.cl,h.un,a1,C,E,b1,b2,b3,b4,Eh,Eh,F];simp [Ad,Bk,inN,C5,AY,Aj]
theorem Sg (h:KOK ok topo r) (F:r.kind=3):BC ok topo n m k false r=orE (Ad (!inN r.fr n||!inN r.to n) 5) (orE (C8 n r.resp) (Ad (!AO r.rd k||!AO r.wr k) 5)):=by
 obtain⟨a1,C,E⟩:=(DF h.un).l (by omega);obtain⟨b1,b2,b3,b4⟩:=(DF h.un).g (by omega);unfold BC;rw [h.name,h.kind,h.cl,h.un,a1,C,E,b1,b2,b3,b4,Eh,Eh,F];simp [Ad,Bk,inN,C5,AY,Aj]
theorem DW (h0:0<=k):AO (-1) k=true:=by
 unfold AO;rw [decide_eq_true (show(-1:Int)<k by omega)];rfl
theorem Cd {v:Int} (h:v≠-1):AO v k=inC v 0 (k - 1):=by
 unfold AO inC;rw [decide_eq_decide.2 (show -1<=v↔0<=v by omega),decide_eq_decide.2 (show v<k↔v<=k - 1 by omega)]
theorem Sh (h:KOK ok topo r) (C:r.kind=4) (h0:0<=k):BC ok topo n m k false r=orE (Ad (!inN r.fr n||!inN r.to n) 5) (orE (Aa r.left n) (orE (Aa r.right n) (orE (Aa r.parent n) (Ad (!inC r.at_ 0 2||(!decide (r.at_=0)&&decide (topo=3))) 1)))):=by
 obtain⟨b1,b2,b3,b4⟩:=(DF h.un).g (by omega);obtain⟨c1,c2⟩:=(DF h.un).v (.inl C);unfold BC;rw [h.name,h.kind,h.cl,h.un,b1,b2,b3,b4,Eh,Eh,C,c1,c2];rw [DW h0];simp [Ad,Bk,inN,C5,AY,Aj,inC]
theorem Si (h:KOK ok topo r) (C:r.kind=5) (h0:0<=k):BC ok topo n m k false r=orE (Ad (!inN r.fr n||!inN r.to n||(!inN r.pf n||!inN r.pt n)) 5) (Ad (if topo=4 then !inC r.dir 3 4 else !inC r.dir 1 2) 1):=by
 obtain⟨a1,E,F⟩:=(DF h.un).l (by omega);obtain⟨b1,b2,b3,b4⟩:=(DF h.un).g (by omega);obtain⟨c1,c2⟩:=(DF h.un).v (.inr C);unfold BC;rw [h.name,h.kind,h.cl,h.un,a1,E,F,b1,b2,b3,b4,Eh,Eh,C,c1,c2];rw [DW h0];by_cases ht:topo=4 <;> simp [Ad,Bk,inN,C5,AY,Aj,inC,ht]
end
end Go.Proofs.YtjejejmeddkciaaGreatDoor.K
namespace Go.Proofs.YtjejejmeddkciaaGreatDoor.K
open Go.RowKit
attribute [-go_sem] loadCellsFrom storeCells
theorem Jo {w:World} {cs:List Value} {p:Am} (h:At w w.heap.size cs p) (ao:p.Small):
  Calls Tryz.prog 165 #[.agg cs.toArray] w (Ret fun v w'=>w'.ownsRow w.heap.size 208 6 v (BO p.rules).length (CM (BO p.rules))/\Below w.heap.size w w'):=by
 have aD:=hide (show ∀r∈p.rules,r.guards.length<=60 from fun r J=>(ao.rule r J).1.2.1);have bC:=ao.rules;obtain⟨bB,A7,c7,aH,aJ,bq⟩:=h.rules_at;generalize bf:cs.toArray=pc at*;clear bf h;generalize bg:p.rules=rs at*;clear bg ao;obtain⟨C,bF,a4,ag,b5⟩:=Ae w pc 27;have af:=a4.size;have a9:C.cell? ⟨w.heap.size,9,none⟩=some (.slice A7 rs.length c7):=by rw [ag.cell,aH]
 have aU:=hide (aJ.keep (w':=C) (B':=C.heap.size) (R':=AW C C.heap.size) (fun _ F=>a4.cell F) (fun _ _ h=>h.keep (fun _ F=>a4.cell F) af) af);have aX:=hide a4;have ab:=ag.lt;clear aJ a4 b5 ag aH;go_enter Tryz.func165,Tryz.ntmps165;go_wp2_with fail;go_loopw [3,4] (fun vv ii wr=>∃(i n:Nat),ii=.int .i64 (i:Int)/\i<=rs.length/\Hid (wr.ownsRow C.heap.size 208 6 vv n (CM (BO (rs.take i))))/\Hid (n=(BO (rs.take i)).length)/\Hid (Below C.heap.size C wr)) (fun _ ii _=>rs.length - (intOf ii).toNat)
 case atStart=>exact⟨0,0,rfl,Nat.zero_le _,World.ownsRow_nil _ _ _ _,by show _=_;rfl,Below.refl _ _⟩
 case round=>
  obtain⟨i,n,rfl,hi,G,hn,M⟩:=hrel;by_cases b8:i<rs.length
  ·obtain⟨r,J⟩:∃r,rs[i]?=some r:=⟨_,List.getElem?_eq_getElem b8⟩;obtain⟨b,off,rc,hA,al,hC,aC,b7⟩:=Du (aU.out.keep (w':=wr) (B':=C.heap.size) (R':=AW wr C.heap.size) (fun _ F=>M.out.cell F) (fun _ _ h=>h.keep (fun _ F=>M.out.cell F) (Nat.le_refl _)) (Nat.le_refl _)) J;obtain⟨Eg,fg,aA,ax⟩:=hC.guards;have bD:=hide J;have bn:=hide hC;have az:C.cell? ⟨b,off+i*18+7,none⟩=some (.slice Eg r.guards.length fg):=(M.out.cell (p:=⟨b,off+i*18+7,none⟩) al).symm.trans (aC 7 _ aA);have bs:=aD.out r (List.mem_of_getElem? J);have I:=hide G.out;have b0:=(M.out.cell (p:=⟨w.heap.size,9,none⟩) ab).trans a9;have aV:=hide (ax.keep (w':=C) (B':=C.heap.size) (fun _ F=>(M.out.cell F).symm) (Nat.le_refl _));have av:=hide M.out;have bh:=hide (LA J);have bd:=hide (FB (rs.take i) (fun r J=>aD.out r (List.mem_of_mem_take J)));have bA:n<=1800:=by
    have h1:=bd.out;rw [hn.out];rw [List.length_take] at h1;omega
   subst hA;clear aC hC J aA G ax b7;go_wp2_with fail;go_loopw [3,5] (fun vv jj wr=>∃(j n:Nat),jj=.int .i64 (j:Int)/\j<=r.guards.length/\n<=1800+j/\Hid (wr.ownsRow C.heap.size 208 6 vv n (CM ((r.guards.take j).foldl Bx (BO (rs.take i)))))/\Hid (n=((r.guards.take j).foldl Bx (BO (rs.take i))).length)/\Hid (Below C.heap.size C wr)) (fun _ jj _=>r.guards.length - (intOf jj).toNat)
   case atStart=>exact⟨0,n,rfl,Nat.zero_le _,by omega,by show World.ownsRow _ _ _ _ _ _ _;simpa using I.out,by show _=_;simpa using hn.out,av.out⟩
   case round=>
    obtain⟨j,m,rfl,hj,hm,G,a6,O⟩:=hrel;by_cases ba:j<r.guards.length
    ·have b4:=(O.out.cell (p:=⟨w.heap.size,9,none⟩) ab).trans a9;have aZ:=(O.out.cell (p:=⟨b,off+i*18+7,none⟩) al).trans az;obtain⟨b2,aK,g,aR,bp,hg,aB⟩:=(aV.out.keep (w':=wr) (B':=C.heap.size) (fun _ F=>O.out.cell F) (Nat.le_refl _)).at ba;have bx:(loadCellsFrom ⟨b2,aK+j*6,none⟩ 0 6 #[]).run Tryz.prog wr=.ok #[.int .i64 g.msg,.int .i64 g.coef,.int .i64 g.bound.c,.int .i64 g.bound.n,.int .i64 g.bound.t,.int .i64 g.bound.f] wr:=by
      have:=run_loadCells_list (P:=Tryz.prog) wr ⟨b2,aK+j*6,none⟩ (C4 g) (fun k v E=>by
       rw [Addr.add_mid];have hk:=AP E;rw [aB k hk]
       match k,hk,E with
       | 0,_,E=>exact congrArg some (Option.some.inj E)
       | 1,_,E=>exact congrArg some (Option.some.inj E)
       | 2,_,E=>exact congrArg some (Option.some.inj E)
       | 3,_,E=>exact congrArg some (Option.some.inj E)
       | 4,_,E=>exact congrArg some (Option.some.inj E)
       | 5,_,E=>exact congrArg some (Option.some.inj E))
      simpa [loadCells,C4] using this
     have aa:=hide (JB hg (BO (rs.take i)));have aW:=hide (show DG g=.agg #[.int .i64 g.msg,.int .i64 g.coef,.int .i64 g.bound.c,.int .i64 g.bound.n,.int .i64 g.bound.t,.int .i64 g.bound.f] from rfl);obtain⟨w3,bi,ak,ah,b6⟩:=Ae wr #[.int .i64 g.msg,.int .i64 g.coef,.int .i64 g.bound.c,.int .i64 g.bound.n,.int .i64 g.bound.t,.int .i64 g.bound.f] 208;have bE:∀c:Array Value,c.size=6->(storeCells ⟨wr.heap.size,0,none⟩ [.int .i64 g.msg,.int .i64 g.coef,.int .i64 g.bound.c,.int .i64 g.bound.n,.int .i64 g.bound.t,.int .i64 g.bound.f] 0).run Tryz.prog (wr.alloc (.cells c 208))=.ok () w3:=fun c hc=>by rw [<-bi];exact Dv wr 208 6 (by kernel_rfl) (rc:=#[.int .i64 g.msg,.int .i64 g.coef,.int .i64 g.bound.c,.int .i64 g.bound.n,.int .i64 g.bound.t,.int .i64 g.bound.f]) rfl (by simp [Value.oneCell']) c hc
     have bv:(loadCellsFrom ⟨wr.heap.size,0,none⟩ 0 6 #[]).run Tryz.prog w3=.ok #[.int .i64 g.msg,.int .i64 g.coef,.int .i64 g.bound.c,.int .i64 g.bound.n,.int .i64 g.bound.t,.int .i64 g.bound.f] w3:=Ah ah rfl;have V:=EQ G.out ak;obtain⟨Av,cv,E⟩:=AH G.out;subst E;have ay:=(Kh V (by omega)).2;have aG:((r.guards.take j).foldl Bx (BO (rs.take i))).length=m:=a6.out.symm;have am:=hide (TI (c:=cv) (x:=g) ay (Nat.le_refl _));rw [aG,aW.out] at am;have a7:=hide (O.out.trans (ak.mono O.out.size));have br:=hide hg;have aS:=hide ah;have aw:=hide V;subst aR;clear aB b6 ah ak hg ay aG G V;generalize ((r.guards.take j).foldl Bx (BO (rs.take i)))=L at*;cases ad:decide (g∈L)
     ·have a5:=hide ad;clear ad;have hZ:∀z:Int,(0<=z↔g∈L)->z<0:=fun z Z=>by
       have h1:=of_decide_eq_false a5.out;have h2:¬0<=z:=fun h=>h1 (Z.1 h);omega
      have a3:=hide (show Bx L g=L++[g] from if_neg (of_decide_eq_false a5.out))
      go_wp2_with (first
       | (go_at_call 189;refine Calls.ret am.out ?_;rintro v w4 ⟨⟨z,rfl,Z⟩,U⟩;have bj:=hZ z Z;have bw:=Ah (n:=6) (aS.out.below U) rfl;have a8:=hide (EQ aw.out U);have a2:=hide (a7.out.trans (U.mono a7.out.size));clear U)
       | (at_builtin;refine BP KR rfl _ _ rfl C.heap.size _ m _ rfl a8.out (C4 g) _ rfl rfl (by simp [C4,Value.oneCell']) (by omega) (by have:=a2.out.size;have:=av.out.size;omega) ?_;intro g5 bm w5 be aF bb b9))
      have aT:=hide (a2.out.trans (aF.below a2.out.size fun b' bo e=>by have:=(a8.out.lt b' e).1;omega));clear aF bb b9;exact⟨⟨j+1,m+1,by go_num,by omega,by omega,by show World.ownsRow _ _ _ _ _ _ _;rw [aa.out,a3.out,Lx];exact be,by show _=_;rw [aa.out,a3.out,List.length_append,a6.out];rfl,aT.out⟩,by simp [intOf];omega⟩
     ·have a5:=hide ad;clear ad;have hZ:∀z:Int,(0<=z↔g∈L)->¬z<0:=fun z Z=>by
       have h1:=of_decide_eq_true a5.out;have h2:=Z.2 h1;omega
      have a3:=hide (show Bx L g=L from if_pos (of_decide_eq_true a5.out));go_wp2_with (go_at_call 189;refine Calls.ret am.out ?_;rintro v w4 ⟨⟨z,rfl,Z⟩,U⟩;have bj:=hZ z Z;have a8:=hide (EQ aw.out U);have a2:=hide (a7.out.trans (U.mono a7.out.size));clear U);exact⟨⟨j+1,m,by go_num,by omega,by omega,by show World.ownsRow _ _ _ _ _ _ _;rw [aa.out,a3.out];exact a8.out,by show _=_;rw [aa.out,a3.out,a6.out],a2.out⟩,by simp [intOf];omega⟩
    ·have e:j=r.guards.length:=by omega
     have I:=G.out;have W:=a6.out;rw [e,List.take_length,<-bh.out] at I W;have V:=hide I;have bc:=hide W;have b4:=(O.out.cell (p:=⟨w.heap.size,9,none⟩) ab).trans a9;have aZ:=(O.out.cell (p:=⟨b,off+i*18+7,none⟩) al).trans az;clear I W e G a6;go_wp2_with fail;exact⟨⟨i+1,m,by go_num,by omega,V.out,bc.out,O.out⟩,by simp [intOf];omega⟩
  ·have e:i=rs.length:=by omega
   have I:=G.out;have W:=hn.out;rw [e,List.take_length] at I W;rw [W] at I;have V:=hide (Kc I af);have b0:=(M.out.cell (p:=⟨w.heap.size,9,none⟩) ab).trans a9;clear I W e G hn;go_wp2_with fail;go_ret;exact⟨V.out,aX.out.trans (M.out.mono af)⟩
end Go.Proofs.YtjejejmeddkciaaGreatDoor.K
