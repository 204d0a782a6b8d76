/-
  Part CJ of a proof.
-/
import Derived.Test.YtfcfpoemojjglaaGreatDoorPA
import Derived.Test.YtfcfpoemojjglaaGreatDoorAC
import Derived.Test.YtfcfpoemojjglaaGreatDoorCE
set_option maxHeartbeats 16000000
set_option maxRecDepth 100000
set_option linter.unusedVariables false
set_option linter.unusedSimpArgs false
namespace Go.Proofs.YtfcfpoemojjglaaGreatDoor.K
open Go.RowKit
attribute [-go_sem] loadCellsFrom storeCells
structure PQX (w:World) (g2 g3:Nat) (pc qc:Array Value) (p:Am) (q:AB):Prop where
 pr:At w w.heap.size pc.toList p
 qr:Ba w w.heap.size qc.toList q
 b2:Blk w g2 27 pc
 b3:Blk w g3 30 qc
 tab:SpOK w
theorem PQX.at {w w':World} {g2 g3:Nat} {pc qc:Array Value} {p:Am} {q:AB} (h:PQX w g2 g3 pc qc p q) (d:Below w.heap.size w w'):PQX w' g2 g3 pc qc p q:=
 ⟨h.pr.keep (fun _ j=>d.cell j) d.size,h.qr.keep (fun _ j=>d.cell j) d.size,h.b2.below d,h.b3.below d,h.tab.below d⟩
theorem Ba.cells {w:World} {B:Nat} {cs:List Value} {q:AB} (h:Ba w B cs q):∃A1 c1 A2 c2 A3 c3 d c4,
  cs.toArray.size=6/\cs.toArray[0]?=some (.string q.name)/\cs.toArray[1]?=some (.int .i64 q.kind)/\cs.toArray[2]?=some (.slice A1 q.start.length c1)/\cs.toArray[3]?=some (.slice A2 q.bad.length c2)/\cs.toArray[4]?=some (.slice A3 q.adj.length c3)/\cs.toArray[5]?=some (.slice d q.goal.length c4)/\
  Sl w B 1 Ai A1 q.start/\BR w B 2 (Db w B) A2 q.bad/\Sl w B 1 Ai A3 q.adj/\Sl w B 1 Ai d q.goal:=by
 obtain⟨A1,c1,A2,c2,A3,c3,d,c4,rfl,j,l,y,C⟩:=h;exact⟨A1,c1,A2,c2,A3,c3,d,c4,rfl,rfl,rfl,rfl,rfl,rfl,rfl,j,l,y,C⟩
structure AB.Small (q:AB):Prop where
 name:q.name.size<=500
 start:q.start.length<=60
 bad:q.bad.length<=60
 adj:q.adj.length<=60
 goal:q.goal.length<=60
 counts:∀c∈q.bad,c.states.length<=60
structure PQH (w w1 w2:World) (pc qc:Array Value) (p:Am) (q:AB) (A1:Option Addr) (c1:Nat) (A5:Option Addr) (c5:Nat) (B1:Option Addr) (d1:Nat) (B2:Option Addr) (d2:Nat) (B3:Option Addr) (d3:Nat) (B4:Option Addr) (d4 ns ni nt nb na ng:Nat) (kq:Int):Prop where
 e1:w.alloc (.cells pc 27)=w1
 e2:w1.alloc (.cells qc 30)=w2
 b02:Hid (Below w.heap.size w w2)
 s01:w.heap.size<=w1.heap.size
 x2:Hid (PQX w2 w.heap.size w1.heap.size pc qc p q)
 lh:Hid (ns=p.states.length/\ni=p.initial.length/\nt=q.start.length/\nb=q.bad.length/\na=q.adj.length/\ng=q.goal.length/\kq=q.kind)
 sm:Hid p.Small
 sl:Hid (Sl w w.heap.size 1 Ai A5 p.initial)/\Hid (Sl w w.heap.size 1 Ai B1 q.start)/\Hid (BR w w.heap.size 2 (Db w w.heap.size) B2 q.bad)/\Hid (Sl w w.heap.size 1 Ai B3 q.adj)/\Hid (Sl w w.heap.size 1 Ai B4 q.goal)
 sz:Hid (pc.size=10)
 bd:q.name.size<=500/\nt<=60/\nb<=60/\na<=60/\ng<=60/\ns<=60/\ni<=60
 pp:pc[1]?=some (.int .i64 p.topo)/\pc[2]?=some (.slice A1 ns c1)/\pc[7]?=some (.slice A5 ni c5)
 qq:qc[0]?=some (.string q.name)/\qc[1]?=some (.int .i64 kq)/\qc[2]?=some (.slice B1 nt d1)/\qc[3]?=some (.slice B2 nb d2)/\qc[4]?=some (.slice B3 na d3)/\qc[5]?=some (.slice B4 ng d4)
theorem Dj {w:World} {cs ds:List Value} {p:Am} {q:AB} (h:At w w.heap.size cs p) (h':Ba w w.heap.size ds q) (Z:p.Small) (j:q.Small) (hT:SpOK w):
  ∃w1 w2 A1 c1 l I y J C M E O G U ns ni nt nb na ng kq,PQH w w1 w2 cs.toArray ds.toArray p q A1 c1 l I y J C M E O G U ns ni nt nb na ng kq:=by
 obtain⟨A1,c1,A2,c2,A3,c3,A4,c4,l,I,A6,c6,A7,c7,ab,aJ,a8,a9,aK,aL,aM,aN,aa,aO,aP,h1,h2,h3,h4,h5,h6,h7,aF⟩:=h.cells;obtain⟨y,J,C,M,E,O,G,U,aQ,ad,ae,af,ag,ah,ai,k1,k2,k3,k4⟩:=h'.cells;obtain⟨w1,aj,V,a5,aG⟩:=Ae w cs.toArray 27;obtain⟨w2,ak,a3,a6,aH⟩:=Ae w1 ds.toArray 30;have d:=hide (V.trans (a3.mono V.size))
 exact⟨w1,w2,A1,c1,l,I,y,J,C,M,E,O,G,U,_,_,_,_,_,_,_,aj,ak,d,V.size,
  hide ⟨h.keep (fun _ W=>d.out.cell W) d.out.size,h'.keep (fun _ W=>d.out.cell W) d.out.size,a5.below a3,a6,hT.below d.out⟩,
  hide ⟨rfl,rfl,rfl,rfl,rfl,rfl,rfl⟩,hide Z,⟨hide h5,hide k1,hide k2,hide k3,hide k4⟩,hide ab,⟨j.name,j.start,j.bad,j.adj,j.goal,Z.states,Z.initial⟩,⟨a8,a9,aa⟩,ad,ae,af,ag,ah,ai⟩
def CF (p:Am) (q:AB):Bool:=q.start.all fun x=>decide (x∈p.initial)
section
variable {p:Am} {q:AB}
theorem Ky (h:protE nameOK p≠0):propE nameOK p q=protE nameOK p:=BF h
theorem Kx (h:protE nameOK p=0) (d:nameOK q.name=false):propE nameOK p q=2:=by
 unfold propE;rw [h,d];rfl
theorem Kw (h:protE nameOK p=0) (d:nameOK q.name=true) (j:q.kind≠1) (l:q.kind≠2):propE nameOK p q=1:=by
 unfold propE;rw [h,d,decide_eq_false j,decide_eq_false l];rfl
theorem Kv (h:protE nameOK p=0) (d:nameOK q.name=true) (j:q.kind=1) (l:q.goal.length≠0):propE nameOK p q=1:=by
 unfold propE;rw [h,d,j,Bv q.goal,decide_eq_false l];rfl
theorem GJ (h:protE nameOK p=0) (j:nameOK q.name=true) (l:q.kind=2) (d:q.bad.length≠0\/q.adj.length≠0):propE nameOK p q=1:=by
 unfold propE;rw [h,j,l,Bv q.bad,Bv q.adj];rcases d with d | d
 ·rw [decide_eq_false d];rfl
 ·rw [decide_eq_false d];cases decide (q.bad.length=0) <;> rfl
def DL (p:Am) (q:AB):Int:=
 orE (Ad (q.bad.isEmpty&&q.adj.isEmpty) 1) (orE (Ad (decide (3<q.bad.length)) 4) (orE (Aj (AV p.states.length) q.bad) (BA p.topo p.states.length q.adj)))
def Ez (p:Am) (q:AB):Int:=orE (Aa q.goal p.states.length) (Ad q.goal.isEmpty 1)
theorem HZ (h:protE nameOK p=0) (d:nameOK q.name=true) (j:q.kind=1) (l:q.goal.length=0):propE nameOK p q=orE (Aa q.start p.states.length) (orE (Ad (!CF p q) 5) (DL p q)):=by
 unfold propE;rw [h,d,j,Bv q.goal,decide_eq_true l];rfl
theorem H7 (h:protE nameOK p=0) (d:nameOK q.name=true) (j:q.kind=2) (l:q.bad.length=0) (y:q.adj.length=0):propE nameOK p q=orE (Aa q.start p.states.length) (orE (Ad (!CF p q) 5) (Ez p q)):=by
 unfold propE;rw [h,d,j,Bv q.bad,Bv q.adj,decide_eq_true l,decide_eq_true y];rfl
end
end Go.Proofs.YtfcfpoemojjglaaGreatDoor.K
namespace Go.Proofs.YtfcfpoemojjglaaGreatDoor.K
open Go.RowKit
def inN (x:Int) (n:Int):Bool:=inC x 0 (n - 1)
structure Un (r:Az):Prop where
 g:r.kind≠1->r.guards=[]/\r.ex=[]/\r.fa=[]/\r.send=[]
 v:r.kind=4\/r.kind=5->r.rd= -1/\r.wr= -1
 l:r.kind≠4->r.left=[]/\r.right=[]/\r.parent=[]
theorem DF {topo:Int} {r:Az} (h:B9 topo r=false):Un r:=by
 unfold B9 at h;simp only [Bool.or_eq_false_iff,Bool.and_eq_false_iff,Bool.not_eq_false',decide_eq_true_eq,List.isEmpty_iff] at h;obtain⟨⟨⟨⟨⟨⟨d,y⟩,C⟩,E⟩,G⟩,j⟩,l⟩:=h;refine⟨fun k=>?_,fun k=>?_,fun k=>?_⟩
 ·rcases d with d | d
  ·exact absurd d k
  ·exact⟨d.1.1.1,d.1.1.2,d.1.2,d.2⟩
 ·rcases y with y | y
  ·rcases k with k | k <;> omega
  ·exact y
 ·rcases j with j | j
  ·exact absurd j k
  ·rcases l with l | l
   ·exact⟨j.1.2,j.2,l⟩
   ·simp [k] at l
section
variable {ok:ByteArray->Bool} {topo n m k:Int} {r:Az}
theorem Eh (n:Int):Aa [] n=0:=rfl
structure KOK (ok:ByteArray->Bool) (topo:Int) (r:Az):Prop where
 name:ok r.name=true
 kind:(decide (1<=r.kind)&&decide (r.kind<=5))=true
 cl:(decide (r.kind<=3) != decide (topo=1))=false
 un:B9 topo r=false
theorem Sj (h:ok r.name=false) (t:Bool):BC ok topo n m k t r=2:=by
 unfold BC;rw [h];rfl
theorem Sk:BC ok topo n m k true r=2:=by
 unfold BC;cases ok r.name <;> rfl
theorem Ib (h:ok r.name=true) (d:(!(decide (1<=r.kind)&&decide (r.kind<=5))||(decide (r.kind<=3) != decide (topo=1))||B9 topo r)=true):BC ok topo n m k false r=6:=by
 unfold BC;rw [h,d];rfl
theorem Se (h:KOK ok topo r) (y:r.kind=1):BC ok topo n m k false r=orE (Ad (!inN r.fr n||!inN r.to n) 5) (orE (Aj (B7 m) r.guards) (orE (Ad (decide (2<r.guards.length)) 4) (orE (Aa r.ex n) (orE (Aa r.fa n) (orE (Ad (!AO r.rd k||!AO r.wr k) 5) (Aa r.send m)))))):=by
 obtain⟨a1,d,j⟩:=(DF h.un).l (by omega);unfold BC;rw [h.name,h.kind,h.cl,h.un,a1,d,j,Eh,y];simp [Ad,Bk,inN,C5,AY]
theorem Sf (h:KOK ok topo r) (y:r.kind=2):BC ok topo n m k false r=orE (Ad (!inN r.fr n||!inN r.to n||(!inN r.pf n||!inN r.pt n)) 5) (Ad (!AO r.rd k||!AO r.wr k) 5):=by
 obtain⟨a1,d,j⟩:=(DF h.un).l (by omega);obtain⟨b1,b2,b3,b4⟩:=(DF h.un).g (by omega);unfold BC;rw [h.name,h.kind,h.cl,h.un,a1,d,j,b1,b2,b3,b4,Eh,Eh,y];simp [Ad,Bk,inN,C5,AY,Aj]
theorem Sg (h:KOK ok topo r) (y:r.kind=3):BC ok topo n m k false r=orE (Ad (!inN r.fr n||!inN r.to n) 5) (orE (C8 n r.resp) (Ad (!AO r.rd k||!AO r.wr k) 5)):=by
 obtain⟨a1,d,j⟩:=(DF h.un).l (by omega);obtain⟨b1,b2,b3,b4⟩:=(DF h.un).g (by omega);unfold BC;rw [h.name,h.kind,h.cl,h.un,a1,d,j,b1,b2,b3,b4,Eh,Eh,y];simp [Ad,Bk,inN,C5,AY,Aj]
theorem DW (d:0<=k):AO (-1) k=true:=by
 unfold AO;rw [decide_eq_true (show(-1:Int)<k by omega)];rfl
theorem Cd {v:Int} (h:v≠-1):AO v k=inC v 0 (k - 1):=by
 unfold AO inC;rw [decide_eq_decide.2 (show -1<=v↔0<=v by omega),decide_eq_decide.2 (show v<k↔v<=k - 1 by omega)]
theorem Sh (h:KOK ok topo r) (d:r.kind=4) (j:0<=k):BC ok topo n m k false r=orE (Ad (!inN r.fr n||!inN r.to n) 5) (orE (Aa r.left n) (orE (Aa r.right n) (orE (Aa r.parent n) (Ad (!inC r.at_ 0 2||(!decide (r.at_=0)&&decide (topo=3))) 1)))):=by
 obtain⟨b1,b2,b3,b4⟩:=(DF h.un).g (by omega);obtain⟨c1,c2⟩:=(DF h.un).v (.inl d);unfold BC;rw [h.name,h.kind,h.cl,h.un,b1,b2,b3,b4,Eh,Eh,d,c1,c2];rw [DW j];simp [Ad,Bk,inN,C5,AY,Aj,inC]
theorem Si (h:KOK ok topo r) (d:r.kind=5) (C:0<=k):BC ok topo n m k false r=orE (Ad (!inN r.fr n||!inN r.to n||(!inN r.pf n||!inN r.pt n)) 5) (Ad (if topo=4 then !inC r.dir 3 4 else !inC r.dir 1 2) 1):=by
 obtain⟨a1,j,y⟩:=(DF h.un).l (by omega);obtain⟨b1,b2,b3,b4⟩:=(DF h.un).g (by omega);obtain⟨c1,c2⟩:=(DF h.un).v (.inr d);unfold BC;rw [h.name,h.kind,h.cl,h.un,a1,j,y,b1,b2,b3,b4,Eh,Eh,d,c1,c2];rw [DW C];by_cases ht:topo=4 <;> simp [Ad,Bk,inN,C5,AY,Aj,inC,ht]
end
end Go.Proofs.YtfcfpoemojjglaaGreatDoor.K
namespace Go.Proofs.YtfcfpoemojjglaaGreatDoor.K
open Go.RowKit
attribute [-go_sem] loadCellsFrom storeCells
theorem Jo {w:World} {cs:List Value} {p:Am} (h:At w w.heap.size cs p) (an:p.Small):
  Calls Tryz.prog 139 #[.agg cs.toArray] w (Ret fun v w'=>w'.ownsRow w.heap.size 217 6 v (BO p.rules).length (CM (BO p.rules))/\Below w.heap.size w w'):=by
 have aC:=hide (show ∀r∈p.rules,r.guards.length<=60 from fun r E=>(an.rule r E).1.2.1);have bF:=an.rules;obtain⟨bE,A7,c7,aG,aH,bt⟩:=h.rules_at;generalize bi:cs.toArray=pc at*;clear bi h;generalize bj:p.rules=rs at*;clear bj an;obtain⟨w1,bI,a2,af,b6⟩:=Ae w pc 27;have ad:=a2.size;have a7:w1.cell? ⟨w.heap.size,9,none⟩=some (.slice A7 rs.length c7):=by rw [af.cell,aG]
 have aV:=hide (aH.keep (w':=w1) (B':=w1.heap.size) (R':=AW w1 w1.heap.size) (fun _ l=>a2.cell l) (fun _ _ h=>h.keep (fun _ l=>a2.cell l) ad) ad);have aY:=hide a2;have a9:=af.lt;clear aH a2 b6 af aG;go_enter Tryz.func139,Tryz.ntmps139;go_wp2_with fail;go_loopw [3,4] (fun vv ii wr=>∃(i n:Nat),ii=.int .i64 (i:Int)/\i<=rs.length/\Hid (wr.ownsRow w1.heap.size 217 6 vv n (CM (BO (rs.take i))))/\Hid (n=(BO (rs.take i)).length)/\Hid (Below w1.heap.size w1 wr)) (fun _ ii _=>rs.length - (intOf ii).toNat)
 case atStart=>exact⟨0,0,rfl,Nat.zero_le _,World.ownsRow_nil _ _ _ _,by show _=_; rfl,Below.refl _ _⟩
 case round=>
  obtain⟨i,n,rfl,hi,y,hn,G⟩:=hrel;by_cases b9:i<rs.length
  ·obtain⟨r,E⟩:∃r,rs[i]?=some r:=⟨_,List.getElem?_eq_getElem b9⟩;obtain⟨b,ae,rc,hA,ak,hC,aB,b8⟩:=Du (aV.out.keep (w':=wr) (B':=w1.heap.size) (R':=AW wr w1.heap.size) (fun _ l=>G.out.cell l) (fun _ _ h=>h.keep (fun _ l=>G.out.cell l) (Nat.le_refl _)) (Nat.le_refl _)) E;obtain⟨Eg,fg,az,aw⟩:=hC.guards;have bG:=hide E;have bq:=hide hC;have ay:w1.cell? ⟨b,ae+i*18+7,none⟩=some (.slice Eg r.guards.length fg):=(G.out.cell (p:=⟨b,ae+i*18+7,none⟩) ak).symm.trans (aB 7 _ az);have bv:=aC.out r (List.mem_of_getElem? E);have C:=hide y.out;have b4:=(G.out.cell (p:=⟨w.heap.size,9,none⟩) a9).trans a7;have aW:=hide (aw.keep (w':=w1) (B':=w1.heap.size) (fun _ l=>(G.out.cell l).symm) (Nat.le_refl _));have au:=hide G.out;have bk:=hide (LA E);have bg:=hide (FB (rs.take i) (fun r E=>aC.out r (List.mem_of_mem_take E)));have bD:n<=1800:=by
    have V:=bg.out;rw [hn.out];rw [List.length_take] at V;omega
   subst hA;clear aB hC E az y aw b8;go_wp2_with fail;go_loopw [3,5] (fun vv jj wr=>∃(j n:Nat),jj=.int .i64 (j:Int)/\j<=r.guards.length/\n<=1800+j/\Hid (wr.ownsRow w1.heap.size 217 6 vv n (CM ((r.guards.take j).foldl Bx (BO (rs.take i)))))/\Hid (n=((r.guards.take j).foldl Bx (BO (rs.take i))).length)/\Hid (Below w1.heap.size w1 wr)) (fun _ jj _=>r.guards.length - (intOf jj).toNat)
   case atStart=>exact⟨0,n,rfl,Nat.zero_le _,by omega,by show World.ownsRow _ _ _ _ _ _ _; simpa using C.out,by show _=_; simpa using hn.out,au.out⟩
   case round=>
    obtain⟨j,m,rfl,hj,hm,y,a4,I⟩:=hrel;by_cases bd:j<r.guards.length
    ·have b5:=(I.out.cell (p:=⟨w.heap.size,9,none⟩) a9).trans a7;have b0:=(I.out.cell (p:=⟨b,ae+i*18+7,none⟩) ak).trans ay;obtain⟨b2,aJ,g,aS,bs,hg,aA⟩:=(aW.out.keep (w':=wr) (B':=w1.heap.size) (fun _ l=>I.out.cell l) (Nat.le_refl _)).at bd;have bB:(loadCellsFrom ⟨b2,aJ+j*6,none⟩ 0 6 #[]).run Tryz.prog wr=.ok #[.int .i64 g.msg,.int .i64 g.coef,.int .i64 g.bound.c,.int .i64 g.bound.n,.int .i64 g.bound.t,.int .i64 g.bound.f] wr:=by
      have:=run_loadCells_list (P:=Tryz.prog) wr ⟨b2,aJ+j*6,none⟩ (C4 g) (fun k v d=>by
       rw [Addr.add_mid];have hk:=AP d;rw [aA k hk]
       match k,hk,d with
       | 0,_,d=>exact congrArg some (Option.some.inj d)
       | 1,_,d=>exact congrArg some (Option.some.inj d)
       | 2,_,d=>exact congrArg some (Option.some.inj d)
       | 3,_,d=>exact congrArg some (Option.some.inj d)
       | 4,_,d=>exact congrArg some (Option.some.inj d)
       | 5,_,d=>exact congrArg some (Option.some.inj d))
      simpa [loadCells,C4] using this
     have a8:=hide (JB hg (BO (rs.take i)));have aX:=hide (show DG g=.agg #[.int .i64 g.msg,.int .i64 g.coef,.int .i64 g.bound.c,.int .i64 g.bound.n,.int .i64 g.bound.t,.int .i64 g.bound.f] from rfl);obtain⟨w3,bl,aj,ag,b7⟩:=Ae wr #[.int .i64 g.msg,.int .i64 g.coef,.int .i64 g.bound.c,.int .i64 g.bound.n,.int .i64 g.bound.t,.int .i64 g.bound.f] 217;have bH:∀c:Array Value,c.size=6->(storeCells ⟨wr.heap.size,0,none⟩ [.int .i64 g.msg,.int .i64 g.coef,.int .i64 g.bound.c,.int .i64 g.bound.n,.int .i64 g.bound.t,.int .i64 g.bound.f] 0).run Tryz.prog (wr.alloc (.cells c 217))=.ok () w3:=fun c hc=>by rw [<-bl]; exact Dv wr 217 6 (by kernel_rfl) (rc:=#[.int .i64 g.msg,.int .i64 g.coef,.int .i64 g.bound.c,.int .i64 g.bound.n,.int .i64 g.bound.t,.int .i64 g.bound.f]) rfl (by simp [Value.oneCell']) c hc
     have bz:(loadCellsFrom ⟨wr.heap.size,0,none⟩ 0 6 #[]).run Tryz.prog w3=.ok #[.int .i64 g.msg,.int .i64 g.coef,.int .i64 g.bound.c,.int .i64 g.bound.n,.int .i64 g.bound.t,.int .i64 g.bound.f] w3:=Ah ag rfl;have M:=EQ y.out aj;obtain⟨Av,cv,d⟩:=AH y.out;subst d;have ax:=(Kh M (by omega)).2;have aF:((r.guards.take j).foldl Bx (BO (rs.take i))).length=m:=a4.out.symm;have al:=hide (TI (c:=cv) (x:=g) ax (Nat.le_refl _));rw [aF,aX.out] at al;have a5:=hide (I.out.trans (aj.mono I.out.size));have bu:=hide hg;have aT:=hide ag;have av:=hide M;subst aS;clear aA b7 ag aj hg ax aF y M;generalize ((r.guards.take j).foldl Bx (BO (rs.take i)))=L at*;cases aa:decide (g∈L)
     ·have a3:=hide aa;clear aa;have hZ:∀z:Int,(0<=z↔g∈L)->z<0:=fun z U=>by
       have V:=of_decide_eq_false a3.out;have h2:¬0<=z:=fun h=>V (U.1 h);omega
      have Z:=hide (show Bx L g=L++[g] from if_neg (of_decide_eq_false a3.out))
      go_wp2_with (first
       | (go_at_call 193; refine Calls.ret al.out ?_; rintro v w4 ⟨⟨z,rfl,U⟩,J⟩; have bm:=hZ z U; have bA:=Ah (n:=6) (aT.out.below J) rfl; have a6:=hide (EQ av.out J); have W:=hide (a5.out.trans (J.mono a5.out.size)); clear J)
       | (at_builtin; refine BP KR rfl _ _ rfl w1.heap.size _ m _ rfl a6.out (C4 g) _ rfl rfl (by simp [C4,Value.oneCell']) (by omega) (by have:=W.out.size; have:=au.out.size; omega) ?_; intro g5 bp w5 bh aE be ba))
      have aU:=hide (W.out.trans (aE.below W.out.size fun b' br e=>by have:=(a6.out.lt b' e).1; omega));clear aE be ba;exact⟨⟨j+1,m+1,by go_num,by omega,by omega,by show World.ownsRow _ _ _ _ _ _ _; rw [a8.out,Z.out,Lx]; exact bh,by show _=_; rw [a8.out,Z.out,List.length_append,a4.out]; rfl,aU.out⟩,by simp [intOf]; omega⟩
     ·have a3:=hide aa;clear aa;have hZ:∀z:Int,(0<=z↔g∈L)->¬z<0:=fun z U=>by
       have V:=of_decide_eq_true a3.out;have h2:=U.2 V;omega
      have Z:=hide (show Bx L g=L from if_pos (of_decide_eq_true a3.out));go_wp2_with (go_at_call 193; refine Calls.ret al.out ?_; rintro v w4 ⟨⟨z,rfl,U⟩,J⟩; have bm:=hZ z U; have a6:=hide (EQ av.out J); have W:=hide (a5.out.trans (J.mono a5.out.size)); clear J);exact⟨⟨j+1,m,by go_num,by omega,by omega,by show World.ownsRow _ _ _ _ _ _ _; rw [a8.out,Z.out]; exact a6.out,by show _=_; rw [a8.out,Z.out,a4.out],W.out⟩,by simp [intOf]; omega⟩
    ·have e:j=r.guards.length:=by omega
     have C:=y.out;have O:=a4.out;rw [e,List.take_length,<-bk.out] at C O;have M:=hide C;have bf:=hide O;have b5:=(I.out.cell (p:=⟨w.heap.size,9,none⟩) a9).trans a7;have b0:=(I.out.cell (p:=⟨b,ae+i*18+7,none⟩) ak).trans ay;clear C O e y a4;go_wp2_with fail;exact⟨⟨i+1,m,by go_num,by omega,M.out,bf.out,I.out⟩,by simp [intOf]; omega⟩
  ·have e:i=rs.length:=by omega
   have C:=y.out;have O:=hn.out;rw [e,List.take_length] at C O;rw [O] at C;have M:=hide (Kc C ad);have b4:=(G.out.cell (p:=⟨w.heap.size,9,none⟩) a9).trans a7;clear C O e y hn;go_wp2_with fail;go_ret;exact⟨M.out,aY.out.trans (G.out.mono ad)⟩
end Go.Proofs.YtfcfpoemojjglaaGreatDoor.K
