/-
  Part CJ of a proof.
-/
import Derived.Test.YtfcfpoemojjglaaGreatDoorPA
import Derived.Test.YtfcfpoemojjglaaGreatDoorAB
import Derived.Test.YtfcfpoemojjglaaGreatDoorAC
import Derived.Test.YtfcfpoemojjglaaGreatDoorCE
set_option maxHeartbeats 16000000
set_option maxRecDepth 100000
set_option linter.unusedVariables false
set_option linter.unusedSimpArgs false
namespace Go.Proofs.YtfcfpoemojjglaaGreatDoor.K
open Go.RowKit
attribute [-go_sem] loadCellsFrom storeCells
structure PQX (w:World) (g2 g3:Nat) (pc qc:Array Value) (p:Am) (q:AB):Prop where
 pr:At w w.heap.size pc.toList p
 qr:Ba w w.heap.size qc.toList q
 b2:Blk w g2 27 pc
 b3:Blk w g3 30 qc
 tab:SpOK w
theorem PQX.at {w w':World} {g2 C:Nat} {E G:Array Value} {p:Am} {q:AB} (h:PQX w g2 C E G p q) (y:Below w.heap.size w w'):PQX w' g2 C E G p q:=
 ⟨h.pr.keep (fun _ z=>y.cell z) y.size,h.qr.keep (fun _ z=>y.cell z) y.size,h.b2.below y,h.b3.below y,h.tab.below y⟩
theorem Ba.cells {w:World} {B:Nat} {cs:List Value} {q:AB} (h:Ba w B cs q):∃y c1 z c2 C G E I,
  cs.toArray.size=6∧cs.toArray[0]?=some (.string q.name)∧cs.toArray[1]?=some (.int .i64 q.kind)∧cs.toArray[2]?=some (.slice y q.start.length c1)∧cs.toArray[3]?=some (.slice z q.bad.length c2)∧cs.toArray[4]?=some (.slice C q.adj.length G)∧cs.toArray[5]?=some (.slice E q.goal.length I)∧
  Sl w B 1 Ai y q.start∧BR w B 2 (Db w B) z q.bad∧Sl w B 1 Ai C q.adj∧Sl w B 1 Ai E q.goal:=by
 obtain⟨y,c1,z,c2,C,G,E,I,rfl,J,M,O,U⟩:=h
 exact⟨y,c1,z,c2,C,G,E,I,rfl,rfl,rfl,rfl,rfl,rfl,rfl,J,M,O,U⟩
structure AB.Small (q:AB):Prop where
 name:q.name.size≤500
 start:q.start.length≤60
 bad:q.bad.length≤60
 adj:q.adj.length≤60
 goal:q.goal.length≤60
 counts:∀c∈q.bad,c.states.length≤60
structure PQH (w w1 w2:World) (pc qc:Array Value) (p:Am) (q:AB) (A1:Option Addr) (c1:Nat) (A5:Option Addr) (c5:Nat) (B1:Option Addr) (d1:Nat) (B2:Option Addr) (d2:Nat) (B3:Option Addr) (d3:Nat) (B4:Option Addr) (d4 ns ni nt nb na ng:Nat) (kq:Int):Prop where
 e1:w.alloc (.cells pc 27)=w1
 e2:w1.alloc (.cells qc 30)=w2
 b02:Hid (Below w.heap.size w w2)
 s01:w.heap.size≤w1.heap.size
 x2:Hid (PQX w2 w.heap.size w1.heap.size pc qc p q)
 lh:Hid (ns=p.states.length∧ni=p.initial.length∧nt=q.start.length∧nb=q.bad.length∧na=q.adj.length∧ng=q.goal.length∧kq=q.kind)
 sm:Hid p.Small
 sl:Hid (Sl w w.heap.size 1 Ai A5 p.initial)∧Hid (Sl w w.heap.size 1 Ai B1 q.start)∧Hid (BR w w.heap.size 2 (Db w w.heap.size) B2 q.bad)∧Hid (Sl w w.heap.size 1 Ai B3 q.adj)∧Hid (Sl w w.heap.size 1 Ai B4 q.goal)
 sz:Hid (pc.size=10)
 bd:q.name.size≤500∧nt≤60∧nb≤60∧na≤60∧ng≤60∧ns≤60∧ni≤60
 pp:pc[1]?=some (.int .i64 p.topo)∧pc[2]?=some (.slice A1 ns c1)∧pc[7]?=some (.slice A5 ni c5)
 qq:qc[0]?=some (.string q.name)∧qc[1]?=some (.int .i64 kq)∧qc[2]?=some (.slice B1 nt d1)∧qc[3]?=some (.slice B2 nb d2)∧qc[4]?=some (.slice B3 na d3)∧qc[5]?=some (.slice B4 ng d4)
theorem Dj {w:World} {cs ds:List Value} {p:Am} {q:AB} (h:At w w.heap.size cs p) (h':Ba w w.heap.size ds q) (a4:p.Small) (z:q.Small) (hT:SpOK w):
  ∃w1 w2 C c1 E O G U I V J W M Z ns ni nt nb na ng kq,PQH w w1 w2 cs.toArray ds.toArray p q C c1 E O G U I V J W M Z ns ni nt nb na ng kq:=by
 obtain⟨C,c1,A2,c2,A3,c3,A4,c4,E,O,A6,c6,A7,c7,af,aT,ab,ad,aU,aV,aW,aX,ae,aY,aZ,h1,h2,h3,h4,h5,h6,h7,aQ⟩:=h.cells
 obtain⟨G,U,I,V,J,W,M,Z,b0,ag,ah,ai,aj,ak,al,k1,k2,k3,k4⟩:=h'.cells
 obtain⟨w1,am,a2,a8,aR⟩:=Ae w cs.toArray 27
 obtain⟨w2,an,a6,a9,aS⟩:=Ae w1 ds.toArray 30
 have y:=hide (a2.trans (a6.mono a2.size))
 exact⟨w1,w2,C,c1,E,O,G,U,I,V,J,W,M,Z,_,_,_,_,_,_,_,am,an,y,a2.size,
  hide ⟨h.keep (fun _ hp=>y.out.cell hp) y.out.size,h'.keep (fun _ hp=>y.out.cell hp) y.out.size,a8.below a6,a9,hT.below y.out⟩,
  hide ⟨rfl,rfl,rfl,rfl,rfl,rfl,rfl⟩,hide a4,⟨hide h5,hide k1,hide k2,hide k3,hide k4⟩,hide af,⟨z.name,z.start,z.bad,z.adj,z.goal,a4.states,a4.initial⟩,⟨ab,ad,ae⟩,ag,ah,ai,aj,ak,al⟩
def CF (p:Am) (q:AB):Bool:=q.start.all fun x=>decide (x∈p.initial)
section
variable {p:Am} {q:AB}
theorem Ky (h:protE nameOK p≠0):propE nameOK p q=protE nameOK p:=BF h
theorem Kx (h:protE nameOK p=0) (y:nameOK q.name=false):propE nameOK p q=2:=by
 unfold propE
 rw [h,y]
 rfl
theorem Kw (h:protE nameOK p=0) (y:nameOK q.name=true) (z:q.kind≠1) (C:q.kind≠2):propE nameOK p q=1:=by
 unfold propE
 rw [h,y,decide_eq_false z,decide_eq_false C]
 rfl
theorem Kv (h:protE nameOK p=0) (y:nameOK q.name=true) (z:q.kind=1) (C:q.goal.length≠0):propE nameOK p q=1:=by
 unfold propE
 rw [h,y,z,Bv q.goal,decide_eq_false C]
 rfl
theorem GJ (h:protE nameOK p=0) (z:nameOK q.name=true) (C:q.kind=2) (y:q.bad.length≠0∨q.adj.length≠0):propE nameOK p q=1:=by
 unfold propE
 rw [h,z,C,Bv q.bad,Bv q.adj]
 rcases y with y | y
 ·rw [decide_eq_false y]
  rfl
 ·rw [decide_eq_false y]
  cases decide (q.bad.length=0) <;> rfl
def DL (p:Am) (q:AB):Int:=
 orE (Ad (q.bad.isEmpty&&q.adj.isEmpty) 1) (orE (Ad (decide (3<q.bad.length)) 4) (orE (Aj (AV p.states.length) q.bad) (BA p.topo p.states.length q.adj)))
def Ez (p:Am) (q:AB):Int:=orE (setE q.goal p.states.length) (Ad q.goal.isEmpty 1)
theorem HZ (h:protE nameOK p=0) (y:nameOK q.name=true) (z:q.kind=1) (C:q.goal.length=0):propE nameOK p q=orE (setE q.start p.states.length) (orE (Ad (!CF p q) 5) (DL p q)):=by
 unfold propE
 rw [h,y,z,Bv q.goal,decide_eq_true C]
 rfl
theorem H7 (h:protE nameOK p=0) (y:nameOK q.name=true) (z:q.kind=2) (C:q.bad.length=0) (E:q.adj.length=0):propE nameOK p q=orE (setE q.start p.states.length) (orE (Ad (!CF p q) 5) (Ez p q)):=by
 unfold propE
 rw [h,y,z,Bv q.bad,Bv q.adj,decide_eq_true C,decide_eq_true E]
 rfl
end
end Go.Proofs.YtfcfpoemojjglaaGreatDoor.K
namespace Go.Proofs.YtfcfpoemojjglaaGreatDoor.K
open Go.RowKit
def inN (x:Int) (n:Int):Bool:=inC x 0 (n - 1)
structure Un (r:Az):Prop where
 g:r.kind≠1→r.guards=[]∧r.ex=[]∧r.fa=[]∧r.send=[]
 v:r.kind=4∨r.kind=5→r.rd= -1∧r.wr= -1
 l:r.kind≠4→r.left=[]∧r.right=[]∧r.parent=[]
theorem DF {topo:Int} {r:Az} (h:B9 topo r=false):Un r:=by
 unfold B9 at h
 simp only [Bool.or_eq_false_iff,Bool.and_eq_false_iff,Bool.not_eq_false',decide_eq_true_eq,List.isEmpty_iff] at h
 obtain⟨⟨⟨⟨⟨⟨y,E⟩,G⟩,I⟩,J⟩,z⟩,C⟩:=h
 refine⟨fun k=>?_,fun k=>?_,fun k=>?_⟩
 ·rcases y with y | y
  ·exact absurd y k
  ·exact⟨y.1.1.1,y.1.1.2,y.1.2,y.2⟩
 ·rcases E with E | E
  ·rcases k with k | k <;> omega
  ·exact E
 ·rcases z with z | z
  ·exact absurd z k
  ·rcases C with C | C
   ·exact⟨z.1.2,z.2,C⟩
   ·simp [k] at C
section
variable {ok:ByteArray→Bool} {topo n m k:Int} {r:Az}
theorem Eh (n:Int):setE [] n=0:=rfl
structure KOK (ok:ByteArray→Bool) (topo:Int) (r:Az):Prop where
 name:ok r.name=true
 kind:(decide (1≤r.kind)&&decide (r.kind≤5))=true
 cl:(decide (r.kind≤3) != decide (topo=1))=false
 un:B9 topo r=false
theorem Sj (h:ok r.name=false) (t:Bool):BC ok topo n m k t r=2:=by
 unfold BC
 rw [h]
 rfl
theorem Sk:BC ok topo n m k true r=2:=by
 unfold BC
 cases ok r.name <;> rfl
theorem Ib (h:ok r.name=true) (y:(!(decide (1≤r.kind)&&decide (r.kind≤5))||(decide (r.kind≤3) != decide (topo=1))||B9 topo r)=true):BC ok topo n m k false r=6:=by
 unfold BC
 rw [h,y]
 rfl
theorem Se (h:KOK ok topo r) (hk:r.kind=1):BC ok topo n m k false r=orE (Ad (!inN r.fr n||!inN r.to n) 5) (orE (Aj (B7 m) r.guards) (orE (Ad (decide (2<r.guards.length)) 4) (orE (setE r.ex n) (orE (setE r.fa n) (orE (Ad (!AO r.rd k||!AO r.wr k) 5) (setE r.send m)))))):=by
 obtain⟨a1,y,z⟩:=(DF h.un).l (by omega)
 unfold BC
 rw [h.name,h.kind,h.cl,h.un,a1,y,z,Eh,hk]
 simp [Ad,Bk,inN,C5,AY]
theorem Sf (h:KOK ok topo r) (hk:r.kind=2):BC ok topo n m k false r=orE (Ad (!inN r.fr n||!inN r.to n||(!inN r.pf n||!inN r.pt n)) 5) (Ad (!AO r.rd k||!AO r.wr k) 5):=by
 obtain⟨a1,y,z⟩:=(DF h.un).l (by omega)
 obtain⟨b1,b2,b3,b4⟩:=(DF h.un).g (by omega)
 unfold BC
 rw [h.name,h.kind,h.cl,h.un,a1,y,z,b1,b2,b3,b4,Eh,Eh,hk]
 simp [Ad,Bk,inN,C5,AY,Aj]
theorem Sg (h:KOK ok topo r) (hk:r.kind=3):BC ok topo n m k false r=orE (Ad (!inN r.fr n||!inN r.to n) 5) (orE (C8 n r.resp) (Ad (!AO r.rd k||!AO r.wr k) 5)):=by
 obtain⟨a1,y,z⟩:=(DF h.un).l (by omega)
 obtain⟨b1,b2,b3,b4⟩:=(DF h.un).g (by omega)
 unfold BC
 rw [h.name,h.kind,h.cl,h.un,a1,y,z,b1,b2,b3,b4,Eh,Eh,hk]
 simp [Ad,Bk,inN,C5,AY,Aj]
theorem DW (h:0≤k):AO (-1) k=true:=by
 unfold AO
 rw [decide_eq_true (show(-1:Int)<k by omega)]
 rfl
theorem Cd {v:Int} (h:v≠-1):AO v k=inC v 0 (k - 1):=by
 unfold AO inC
 rw [decide_eq_decide.2 (show -1≤v↔0≤v by omega),decide_eq_decide.2 (show v<k↔v≤k - 1 by omega)]
theorem Sh (h:KOK ok topo r) (hk:r.kind=4) (y:0≤k):BC ok topo n m k false r=orE (Ad (!inN r.fr n||!inN r.to n) 5) (orE (setE r.left n) (orE (setE r.right n) (orE (setE r.parent n) (Ad (!inC r.at_ 0 2||(!decide (r.at_=0)&&decide (topo=3))) 1)))):=by
 obtain⟨b1,b2,b3,b4⟩:=(DF h.un).g (by omega)
 obtain⟨c1,c2⟩:=(DF h.un).v (.inl hk)
 unfold BC
 rw [h.name,h.kind,h.cl,h.un,b1,b2,b3,b4,Eh,Eh,hk,c1,c2]
 rw [DW y]
 simp [Ad,Bk,inN,C5,AY,Aj,inC]
theorem Si (h:KOK ok topo r) (hk:r.kind=5) (C:0≤k):BC ok topo n m k false r=orE (Ad (!inN r.fr n||!inN r.to n||(!inN r.pf n||!inN r.pt n)) 5) (Ad (if topo=4 then !inC r.dir 3 4 else !inC r.dir 1 2) 1):=by
 obtain⟨a1,y,z⟩:=(DF h.un).l (by omega)
 obtain⟨b1,b2,b3,b4⟩:=(DF h.un).g (by omega)
 obtain⟨c1,c2⟩:=(DF h.un).v (.inr hk)
 unfold BC
 rw [h.name,h.kind,h.cl,h.un,a1,y,z,b1,b2,b3,b4,Eh,Eh,hk,c1,c2]
 rw [DW C]
 by_cases ht:topo=4 <;> simp [Ad,Bk,inN,C5,AY,Aj,inC,ht]
end
end Go.Proofs.YtfcfpoemojjglaaGreatDoor.K
namespace Go.Proofs.YtfcfpoemojjglaaGreatDoor.K
open Go.RowKit
attribute [-go_sem] loadCellsFrom storeCells
theorem Jo {w:World} {cs:List Value} {p:Am} (h:At w w.heap.size cs p) (ap:p.Small):
  Calls Tryz.prog 139 #[.agg cs.toArray] w (Ret fun v w'=>w'.ownsRow w.heap.size 217 6 v (BO p.rules).length (CM (BO p.rules))∧Below w.heap.size w w'):=by
 have aE:=hide (show ∀r∈p.rules,r.guards.length≤60 from fun r I=>(ap.rule r I).1.2.1)
 have bD:=ap.rules
 obtain⟨bC,A7,c7,aH,aJ,br⟩:=h.rules_at
 generalize bg:cs.toArray=pc at*
 clear bg h
 generalize bh:p.rules=rs at*
 clear bh ap
 obtain⟨w1,bG,a4,ah,b5⟩:=Ae w pc 27
 have af:=a4.size
 have a9:w1.cell? ⟨w.heap.size,9,none⟩=some (.slice A7 rs.length c7):=by rw [ah.cell,aH]
 have aW:=hide (aJ.keep (w':=w1) (B':=w1.heap.size) (R':=AW w1 w1.heap.size) (fun _ C=>a4.cell C) (fun _ _ h=>h.keep (fun _ C=>a4.cell C) af) af)
 have aZ:=hide a4
 have ab:=ah.lt
 clear aJ a4 b5 ah aH
 go_enter Tryz.func139,Tryz.ntmps139
 go_wp2_with fail
 go_loopw [3,4] (fun vv ii wr=>∃(i n:Nat),ii=.int .i64 (i:Int)∧i≤rs.length∧Hid (wr.ownsRow w1.heap.size 217 6 vv n (CM (BO (rs.take i))))∧Hid (n=(BO (rs.take i)).length)∧Hid (Below w1.heap.size w1 wr)) (fun _ ii _=>rs.length - (intOf ii).toNat)
 case atStart=>exact⟨0,0,rfl,Nat.zero_le _,World.ownsRow_nil _ _ _ _,by show _=_; rfl,Below.refl _ _⟩
 case round=>
  obtain⟨i,n,rfl,hi,E,hn,J⟩:=hrel
  by_cases b8:i<rs.length
  ·obtain⟨r,I⟩:∃r,rs[i]?=some r:=⟨_,List.getElem?_eq_getElem b8⟩
   obtain⟨b,ag,rc,hA,am,hC,aD,b7⟩:=Du (aW.out.keep (w':=wr) (B':=w1.heap.size) (R':=AW wr w1.heap.size) (fun _ C=>J.out.cell C) (fun _ _ h=>h.keep (fun _ C=>J.out.cell C) (Nat.le_refl _)) (Nat.le_refl _)) I
   obtain⟨Eg,fg,aB,ay⟩:=hC.guards
   have bE:=hide I
   have bo:=hide hC
   have aA:w1.cell? ⟨b,ag+i*18+7,none⟩=some (.slice Eg r.guards.length fg):=(J.out.cell (p:=⟨b,ag+i*18+7,none⟩) am).symm.trans (aD 7 _ aB)
   have bt:=aE.out r (List.mem_of_getElem? I)
   have G:=hide E.out
   have b3:=(J.out.cell (p:=⟨w.heap.size,9,none⟩) ab).trans a9
   have aX:=hide (ay.keep (w':=w1) (B':=w1.heap.size) (fun _ C=>(J.out.cell C).symm) (Nat.le_refl _))
   have aw:=hide J.out
   have bi:=hide (LA I)
   have be:=hide (FB (rs.take i) (fun r I=>aE.out r (List.mem_of_mem_take I)))
   have bB:n≤1800:=by
    have Z:=be.out
    rw [hn.out]
    rw [List.length_take] at Z
    omega
   subst hA
   clear aD hC I aB E ay b7
   go_wp2_with fail
   go_loopw [3,5] (fun vv jj wr=>∃(j n:Nat),jj=.int .i64 (j:Int)∧j≤r.guards.length∧n≤1800+j∧Hid (wr.ownsRow w1.heap.size 217 6 vv n (CM ((r.guards.take j).foldl Bx (BO (rs.take i)))))∧Hid (n=((r.guards.take j).foldl Bx (BO (rs.take i))).length)∧Hid (Below w1.heap.size w1 wr)) (fun _ jj _=>r.guards.length - (intOf jj).toNat)
   case atStart=>exact⟨0,n,rfl,Nat.zero_le _,by omega,by show World.ownsRow _ _ _ _ _ _ _; simpa using G.out,by show _=_; simpa using hn.out,aw.out⟩
   case round=>
    obtain⟨j,m,rfl,hj,hm,E,a6,M⟩:=hrel
    by_cases ba:j<r.guards.length
    ·have b4:=(M.out.cell (p:=⟨w.heap.size,9,none⟩) ab).trans a9
     have b1:=(M.out.cell (p:=⟨b,ag+i*18+7,none⟩) am).trans aA
     obtain⟨b2,aK,g,aT,bq,hg,aC⟩:=(aX.out.keep (w':=wr) (B':=w1.heap.size) (fun _ C=>M.out.cell C) (Nat.le_refl _)).at ba
     have bz:(loadCellsFrom ⟨b2,aK+j*6,none⟩ 0 6 #[]).run Tryz.prog wr=.ok #[.int .i64 g.msg,.int .i64 g.coef,.int .i64 g.bound.c,.int .i64 g.bound.n,.int .i64 g.bound.t,.int .i64 g.bound.f] wr:=by
      have:=run_loadCells_list (P:=Tryz.prog) wr ⟨b2,aK+j*6,none⟩ (C4 g) (fun k v y=>by
       rw [Addr.add_mid]
       have hk:=AP y
       rw [aC k hk]
       match k,hk,y with
       | 0,_,y=>exact congrArg some (Option.some.inj y)
       | 1,_,y=>exact congrArg some (Option.some.inj y)
       | 2,_,y=>exact congrArg some (Option.some.inj y)
       | 3,_,y=>exact congrArg some (Option.some.inj y)
       | 4,_,y=>exact congrArg some (Option.some.inj y)
       | 5,_,y=>exact congrArg some (Option.some.inj y))
      simpa [loadCells,C4] using this
     have aa:=hide (JB hg (BO (rs.take i)))
     have aY:=hide (show DG g=.agg #[.int .i64 g.msg,.int .i64 g.coef,.int .i64 g.bound.c,.int .i64 g.bound.n,.int .i64 g.bound.t,.int .i64 g.bound.f] from rfl)
     obtain⟨w3,bj,al,ai,b6⟩:=Ae wr #[.int .i64 g.msg,.int .i64 g.coef,.int .i64 g.bound.c,.int .i64 g.bound.n,.int .i64 g.bound.t,.int .i64 g.bound.f] 217
     have bF:∀c:Array Value,c.size=6→(storeCells ⟨wr.heap.size,0,none⟩ [.int .i64 g.msg,.int .i64 g.coef,.int .i64 g.bound.c,.int .i64 g.bound.n,.int .i64 g.bound.t,.int .i64 g.bound.f] 0).run Tryz.prog (wr.alloc (.cells c 217))=.ok () w3:=fun c hc=>by rw [←bj]; exact Dv wr 217 6 (by kernel_rfl) (rc:=#[.int .i64 g.msg,.int .i64 g.coef,.int .i64 g.bound.c,.int .i64 g.bound.n,.int .i64 g.bound.t,.int .i64 g.bound.f]) rfl (by simp [Value.oneCell']) c hc
     have bw:(loadCellsFrom ⟨wr.heap.size,0,none⟩ 0 6 #[]).run Tryz.prog w3=.ok #[.int .i64 g.msg,.int .i64 g.coef,.int .i64 g.bound.c,.int .i64 g.bound.n,.int .i64 g.bound.t,.int .i64 g.bound.f] w3:=Ah ai rfl
     have U:=EQ E.out al
     obtain⟨Av,cv,y⟩:=AH E.out
     subst y
     have az:=(Kh U (by omega)).2
     have aG:((r.guards.take j).foldl Bx (BO (rs.take i))).length=m:=a6.out.symm
     have an:=hide (TI (c:=cv) (x:=g) az (Nat.le_refl _))
     rw [aG,aY.out] at an
     have a7:=hide (M.out.trans (al.mono M.out.size))
     have bs:=hide hg
     have aU:=hide ai
     have ax:=hide U
     subst aT
     clear aC b6 ai al hg az aG E U
     generalize ((r.guards.take j).foldl Bx (BO (rs.take i)))=L at*
     cases ad:decide (g∈L)
     ·have a5:=hide ad
      clear ad
      have hZ:∀z:Int,(0≤z↔g∈L)→z<0:=fun z W=>by
       have Z:=of_decide_eq_false a5.out
       have h2:¬0≤z:=fun h=>Z (W.1 h)
       omega
      have a3:=hide (show Bx L g=L++[g] from if_neg (of_decide_eq_false a5.out))
      go_wp2_with (first
       | (go_at_call 193; refine Calls.ret an.out ?_; rintro v w4 ⟨⟨z,rfl,W⟩,O⟩; have bk:=hZ z W; have bx:=Ah (n:=6) (aU.out.below O) rfl; have a8:=hide (EQ ax.out O); have a2:=hide (a7.out.trans (O.mono a7.out.size)); clear O)
       | (at_builtin; refine BP KR rfl _ _ rfl w1.heap.size _ m _ rfl a8.out (C4 g) _ rfl rfl (by simp [C4,Value.oneCell']) (by omega) (by have:=a2.out.size; have:=aw.out.size; omega) ?_; intro g5 bn w5 bf aF bb b9))
      have aV:=hide (a2.out.trans (aF.below a2.out.size fun b' bp e=>by have:=(a8.out.lt b' e).1; omega))
      clear aF bb b9
      exact⟨⟨j+1,m+1,by go_num,by omega,by omega,by show World.ownsRow _ _ _ _ _ _ _; rw [aa.out,a3.out,Lx]; exact bf,by show _=_; rw [aa.out,a3.out,List.length_append,a6.out]; rfl,aV.out⟩,by simp [intOf]; omega⟩
     ·have a5:=hide ad
      clear ad
      have hZ:∀z:Int,(0≤z↔g∈L)→¬z<0:=fun z W=>by
       have Z:=of_decide_eq_true a5.out
       have h2:=W.2 Z
       omega
      have a3:=hide (show Bx L g=L from if_pos (of_decide_eq_true a5.out))
      go_wp2_with (go_at_call 193; refine Calls.ret an.out ?_; rintro v w4 ⟨⟨z,rfl,W⟩,O⟩; have bk:=hZ z W; have a8:=hide (EQ ax.out O); have a2:=hide (a7.out.trans (O.mono a7.out.size)); clear O)
      exact⟨⟨j+1,m,by go_num,by omega,by omega,by show World.ownsRow _ _ _ _ _ _ _; rw [aa.out,a3.out]; exact a8.out,by show _=_; rw [aa.out,a3.out,a6.out],a2.out⟩,by simp [intOf]; omega⟩
    ·have e:j=r.guards.length:=by omega
     have G:=E.out
     have V:=a6.out
     rw [e,List.take_length,←bi.out] at G V
     have U:=hide G
     have bd:=hide V
     have b4:=(M.out.cell (p:=⟨w.heap.size,9,none⟩) ab).trans a9
     have b1:=(M.out.cell (p:=⟨b,ag+i*18+7,none⟩) am).trans aA
     clear G V e E a6
     go_wp2_with fail
     exact⟨⟨i+1,m,by go_num,by omega,U.out,bd.out,M.out⟩,by simp [intOf]; omega⟩
  ·have e:i=rs.length:=by omega
   have G:=E.out
   have V:=hn.out
   rw [e,List.take_length] at G V
   rw [V] at G
   have U:=hide (Kc G af)
   have b3:=(J.out.cell (p:=⟨w.heap.size,9,none⟩) ab).trans a9
   clear G V e E hn
   go_wp2_with fail
   go_ret
   exact⟨U.out,aZ.out.trans (J.out.mono af)⟩
end Go.Proofs.YtfcfpoemojjglaaGreatDoor.K
