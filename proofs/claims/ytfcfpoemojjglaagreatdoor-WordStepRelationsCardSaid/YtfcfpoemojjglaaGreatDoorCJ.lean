/-
  Part CJ of a proof.
-/
import Derived.Test.YtfcfpoemojjglaaGreatDoorPA
import Derived.Test.YtfcfpoemojjglaaGreatDoorAB
import Derived.Test.YtfcfpoemojjglaaGreatDoorAC
import Derived.Test.YtfcfpoemojjglaaGreatDoorCE
set_option maxHeartbeats 16000000
set_option maxRecDepth 100000
set_option linter.unusedVariables false
set_option linter.unusedSimpArgs false
namespace Go.Proofs.YtfcfpoemojjglaaGreatDoor.K
open Go.RowKit
attribute [-go_sem] loadCellsFrom storeCells
structure PQX (w:World) (g2 g3:Nat) (pc qc:Array Value) (p:Am) (q:AB):Prop where
 pr:At w w.heap.size pc.toList p
 qr:Ba w w.heap.size qc.toList q
 b2:Blk w g2 27 pc
 b3:Blk w g3 30 qc
 tab:A0 w
theorem PQX.at {w w':World} {g2 g3:Nat} {C E:Array Value} {p:Am} {q:AB} (h:PQX w g2 g3 C E p q) (y:Below w.heap.size w w'):PQX w' g2 g3 C E p q:=
 ⟨h.pr.keep (fun _ z=>y.cell z) y.size,h.qr.keep (fun _ z=>y.cell z) y.size,h.b2.below y,h.b3.below y,h.tab.below y⟩
theorem Ba.cells {w:World} {B:Nat} {cs:List Value} {q:AB} (h:Ba w B cs q):∃y F z c2 C G E I,
  cs.toArray.size=6∧cs.toArray[0]?=some (.string q.name)∧cs.toArray[1]?=some (.int .i64 q.kind)∧cs.toArray[2]?=some (.slice y q.start.length F)∧cs.toArray[3]?=some (.slice z q.bad.length c2)∧cs.toArray[4]?=some (.slice C q.adj.length G)∧cs.toArray[5]?=some (.slice E q.goal.length I)∧
  Sl w B 1 Ai y q.start∧BR w B 2 (Db w B) z q.bad∧Sl w B 1 Ai C q.adj∧Sl w B 1 Ai E q.goal:=by
 obtain⟨y,F,z,c2,C,G,E,I,rfl,h1,J,M,O⟩:=h
 exact⟨y,F,z,c2,C,G,E,I,rfl,rfl,rfl,rfl,rfl,rfl,rfl,h1,J,M,O⟩
structure AB.Small (q:AB):Prop where
 name:q.name.size≤500
 start:q.start.length≤60
 bad:q.bad.length≤60
 adj:q.adj.length≤60
 goal:q.goal.length≤60
 counts:∀c∈q.bad,c.states.length≤60
structure PQH (w w1 w2:World) (pc qc:Array Value) (p:Am) (q:AB) (A1:Option Addr) (c1:Nat) (A5:Option Addr) (c5:Nat) (B1:Option Addr) (d1:Nat) (B2:Option Addr) (d2:Nat) (B3:Option Addr) (d3:Nat) (B4:Option Addr) (d4 ns ni nt nb na ng:Nat) (kq:Int):Prop where
 e1:w.alloc (.cells pc 27)=w1
 e2:w1.alloc (.cells qc 30)=w2
 b02:Hid (Below w.heap.size w w2)
 s01:w.heap.size≤w1.heap.size
 x2:Hid (PQX w2 w.heap.size w1.heap.size pc qc p q)
 lh:Hid (ns=p.states.length∧ni=p.initial.length∧nt=q.start.length∧nb=q.bad.length∧na=q.adj.length∧ng=q.goal.length∧kq=q.kind)
 sm:Hid p.Small
 sl:Hid (Sl w w.heap.size 1 Ai A5 p.initial)∧Hid (Sl w w.heap.size 1 Ai B1 q.start)∧Hid (BR w w.heap.size 2 (Db w w.heap.size) B2 q.bad)∧Hid (Sl w w.heap.size 1 Ai B3 q.adj)∧Hid (Sl w w.heap.size 1 Ai B4 q.goal)
 sz:Hid (pc.size=10)
 bd:q.name.size≤500∧nt≤60∧nb≤60∧na≤60∧ng≤60∧ns≤60∧ni≤60
 pp:pc[1]?=some (.int .i64 p.topo)∧pc[2]?=some (.slice A1 ns c1)∧pc[7]?=some (.slice A5 ni c5)
 qq:qc[0]?=some (.string q.name)∧qc[1]?=some (.int .i64 kq)∧qc[2]?=some (.slice B1 nt d1)∧qc[3]?=some (.slice B2 nb d2)∧qc[4]?=some (.slice B3 na d3)∧qc[5]?=some (.slice B4 ng d4)
def CF (p:Am) (q:AB):Bool:=q.start.all fun x=>decide (x∈p.initial)
section
variable {p:Am} {q:AB}
def DL (p:Am) (q:AB):Int:=
 orE (Ad (q.bad.isEmpty&&q.adj.isEmpty) 1) (orE (Ad (decide (3<q.bad.length)) 4) (orE (Aj (AV p.states.length) q.bad) (BA p.topo p.states.length q.adj)))
def Ez (p:Am) (q:AB):Int:=orE (Aa q.goal p.states.length) (Ad q.goal.isEmpty 1)
end
end Go.Proofs.YtfcfpoemojjglaaGreatDoor.K
namespace Go.Proofs.YtfcfpoemojjglaaGreatDoor.K
open Go.RowKit
def inN (x:Int) (n:Int):Bool:=inC x 0 (n - 1)
structure Un (r:Az):Prop where
 g:r.kind≠1→r.guards=[]∧r.ex=[]∧r.fa=[]∧r.send=[]
 v:r.kind=4∨r.kind=5→r.rd= -1∧r.wr= -1
 l:r.kind≠4→r.left=[]∧r.right=[]∧r.parent=[]
theorem DF {topo:Int} {r:Az} (h:B9 topo r=false):Un r:=by
 unfold B9 at h
 simp only [Bool.or_eq_false_iff,Bool.and_eq_false_iff,Bool.not_eq_false',decide_eq_true_eq,List.isEmpty_iff] at h
 obtain⟨⟨⟨⟨⟨⟨h1,C⟩,E⟩,F⟩,G⟩,y⟩,z⟩:=h
 refine⟨fun k=>?_,fun k=>?_,fun k=>?_⟩
 ·rcases h1 with h1 | h1
  ·exact absurd h1 k
  ·exact⟨h1.1.1.1,h1.1.1.2,h1.1.2,h1.2⟩
 ·rcases C with C | C
  ·rcases k with k | k <;> omega
  ·exact C
 ·rcases y with y | y
  ·exact absurd y k
  ·rcases z with z | z
   ·exact⟨y.1.2,y.2,z⟩
   ·simp [k] at z
section
variable {ok:ByteArray→Bool} {topo n m k:Int} {r:Az}
theorem Eh (n:Int):Aa [] n=0:=rfl
structure KOK (ok:ByteArray→Bool) (topo:Int) (r:Az):Prop where
 name:ok r.name=true
 kind:(decide (1≤r.kind)&&decide (r.kind≤5))=true
 cl:(decide (r.kind≤3) != decide (topo=1))=false
 un:B9 topo r=false
theorem Sj (h:ok r.name=false) (t:Bool):BC ok topo n m k t r=2:=by
 unfold BC
 rw [h]
 rfl
theorem Sk:BC ok topo n m k true r=2:=by
 unfold BC
 cases ok r.name <;> rfl
theorem Ib (h:ok r.name=true) (y:(!(decide (1≤r.kind)&&decide (r.kind≤5))||(decide (r.kind≤3) != decide (topo=1))||B9 topo r)=true):BC ok topo n m k false r=6:=by
 unfold BC
 rw [h,y]
 rfl
theorem Se (h:KOK ok topo r) (hk:r.kind=1):BC ok topo n m k false r=orE (Ad (!inN r.fr n||!inN r.to n) 5) (orE (Aj (B7 m) r.guards) (orE (Ad (decide (2<r.guards.length)) 4) (orE (Aa r.ex n) (orE (Aa r.fa n) (orE (Ad (!AO r.rd k||!AO r.wr k) 5) (Aa r.send m)))))):=by
 obtain⟨a1,y,z⟩:=(DF h.un).l (by omega)
 unfold BC
 rw [h.name,h.kind,h.cl,h.un,a1,y,z,Eh,hk]
 simp [Ad,Bk,inN,C5,AY]
theorem Sf (h:KOK ok topo r) (hk:r.kind=2):BC ok topo n m k false r=orE (Ad (!inN r.fr n||!inN r.to n||(!inN r.pf n||!inN r.pt n)) 5) (Ad (!AO r.rd k||!AO r.wr k) 5):=by
 obtain⟨a1,y,z⟩:=(DF h.un).l (by omega)
 obtain⟨b1,b2,b3,b4⟩:=(DF h.un).g (by omega)
 unfold BC
 rw [h.name,h.kind,h.cl,h.un,a1,y,z,b1,b2,b3,b4,Eh,Eh,hk]
 simp [Ad,Bk,inN,C5,AY,Aj]
theorem Sg (h:KOK ok topo r) (hk:r.kind=3):BC ok topo n m k false r=orE (Ad (!inN r.fr n||!inN r.to n) 5) (orE (C8 n r.resp) (Ad (!AO r.rd k||!AO r.wr k) 5)):=by
 obtain⟨a1,y,z⟩:=(DF h.un).l (by omega)
 obtain⟨b1,b2,b3,b4⟩:=(DF h.un).g (by omega)
 unfold BC
 rw [h.name,h.kind,h.cl,h.un,a1,y,z,b1,b2,b3,b4,Eh,Eh,hk]
 simp [Ad,Bk,inN,C5,AY,Aj]
theorem DW (h0:0≤k):AO (-1) k=true:=by
 unfold AO
 rw [decide_eq_true (show(-1:Int)<k by omega)]
 rfl
theorem Cd {v:Int} (h:v≠-1):AO v k=inC v 0 (k - 1):=by
 unfold AO inC
 rw [decide_eq_decide.2 (show -1≤v↔0≤v by omega),decide_eq_decide.2 (show v<k↔v≤k - 1 by omega)]
theorem Sh (h:KOK ok topo r) (hk:r.kind=4) (h0:0≤k):BC ok topo n m k false r=orE (Ad (!inN r.fr n||!inN r.to n) 5) (orE (Aa r.left n) (orE (Aa r.right n) (orE (Aa r.parent n) (Ad (!inC r.at_ 0 2||(!decide (r.at_=0)&&decide (topo=3))) 1)))):=by
 obtain⟨b1,b2,b3,b4⟩:=(DF h.un).g (by omega)
 obtain⟨y,c2⟩:=(DF h.un).v (.inl hk)
 unfold BC
 rw [h.name,h.kind,h.cl,h.un,b1,b2,b3,b4,Eh,Eh,hk,y,c2]
 rw [DW h0]
 simp [Ad,Bk,inN,C5,AY,Aj,inC]
theorem Si (h:KOK ok topo r) (hk:r.kind=5) (h0:0≤k):BC ok topo n m k false r=orE (Ad (!inN r.fr n||!inN r.to n||(!inN r.pf n||!inN r.pt n)) 5) (Ad (if topo=4 then !inC r.dir 3 4 else !inC r.dir 1 2) 1):=by
 obtain⟨a1,y,z⟩:=(DF h.un).l (by omega)
 obtain⟨b1,b2,b3,b4⟩:=(DF h.un).g (by omega)
 obtain⟨C,c2⟩:=(DF h.un).v (.inr hk)
 unfold BC
 rw [h.name,h.kind,h.cl,h.un,a1,y,z,b1,b2,b3,b4,Eh,Eh,hk,C,c2]
 rw [DW h0]
 by_cases ht:topo=4 <;> simp [Ad,Bk,inN,C5,AY,Aj,inC,ht]
end
end Go.Proofs.YtfcfpoemojjglaaGreatDoor.K
namespace Go.Proofs.YtfcfpoemojjglaaGreatDoor.K
open Go.RowKit
attribute [-go_sem] loadCellsFrom storeCells
theorem Jo {w:World} {cs:List Value} {p:Am} (h:At w w.heap.size cs p) (an:p.Small):
  Calls Tryz.prog 139 #[.agg cs.toArray] w (Ret fun v w'=>w'.ownsRow w.heap.size 217 6 v (BO p.rules).length (CM (BO p.rules))∧Below w.heap.size w w'):=by
 have aC:=hide (show ∀r∈p.rules,r.guards.length≤60 from fun r G=>(an.rule r G).1.2.1)
 have bA:=an.rules
 obtain⟨bz,A7,c7,aF,aG,bo⟩:=h.rules_at
 generalize bd:cs.toArray=pc at*
 clear bd h
 generalize be:p.rules=rs at*
 clear be an
 obtain⟨w1,bD,a2,af,b3⟩:=Ae w pc 27
 have ad:=a2.size
 have a7:w1.cell? ⟨w.heap.size,9,none⟩=some (.slice A7 rs.length c7):=by rw [af.cell,aF]
 have aU:=hide (aG.keep (w':=w1) (B':=w1.heap.size) (R':=AW w1 w1.heap.size) (fun _ C=>a2.cell C) (fun _ _ h=>h.keep (fun _ C=>a2.cell C) ad) ad)
 have aX:=hide a2
 have a9:=af.lt
 clear aG a2 b3 af aF
 go_enter Tryz.func139,Tryz.ntmps139
 go_wp2_with fail
 go_loopw [3,4] (fun vv ii wr=>∃(i n:Nat),ii=.int .i64 (i:Int)∧i≤rs.length∧Hid (wr.ownsRow w1.heap.size 217 6 vv n (CM (BO (rs.take i))))∧Hid (n=(BO (rs.take i)).length)∧Hid (Below w1.heap.size w1 wr)) (fun _ ii _=>rs.length - (intOf ii).toNat)
 case atStart=>exact⟨0,0,rfl,Nat.zero_le _,World.ownsRow_nil _ _ _ _,by show _=_; rfl,Below.refl _ _⟩
 case round=>
  obtain⟨i,n,rfl,hi,E,hn,I⟩:=hrel
  by_cases b6:i<rs.length
  ·obtain⟨r,G⟩:∃r,rs[i]?=some r:=⟨_,List.getElem?_eq_getElem b6⟩
   obtain⟨b,ae,rc,hA,ak,hC,aB,b5⟩:=Du (aU.out.keep (w':=wr) (B':=w1.heap.size) (R':=AW wr w1.heap.size) (fun _ C=>I.out.cell C) (fun _ _ h=>h.keep (fun _ C=>I.out.cell C) (Nat.le_refl _)) (Nat.le_refl _)) G
   obtain⟨Eg,fg,az,aw⟩:=hC.guards
   have bB:=hide G
   have bl:=hide hC
   have ay:w1.cell? ⟨b,ae+i*18+7,none⟩=some (.slice Eg r.guards.length fg):=(I.out.cell (p:=⟨b,ae+i*18+7,none⟩) ak).symm.trans (aB 7 _ az)
   have bq:=aC.out r (List.mem_of_getElem? G)
   have F:=hide E.out
   have b0:=(I.out.cell (p:=⟨w.heap.size,9,none⟩) a9).trans a7
   have aV:=hide (aw.keep (w':=w1) (B':=w1.heap.size) (fun _ C=>(I.out.cell C).symm) (Nat.le_refl _))
   have au:=hide I.out
   have bf:=hide (LA G)
   have bb:=hide (FB (rs.take i) (fun r G=>aC.out r (List.mem_of_mem_take G)))
   have bx:n≤1800:=by
    have h1:=bb.out
    rw [hn.out]
    rw [List.length_take] at h1
    omega
   subst hA
   clear aB hC G az E aw b5
   go_wp2_with fail
   go_loopw [3,5] (fun vv jj wr=>∃(j n:Nat),jj=.int .i64 (j:Int)∧j≤r.guards.length∧n≤1800+j∧Hid (wr.ownsRow w1.heap.size 217 6 vv n (CM ((r.guards.take j).foldl Bx (BO (rs.take i)))))∧Hid (n=((r.guards.take j).foldl Bx (BO (rs.take i))).length)∧Hid (Below w1.heap.size w1 wr)) (fun _ jj _=>r.guards.length - (intOf jj).toNat)
   case atStart=>exact⟨0,n,rfl,Nat.zero_le _,by omega,by show World.ownsRow _ _ _ _ _ _ _; simpa using F.out,by show _=_; simpa using hn.out,au.out⟩
   case round=>
    obtain⟨j,m,rfl,hj,hm,E,a4,J⟩:=hrel
    by_cases b8:j<r.guards.length
    ·have b1:=(J.out.cell (p:=⟨w.heap.size,9,none⟩) a9).trans a7
     have aZ:=(J.out.cell (p:=⟨b,ae+i*18+7,none⟩) ak).trans ay
     obtain⟨b2,aH,g,aR,bn,hg,aA⟩:=(aV.out.keep (w':=wr) (B':=w1.heap.size) (fun _ C=>J.out.cell C) (Nat.le_refl _)).at b8
     have bv:(loadCellsFrom ⟨b2,aH+j*6,none⟩ 0 6 #[]).run Tryz.prog wr=.ok #[.int .i64 g.msg,.int .i64 g.coef,.int .i64 g.bound.c,.int .i64 g.bound.n,.int .i64 g.bound.t,.int .i64 g.bound.f] wr:=by
      have:=run_loadCells_list (P:=Tryz.prog) wr ⟨b2,aH+j*6,none⟩ (C4 g) (fun k v y=>by
       rw [Addr.add_mid]
       have hk:=AP y
       rw [aA k hk]
       match k,hk,y with
       | 0,_,y=>exact congrArg some (Option.some.inj y)
       | 1,_,y=>exact congrArg some (Option.some.inj y)
       | 2,_,y=>exact congrArg some (Option.some.inj y)
       | 3,_,y=>exact congrArg some (Option.some.inj y)
       | 4,_,y=>exact congrArg some (Option.some.inj y)
       | 5,_,y=>exact congrArg some (Option.some.inj y))
      simpa [loadCells,C4] using this
     have a8:=hide (JB hg (BO (rs.take i)))
     have aW:=hide (show DG g=.agg #[.int .i64 g.msg,.int .i64 g.coef,.int .i64 g.bound.c,.int .i64 g.bound.n,.int .i64 g.bound.t,.int .i64 g.bound.f] from rfl)
     obtain⟨w3,bg,aj,ag,b4⟩:=Ae wr #[.int .i64 g.msg,.int .i64 g.coef,.int .i64 g.bound.c,.int .i64 g.bound.n,.int .i64 g.bound.t,.int .i64 g.bound.f] 217
     have bC:∀c:Array Value,c.size=6→(storeCells ⟨wr.heap.size,0,none⟩ [.int .i64 g.msg,.int .i64 g.coef,.int .i64 g.bound.c,.int .i64 g.bound.n,.int .i64 g.bound.t,.int .i64 g.bound.f] 0).run Tryz.prog (wr.alloc (.cells c 217))=.ok () w3:=fun c hc=>by rw [←bg]; exact Dv wr 217 6 (by kernel_rfl) (rc:=#[.int .i64 g.msg,.int .i64 g.coef,.int .i64 g.bound.c,.int .i64 g.bound.n,.int .i64 g.bound.t,.int .i64 g.bound.f]) rfl (by simp [Value.oneCell']) c hc
     have bt:(loadCellsFrom ⟨wr.heap.size,0,none⟩ 0 6 #[]).run Tryz.prog w3=.ok #[.int .i64 g.msg,.int .i64 g.coef,.int .i64 g.bound.c,.int .i64 g.bound.n,.int .i64 g.bound.t,.int .i64 g.bound.f] w3:=Ah ag rfl
     have O:=EQ E.out aj
     obtain⟨Av,cv,y⟩:=AH E.out
     subst y
     have ax:=(Kh O (by omega)).2
     have aE:((r.guards.take j).foldl Bx (BO (rs.take i))).length=m:=a4.out.symm
     have al:=hide (TI (c:=cv) (x:=g) ax (Nat.le_refl _))
     rw [aE,aW.out] at al
     have a5:=hide (J.out.trans (aj.mono J.out.size))
     have bp:=hide hg
     have aS:=hide ag
     have av:=hide O
     subst aR
     clear aA b4 ag aj hg ax aE E O
     generalize ((r.guards.take j).foldl Bx (BO (rs.take i)))=L at*
     cases aa:decide (g∈L)
     ·have a3:=hide aa
      clear aa
      have hZ:∀z:Int,(0≤z↔g∈L)→z<0:=fun z V=>by
       have h1:=of_decide_eq_false a3.out
       have h2:¬0≤z:=fun h=>h1 (V.1 h)
       omega
      have Z:=hide (show Bx L g=L++[g] from if_neg (of_decide_eq_false a3.out))
      go_wp2_with (first
       | (go_at_call 193; refine Calls.ret al.out ?_; rintro v w4 ⟨⟨z,rfl,V⟩,M⟩; have bh:=hZ z V; have bu:=Ah (n:=6) (aS.out.below M) rfl; have a6:=hide (EQ av.out M); have W:=hide (a5.out.trans (M.mono a5.out.size)); clear M)
       | (at_builtin; refine BP KR rfl _ _ rfl w1.heap.size _ m _ rfl a6.out (C4 g) _ rfl rfl (by simp [C4,Value.oneCell']) (by omega) (by have:=W.out.size; have:=au.out.size; omega) ?_; intro g5 bk w5 bc aD b9 b7))
      have aT:=hide (W.out.trans (aD.below W.out.size fun b' bm e=>by have:=(a6.out.lt b' e).1; omega))
      clear aD b9 b7
      exact⟨⟨j+1,m+1,by go_num,by omega,by omega,by show World.ownsRow _ _ _ _ _ _ _; rw [a8.out,Z.out,Lx]; exact bc,by show _=_; rw [a8.out,Z.out,List.length_append,a4.out]; rfl,aT.out⟩,by simp [intOf]; omega⟩
     ·have a3:=hide aa
      clear aa
      have hZ:∀z:Int,(0≤z↔g∈L)→¬z<0:=fun z V=>by
       have h1:=of_decide_eq_true a3.out
       have h2:=V.2 h1
       omega
      have Z:=hide (show Bx L g=L from if_pos (of_decide_eq_true a3.out))
      go_wp2_with (go_at_call 193; refine Calls.ret al.out ?_; rintro v w4 ⟨⟨z,rfl,V⟩,M⟩; have bh:=hZ z V; have a6:=hide (EQ av.out M); have W:=hide (a5.out.trans (M.mono a5.out.size)); clear M)
      exact⟨⟨j+1,m,by go_num,by omega,by omega,by show World.ownsRow _ _ _ _ _ _ _; rw [a8.out,Z.out]; exact a6.out,by show _=_; rw [a8.out,Z.out,a4.out],W.out⟩,by simp [intOf]; omega⟩
    ·have e:j=r.guards.length:=by omega
     have F:=E.out
     have U:=a4.out
     rw [e,List.take_length,←bf.out] at F U
     have O:=hide F
     have ba:=hide U
     have b1:=(J.out.cell (p:=⟨w.heap.size,9,none⟩) a9).trans a7
     have aZ:=(J.out.cell (p:=⟨b,ae+i*18+7,none⟩) ak).trans ay
     clear F U e E a4
     go_wp2_with fail
     exact⟨⟨i+1,m,by go_num,by omega,O.out,ba.out,J.out⟩,by simp [intOf]; omega⟩
  ·have e:i=rs.length:=by omega
   have F:=E.out
   have U:=hn.out
   rw [e,List.take_length] at F U
   rw [U] at F
   have O:=hide (Kc F ad)
   have b0:=(I.out.cell (p:=⟨w.heap.size,9,none⟩) a9).trans a7
   clear F U e E hn
   go_wp2_with fail
   go_ret
   exact⟨O.out,aX.out.trans (I.out.mono ad)⟩
end Go.Proofs.YtfcfpoemojjglaaGreatDoor.K
