/-
  Part CJ of a proof.
-/
import Derived.Test.YtfcfpoemojjglaaGreatDoorPA
import Derived.Test.YtfcfpoemojjglaaGreatDoorAC
import Derived.Test.YtfcfpoemojjglaaGreatDoorCE
set_option maxHeartbeats 16000000
set_option maxRecDepth 100000
set_option linter.unusedVariables false
set_option linter.unusedSimpArgs false
namespace Go.Proofs.YtfcfpoemojjglaaGreatDoor.K
open Go.RowKit
attribute [-go_sem] loadCellsFrom storeCells
structure PQX (w:World) (g2 g3:Nat) (pc qc:Array Value) (p:Am) (q:AB):Prop where
 pr:At w w.heap.size pc.toList p
 qr:Ba w w.heap.size qc.toList q
 b2:Blk w g2 27 pc
 b3:Blk w g3 30 qc
 tab:SpOK w
theorem PQX.at {w w':World} {g2 g3:Nat} {pc C:Array Value} {p:Am} {q:AB} (h:PQX w g2 g3 pc C p q) (x:Below w.heap.size w w'):PQX w' g2 g3 pc C p q:=
 ⟨h.pr.keep (fun _ y=>x.cell y) x.size,h.qr.keep (fun _ y=>x.cell y) x.size,h.b2.below x,h.b3.below x,h.tab.below x⟩
theorem Ba.cells {w:World} {B:Nat} {cs:List Value} {q:AB} (h:Ba w B cs q):∃A1 c1 A2 c2 A3 c3 x y,
  cs.toArray.size=6∧cs.toArray[0]?=some (.string q.name)∧cs.toArray[1]?=some (.int .i64 q.kind)∧cs.toArray[2]?=some (.slice A1 q.start.length c1)∧cs.toArray[3]?=some (.slice A2 q.bad.length c2)∧cs.toArray[4]?=some (.slice A3 q.adj.length c3)∧cs.toArray[5]?=some (.slice x q.goal.length y)∧
  Sl w B 1 Ai A1 q.start∧BR w B 2 (Db w B) A2 q.bad∧Sl w B 1 Ai A3 q.adj∧Sl w B 1 Ai x q.goal:=by
 obtain⟨A1,c1,A2,c2,A3,c3,x,y,rfl,h1,C,E,F⟩:=h
 exact⟨A1,c1,A2,c2,A3,c3,x,y,rfl,rfl,rfl,rfl,rfl,rfl,rfl,h1,C,E,F⟩
structure AB.Small (q:AB):Prop where
 name:q.name.size≤500
 start:q.start.length≤60
 bad:q.bad.length≤60
 adj:q.adj.length≤60
 goal:q.goal.length≤60
 counts:∀c∈q.bad,c.states.length≤60
end Go.Proofs.YtfcfpoemojjglaaGreatDoor.K
namespace Go.Proofs.YtfcfpoemojjglaaGreatDoor.K
open Go.RowKit
def inN (x:Int) (n:Int):Bool:=inC x 0 (n - 1)
structure Un (r:Az):Prop where
 g:r.kind≠1→r.guards=[]∧r.ex=[]∧r.fa=[]∧r.send=[]
 v:r.kind=4∨r.kind=5→r.rd= -1∧r.wr= -1
 l:r.kind≠4→r.left=[]∧r.right=[]∧r.parent=[]
theorem DF {topo:Int} {r:Az} (h:B9 topo r=false):Un r:=by
 unfold B9 at h
 simp only [Bool.or_eq_false_iff,Bool.and_eq_false_iff,Bool.not_eq_false',decide_eq_true_eq,List.isEmpty_iff] at h
 obtain⟨⟨⟨⟨⟨⟨h1,C⟩,E⟩,F⟩,G⟩,x⟩,y⟩:=h
 refine⟨fun k=>?_,fun k=>?_,fun k=>?_⟩
 ·rcases h1 with h1 | h1
  ·exact absurd h1 k
  ·exact⟨h1.1.1.1,h1.1.1.2,h1.1.2,h1.2⟩
 ·rcases C with C | C
  ·rcases k with k | k <;> omega
  ·exact C
 ·rcases x with x | x
  ·exact absurd x k
  ·rcases y with y | y
   ·exact⟨x.1.2,x.2,y⟩
   ·simp [k] at y
section
variable {ok:ByteArray→Bool} {topo n m k:Int} {r:Az}
theorem Eh (n:Int):Aa [] n=0:=rfl
structure KOK (ok:ByteArray→Bool) (topo:Int) (r:Az):Prop where
 name:ok r.name=true
 kind:(decide (1≤r.kind)&&decide (r.kind≤5))=true
 cl:(decide (r.kind≤3) != decide (topo=1))=false
 un:B9 topo r=false
theorem Sj (h:ok r.name=false) (t:Bool):BC ok topo n m k t r=2:=by
 unfold BC
 rw [h]
 rfl
theorem Sk:BC ok topo n m k true r=2:=by
 unfold BC
 cases ok r.name <;> rfl
theorem Ib (h:ok r.name=true) (x:(!(decide (1≤r.kind)&&decide (r.kind≤5))||(decide (r.kind≤3) != decide (topo=1))||B9 topo r)=true):BC ok topo n m k false r=6:=by
 unfold BC
 rw [h,x]
 rfl
theorem Se (h:KOK ok topo r) (hk:r.kind=1):BC ok topo n m k false r=orE (Ad (!inN r.fr n||!inN r.to n) 5) (orE (Aj (B7 m) r.guards) (orE (Ad (decide (2<r.guards.length)) 4) (orE (Aa r.ex n) (orE (Aa r.fa n) (orE (Ad (!AO r.rd k||!AO r.wr k) 5) (Aa r.send m)))))):=by
 obtain⟨a1,x,y⟩:=(DF h.un).l (by omega)
 unfold BC
 rw [h.name,h.kind,h.cl,h.un,a1,x,y,Eh,hk]
 simp [Ad,Bk,inN,C5,AY]
theorem Sf (h:KOK ok topo r) (hk:r.kind=2):BC ok topo n m k false r=orE (Ad (!inN r.fr n||!inN r.to n||(!inN r.pf n||!inN r.pt n)) 5) (Ad (!AO r.rd k||!AO r.wr k) 5):=by
 obtain⟨a1,x,y⟩:=(DF h.un).l (by omega)
 obtain⟨b1,b2,b3,C⟩:=(DF h.un).g (by omega)
 unfold BC
 rw [h.name,h.kind,h.cl,h.un,a1,x,y,b1,b2,b3,C,Eh,Eh,hk]
 simp [Ad,Bk,inN,C5,AY,Aj]
theorem Sg (h:KOK ok topo r) (hk:r.kind=3):BC ok topo n m k false r=orE (Ad (!inN r.fr n||!inN r.to n) 5) (orE (C8 n r.resp) (Ad (!AO r.rd k||!AO r.wr k) 5)):=by
 obtain⟨a1,x,y⟩:=(DF h.un).l (by omega)
 obtain⟨b1,b2,b3,C⟩:=(DF h.un).g (by omega)
 unfold BC
 rw [h.name,h.kind,h.cl,h.un,a1,x,y,b1,b2,b3,C,Eh,Eh,hk]
 simp [Ad,Bk,inN,C5,AY,Aj]
theorem DW (h0:0≤k):AO (-1) k=true:=by
 unfold AO
 rw [decide_eq_true (show(-1:Int)<k by omega)]
 rfl
theorem Cd {v:Int} (h:v≠-1):AO v k=inC v 0 (k - 1):=by
 unfold AO inC
 rw [decide_eq_decide.2 (show -1≤v↔0≤v by omega),decide_eq_decide.2 (show v<k↔v≤k - 1 by omega)]
theorem Sh (h:KOK ok topo r) (hk:r.kind=4) (h0:0≤k):BC ok topo n m k false r=orE (Ad (!inN r.fr n||!inN r.to n) 5) (orE (Aa r.left n) (orE (Aa r.right n) (orE (Aa r.parent n) (Ad (!inC r.at_ 0 2||(!decide (r.at_=0)&&decide (topo=3))) 1)))):=by
 obtain⟨b1,b2,b3,x⟩:=(DF h.un).g (by omega)
 obtain⟨c1,c2⟩:=(DF h.un).v (.inl hk)
 unfold BC
 rw [h.name,h.kind,h.cl,h.un,b1,b2,b3,x,Eh,Eh,hk,c1,c2]
 rw [DW h0]
 simp [Ad,Bk,inN,C5,AY,Aj,inC]
theorem Si (h:KOK ok topo r) (hk:r.kind=5) (h0:0≤k):BC ok topo n m k false r=orE (Ad (!inN r.fr n||!inN r.to n||(!inN r.pf n||!inN r.pt n)) 5) (Ad (if topo=4 then !inC r.dir 3 4 else !inC r.dir 1 2) 1):=by
 obtain⟨a1,x,y⟩:=(DF h.un).l (by omega)
 obtain⟨b1,b2,b3,C⟩:=(DF h.un).g (by omega)
 obtain⟨c1,c2⟩:=(DF h.un).v (.inr hk)
 unfold BC
 rw [h.name,h.kind,h.cl,h.un,a1,x,y,b1,b2,b3,C,Eh,Eh,hk,c1,c2]
 rw [DW h0]
 by_cases ht:topo=4 <;> simp [Ad,Bk,inN,C5,AY,Aj,inC,ht]
end
end Go.Proofs.YtfcfpoemojjglaaGreatDoor.K
namespace Go.Proofs.YtfcfpoemojjglaaGreatDoor.K
open Go.RowKit
attribute [-go_sem] loadCellsFrom storeCells
theorem Jo {w:World} {cs:List Value} {p:Am} (h:At w w.heap.size cs p) (am:p.Small):
  Calls Tryz.prog 139 #[.agg cs.toArray] w (Ret fun v w'=>w'.ownsRow w.heap.size 217 6 v (BO p.rules).length (CM (BO p.rules))∧Below w.heap.size w w'):=by
 have aB:=hide (show ∀r∈p.rules,r.guards.length≤60 from fun r I=>(am.rule r I).1.2.1)
 have bz:=am.rules
 obtain⟨bx,A7,c7,aE,aF,bn⟩:=h.rules_at
 generalize bc:cs.toArray=pc at*
 clear bc h
 generalize bd:p.rules=rs at*
 clear bd am
 obtain⟨y,bC,a3,ae,aZ⟩:=Ae w pc 27
 have ad:=a3.size
 have a8:y.cell? ⟨w.heap.size,9,none⟩=some (.slice A7 rs.length c7):=by rw [ae.cell,aE]
 have aR:=hide (aF.keep (w':=y) (B':=y.heap.size) (R':=AW y y.heap.size) (fun _ E=>a3.cell E) (fun _ _ h=>h.keep (fun _ E=>a3.cell E) ad) ad)
 have aU:=hide a3
 have aa:=ae.lt
 clear aF a3 aZ ae aE
 go_enter Tryz.func139,Tryz.ntmps139
 go_wp2_with fail
 go_loopw [3,4] (fun vv ii wr=>∃(i n:Nat),ii=.int .i64 (i:Int)∧i≤rs.length∧Hid (wr.ownsRow y.heap.size 217 6 vv n (CM (BO (rs.take i))))∧Hid (n=(BO (rs.take i)).length)∧Hid (Below y.heap.size y wr)) (fun _ ii _=>rs.length - (intOf ii).toNat)
 case atStart=>exact⟨0,0,rfl,Nat.zero_le _,World.ownsRow_nil _ _ _ _,by show _=_; rfl,Below.refl _ _⟩
 case round=>
  obtain⟨i,n,rfl,hi,F,hn,J⟩:=hrel
  by_cases b5:i<rs.length
  ·obtain⟨r,I⟩:∃r,rs[i]?=some r:=⟨_,List.getElem?_eq_getElem b5⟩
   obtain⟨b,off,rc,hA,aj,hC,aA,b4⟩:=Du (aR.out.keep (w':=wr) (B':=y.heap.size) (R':=AW wr y.heap.size) (fun _ E=>J.out.cell E) (fun _ _ h=>h.keep (fun _ E=>J.out.cell E) (Nat.le_refl _)) (Nat.le_refl _)) I
   obtain⟨Eg,fg,ay,av⟩:=hC.guards
   have bA:=hide I
   have bk:=hide hC
   have ax:y.cell? ⟨b,off+i*18+7,none⟩=some (.slice Eg r.guards.length fg):=(J.out.cell (p:=⟨b,off+i*18+7,none⟩) aj).symm.trans (aA 7 _ ay)
   have bp:=aB.out r (List.mem_of_getElem? I)
   have G:=hide F.out
   have aX:=(J.out.cell (p:=⟨w.heap.size,9,none⟩) aa).trans a8
   have aS:=hide (av.keep (w':=y) (B':=y.heap.size) (fun _ E=>(J.out.cell E).symm) (Nat.le_refl _))
   have ar:=hide J.out
   have be:=hide (LA I)
   have ba:=hide (FB (rs.take i) (fun r I=>aB.out r (List.mem_of_mem_take I)))
   have bw:n≤1800:=by
    have h1:=ba.out
    rw [hn.out]
    rw [List.length_take] at h1
    omega
   subst hA
   clear aA hC I ay F av b4
   go_wp2_with fail
   go_loopw [3,5] (fun vv jj wr=>∃(j n:Nat),jj=.int .i64 (j:Int)∧j≤r.guards.length∧n≤1800+j∧Hid (wr.ownsRow y.heap.size 217 6 vv n (CM ((r.guards.take j).foldl Bx (BO (rs.take i)))))∧Hid (n=((r.guards.take j).foldl Bx (BO (rs.take i))).length)∧Hid (Below y.heap.size y wr)) (fun _ jj _=>r.guards.length - (intOf jj).toNat)
   case atStart=>exact⟨0,n,rfl,Nat.zero_le _,by omega,by show World.ownsRow _ _ _ _ _ _ _; simpa using G.out,by show _=_; simpa using hn.out,ar.out⟩
   case round=>
    obtain⟨j,m,rfl,hj,hm,F,a5,M⟩:=hrel
    by_cases b7:j<r.guards.length
    ·have aY:=(M.out.cell (p:=⟨w.heap.size,9,none⟩) aa).trans a8
     have aW:=(M.out.cell (p:=⟨b,off+i*18+7,none⟩) aj).trans ax
     obtain⟨b2,aG,g,aO,bm,hg,az⟩:=(aS.out.keep (w':=wr) (B':=y.heap.size) (fun _ E=>M.out.cell E) (Nat.le_refl _)).at b7
     have bu:(loadCellsFrom ⟨b2,aG+j*6,none⟩ 0 6 #[]).run Tryz.prog wr=.ok #[.int .i64 g.msg,.int .i64 g.coef,.int .i64 g.bound.c,.int .i64 g.bound.n,.int .i64 g.bound.t,.int .i64 g.bound.f] wr:=by
      have:=run_loadCells_list (P:=Tryz.prog) wr ⟨b2,aG+j*6,none⟩ (C4 g) (fun k v C=>by
       rw [Addr.add_mid]
       have hk:=AP C
       rw [az k hk]
       match k,hk,C with
       | 0,_,C=>exact congrArg some (Option.some.inj C)
       | 1,_,C=>exact congrArg some (Option.some.inj C)
       | 2,_,C=>exact congrArg some (Option.some.inj C)
       | 3,_,C=>exact congrArg some (Option.some.inj C)
       | 4,_,C=>exact congrArg some (Option.some.inj C)
       | 5,_,C=>exact congrArg some (Option.some.inj C))
      simpa [loadCells,C4] using this
     have a9:=hide (JB hg (BO (rs.take i)))
     have aT:=hide (show DG g=.agg #[.int .i64 g.msg,.int .i64 g.coef,.int .i64 g.bound.c,.int .i64 g.bound.n,.int .i64 g.bound.t,.int .i64 g.bound.f] from rfl)
     obtain⟨w3,bf,ai,af,b0⟩:=Ae wr #[.int .i64 g.msg,.int .i64 g.coef,.int .i64 g.bound.c,.int .i64 g.bound.n,.int .i64 g.bound.t,.int .i64 g.bound.f] 217
     have bB:∀c:Array Value,c.size=6→(storeCells ⟨wr.heap.size,0,none⟩ [.int .i64 g.msg,.int .i64 g.coef,.int .i64 g.bound.c,.int .i64 g.bound.n,.int .i64 g.bound.t,.int .i64 g.bound.f] 0).run Tryz.prog (wr.alloc (.cells c 217))=.ok () w3:=fun c hc=>by rw [←bf]; exact Dv wr 217 6 (by kernel_rfl) (rc:=#[.int .i64 g.msg,.int .i64 g.coef,.int .i64 g.bound.c,.int .i64 g.bound.n,.int .i64 g.bound.t,.int .i64 g.bound.f]) rfl (by simp [Value.oneCell']) c hc
     have bs:(loadCellsFrom ⟨wr.heap.size,0,none⟩ 0 6 #[]).run Tryz.prog w3=.ok #[.int .i64 g.msg,.int .i64 g.coef,.int .i64 g.bound.c,.int .i64 g.bound.n,.int .i64 g.bound.t,.int .i64 g.bound.f] w3:=Ah af rfl
     have U:=EQ F.out ai
     obtain⟨Av,cv,C⟩:=AH F.out
     subst C
     have aw:=(Kh U (by omega)).2
     have aD:((r.guards.take j).foldl Bx (BO (rs.take i))).length=m:=a5.out.symm
     have ak:=hide (TI (c:=cv) (x:=g) aw (Nat.le_refl _))
     rw [aD,aT.out] at ak
     have a6:=hide (M.out.trans (ai.mono M.out.size))
     have bo:=hide hg
     have aP:=hide af
     have au:=hide U
     subst aO
     clear az b0 af ai hg aw aD F U
     generalize ((r.guards.take j).foldl Bx (BO (rs.take i)))=L at*
     cases ab:decide (g∈L)
     ·have a4:=hide ab
      clear ab
      have hZ:∀z:Int,(0≤z↔g∈L)→z<0:=fun z W=>by
       have h1:=of_decide_eq_false a4.out
       have h2:¬0≤z:=fun h=>h1 (W.1 h)
       omega
      have a2:=hide (show Bx L g=L++[g] from if_neg (of_decide_eq_false a4.out))
      go_wp2_with (first
       | (go_at_call 193; refine Calls.ret ak.out ?_; rintro v w4 ⟨⟨z,rfl,W⟩,O⟩; have bg:=hZ z W; have bt:=Ah (n:=6) (aP.out.below O) rfl; have a7:=hide (EQ au.out O); have Z:=hide (a6.out.trans (O.mono a6.out.size)); clear O)
       | (at_builtin; refine BP KR rfl _ _ rfl y.heap.size _ m _ rfl a7.out (C4 g) _ rfl rfl (by simp [C4,Value.oneCell']) (by omega) (by have:=Z.out.size; have:=ar.out.size; omega) ?_; intro g5 bj w5 bb aC b8 b6))
      have aQ:=hide (Z.out.trans (aC.below Z.out.size fun b' bl e=>by have:=(a7.out.lt b' e).1; omega))
      clear aC b8 b6
      exact⟨⟨j+1,m+1,by go_num,by omega,by omega,by show World.ownsRow _ _ _ _ _ _ _; rw [a9.out,a2.out,Lx]; exact bb,by show _=_; rw [a9.out,a2.out,List.length_append,a5.out]; rfl,aQ.out⟩,by simp [intOf]; omega⟩
     ·have a4:=hide ab
      clear ab
      have hZ:∀z:Int,(0≤z↔g∈L)→¬z<0:=fun z W=>by
       have h1:=of_decide_eq_true a4.out
       have h2:=W.2 h1
       omega
      have a2:=hide (show Bx L g=L from if_pos (of_decide_eq_true a4.out))
      go_wp2_with (go_at_call 193; refine Calls.ret ak.out ?_; rintro v w4 ⟨⟨z,rfl,W⟩,O⟩; have bg:=hZ z W; have a7:=hide (EQ au.out O); have Z:=hide (a6.out.trans (O.mono a6.out.size)); clear O)
      exact⟨⟨j+1,m,by go_num,by omega,by omega,by show World.ownsRow _ _ _ _ _ _ _; rw [a9.out,a2.out]; exact a7.out,by show _=_; rw [a9.out,a2.out,a5.out],Z.out⟩,by simp [intOf]; omega⟩
    ·have e:j=r.guards.length:=by omega
     have G:=F.out
     have V:=a5.out
     rw [e,List.take_length,←be.out] at G V
     have U:=hide G
     have b9:=hide V
     have aY:=(M.out.cell (p:=⟨w.heap.size,9,none⟩) aa).trans a8
     have aW:=(M.out.cell (p:=⟨b,off+i*18+7,none⟩) aj).trans ax
     clear G V e F a5
     go_wp2_with fail
     exact⟨⟨i+1,m,by go_num,by omega,U.out,b9.out,M.out⟩,by simp [intOf]; omega⟩
  ·have e:i=rs.length:=by omega
   have G:=F.out
   have V:=hn.out
   rw [e,List.take_length] at G V
   rw [V] at G
   have U:=hide (Kc G ad)
   have aX:=(J.out.cell (p:=⟨w.heap.size,9,none⟩) aa).trans a8
   clear G V e F hn
   go_wp2_with fail
   go_ret
   exact⟨U.out,aU.out.trans (J.out.mono ad)⟩
end Go.Proofs.YtfcfpoemojjglaaGreatDoor.K
