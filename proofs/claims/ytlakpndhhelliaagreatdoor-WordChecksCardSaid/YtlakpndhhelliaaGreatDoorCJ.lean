/-
  Part CJ of a proof.
-/
import Derived.Test.YtlakpndhhelliaaGreatDoorPA
import Derived.Test.YtlakpndhhelliaaGreatDoorCI
import Derived.Test.YtlakpndhhelliaaGreatDoorCE
import Derived.Test.YtlakpndhhelliaaGreatDoorAB
import Derived.Test.YtlakpndhhelliaaGreatDoorAC
set_option maxHeartbeats 16000000
set_option maxRecDepth 100000
set_option linter.unusedVariables false
set_option linter.unusedSimpArgs false
namespace Go.Proofs.YtlakpndhhelliaaGreatDoor.K
open Go.RowKit
attribute [-go_sem] loadCellsFrom storeCells
structure PQX (w:World) (g2 g3:Nat) (pc qc:Array Value) (p:Ao) (q:Bd):Prop where
 pr:Ax w w.heap.size pc.toList p
 qr:BE w w.heap.size qc.toList q
 b2:Blk w g2 27 pc
 b3:Blk w g3 30 qc
 tab:AL w
theorem PQX.at {w w':World} {g2 z:Nat} {C E:Array Value} {p:Ao} {q:Bd} (h:PQX w g2 z C E p q) (f:Below w.heap.size w w'):PQX w' g2 z C E p q:=
 ⟨h.pr.keep (fun _ y=>f.cell y) f.size,h.qr.keep (fun _ y=>f.cell y) f.size,h.b2.below f,h.b3.below f,h.tab.below f⟩
theorem BE.cells {w:World} {B:Nat} {cs:List Value} {q:Bd} (h:BE w B cs q):∃f E y c2 z F C G,
  cs.toArray.size=6∧cs.toArray[0]?=some (.string q.name)∧cs.toArray[1]?=some (.int .i64 q.kind)∧cs.toArray[2]?=some (.slice f q.start.length E)∧cs.toArray[3]?=some (.slice y q.bad.length c2)∧cs.toArray[4]?=some (.slice z q.adj.length F)∧cs.toArray[5]?=some (.slice C q.goal.length G)∧
  Sl w B 1 Ai f q.start∧BJ w B 2 (CY w B) y q.bad∧Sl w B 1 Ai z q.adj∧Sl w B 1 Ai C q.goal:=by
 obtain⟨f,E,y,c2,z,F,C,G,rfl,I,J,M,O⟩:=h
 exact⟨f,E,y,c2,z,F,C,G,rfl,rfl,rfl,rfl,rfl,rfl,rfl,I,J,M,O⟩
structure Bd.Small (q:Bd):Prop where
 name:q.name.size≤500
 start:q.start.length≤60
 bad:q.bad.length≤60
 adj:q.adj.length≤60
 goal:q.goal.length≤60
 counts:∀c∈q.bad,c.states.length≤60
def Cn (p:Ao) (q:Bd):Bool:=q.start.all fun x=>decide (x∈p.initial)
section
variable {p:Ao} {q:Bd}
theorem IR (h:At Ab p≠0):AJ Ab p q=At Ab p:=Bz h
theorem Iz (h:At Ab p=0) (f:Ab q.name=false):AJ Ab p q=2:=by
 unfold AJ
 rw [h,f]
 rfl
theorem Jc (h:At Ab p=0) (f:Ab q.name=true) (y:q.kind≠1) (z:q.kind≠2):AJ Ab p q=1:=by
 unfold AJ
 rw [h,f,decide_eq_false y,decide_eq_false z]
 rfl
theorem Jx (h:At Ab p=0) (f:Ab q.name=true) (y:q.kind=1) (z:q.goal.length≠0):AJ Ab p q=1:=by
 unfold AJ
 rw [h,f,y,Bn q.goal,decide_eq_false z]
 rfl
theorem F4 (h:At Ab p=0) (y:Ab q.name=true) (z:q.kind=2) (f:q.bad.length≠0∨q.adj.length≠0):AJ Ab p q=1:=by
 unfold AJ
 rw [h,y,z,Bn q.bad,Bn q.adj]
 rcases f with f | f
 ·rw [decide_eq_false f]
  rfl
 ·rw [decide_eq_false f]
  cases decide (q.bad.length=0) <;> rfl
def De (p:Ao) (q:Bd):Int:=
 orE (Ac (q.bad.isEmpty&&q.adj.isEmpty) 1) (orE (Ac (decide (3<q.bad.length)) 4) (orE (Ah (Az p.states.length) q.bad) (Bb p.topo p.states.length q.adj)))
def DW (p:Ao) (q:Bd):Int:=orE (Aa q.goal p.states.length) (Ac q.goal.isEmpty 1)
theorem G5 (h:At Ab p=0) (f:Ab q.name=true) (y:q.kind=1) (z:q.goal.length=0):AJ Ab p q=orE (Aa q.start p.states.length) (orE (Ac (!Cn p q) 5) (De p q)):=by
 unfold AJ
 rw [h,f,y,Bn q.goal,decide_eq_true z]
 rfl
theorem GF (h:At Ab p=0) (f:Ab q.name=true) (y:q.kind=2) (z:q.bad.length=0) (C:q.adj.length=0):AJ Ab p q=orE (Aa q.start p.states.length) (orE (Ac (!Cn p q) 5) (DW p q)):=by
 unfold AJ
 rw [h,f,y,Bn q.bad,Bn q.adj,decide_eq_true z,decide_eq_true C]
 rfl
end
end Go.Proofs.YtlakpndhhelliaaGreatDoor.K
namespace Go.Proofs.YtlakpndhhelliaaGreatDoor.K
open Go.RowKit
def inN (x:Int) (n:Int):Bool:=inC x 0 (n - 1)
structure Un (r:As):Prop where
 g:r.kind≠1→r.guards=[]∧r.ex=[]∧r.fa=[]∧r.send=[]
 v:r.kind=4∨r.kind=5→r.rd= -1∧r.wr= -1
 l:r.kind≠4→r.left=[]∧r.right=[]∧r.parent=[]
theorem CX {topo:Int} {r:As} (h:BR topo r=false):Un r:=by
 unfold BR at h
 simp only [Bool.or_eq_false_iff,Bool.and_eq_false_iff,Bool.not_eq_false',decide_eq_true_eq,List.isEmpty_iff] at h
 obtain⟨⟨⟨⟨⟨⟨f,C⟩,E⟩,F⟩,G⟩,y⟩,z⟩:=h
 refine⟨fun k=>?_,fun k=>?_,fun k=>?_⟩
 ·rcases f with f | f
  ·exact absurd f k
  ·exact⟨f.1.1.1,f.1.1.2,f.1.2,f.2⟩
 ·rcases C with C | C
  ·rcases k with k | k <;> omega
  ·exact C
 ·rcases y with y | y
  ·exact absurd y k
  ·rcases z with z | z
   ·exact⟨y.1.2,y.2,z⟩
   ·simp [k] at z
section
variable {ok:ByteArray→Bool} {topo n m k:Int} {r:As}
theorem DQ (n:Int):Aa [] n=0:=rfl
structure KOK (ok:ByteArray→Bool) (topo:Int) (r:As):Prop where
 name:ok r.name=true
 kind:(decide (1≤r.kind)&&decide (r.kind≤5))=true
 cl:(decide (r.kind≤3) != decide (topo=1))=false
 un:BR topo r=false
theorem I6 (h:ok r.name=false) (t:Bool):AW ok topo n m k t r=2:=by
 unfold AW
 rw [h]
 rfl
theorem MS:AW ok topo n m k true r=2:=by
 unfold AW
 cases ok r.name <;> rfl
theorem Gq (h:ok r.name=true) (f:(!(decide (1≤r.kind)&&decide (r.kind≤5))||(decide (r.kind≤3) != decide (topo=1))||BR topo r)=true):AW ok topo n m k false r=6:=by
 unfold AW
 rw [h,f]
 rfl
theorem N3 (h:KOK ok topo r) (hk:r.kind=1):AW ok topo n m k false r=orE (Ac (!inN r.fr n||!inN r.to n) 5) (orE (Ah (BS m) r.guards) (orE (Ac (decide (2<r.guards.length)) 4) (orE (Aa r.ex n) (orE (Aa r.fa n) (orE (Ac (!AF r.rd k||!AF r.wr k) 5) (Aa r.send m)))))):=by
 obtain⟨a1,f,y⟩:=(CX h.un).l (by omega)
 unfold AW
 rw [h.name,h.kind,h.cl,h.un,a1,f,y,DQ,hk]
 simp [Ac,Be,inN,CJ,BI]
theorem LY (h:KOK ok topo r) (hk:r.kind=2):AW ok topo n m k false r=orE (Ac (!inN r.fr n||!inN r.to n||(!inN r.pf n||!inN r.pt n)) 5) (Ac (!AF r.rd k||!AF r.wr k) 5):=by
 obtain⟨a1,f,y⟩:=(CX h.un).l (by omega)
 obtain⟨b1,b2,b3,b4⟩:=(CX h.un).g (by omega)
 unfold AW
 rw [h.name,h.kind,h.cl,h.un,a1,f,y,b1,b2,b3,b4,DQ,DQ,hk]
 simp [Ac,Be,inN,CJ,BI,Ah]
theorem MZ (h:KOK ok topo r) (hk:r.kind=3):AW ok topo n m k false r=orE (Ac (!inN r.fr n||!inN r.to n) 5) (orE (CL n r.resp) (Ac (!AF r.rd k||!AF r.wr k) 5)):=by
 obtain⟨a1,f,y⟩:=(CX h.un).l (by omega)
 obtain⟨b1,b2,b3,b4⟩:=(CX h.un).g (by omega)
 unfold AW
 rw [h.name,h.kind,h.cl,h.un,a1,f,y,b1,b2,b3,b4,DQ,DQ,hk]
 simp [Ac,Be,inN,CJ,BI,Ah]
theorem Dm (f:0≤k):AF (-1) k=true:=by
 unfold AF
 rw [decide_eq_true (show(-1:Int)<k by omega)]
 rfl
theorem BV {v:Int} (h:v≠-1):AF v k=inC v 0 (k - 1):=by
 unfold AF inC
 rw [decide_eq_decide.2 (show -1≤v↔0≤v by omega),decide_eq_decide.2 (show v<k↔v≤k - 1 by omega)]
theorem Ni (h:KOK ok topo r) (hk:r.kind=4) (f:0≤k):AW ok topo n m k false r=orE (Ac (!inN r.fr n||!inN r.to n) 5) (orE (Aa r.left n) (orE (Aa r.right n) (orE (Aa r.parent n) (Ac (!inC r.at_ 0 2||(!decide (r.at_=0)&&decide (topo=3))) 1)))):=by
 obtain⟨b1,b2,b3,b4⟩:=(CX h.un).g (by omega)
 obtain⟨y,c2⟩:=(CX h.un).v (.inl hk)
 unfold AW
 rw [h.name,h.kind,h.cl,h.un,b1,b2,b3,b4,DQ,DQ,hk,y,c2]
 rw [Dm f]
 simp [Ac,Be,inN,CJ,BI,Ah,inC]
theorem Pz (h:KOK ok topo r) (hk:r.kind=5) (f:0≤k):AW ok topo n m k false r=orE (Ac (!inN r.fr n||!inN r.to n||(!inN r.pf n||!inN r.pt n)) 5) (Ac (if topo=4 then !inC r.dir 3 4 else !inC r.dir 1 2) 1):=by
 obtain⟨a1,y,z⟩:=(CX h.un).l (by omega)
 obtain⟨b1,b2,b3,b4⟩:=(CX h.un).g (by omega)
 obtain⟨C,c2⟩:=(CX h.un).v (.inr hk)
 unfold AW
 rw [h.name,h.kind,h.cl,h.un,a1,y,z,b1,b2,b3,b4,DQ,DQ,hk,C,c2]
 rw [Dm f]
 by_cases ht:topo=4 <;> simp [Ac,Be,inN,CJ,BI,Ah,inC,ht]
end
end Go.Proofs.YtlakpndhhelliaaGreatDoor.K
namespace Go.Proofs.YtlakpndhhelliaaGreatDoor.K
open Go.RowKit
attribute [-go_sem] loadCellsFrom storeCells
theorem J2 {w:World} {cs:List Value} {p:Ao} (h:Ax w w.heap.size cs p) (ag:p.Small):
  Calls Tryz.prog 56 #[.agg cs.toArray] w (Ret fun v w'=>w'.ownsRow w.heap.size 128 6 v (BH p.rules).length (Co (BH p.rules))∧Below w.heap.size w w'):=by
 have av:=hide (show ∀r∈p.rules,r.guards.length≤60 from fun r G=>(ag.rule r G).1.2.1)
 have bk:=ag.rules
 obtain⟨bl,A7,c7,aw,ax,bm⟩:=h.rules_at
 generalize aM:cs.toArray=pc at*
 clear aM h
 generalize aN:p.rules=rs at*
 clear aN ag
 obtain⟨w1,bn,W,ah,aO⟩:=Ag w pc 27
 have a6:=W.size
 have a7:w1.cell? ⟨w.heap.size,9,none⟩=some (.slice A7 rs.length c7):=by rw [ah.cell,aw]
 have aP:=hide (ax.keep (w':=w1) (B':=w1.heap.size) (R':=AB w1 w1.heap.size) (fun _ C=>W.cell C) (fun _ _ h=>h.keep (fun _ C=>W.cell C) a6) a6)
 have aQ:=hide W
 have a8:=ah.lt
 clear ax W aO ah aw
 go_enter Tryz.func56,Tryz.ntmps56
 go_wp2_with fail
 go_loopw [3,4] (fun vv ii wr=>∃(i n:Nat),ii=.int .i64 (i:Int)∧i≤rs.length∧Hid (wr.ownsRow w1.heap.size 128 6 vv n (Co (BH (rs.take i))))∧Hid (n=(BH (rs.take i)).length)∧Hid (Below w1.heap.size w1 wr)) (fun _ ii _=>rs.length - (intOf ii).toNat)
 case atStart=>exact⟨0,0,rfl,Nat.zero_le _,World.ownsRow_nil _ _ _ _,by show _=_; rfl,Below.refl _ _⟩
 case round=>
  obtain⟨i,n,rfl,hi,E,hn,I⟩:=hrel
  by_cases aR:i<rs.length
  ·obtain⟨r,G⟩:∃r,rs[i]?=some r:=⟨_,List.getElem?_eq_getElem aR⟩
   obtain⟨b,aa,rc,hA,ak,hC,ay,aT⟩:=BU (aP.out.keep (w':=wr) (B':=w1.heap.size) (R':=AB wr w1.heap.size) (fun _ C=>I.out.cell C) (fun _ _ h=>h.keep (fun _ C=>I.out.cell C) (Nat.le_refl _)) (Nat.le_refl _)) G
   obtain⟨Eg,fg,az,aA⟩:=hC.guards
   have bp:=hide G
   have bq:=hide hC
   have aB:w1.cell? ⟨b,aa+i*18+7,none⟩=some (.slice Eg r.guards.length fg):=(I.out.cell (p:=⟨b,aa+i*18+7,none⟩) ak).symm.trans (ay 7 _ az)
   have br:=av.out r (List.mem_of_getElem? G)
   have F:=hide E.out
   have aW:=(I.out.cell (p:=⟨w.heap.size,9,none⟩) a8).trans a7
   have aX:=hide (aA.keep (w':=w1) (B':=w1.heap.size) (fun _ C=>(I.out.cell C).symm) (Nat.le_refl _))
   have aC:=hide I.out
   have aY:=hide (Hv G)
   have aZ:=hide (Ez (rs.take i) (fun r G=>av.out r (List.mem_of_mem_take G)))
   have bs:n≤1800:=by
    have Z:=aZ.out
    rw [hn.out]
    rw [List.length_take] at Z
    omega
   subst hA
   clear ay hC G az E aA aT
   go_wp2_with fail
   go_loopw [3,5] (fun vv jj wr=>∃(j n:Nat),jj=.int .i64 (j:Int)∧j≤r.guards.length∧n≤1800+j∧Hid (wr.ownsRow w1.heap.size 128 6 vv n (Co ((r.guards.take j).foldl Bp (BH (rs.take i)))))∧Hid (n=((r.guards.take j).foldl Bp (BH (rs.take i))).length)∧Hid (Below w1.heap.size w1 wr)) (fun _ jj _=>r.guards.length - (intOf jj).toNat)
   case atStart=>exact⟨0,n,rfl,Nat.zero_le _,by omega,by show World.ownsRow _ _ _ _ _ _ _; simpa using F.out,by show _=_; simpa using hn.out,aC.out⟩
   case round=>
    obtain⟨j,m,rfl,hj,hm,E,a2,J⟩:=hrel
    by_cases b0:j<r.guards.length
    ·have b1:=(J.out.cell (p:=⟨w.heap.size,9,none⟩) a8).trans a7
     have b3:=(J.out.cell (p:=⟨b,aa+i*18+7,none⟩) ak).trans aB
     obtain⟨b2,aD,g,b4,bv,hg,aE⟩:=(aX.out.keep (w':=wr) (B':=w1.heap.size) (fun _ C=>J.out.cell C) (Nat.le_refl _)).at b0
     have bw:(loadCellsFrom ⟨b2,aD+j*6,none⟩ 0 6 #[]).run Tryz.prog wr=.ok #[.int .i64 g.msg,.int .i64 g.coef,.int .i64 g.bound.c,.int .i64 g.bound.n,.int .i64 g.bound.t,.int .i64 g.bound.f] wr:=by
      have:=run_loadCells_list (P:=Tryz.prog) wr ⟨b2,aD+j*6,none⟩ (CH g) (fun k v y=>by
       rw [Addr.add_mid]
       have hk:=AO y
       rw [aE k hk]
       match k,hk,y with
       | 0,_,y=>exact congrArg some (Option.some.inj y)
       | 1,_,y=>exact congrArg some (Option.some.inj y)
       | 2,_,y=>exact congrArg some (Option.some.inj y)
       | 3,_,y=>exact congrArg some (Option.some.inj y)
       | 4,_,y=>exact congrArg some (Option.some.inj y)
       | 5,_,y=>exact congrArg some (Option.some.inj y))
      simpa [loadCells,CH] using this
     have ab:=hide (IA hg (BH (rs.take i)))
     have b5:=hide (show Dj g=.agg #[.int .i64 g.msg,.int .i64 g.coef,.int .i64 g.bound.c,.int .i64 g.bound.n,.int .i64 g.bound.t,.int .i64 g.bound.f] from rfl)
     obtain⟨w3,b6,ap,aq,b7⟩:=Ag wr #[.int .i64 g.msg,.int .i64 g.coef,.int .i64 g.bound.c,.int .i64 g.bound.n,.int .i64 g.bound.t,.int .i64 g.bound.f] 128
     have bx:∀c:Array Value,c.size=6→(storeCells ⟨wr.heap.size,0,none⟩ [.int .i64 g.msg,.int .i64 g.coef,.int .i64 g.bound.c,.int .i64 g.bound.n,.int .i64 g.bound.t,.int .i64 g.bound.f] 0).run Tryz.prog (wr.alloc (.cells c 128))=.ok () w3:=fun c hc=>by rw [←b6]; exact Cf wr 128 6 (by kernel_rfl) (rc:=#[.int .i64 g.msg,.int .i64 g.coef,.int .i64 g.bound.c,.int .i64 g.bound.n,.int .i64 g.bound.t,.int .i64 g.bound.f]) rfl (by simp [Value.oneCell']) c hc
     have bz:(loadCellsFrom ⟨wr.heap.size,0,none⟩ 0 6 #[]).run Tryz.prog w3=.ok #[.int .i64 g.msg,.int .i64 g.coef,.int .i64 g.bound.c,.int .i64 g.bound.n,.int .i64 g.bound.t,.int .i64 g.bound.f] w3:=Am aq rfl
     have O:=Ej E.out ap
     obtain⟨Av,cv,y⟩:=AV E.out
     subst y
     have aF:=(JV O (by omega)).2
     have aG:((r.guards.take j).foldl Bp (BH (rs.take i))).length=m:=a2.out.symm
     have ar:=hide (Nz (c:=cv) (x:=g) aF (Nat.le_refl _))
     rw [aG,b5.out] at ar
     have ad:=hide (J.out.trans (ap.mono J.out.size))
     have bB:=hide hg
     have ba:=hide aq
     have aH:=hide O
     subst b4
     clear aE b7 aq ap hg aF aG E O
     generalize ((r.guards.take j).foldl Bp (BH (rs.take i)))=L at*
     cases ae:decide (g∈L)
     ·have a3:=hide ae
      clear ae
      have hZ:∀z:Int,(0≤z↔g∈L)→z<0:=fun z U=>by
       have Z:=of_decide_eq_false a3.out
       have h2:¬0≤z:=fun h=>Z (U.1 h)
       omega
      have a4:=hide (show Bp L g=L++[g] from if_neg (of_decide_eq_false a3.out))
      go_wp2_with (first
       | (go_at_call 82; refine Calls.ret ar.out ?_; rintro v w4 ⟨⟨z,rfl,U⟩,M⟩; have bd:=hZ z U; have bC:=Am (n:=6) (ba.out.below M) rfl; have af:=hide (Ej aH.out M); have a5:=hide (ad.out.trans (M.mono ad.out.size)); clear M)
       | (at_builtin; refine CO JA rfl _ _ rfl w1.heap.size _ m _ rfl af.out (CH g) _ rfl rfl (by simp [CH,Value.oneCell']) (by omega) (by have:=a5.out.size; have:=aC.out.size; omega) ?_; intro g5 bD w5 be aJ bf bg))
      have bh:=hide (a5.out.trans (aJ.below a5.out.size fun b' bF e=>by have:=(af.out.lt b' e).1; omega))
      clear aJ bf bg
      exact⟨⟨j+1,m+1,by go_num,by omega,by omega,by show World.ownsRow _ _ _ _ _ _ _; rw [ab.out,a4.out,Ir]; exact be,by show _=_; rw [ab.out,a4.out,List.length_append,a2.out]; rfl,bh.out⟩,by simp [intOf]; omega⟩
     ·have a3:=hide ae
      clear ae
      have hZ:∀z:Int,(0≤z↔g∈L)→¬z<0:=fun z U=>by
       have Z:=of_decide_eq_true a3.out
       have h2:=U.2 Z
       omega
      have a4:=hide (show Bp L g=L from if_pos (of_decide_eq_true a3.out))
      go_wp2_with (go_at_call 82; refine Calls.ret ar.out ?_; rintro v w4 ⟨⟨z,rfl,U⟩,M⟩; have bd:=hZ z U; have af:=hide (Ej aH.out M); have a5:=hide (ad.out.trans (M.mono ad.out.size)); clear M)
      exact⟨⟨j+1,m,by go_num,by omega,by omega,by show World.ownsRow _ _ _ _ _ _ _; rw [ab.out,a4.out]; exact af.out,by show _=_; rw [ab.out,a4.out,a2.out],a5.out⟩,by simp [intOf]; omega⟩
    ·have e:j=r.guards.length:=by omega
     have F:=E.out
     have V:=a2.out
     rw [e,List.take_length,←aY.out] at F V
     have O:=hide F
     have bj:=hide V
     have b1:=(J.out.cell (p:=⟨w.heap.size,9,none⟩) a8).trans a7
     have b3:=(J.out.cell (p:=⟨b,aa+i*18+7,none⟩) ak).trans aB
     clear F V e E a2
     go_wp2_with fail
     exact⟨⟨i+1,m,by go_num,by omega,O.out,bj.out,J.out⟩,by simp [intOf]; omega⟩
  ·have e:i=rs.length:=by omega
   have F:=E.out
   have V:=hn.out
   rw [e,List.take_length] at F V
   rw [V] at F
   have O:=hide (Ib F a6)
   have aW:=(I.out.cell (p:=⟨w.heap.size,9,none⟩) a8).trans a7
   clear F V e E hn
   go_wp2_with fail
   go_ret
   exact⟨O.out,aQ.out.trans (I.out.mono a6)⟩
end Go.Proofs.YtlakpndhhelliaaGreatDoor.K
