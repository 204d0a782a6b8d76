/-
  Part SE of a proof.
-/
import Derived.Test.YtfcfpoemojjglaaGreatDoorPA
import Derived.Test.YtfcfpoemojjglaaGreatDoorSD
import Derived.Test.YtfcfpoemojjglaaGreatDoorCE
set_option maxHeartbeats 16000000
set_option maxRecDepth 100000
set_option linter.unusedVariables false
set_option linter.unusedSimpArgs false
namespace Go.Proofs.YtfcfpoemojjglaaGreatDoor
open Go.RowKit
open K (Ah)
attribute [-go_sem] loadCellsFrom
set_option maxHeartbeats 16000000
set_option maxRecDepth 100000
theorem Yh {w:World} {I rc:Array Value} {A:Option Addr} {L c:Nat} {topo fr t pf pt dir:Int} (aA:I.size=10) (ay:I[1]?=some (.int .i64 topo)) (az:I[2]?=some (.slice A L c)) (hL:L≤60)
  (aC:rc[2]?=some (.int .i64 fr)) (aD:rc[3]?=some (.int .i64 t)) (aE:rc[4]?=some (.int .i64 pf)) (aF:rc[5]?=some (.int .i64 pt)) (aB:rc[17]?=some (.int .i64 dir)):
  Calls Tryz.prog 103 #[.agg I,.agg rc] w (Ret fun v w'=>∃gd gm n,v=.pointer (some ⟨gd,0,none⟩)∧n≤10000∧DrS w w' gd gm (if dir=2 then Wi L topo pf pt fr t else Wi L topo fr t pf pt) n [] []):=by
 obtain⟨w1,bV,O,am,-⟩:=Ae w I 27
 obtain⟨w2,bW,U,C,-⟩:=Ae w1 rc 99
 have au:=(O.trans (U.mono O.size)).trans ((Ap w2).mono (O.trans (U.mono O.size)).size)
 have a8:=am.below (U.trans ((Ap w2).mono U.size))
 have a9:=C.below (Ap w2)
 have bp:=Ah a8 aA
 have J:=a9.cell
 have bx:=(J 2).trans aC
 have bz:=(J 3).trans aD
 have bA:=(J 4).trans aE
 have bB:=(J 5).trans aF
 have bw:=(J 17).trans aB
 have bv:=hide ay
 have aH:=hide (WR (w0:=w) (ls:=[(w.heap.size,27,I),(w1.heap.size,99,rc)]) au az hL (fun x hx=>by
  simp only [List.mem_cons,List.not_mem_nil,or_false] at hx
  rcases hx with rfl | rfl
  ·exact a8
  ·exact a9))
 clear J O U am C au a8 a9 aC aD aE aF aB ay az aA
 obtain⟨a,b,x,y,hT⟩:∃a b x y,Hid ((if dir=2 then Wi L topo pf pt fr t else Wi L topo fr t pf pt)=Wi L topo a b x y)∧Hid ((dir=2∧a=pf∧b=pt∧x=fr∧y=t)∨(dir≠2∧a=fr∧b=t∧x=pf∧y=pt)):=by
  by_cases h:dir=2
  ·exact⟨pf,pt,fr,t,if_pos h,.inl ⟨h,rfl,rfl,rfl,rfl⟩⟩
  ·exact⟨fr,t,pf,pt,if_neg h,.inr ⟨h,rfl,rfl,rfl,rfl⟩⟩
 rw [hT.1.out]
 rcases hT.2.out with⟨bj,rfl,rfl,rfl,rfl⟩ | ⟨bj,rfl,rfl,rfl,rfl⟩
 all_goals
  clear hT
  have bQ:(dir==2)=decide (dir=2):=rfl
  go_enter Tryz.func103,Tryz.ntmps103
  go_wp2_with fail
  refine Reg.cP [0,1,0,4,0,16,0,64,3,271,831,2047] ?_
  go_wp2_with fail
  refine Calls.ret aH.out ?_
  rintro v w3 ⟨gd,gm,rfl,hM,b6⟩
  have D0:=hide (show DrS w w3 gd gm ⟨L,[],[],[],[]⟩ 0 _ [] from⟨_,_,_,hM,fun p hp=>by cases hp⟩)
  clear hM aH bp b6 bx bz bA bB bw
  go_wp2_with fail
  refine Calls.ret (D0.out.state (0,0,0) (m:=1) (.inl ⟨rfl,rfl,rfl⟩) (by omega) rfl) ?_
  rintro v w4 ⟨E,rfl,z⟩
  have D1:=hide z
  clear z
  go_wp2_with fail
  refine Calls.ret (D1.out.state (8,0,0) (m:=1) (.inl ⟨rfl,rfl,rfl⟩) (by omega) rfl) ?_
  rintro v w5 ⟨e2,rfl,z⟩
  have D2:=hide z
  clear z
  go_wp2_with fail
  refine Calls.ret (D2.out.state (5,0,0) (m:=1) (.inl ⟨rfl,rfl,rfl⟩) (by omega) rfl) ?_
  rintro v w6 ⟨e3,rfl,z⟩
  have D3:=hide z
  clear z
  have z:=D3.out.push 3 #[.int .i64 (E:Int)]
  obtain⟨w7,bG,b7,ao,-⟩:=Ae w6 #[.int .i64 (E:Int)] 3
  rw [bG] at z
  have D4:=hide z
  have be:=ao.cell
  clear z b7 ao
  obtain⟨⟨b4,M,aG⟩,z⟩:=D4.out.begin (a:=(0,0,0)) (e:=E) (by simp only [Drw.add_st]) (by simp)
  obtain⟨w8,bH,-,-,-⟩:=Ae w7 #[.int .i64 (E:Int)] 3
  rw [bH] at M z
  have D5:=hide z
  have av:=M.cell
  have bl:=M.frozen 2
  have bo:=M.lt
  obtain⟨u8,aJ⟩:∃u,b4[2]?=some u:=⟨_,Array.getElem?_eq_getElem aG⟩
  have bf:=(av 2).trans aJ
  clear z M av aJ aG
  go_wp2_with fail
  refine Calls.ret (D5.out.free (L:=L) (s:=(5,0,0)) (es:=e3) (by simp only [Drw.add_L,Drw.kp_L,Drw.mov_L,Drw.acc_L,Drw.beg_L,Drw.free_L]) hL (by simp) (by omega)) ?_
  rintro v w9 ⟨rfl,z⟩
  have D6:=hide z
  clear z
  have bg:=(D6.out.blk (g:=w6.heap.size) (t:=3) (cs:=#[.int .i64 (E:Int)]) (by simp)).cell
  clear be bl bo bf
  go_wp2_with fail
  refine Calls.ret (D6.out.keep_ (L:=L) (F:=146) (caps:=[.pointer (some ⟨w6.heap.size,0,none⟩)]) (κ:=fun _=>some (0,0,0)) (f:=(0,0,0)) (ef:=E) (S0:=[((0,0,0),E)]) (by simp only [Drw.add_L,Drw.kp_L,Drw.mov_L,Drw.acc_L,Drw.beg_L,Drw.free_L]) hL (by simp) (by simp) (fun _ _=>WL (.inr (.inl rfl)) (by simp)) (.inl ⟨_,rfl,.inr (.inl rfl)⟩) (by omega)) ?_
  rintro v bZ ⟨rfl,z⟩
  have D7:=hide z
  clear z
  have b8:=(D7.out.blk (g:=w6.heap.size) (t:=3) (cs:=#[.int .i64 (E:Int)]) (by simp)).cell
  clear bg
  go_wp2_with fail
  refine Calls.ret (D7.out.move (a:=(0,0,0)) (b:=(8,0,0)) (ea:=E) (eb:=e2) (by simp) (by simp) (by omega)) ?_
  rintro v c0 ⟨rfl,z⟩
  have D8:=hide z
  clear z
  clear b8
  go_wp2_with fail
  refine Calls.ret (D8.out.move (a:=(8,0,0)) (b:=(5,0,0)) (ea:=e2) (eb:=e3) (by simp) (by simp) (by omega)) ?_
  rintro v c1 ⟨rfl,z⟩
  have D9:=hide z
  clear z
  have b9:=((D9.out.blk (g:=w.heap.size) (t:=27) (cs:=I) (by simp)).cell 1).trans bv.out
  by_cases Z:topo=3
  case neg=>
   have hP:Hid (Wi L topo a b x y=Wr L a b x y):=if_neg Z
   have bE:(topo==3)=false:=by simp [Z]
   go_wp2_with fail
   go_ret
   refine⟨gd,gm,500,rfl,by decide,?_⟩
   rw [hP.out]
   exact(D9.out.big (by omega)).sub (fun _ h=>by cases h) (fun _ h=>by cases h)
  have hP:Hid (Wi L topo a b x y=WO (Wr L a b x y) a b x y):=if_pos Z
  have bE:(topo==3)=true:=by simp [Z]
  clear Z
  go_wp2_with fail
  refine Calls.ret (D9.out.state (0,1,0) (m:=2) (.inr (.inl ⟨rfl,rfl⟩)) (by omega) rfl) ?_
  rintro v c3 ⟨e4,rfl,z⟩
  have E1:=hide z
  clear z
  clear b9
  go_wp2_with fail
  refine Calls.ret (E1.out.state (7,0,0) (m:=1) (.inl ⟨rfl,rfl,rfl⟩) (by omega) rfl) ?_
  rintro v c4 ⟨G,rfl,z⟩
  have E2:=hide z
  clear z
  go_wp2_with fail
  refine Calls.ret (E2.out.state (6,0,0) (m:=1) (.inl ⟨rfl,rfl,rfl⟩) (by omega) rfl) ?_
  rintro v a2 ⟨e6,rfl,z⟩
  have E3:=hide z
  clear z
  have z:=E3.out.push 3 #[.int .i64 (G:Int)]
  obtain⟨c5,bF,b5,an,-⟩:=Ae a2 #[.int .i64 (G:Int)] 3
  rw [bF] at z
  have E4:=hide z
  have ba:=an.cell
  clear z b5 an
  obtain⟨AS,mS,cS,⟨vA,vM,aq⟩,bU,xs,bt,ax⟩:=E4.out.appS (a:=(0,1,0)) (e:=e4) (by simp) (by omega)
  have bh:=aq.cell
  have br:=hide ax
  have bD:=E4.out.below.size
  clear ax aq
  go_wp2_with (at_builtin; refine BP C9 rfl _ _ rfl w.heap.size (.slice AS mS cS) mS _ rfl bt [.int .i64 (e4:Int)] 1 rfl rfl (by simp [Value.oneCell']) (by omega) bD ?_; intro g b2 bK W hk V hg; obtain⟨⟨bI,bJ,C⟩,z⟩:=br.out g b2 bK W hk V; have E5:=hide z; have bi:=(E5.out.blk (g:=a2.heap.size) (t:=3) (cs:=#[.int .i64 (G:Int)]) (by simp)).cell; have bk:=C.frozen 2; have bn:=C.lt; have bb:=C.cell; clear z C W hk V)
  refine Calls.ret (E5.out.move (a:=(0,1,0)) (b:=(7,0,0)) (ea:=e4) (eb:=G) (by simp) (by simp) (by omega)) ?_
  rintro v c6 ⟨rfl,z⟩
  have E6:=hide z
  clear z
  have bc:=(E6.out.blk (g:=a2.heap.size) (t:=3) (cs:=#[.int .i64 (G:Int)]) (by simp)).cell
  clear bi bk bn bb bh ba
  go_wp2_with fail
  refine Calls.ret (E6.out.keep_ (L:=L) (F:=148) (caps:=[.pointer (some ⟨a2.heap.size,0,none⟩)]) (κ:=fun _=>some (7,0,0)) (f:=(7,0,0)) (ef:=G) (S0:=[((7,0,0),G)]) (by simp only [Drw.add_L,Drw.kp_L,Drw.mov_L,Drw.acc_L,Drw.beg_L,Drw.free_L]) hL (by simp) (by simp) (fun _ _=>WL (.inr (.inr rfl)) (by simp)) (.inl ⟨_,rfl,.inr (.inr rfl)⟩) (by omega)) ?_
  rintro v c7 ⟨rfl,z⟩
  have E7:=hide z
  clear z
  have bd:=(E7.out.blk (g:=a2.heap.size) (t:=3) (cs:=#[.int .i64 (G:Int)]) (by simp)).cell
  clear bc
  go_wp2_with fail
  refine Calls.ret (E7.out.move (a:=(7,0,0)) (b:=(6,0,0)) (ea:=G) (eb:=e6) (by simp) (by simp) (by omega)) ?_
  rintro v c8 ⟨rfl,z⟩
  have E8:=hide z
  clear z
  obtain⟨AA,mA,cA,⟨bY,bX,ap⟩,bT,ys,bs,aw⟩:=E8.out.app (a:=(6,0,0)) (e:=e6) (by simp) (by omega)
  have bP:=ap.cell
  have bq:=hide aw
  have bC:=E8.out.below.size
  clear aw ap bd
  go_wp2_with (at_builtin; refine BP C9 rfl _ _ rfl w.heap.size (.slice AA mA cA) mA _ rfl bs [.int .i64 (e6:Int)] 1 rfl rfl (by simp [Value.oneCell']) (by omega) bC ?_; intro g2 b3 bL W hk V hg; obtain⟨⟨bI,bJ,C⟩,-,z⟩:=bq.out g2 b3 bL W hk V; have E9:=hide z; have bR:=C.frozen 3; have bS:=C.lt; have bO:=C.cell; clear z C W hk V)
  go_ret
  refine⟨gd,gm,500,rfl,by decide,?_⟩
  rw [hP.out]
  exact(E9.out.big (by omega)).sub (fun _ h=>by cases h) (fun _ h=>by cases h)
end Go.Proofs.YtfcfpoemojjglaaGreatDoor
