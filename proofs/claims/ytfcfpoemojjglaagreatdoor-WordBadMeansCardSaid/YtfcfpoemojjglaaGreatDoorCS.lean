/-
  Part CS of a proof.
-/
import Derived.Test.YtfcfpoemojjglaaGreatDoorPA
import Derived.Test.YtfcfpoemojjglaaGreatDoorCQ
import Derived.Test.YtfcfpoemojjglaaGreatDoorCR
import Derived.Test.YtfcfpoemojjglaaGreatDoorCJ
set_option maxHeartbeats 16000000
set_option maxRecDepth 100000
set_option linter.unusedVariables false
set_option linter.unusedSimpArgs false
namespace Go.Proofs.YtfcfpoemojjglaaGreatDoor.K
open Go.RowKit
theorem refProtValidate_any {w:World} {cs:List Value} {p:Am} (h:At w w.heap.size cs p) (z:p.Small) (y:SpOK w):
  Calls Tryz.prog 95 #[.agg cs.toArray] w (Ret fun v w'=>v=.int .i64 (protE nameOK p)∧Below w.heap.size w w'):=by
 by_cases ht:p.topo=1
 ·exact RT h z y ht
 ·exact RU h z y ht
end Go.Proofs.YtfcfpoemojjglaaGreatDoor.K
namespace Go.Proofs.YtfcfpoemojjglaaGreatDoor.K
open Go.RowKit
attribute [-go_sem] loadCellsFrom storeCells
theorem Gc {w w1 w2:World} {E qc:Array Value} {p:Am} {q:AB} {A1 G I B2 B3 J:Option Addr} {c1 M O d2 d3 U ns W Z nb na V:Nat} {kq:Int} (H:PQH w w1 w2 E qc p q A1 c1 G M I O B2 d2 B3 d3 J U ns W Z nb na V kq):
    (∀h,Hid (PQX h w.heap.size w1.heap.size E qc p q)→Calls Tryz.prog 95 #[.agg E] h (Ret fun v w'=>v=.int .i64 (protE nameOK p)∧Below h.heap.size h w'))∧
    (∀h,Below w.heap.size w h→Calls Tryz.prog 97 #[.slice I Z O,.int .i64 (ns:Int)] h (Ret fun r w'=>r=.int .i64 (setE q.start (ns:Int))∧Below h.heap.size h w'))∧
    (∀h,Below w.heap.size w h→Calls Tryz.prog 97 #[.slice J V U,.int .i64 (ns:Int)] h (Ret fun r w'=>r=.int .i64 (setE q.goal (ns:Int))∧Below h.heap.size h w'))∧
    (∀h x,Below w.heap.size w h→Calls Tryz.prog 93 #[.slice G W M,.int .i64 x] h fun r w'=>r=.returned (.bool (decide (x∈p.initial)))∧h=w'):=by
  obtain⟨-,-,-,-,-,C,ab,⟨aa,a8,ag,ah,a9⟩,-,⟨-,-,-,-,-,ai,-⟩,-,-⟩:=H
  exact⟨fun h y=>refProtValidate_any y.out.pr ab.out y.out.tab,
   fun h y=>by
    rw [C.out.2.2.1]
    exact B0 (by omega) (a8.out.keep (fun _ z=>y.cell z) y.size),
   fun h y=>by
    rw [C.out.2.2.2.2.2.1]
    exact B0 (by omega) (a9.out.keep (fun _ z=>y.cell z) y.size),
   fun h x y=>by
    rw [C.out.2.1]
    exact has_any (aa.out.keep (fun _ z=>y.cell z) y.size)⟩
theorem SA {w:World} {cs ds:List Value} {p:Am} {q:AB} (h:At w w.heap.size cs p) (G:Ba w w.heap.size ds q) (O:p.Small) (U:q.Small) (I:SpOK w) {E:Int} (C:Hid (protE nameOK p=E)) (W:(E != 0)=true):
  Calls Tryz.prog 48 #[.agg cs.toArray,.agg ds.toArray] w (Ret fun v w'=>v=.int .i64 (propE nameOK p q)∧Below w.heap.size w w'):=by
 obtain⟨w1,w2,A1,c1,A5,c5,B1,d1,B2,d2,B3,d3,B4,d4,ns,ni,nt,nb,na,ng,kq,H⟩:=Dj h G O U I
 generalize cs.toArray=pc at*
 generalize ds.toArray=qc at*
 clear h G O U I
 obtain⟨a2,aN,aq,ap⟩:=Gc H
 obtain⟨aO,aP,M,aL,y,aj,aM,⟨ak,af,ag,ah,ai⟩,Z,⟨aA,au,av,aw,ax,ay,az⟩,⟨aB,aC,aD⟩,aE,aF,aG,aH,aJ,aK⟩:=H
 have al:=y.out.b2.cell
 have an:=y.out.b3.cell
 have ar:=Ah y.out.b2 Z.out
 go_enter Tryz.func48,Tryz.ntmps48
 go_wp2_with fail
 refine Calls.ret (a2 _ y) ?_; rintro v w3 ⟨rfl,z⟩; rw [C.out]; have J:=hide (y.out.at z); have am:=J.out.b2.cell; have ao:=J.out.b3.cell; have V:=hide (M.out.trans (z.mono M.out.size)); clear z; go_wp2_with fail
 go_ret
 exact⟨congrArg (Value.int .i64) ((Ky (by rw [C.out]; simpa using W)).trans C.out).symm,V.out⟩
theorem SB {w:World} {cs ds:List Value} {p:Am} {q:AB} (h:At w w.heap.size cs p) (G:Ba w w.heap.size ds q) (W:p.Small) (Z:q.Small) (I:SpOK w) (U:Hid (protE nameOK p=0)) (V:Hid (nameOK q.name=false)):
  Calls Tryz.prog 48 #[.agg cs.toArray,.agg ds.toArray] w (Ret fun v w'=>v=.int .i64 (propE nameOK p q)∧Below w.heap.size w w'):=by
 obtain⟨w1,w2,A1,c1,A5,c5,B1,d1,B2,d2,B3,d3,B4,d4,ns,ni,nt,nb,na,ng,kq,H⟩:=Dj h G W Z I
 generalize cs.toArray=pc at*
 generalize ds.toArray=qc at*
 clear h G W Z I
 obtain⟨a4,aR,aw,av⟩:=Gc H
 obtain⟨aS,aT,M,aP,y,al,aQ,⟨am,ah,ai,aj,ak⟩,a3,⟨aE,ay,az,aA,aB,aC,aD⟩,⟨aF,aG,aH⟩,aJ,aK,aL,aM,aN,aO⟩:=H
 have an:=y.out.b2.cell
 have aq:=y.out.b3.cell
 have ax:=Ah y.out.b2 a3.out
 go_enter Tryz.func48,Tryz.ntmps48
 go_wp2_with fail
 refine Calls.ret (a4 _ y) ?_; rintro v w3 ⟨rfl,C⟩; rw [U.out]; have z:=hide (y.out.at C); have ao:=z.out.b2.cell; have ar:=z.out.b3.cell; have O:=hide (M.out.trans (C.mono M.out.size)); clear C; go_wp2_with fail
 refine Calls.ret (Cm q.name _ (by omega)) ?_; rintro v w4 ⟨rfl,E⟩; rw [V.out]; have J:=hide (z.out.at E); have ap:=J.out.b2.cell; have au:=J.out.b3.cell; have a2:=hide (O.out.trans (E.mono O.out.size)); clear E; go_wp2_with fail
 go_ret
 exact⟨congrArg (Value.int .i64) (Kx U.out V.out).symm,a2.out⟩
theorem SC {w:World} {cs ds:List Value} {p:Am} {q:AB} (h:At w w.heap.size cs p) (J:Ba w w.heap.size ds q) (a2:p.Small) (a3:q.Small) (M:SpOK w) (W:Hid (protE nameOK p=0)) (Z:Hid (nameOK q.name=true)) (z:q.kind≠1) (C:q.kind≠2):
  Calls Tryz.prog 48 #[.agg cs.toArray,.agg ds.toArray] w (Ret fun v w'=>v=.int .i64 (propE nameOK p q)∧Below w.heap.size w w'):=by
 obtain⟨w1,w2,A1,c1,A5,c5,B1,d1,B2,d2,B3,d3,B4,d4,ns,ni,nt,nb,na,ng,kq,H⟩:=Dj h J a2 a3 M
 generalize cs.toArray=pc at*
 generalize ds.toArray=qc at*
 clear h J a2 a3 M
 obtain⟨a9,aV,aA,az⟩:=Gc H
 obtain⟨aW,aX,U,aT,y,a5,aU,⟨aq,am,an,ao,ap⟩,a8,⟨aJ,aC,aD,aE,aF,aG,aH⟩,⟨aK,aL,aM⟩,aN,aO,aP,aQ,aR,aS⟩:=H
 have ar:=y.out.b2.cell
 have aw:=y.out.b3.cell
 have aB:=Ah y.out.b2 a8.out
 have a7:=hide (Kw W.out Z.out z C)
 rw [←a5.out.2.2.2.2.2.2] at z C
 have aY:(kq != 1)=true:=by simp [z]
 have aZ:(kq != 2)=true:=by simp [C]
 clear z C
 go_enter Tryz.func48,Tryz.ntmps48
 go_wp2_with fail
 refine Calls.ret (a9 _ y) ?_; rintro v w3 ⟨rfl,G⟩; rw [W.out]; have E:=hide (y.out.at G); have au:=E.out.b2.cell; have ax:=E.out.b3.cell; have V:=hide (U.out.trans (G.mono U.out.size)); clear G; go_wp2_with fail
 refine Calls.ret (Cm q.name _ (by omega)) ?_; rintro v w4 ⟨rfl,I⟩; rw [Z.out]; have O:=hide (E.out.at I); have av:=O.out.b2.cell; have ay:=O.out.b3.cell; have a6:=hide (V.out.trans (I.mono V.out.size)); clear I; go_wp2_with fail
 go_ret
 exact⟨congrArg (Value.int .i64) (a7.out).symm,a6.out⟩
end Go.Proofs.YtfcfpoemojjglaaGreatDoor.K
namespace Go.Proofs.YtfcfpoemojjglaaGreatDoor.K
open Go.RowKit
attribute [-go_sem] loadCellsFrom storeCells
theorem Sz {w:World} {cs ds:List Value} {p:Am} {q:AB} (h:At w w.heap.size cs p) (h':Ba w w.heap.size ds q) (aH:p.Small) (aJ:q.Small) (hT:SpOK w) (af:Hid (protE nameOK p=0)) (a5:Hid (nameOK q.name=true)) (U:Hid (q.kind=2)):
  Calls Tryz.prog 48 #[.agg cs.toArray,.agg ds.toArray] w (Ret fun v w'=>v=.int .i64 (propE nameOK p q)∧Below w.heap.size w w'):=by
 obtain⟨w1,w2,A1,c1,A5,c5,B1,d1,B2,d2,B3,d3,B4,d4,ns,ni,nt,nb,na,ng,kq,H⟩:=Dj h h' aH aJ hT
 generalize cs.toArray=pc at*
 generalize ds.toArray=qc at*
 clear h h' aH aJ hT
 obtain⟨b9,aK,aq,b0⟩:=Gc H
 obtain⟨bY,bZ,aB,bW,a7,y,bX,⟨bv,aU,bs,bt,bu⟩,b6,⟨bM,bG,bH,bI,bJ,bK,bL⟩,⟨bN,bO,bP⟩,bQ,bR,bS,bT,bU,bV⟩:=H
 have bx:=a7.out.b2.cell
 have bB:=a7.out.b3.cell
 have bE:=Ah a7.out.b2 b6.out
 have ba:(kq != 1)=true:=by rw [y.out.2.2.2.2.2.2,U.out]; rfl
 have bb:(kq != 2)=false:=by rw [y.out.2.2.2.2.2.2,U.out]; rfl
 have bd:(kq==1)=false:=by rw [y.out.2.2.2.2.2.2,U.out]; rfl
 have c0:(kq==2)=true:=by rw [y.out.2.2.2.2.2.2,U.out]; rfl
 go_enter Tryz.func48,Tryz.ntmps48
 go_wp2_with fail
 refine Calls.ret (b9 _ a7) ?_; rintro v w3 ⟨rfl,ap⟩; rw [af.out]; have a8:=hide (a7.out.at ap); have bz:=a8.out.b2.cell; have bC:=a8.out.b3.cell; have a2:=hide (aB.out.trans (ap.mono aB.out.size)); clear ap; go_wp2_with fail
 by_cases b4:(0:Int)<(nb:Int)
 case pos=>
  refine Calls.ret (Cm q.name _ (by omega)) ?_; rintro v w4 ⟨rfl,C⟩; rw [a5.out]; have G:=hide (a8.out.at C); have aD:=G.out.b2.cell; have aF:=G.out.b3.cell; have I:=hide (a2.out.trans (C.mono a2.out.size)); clear C; go_wp2_with fail
  go_ret
  exact⟨congrArg (Value.int .i64) (GJ af.out a5.out U.out (.inl (by have:=y.out.2.2.2.1; omega))).symm,I.out⟩
 by_cases b1:(0:Int)<(na:Int)
 case pos=>
  refine Calls.ret (Cm q.name _ (by omega)) ?_; rintro v w4 ⟨rfl,C⟩; rw [a5.out]; have G:=hide (a8.out.at C); have aD:=G.out.b2.cell; have aF:=G.out.b3.cell; have I:=hide (a2.out.trans (C.mono a2.out.size)); clear C; go_wp2_with fail
  go_ret
  exact⟨congrArg (Value.int .i64) (GJ af.out a5.out U.out (.inr (by have:=y.out.2.2.2.2.1; omega))).symm,I.out⟩
 have hV:=hide (H7 af.out a5.out U.out (by have:=y.out.2.2.2.1; omega) (by have:=y.out.2.2.2.2.1; omega))
 refine Calls.ret (Cm q.name _ (by omega)) ?_; rintro v w4 ⟨rfl,C⟩; rw [a5.out]; have G:=hide (a8.out.at C); have aD:=G.out.b2.cell; have aF:=G.out.b3.cell; have I:=hide (a2.out.trans (C.mono a2.out.size)); clear C; go_wp2_with fail
 clear b4 b1 ba bb bd
 obtain⟨e6,ag⟩:∃e,Hid (setE q.start (ns:Int)=e):=⟨_,rfl⟩
 by_cases V:e6=0
 case neg=>
  have Q6:(e6 != 0)=true:=by simp [V]
  have H6:=hide V
  clear V
  refine Calls.ret (aK _ I.out) ?_; rintro v w5 ⟨rfl,M⟩; rw [ag.out]; have Z:=hide (G.out.at M); have aY:=Z.out.b2.cell; have aZ:=Z.out.b3.cell; have ad:=hide (I.out.trans (M.mono I.out.size)); clear M; go_wp2_with fail
  go_ret
  exact⟨congrArg (Value.int .i64) (hV.out.trans (by rw [←y.out.1,ag.out]; exact BF H6.out)).symm,ad.out⟩
 have Q6:(e6 != 0)=false:=by simp [V]
 have H6:=hide V
 clear V
 have hR:=hide (show propE nameOK p q=orE (Ad (!CF p q) 5) (Ez p q) from hV.out.trans (by rw [←y.out.1,ag.out,H6.out]; rfl))
 refine Calls.ret (aK _ I.out) ?_; rintro v w5 ⟨rfl,M⟩; rw [ag.out]; have Z:=hide (G.out.at M); have aY:=Z.out.b2.cell; have aZ:=Z.out.b3.cell; have ad:=hide (I.out.trans (M.mono I.out.size)); clear M; go_wp2_with fail
 clear Q6
 go_loopw [8] (fun ii wr=>∃(k:Nat),ii=.int .i64 (k:Int)∧k≤nt∧Hid (Below w5.heap.size w5 wr)∧Hid ((q.start.take k).all (fun x=>decide (x∈p.initial))=true)) (fun ii _=>nt - (intOf ii).toNat)
 case atStart=>exact⟨0,rfl,Nat.zero_le _,Below.refl _ _,by show _=_; simp⟩
 case round=>
  obtain⟨k,rfl,hk,ae,hE⟩:=hrel
  have a9:=hide (Z.out.at ae.out)
  have bA:=a9.out.b2.cell
  have bD:=a9.out.b3.cell
  have z:=hide (ad.out.trans (ae.out.mono ad.out.size))
  by_cases bF:k<nt
  ·obtain⟨b,c4,x,hA,bw,hx,O⟩:=(aU.out.keep (w':=wr) (B':=w.heap.size) (fun _ hp=>z.out.cell hp) (Nat.le_refl _)).at (k:=k) (by have:=y.out.2.2.1; omega)
   have d0:=O 0 (by omega)
   simp only [Nat.add_zero,Nat.mul_one,Ai] at d0
   have aM:=hide hx
   have aX:=hide (ae.out.trans ((Ap wr).mono ae.out.size))
   have aC:=hide (z.out.trans ((Ap wr).mono z.out.size))
   subst hA
   clear O hx
   have O:=hide (b0 _ x aC.out)
   cases hv:decide (x∈p.initial)
   ·have b8:=hide (show CF p q=false from by
     unfold CF
     rw [List.all_eq_false]
     exact⟨x,List.mem_of_getElem? aM.out,by rw [hv]; decide⟩)
    rw [hv] at O
    clear hv
    go_wp2_with fail
    refine Reg.cP [0,1,0,4,0,28,60,127,255] ?_
    go_wp2_with (go_at_call 93; refine O.out.mono ?_; rintro r w' ⟨rfl,rfl⟩)
    go_ret
    exact⟨congrArg (Value.int .i64) (hR.out.trans (by rw [b8.out]; rfl)).symm,aC.out⟩
   ·have b7:=hide (Cq (p:=fun x=>decide (x∈p.initial)) aM.out hE.out hv)
    rw [hv] at O
    clear hv
    go_wp2_with fail
    refine Reg.cP [0,1,0,4,0,28,60,127,255] ?_
    go_wp2_with (go_at_call 93; refine O.out.mono ?_; rintro r w' ⟨rfl,rfl⟩)
    exact⟨⟨k+1,by go_num,by omega,aX.out,b7.out⟩,by simp [intOf]; omega⟩
  ·have aW:=hide (show CF p q=true from by
    have h1:=y.out.2.2.1
    have h2:=hE.out
    rwa [List.take_of_length_le (by omega)] at h2)
   have aV:=hide (show propE nameOK p q=Ez p q from by rw [hR.out,aW.out]; rfl)
   clear hE
   go_wp2_with fail
   have ao:=hide (show propE nameOK p q=orE (setE q.goal (ns:Int)) (Ad (decide (ng=0)) 1) from aV.out.trans (by
    unfold Ez
    rw [Bv q.goal,←y.out.2.2.2.2.2.1,←y.out.1]))
   obtain⟨eg,a3⟩:∃e,Hid (setE q.goal (ns:Int)=e):=⟨_,rfl⟩
   by_cases W:eg=0
   case neg=>
    have Qg:(eg != 0)=true:=by simp [W]
    have Hg:=hide W
    clear W
    refine Calls.ret (aq _ z.out) ?_; rintro v w7 ⟨rfl,E⟩; rw [a3.out]; have J:=hide (a9.out.at E); have aE:=J.out.b2.cell; have aG:=J.out.b3.cell; have aa:=hide (z.out.trans (E.mono z.out.size)); clear E; go_wp2_with fail
    go_ret
    exact⟨congrArg (Value.int .i64) (ao.out.trans (by rw [a3.out]; exact BF Hg.out)).symm,aa.out⟩
   have Qg:(eg != 0)=false:=by simp [W]
   have Hg:=hide W
   clear W
   by_cases a4:ng=0
   ·have Qn:((ng:Int)==0)=true:=by simp [a4]
    have Hn:=hide a4
    clear a4
    refine Calls.ret (aq _ z.out) ?_; rintro v w7 ⟨rfl,E⟩; rw [a3.out]; have J:=hide (a9.out.at E); have aE:=J.out.b2.cell; have aG:=J.out.b3.cell; have aa:=hide (z.out.trans (E.mono z.out.size)); clear E; go_wp2_with fail
    go_ret
    exact⟨congrArg (Value.int .i64) (ao.out.trans (by rw [a3.out,Hg.out,decide_eq_true Hn.out]; rfl)).symm,aa.out⟩
   ·have Qn:((ng:Int)==0)=false:=by simp [a4]
    have Hn:=hide a4
    clear a4
    refine Calls.ret (aq _ z.out) ?_; rintro v w7 ⟨rfl,E⟩; rw [a3.out]; have J:=hide (a9.out.at E); have aE:=J.out.b2.cell; have aG:=J.out.b3.cell; have aa:=hide (z.out.trans (E.mono z.out.size)); clear E; go_wp2_with fail
    go_ret
    exact⟨congrArg (Value.int .i64) (ao.out.trans (by rw [a3.out,Hg.out,decide_eq_false Hn.out]; rfl)).symm,aa.out⟩
end Go.Proofs.YtfcfpoemojjglaaGreatDoor.K
