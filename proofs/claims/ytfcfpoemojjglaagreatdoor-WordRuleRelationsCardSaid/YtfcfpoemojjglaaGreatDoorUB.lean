/-
  Part UB of a proof.
-/
import Derived.Test.YtfcfpoemojjglaaGreatDoorPA
import Derived.Test.YtfcfpoemojjglaaGreatDoorUA
import Derived.Test.YtfcfpoemojjglaaGreatDoorTL
import Derived.Test.YtfcfpoemojjglaaGreatDoorPC
import Derived.Test.YtfcfpoemojjglaaGreatDoorPE
set_option maxHeartbeats 16000000
set_option maxRecDepth 100000
set_option linter.unusedVariables false
set_option linter.unusedSimpArgs false
namespace Go.Proofs.YtfcfpoemojjglaaGreatDoor
open Go.RowKit
open K (Ah Dv EQ Kc)
attribute [-go_sem] loadCellsFrom storeCells
set_option maxHeartbeats 16000000
set_option maxRecDepth 100000
section
variable {w w':World} {v u:Value} {b1 o1 c1 b2 o2 c2 b3 o3 c3 b o c:Nat} {z:Int}
theorem Ys (h:Wu w v b1 o1 c1 b2 o2 c2 b3 o3 c3):Calls Tryz.prog 34 #[v,.int .i64 1] w (Ret fun r w'=>Below w.heap.size w w'∧∃S s E e,r=.agg #[.int .i64 1,.int .i64 1,.slice S 1 s,.slice none 0 0,.slice E 1 e]):=by
 obtain⟨rfl,l1,l2,r1,r2,l3,r3⟩:=h
 obtain⟨J,aF,a8,I,-⟩:=Ae w #[.slice (some ⟨b1,o1,none⟩) 1 c1,.slice (some ⟨b2,o2,none⟩) 1 c2] 78
 obtain⟨y,aG,F,a6,-⟩:=Ae J #[.int .i64 0,.int .i64 0,.slice none 0 0,.slice none 0 0,.slice none 0 0] 35
 obtain⟨x,aH,G,al,-⟩:=Ae y #[.int .i64 0] 3
 obtain⟨C,aj,O,a7,-⟩:=Ae x #[.int .i64 1,.int .i64 1,.slice (some ⟨y.heap.size,0,none⟩) 1 1,.slice none 0 0,.slice none 0 0] 35
 have aD:∀c:Array Value,c.size=5→(storeCells ⟨x.heap.size,0,none⟩ [.int .i64 1,.int .i64 1,.slice (some ⟨y.heap.size,0,none⟩) 1 1,.slice none 0 0,.slice none 0 0] 0).run Tryz.prog (x.alloc (.cells c 35))=.ok () C:=fun c hc=>by
  rw [←aj]
  exact Dv x 35 5 (by kernel_rfl) (rc:=#[.int .i64 1,.int .i64 1,.slice (some ⟨y.heap.size,0,none⟩) 1 1,.slice none 0 0,.slice none 0 0]) rfl (by simp [Value.oneCell']) c hc
 have s1:=a8.size
 have s2:=F.size
 have s3:=G.size
 have a5:=a8.trans ((F.mono s1).trans (G.mono (by omega)))
 have M:=a5.trans (O.mono a5.size)
 have x1:x.cell? ⟨w.heap.size,0,none⟩=some (.slice (some ⟨b1,o1,none⟩) 1 c1):=((I.below F).below G).cell 0
 have aK:y.cell? ⟨w.heap.size,0,none⟩=some (.slice (some ⟨b1,o1,none⟩) 1 c1):=(I.below F).cell 0
 have x2:C.cell? ⟨w.heap.size,0,none⟩=some (.slice (some ⟨b1,o1,none⟩) 1 c1):=(((I.below F).below G).below O).cell 0
 have x3:C.cell? ⟨w.heap.size,1,none⟩=some (.slice (some ⟨b2,o2,none⟩) 1 c2):=(((I.below F).below G).below O).cell 1
 have x4:C.cell? ⟨b1,o1,none⟩=some (.slice (some ⟨b3,o3,none⟩) 1 c3):=(M.cell (p:=⟨b1,o1,none⟩) l1).trans r1
 have x5:C.cell? ⟨b2,o2,none⟩=some (.bool false):=(M.cell (p:=⟨b2,o2,none⟩) l2).trans r2
 have x6:C.cell? ⟨b3,o3,none⟩=some (.int .i64 0):=(M.cell (p:=⟨b3,o3,none⟩) l3).trans r3
 have x7:C.cell? ⟨x.heap.size,4,none⟩=some (.slice none 0 0):=a7.cell 4
 have am:=hide a7
 have ak:=hide ((a6.below G).below O)
 have ae:=hide M
 have e1:=I.lt
 have aA:J.heap.size<x.heap.size:=by have:=a6.lt; omega
 have ay:w.heap.size≤J.heap.size:=s1
 clear a8 F G O I a6 al a7 a5 M r1 r2 r3 s1 s2 s3 aj
 go_enter Tryz.func34,Tryz.ntmps34
 go_wp2_with fail
 refine wp_loop_rounds 2 ?_
 rw [rounds_succ]
 go_wp2_with fail
 refine wp_loop_rounds 2 ?_
 rw [rounds_succ]
 go_wp2_with (
  at_builtin
  refine BP Ga rfl _ _ rfl C.heap.size (.slice none 0 0) 0 _ rfl (World.ownsRow_nil _ _ _ _) [.int .i64 0,.int .i64 0,.int .i64 0] 1 rfl rfl (by simp [Value.oneCell']) (by omega) (Nat.le_refl _) ?_
  intro gn cn w5 ar ag aq aB
  have Z:=ag.below' (fun b hb e=>by cases e)
  have V:=am.out.below Z
  have ab:=hide (ak.out.below Z)
  have W:=hide (ae.out.trans (Z.mono ae.out.size))
  obtain⟨U,a4⟩:∃U,U=w5.setCell ⟨x.heap.size,4,none⟩ (.slice (some ⟨gn,0,none⟩) 1 cn):=⟨_,rfl⟩
  have au:=W3 (V.cell 4) (V.frozen 4) (v:=.slice (some ⟨gn,0,none⟩) 1 cn) rfl
  rw [←a4] at au
  have a2:Ac w5 U (fun k=>k=x.heap.size):=(by rw [a4]; exact(Ac.refl w5 (fun k=>k=x.heap.size)).setCell (p:=⟨x.heap.size,4,none⟩) (fun _=>rfl) _)
  have ad:Blk U x.heap.size 35 #[.int .i64 1,.int .i64 1,.slice (some ⟨y.heap.size,0,none⟩) 1 1,.slice none 0 0,.slice (some ⟨gn,0,none⟩) 1 cn]:=(by rw [a4]; exact V.set_ 4 _)
  have aC:=Ah ad (n:=5) rfl
  obtain⟨w7,ai,ac,ah⟩:=Wn (ab.out.kept a2 (by show J.heap.size≠x.heap.size; omega)) #[.int .i64 1,.int .i64 1,.slice (some ⟨y.heap.size,0,none⟩) 1 1,.slice none 0 0,.slice (some ⟨gn,0,none⟩) 1 cn] rfl (by simp [Value.oneCell'])
  have aE:(storeCells ⟨J.heap.size,0,none⟩ [.int .i64 1,.int .i64 1,.slice (some ⟨y.heap.size,0,none⟩) 1 1,.slice none 0 0,.slice (some ⟨gn,0,none⟩) 1 cn] 0).run Tryz.prog U=.ok () w7:=ai
  have a3:=Ah ac (n:=5) rfl
  have hF:=hide (W.out.trans ((a2.below (B:=w.heap.size) (by have:=W.out.size; omega) fun b hb (e:b=x.heap.size)=>by omega).trans (ah.below (B:=w.heap.size) (Nat.le_trans W.out.size a2.size) fun b hb (e:b=J.heap.size)=>by omega)))
  have ap:=hide a3
  clear ar ag aq Z V ab W a4 a2 ad ai ac ah a3)
 rw [rounds_succ]
 go_wp2_with fail
 rw [rounds_succ]
 go_wp2_with fail
 have a3:=ap.out
 exact bodyPost_ret (v:=.agg #[.int .i64 1,.int .i64 1,.slice (some ⟨y.heap.size,0,none⟩) 1 1,.slice none 0 0,.slice (some ⟨gn,0,none⟩) 1 cn]) (by simp [results,Tryz.results34,go_sem,a3]) rfl ⟨hF.out,_,_,_,_,rfl⟩
end
end Go.Proofs.YtfcfpoemojjglaaGreatDoor
namespace Go.Proofs.YtfcfpoemojjglaaGreatDoor
open Go.RowKit
open K (Ah Dv EQ Kc)
attribute [-go_sem] loadCellsFrom storeCells
set_option maxHeartbeats 16000000
set_option maxRecDepth 100000
section
variable {w w':World}
theorem ZW:Calls Tryz.prog 41 #[.agg #[.int .i64 1,.int .i64 0,.slice none 0 0,.slice none 0 0,.slice none 0 0]] w (Ret fun r w'=>Below w.heap.size w w'∧∃A1 k1 A3 k3,r=.agg #[.int .i64 1,.slice A1 0 k1,.slice none 0 0,.slice A3 0 k3]):=by
 obtain⟨J,ad,C,F,-⟩:=Ae w #[.int .i64 1,.int .i64 0,.slice none 0 0,.slice none 0 0,.slice none 0 0] 35
 obtain⟨Z,ae,I,G,-⟩:=Ae J #[.int .i64 0,.slice none 0 0,.slice none 0 0,.slice none 0 0] 88
 have U:=hide (C.trans (I.mono C.size))
 have M:=hide (show Blk Z w.heap.size 35 #[.int .i64 1,.int .i64 ((0:Nat):Int),.slice none 0 0,.slice none 0 0,.slice none 0 0] from F.below I)
 have a2:=hide G
 have e1:=F.lt
 have e0:=C.size
 have e2:=G.lt
 clear C I F G
 go_enter Tryz.func41,Tryz.ntmps41
 go_wp2_with fail
 refine Rg (n:=0) (acc:=[]) (B:=Z.heap.size) (by omega) M.out (Sl.nil rfl) rfl (Nat.le_refl _) (by simp) (by repeat (first | refine Reg.NoQ.then ?_ | refine Reg.NoQ.inBlock ?_ | exact Reg.NoQ.body (fun _ _ h=>h) (fun _ h=>h))) ?_
 iterate 13 (intro _)
 intro y g3 gn gm E
 have b3:=E.blk _ (List.mem_cons_self)
 have x:=E.below
 dsimp only at b3
 have c3:y.cell? ⟨g3,1,none⟩=some (.slice (some ⟨gn,0,none⟩) 0 0):=b3.1.cell 1
 have a7:y.cell? ⟨w.heap.size,4,none⟩=some (.slice none 0 0):=(M.out.below x).cell 4
 have ab:(loadCellsFrom ⟨g3,0,none⟩ 0 4 #[]).run Tryz.prog y=.ok #[.int .i64 1,.slice (some ⟨gn,0,none⟩) 0 0,.slice none 0 0,.slice (some ⟨gm,0,none⟩) 0 0] y:=Ah b3.1 rfl
 obtain⟨w4,W,O,V⟩:=Wn (a2.out.below x) #[.int .i64 1,.slice (some ⟨gn,0,none⟩) 0 0,.slice none 0 0,.slice (some ⟨gm,0,none⟩) 0 0] rfl (by simp [Value.oneCell'])
 have ac:(storeCells ⟨J.heap.size,0,none⟩ [.int .i64 1,.slice (some ⟨gn,0,none⟩) 0 0,.slice none 0 0,.slice (some ⟨gm,0,none⟩) 0 0] 0).run Tryz.prog y=.ok () w4:=W
 have a5:=hide (Ah O (n:=4) rfl)
 have a3:=hide ((U.out.trans (x.mono U.out.size)).trans (V.below (B:=w.heap.size) (by have:=x.size; omega) fun b hb (e:b=J.heap.size)=>by omega))
 clear b3 E x W O V
 go_wp2_with fail
 refine wp_loop_rounds 1 ?_
 rw [rounds_succ]
 go_wp2_with fail
 refine wp_loop_rounds 1 ?_
 rw [rounds_succ]
 go_wp2_with fail
 have hl:=a5.out
 exact bodyPost_ret (v:=.agg #[.int .i64 1,.slice (some ⟨gn,0,none⟩) 0 0,.slice none 0 0,.slice (some ⟨gm,0,none⟩) 0 0]) (by simp [results,Tryz.results41,go_sem,hl]) rfl ⟨a3.out,_,_,_,_,rfl⟩
theorem Yt (hT:BV w):Calls Tryz.prog 69 #[.agg #[.int .i64 1,.int .i64 0,.slice none 0 0,.slice none 0 0,.slice none 0 0]] w (Ret fun r w'=>Below w.heap.size w w'∧∃u,r=.tuple #[u,.int .i64 0]∧WC w w' u):=by
 obtain⟨w1,aP,I,a4,-⟩:=Ae w #[.int .i64 1,.int .i64 0,.slice none 0 0,.slice none 0 0,.slice none 0 0] 35
 obtain⟨w2,aQ,a9,a5,-⟩:=Ae w1 #[.slice none 0 0,.slice none 0 0] 78
 have ai:=hide (I.trans (a9.mono I.size))
 have aN:=Ah (a4.below a9) (n:=5) rfl
 have au:=hide a5
 have ah:=hide hT
 have e1:=a4.lt
 have e0:=I.size
 have e2:=a5.lt
 clear I a9 a4 a5 hT
 go_enter Tryz.func69,Tryz.ntmps69
 go_wp2_with fail
 refine Calls.ret (ZW (w:=w2)) ?_
 rintro r w3 ⟨J,A1,k1,A3,k3,rfl⟩
 have a7:=hide (ai.out.trans (J.mono ai.out.size))
 have hs:=hide (aAL (w:=w3) (A1:=A1) (A2:=none) (A3:=A3) (k1:=k1) (k2:=0) (k3:=k3) (ah.out.below a7.out))
 have aq:=hide (au.out.below J)
 have e3:=J.size
 clear J
 go_wp2_with fail
 refine Calls.ret hs.out ?_
 rintro r U ⟨M,u,rfl,a1,p1,W,V,p2,Z,a3,p3,d3,hD,n1,n2,n3⟩
 obtain rfl:=hD.is
 have aj:=hide (a7.out.trans (M.mono a7.out.size))
 obtain⟨w5,an,G,ae,-⟩:=Ae U #[.slice (some ⟨a1,p1,none⟩) 1 W,.slice (some ⟨V,p2,none⟩) 1 Z] 78
 have aA:∀c:Array Value,c.size=2→(storeCells ⟨U.heap.size,0,none⟩ [.slice (some ⟨a1,p1,none⟩) 1 W,.slice (some ⟨V,p2,none⟩) 1 Z] 0).run Tryz.prog (U.alloc (.cells c 78))=.ok () w5:=fun c hc=>by
  rw [←an]
  exact Dv U 78 2 (by kernel_rfl) (rc:=#[.slice (some ⟨a1,p1,none⟩) 1 W,.slice (some ⟨V,p2,none⟩) 1 Z]) rfl (by simp [Value.oneCell']) c hc
 have a8:=hide (aj.out.trans (G.mono aj.out.size))
 have hm:=hide (ZO (hD.next G) (ah.out.below a8.out))
 have ay:=Ah ae (n:=2) rfl
 have ar:=hide ((aq.out.below M).below G)
 have e4:=M.size
 have e5:=G.size
 clear M G hD ae an hs
 go_wp2_with fail
 refine Calls.ret hm.out ?_
 rintro r w6 ⟨O,b1,y,E,b2,C,F,b3,q3,f3,h,m1,m2,m3⟩
 obtain rfl:=h.is
 obtain⟨w7,am,af,x⟩:=Wn (ar.out.below O) #[.slice (some ⟨b1,y,none⟩) 1 E,.slice (some ⟨b2,C,none⟩) 1 F] rfl (by simp [Value.oneCell'])
 have aO:(storeCells ⟨w1.heap.size,0,none⟩ [.slice (some ⟨b1,y,none⟩) 1 E,.slice (some ⟨b2,C,none⟩) 1 F] 0).run Tryz.prog w6=.ok () w7:=am
 have az:=hide (Ah af (n:=2) rfl)
 have e6:=O.size
 have hF:=hide (show Below w.heap.size w w7∧∃u,Value.tuple #[.agg #[.slice (some ⟨b1,y,none⟩) 1 E,.slice (some ⟨b2,C,none⟩) 1 F],.int .i64 0]=.tuple #[u,.int .i64 0]∧WC w w7 u from
  ⟨(a8.out.trans (O.mono a8.out.size)).trans (x.below (B:=w.heap.size) (by omega) fun b hb (e:b=w1.heap.size)=>by omega),_,rfl,b1,y,E,b2,C,F,b3,q3,f3,
   ⟨rfl,Nat.lt_of_lt_of_le h.l1 x.size,Nat.lt_of_lt_of_le h.l2 x.size,(x.cell (p:=⟨b1,y,none⟩) h.l1 (by show ¬(b1=_); omega)).trans h.r1,(x.cell (p:=⟨b2,C,none⟩) h.l2 (by show ¬(b2=_); omega)).trans h.r2,
    Nat.lt_of_lt_of_le h.l3 x.size,(x.cell (p:=⟨b3,q3,none⟩) h.l3 (by show ¬(b3=_); omega)).trans h.r3⟩,by omega,by omega,by omega⟩)
 clear O h am af x hm ay aA
 go_wp2_with fail
 have hl:=az.out
 exact bodyPost_ret (v:=.tuple #[.agg #[.slice (some ⟨b1,y,none⟩) 1 E,.slice (some ⟨b2,C,none⟩) 1 F],.int .i64 0]) (by simp [results,Tryz.results69,go_sem,hl]) rfl hF.out
theorem Yj (hT:BV w):Calls Tryz.prog 30 #[.agg #[.int .i64 1,.int .i64 0,.slice none 0 0,.slice none 0 0,.slice none 0 0]] w (Ret fun r w'=>Below w.heap.size w w'∧∃S s E e,r=.tuple #[.agg #[.int .i64 1,.int .i64 1,.slice S 1 s,.slice none 0 0,.slice E 1 e],.int .i64 0]):=by
 obtain⟨w1,aM,F,C,-⟩:=Ae w #[.int .i64 1,.int .i64 0,.slice none 0 0,.slice none 0 0,.slice none 0 0] 35
 obtain⟨w2,aN,G,W,-⟩:=Ae w1 #[.int .i64 0,.int .i64 0,.slice none 0 0,.slice none 0 0,.slice none 0 0] 35
 have ad:=hide (F.trans (G.mono F.size))
 have av:=Ah (C.below G) (n:=5) rfl
 have a9:=hide (C.below G)
 have ap:=hide W
 have aq:=hide hT
 have e1:=C.lt
 have e0:=F.size
 have e2:=W.lt
 have hv:Hid (Calls Tryz.prog 39 #[.agg #[.int .i64 1,.int .i64 0,.slice none 0 0,.slice none 0 0,.slice none 0 0]] w2 (Ret fun r w'=>r=.int .i64 0∧Below w2.heap.size w2 w')):=hide (Iv (a:=⟨1,0,[],[],[]⟩) ⟨none,0,none,0,none,0,rfl,Sl.nil rfl,Sl.nil rfl,Sl.nil rfl,by decide⟩)
 clear F G C W hT
 go_enter Tryz.func30,Tryz.ntmps30
 go_wp2_with fail
 refine Calls.ret hv.out ?_
 rintro r w3 ⟨rfl,h⟩
 have a4:=hide (ad.out.trans (h.mono ad.out.size))
 have aw:=Ah (a9.out.below h) (n:=5) rfl
 have am:=hide (a9.out.below h)
 have an:=hide (ap.out.below h)
 have e3:=h.size
 have J:=hide (Yt (aq.out.below a4.out))
 clear h av
 go_wp2_with fail
 refine Calls.ret J.out ?_
 rintro r M ⟨y,u,rfl,a1,p1,U,O,p2,V,a3,p3,d3,Z,n1,n2,n3⟩
 obtain rfl:=Z.is
 have ae:=hide (a4.out.trans (y.mono a4.out.size))
 obtain⟨w5,aj,x,aa,-⟩:=Ae M #[.slice (some ⟨a1,p1,none⟩) 1 U,.slice (some ⟨O,p2,none⟩) 1 V] 78
 have az:∀c:Array Value,c.size=2→(storeCells ⟨M.heap.size,0,none⟩ [.slice (some ⟨a1,p1,none⟩) 1 U,.slice (some ⟨O,p2,none⟩) 1 V] 0).run Tryz.prog (M.alloc (.cells c 78))=.ok () w5:=fun c J=>by
  rw [←aj]
  exact Dv M 78 2 (by kernel_rfl) (rc:=#[.slice (some ⟨a1,p1,none⟩) 1 U,.slice (some ⟨O,p2,none⟩) 1 V]) rfl (by simp [Value.oneCell']) c J
 have af:=hide (ae.out.trans (x.mono ae.out.size))
 have hm:=hide (Ys (Z.next x))
 have ax:=Ah aa (n:=2) rfl
 have ao:=hide ((an.out.below y).below x)
 have al:w5.cell? ⟨w.heap.size,0,none⟩=some (.int .i64 1):=((am.out.below y).below x).cell 0
 have e4:=y.size
 have e5:=x.size
 clear y x Z aa aj J aw
 go_wp2_with fail
 refine Calls.ret hm.out ?_
 rintro r w6 ⟨I,S,s,E,e,rfl⟩
 obtain⟨w7,ai,ab,ag⟩:=Wn (ao.out.below I) #[.int .i64 1,.int .i64 1,.slice S 1 s,.slice none 0 0,.slice E 1 e] rfl (by simp [Value.oneCell'])
 have aL:(storeCells ⟨w1.heap.size,0,none⟩ [.int .i64 1,.int .i64 1,.slice S 1 s,.slice none 0 0,.slice E 1 e] 0).run Tryz.prog w6=.ok () w7:=ai
 have ay:=hide (Ah ab (n:=5) rfl)
 have e6:=I.size
 have ar:=hide ((af.out.trans (I.mono af.out.size)).trans (ag.below (B:=w.heap.size) (by omega) fun b hb (e:b=w1.heap.size)=>by omega))
 clear I ai ab ag hm ax az al
 go_wp2_with fail
 have hl:=ay.out
 exact bodyPost_ret (v:=.tuple #[.agg #[.int .i64 1,.int .i64 1,.slice S 1 s,.slice none 0 0,.slice E 1 e],.int .i64 0]) (by simp [results,Tryz.results30,go_sem,hl]) rfl ⟨ar.out,_,_,_,_,rfl⟩
end
end Go.Proofs.YtfcfpoemojjglaaGreatDoor
namespace Go.Proofs.YtfcfpoemojjglaaGreatDoor
open Go.RowKit
open K (Ah Dv EQ Kc)
attribute [-go_sem] loadCellsFrom storeCells
set_option maxHeartbeats 16000000
set_option maxRecDepth 100000
structure WK (w:World) (gn gx gm s:Nat):Prop where
 ln:gn<w.heap.size
 lx:gx<w.heap.size
 lm:gm<w.heap.size
 ls:s<w.heap.size
 cn:w.cell? ⟨gn,0,none⟩=some (.slice (some ⟨gx,0,none⟩) 1 1)
 cx:w.cell? ⟨gx,0,none⟩=some (.slice none 0 0)
 cm:w.cell? ⟨gm,0,none⟩=some (.bool true)
 cs:w.cell? ⟨s,0,none⟩=some (.int .i64 0)
section
variable {w w':World} {gn gx gm s t:Nat}
theorem WK.next (h:WK w gn gx gm s) (x:Below w.heap.size w w'):WK w' gn gx gm s:=
 ⟨Nat.lt_of_lt_of_le h.ln x.size,Nat.lt_of_lt_of_le h.lx x.size,Nat.lt_of_lt_of_le h.lm x.size,Nat.lt_of_lt_of_le h.ls x.size,(x.cell (p:=⟨gn,0,none⟩) h.ln).trans h.cn,(x.cell (p:=⟨gx,0,none⟩) h.lx).trans h.cx,(x.cell (p:=⟨gm,0,none⟩) h.lm).trans h.cm,(x.cell (p:=⟨s,0,none⟩) h.ls).trans h.cs⟩
theorem Xp (h:Blk w s 3 #[.int .i64 0]):Sl w w.heap.size 1 Ai (some ⟨s,0,none⟩) [0]:=⟨by decide,fun _=>⟨_,0,rfl,h.lt,fun k d hd j C=>by
 have hk:=AP hd
 have y:k=0:=by simpa using hk
 have x:j=0:=by omega
 subst y x
 have:d=0:=by simpa using hd.symm
 subst this
 exact h.cell 0⟩⟩
theorem ZX (hs:Blk w s 3 #[.int .i64 0]) (ht:Blk w t 3 #[.int .i64 0]):Calls Tryz.prog 41 #[.agg #[.int .i64 1,.int .i64 1,.slice (some ⟨s,0,none⟩) 1 1,.slice (some ⟨t,0,none⟩) 1 1,.slice none 0 0]] w (Ret fun r w'=>Below w.heap.size w w'∧∃gn gx gm,r=.agg #[.int .i64 1,.slice (some ⟨gn,0,none⟩) 1 1,.slice (some ⟨s,0,none⟩) 1 1,.slice (some ⟨gm,0,none⟩) 1 1]∧WK w' gn gx gm s):=by
 obtain⟨w1,b7,Z,ac,-⟩:=Ae w #[.int .i64 1,.int .i64 1,.slice (some ⟨s,0,none⟩) 1 1,.slice (some ⟨t,0,none⟩) 1 1,.slice none 0 0] 35
 obtain⟨w2,b8,ag,ae,-⟩:=Ae w1 #[.int .i64 0,.slice none 0 0,.slice none 0 0,.slice none 0 0] 88
 have O:=hide (Z.trans (ag.mono Z.size))
 have ad:=hide (show Blk w2 w.heap.size 35 #[.int .i64 1,.int .i64 ((1:Nat):Int),.slice (some ⟨s,0,none⟩) 1 1,.slice (some ⟨t,0,none⟩) 1 1,.slice none 0 0] from ac.below ag)
 have aL:=hide ae
 have aR:=hide (hs.below O.out)
 have aT:=hide (Xp (ht.below O.out))
 have e1:=ac.lt
 have e0:=Z.size
 have e2:=ae.lt
 have es:=hs.lt
 clear Z ag ac ae hs ht
 go_enter Tryz.func41,Tryz.ntmps41
 go_wp2_with fail
 refine Rg (n:=1) (acc:=[0]) (B:=w2.heap.size) (by omega) ad.out aT.out rfl (Nat.le_refl _) (by simp [inN]) (by repeat (first | refine Reg.NoQ.then ?_ | refine Reg.NoQ.inBlock ?_ | exact Reg.NoQ.body (fun _ _ h=>h) (fun _ h=>h))) ?_
 iterate 13 (intro _)
 intro y g3 gn gm M
 have b3:=M.blk _ (List.mem_cons_self)
 have W:=M.blk _ (List.mem_cons_of_mem _ List.mem_cons_self)
 have V:=M.blk _ (List.mem_cons_of_mem _ (List.mem_cons_of_mem _ List.mem_cons_self))
 have ah:=M.below
 dsimp only at b3 W V
 have U:Blk y g3 88 #[.int .i64 1,.slice (some ⟨gn,0,none⟩) 1 1,.slice (some ⟨s,0,none⟩) 1 1,.slice (some ⟨gm,0,none⟩) 1 1]:=b3.1
 have ay:Blk y gn 75 #[.slice none 0 0]:=W.1
 have ax:Blk y gm 4 #[.bool true]:=V.1
 have x3:=b3.2
 have xn:=W.2
 have xm:=V.2
 have I:=ah.trans ((Ap y).mono ah.size)
 have c3:y.cell? ⟨g3,1,none⟩=some (.slice (some ⟨gn,0,none⟩) 1 1):=U.cell 1
 have aX:y.drew.cell? ⟨g3,1,none⟩=some (.slice (some ⟨gn,0,none⟩) 1 1):=(U.below (Ap y)).cell 1
 have aV:y.drew.cell? ⟨w.heap.size,0,none⟩=some (.int .i64 1):=(ad.out.below I).cell 0
 have ap:=hide (U.below (Ap y))
 have aJ:=hide (ay.below (Ap y))
 have ar:=hide (ax.below (Ap y))
 have an:=hide (ad.out.below I)
 have ao:=hide (aL.out.below I)
 have ai:=hide (O.out.trans (I.mono O.out.size))
 have aF:=hide (aR.out.below I)
 have b4:=I.size
 clear b3 W V M ah U ay ax I
 go_wp2_with fail
 refine wp_loop_rounds 2 ?_
 rw [rounds_succ]
 go_wp2_with fail
 refine Reg.cC [0,1,0,0,8,24,63,127] [0,1,2,3,4,5,6,7] ?_ (by kernel_rfl) ?_
 rotate_left
 ·repeat (first | refine Reg.NoQ.then ?_ | refine Reg.NoQ.inBlock ?_ | exact Reg.NoQ.body (fun _ _ h=>h) (fun _ h=>h))
 refine Reg.rest_walk' [0,1,2,3,4] [5,6,7] rfl (by kernel_rfl) ?_
 intro Qf F
 go_wp2_with fail
 first | refine F _ _ ?_ | skip
 try clear F
 refine Reg.rest_act' 5 [6,7] [1] rfl (by kernel_rfl) ?_
 intro Qf F
 simp only [gT,gS,gZ]
 refine LG Tryz.underlying75 Hu (by omega) (by omega) 1 (by omega) rfl _ _ rfl rfl rfl ?_
 intro gx w5 aE x aN
 first | refine F _ _ ⟨Reg.same_below x _ rfl,?_⟩ | refine⟨Reg.same_below x _ rfl,?_⟩
 try clear F
 have ab:Blk w5 gx 24 #[.slice none 0 0]:=by
  have h9:=aE
  rw [show(Value.slice none 0 0).cells=#[Value.slice none 0 0] from rfl,QU] at h9
  exact h9
 have C:=aJ.out.below x
 obtain⟨E,a2⟩:∃E,E=w5.setCell ⟨gn,0,none⟩ (.slice (some ⟨gx,0,none⟩) 1 1):=⟨_,rfl⟩
 have aS:=W3 (C.cell 0) (C.frozen 0) (v:=.slice (some ⟨gx,0,none⟩) 1 1) rfl
 rw [←a2] at aS
 have G:Ac w5 E (fun k=>k=gn):=by rw [a2]; exact(Ac.refl w5 (fun k=>k=gn)).setCell (p:=⟨gn,0,none⟩) (fun _=>rfl) _
 have au:Blk E gn 75 #[.slice (some ⟨gx,0,none⟩) 1 1]:=by rw [a2]; exact C.set_ 0 _
 have aw:=ab.kept G (Blk.ne_ ab C (by decide))
 have a6:=(ap.out.below x).kept G (Blk.ne_ (ap.out.below x) C (by decide))
 have aq:=(ar.out.below x).kept G (Blk.ne_ (ar.out.below x) C (by decide))
 have am:=(an.out.below x).kept G (Blk.ne_ (an.out.below x) C (by decide))
 have a5:=(ao.out.below x).kept G (Blk.ne_ (ao.out.below x) C (by decide))
 have av:=(aF.out.below x).kept G (Blk.ne_ (aF.out.below x) C (by decide))
 have af:=ai.out.trans ((x.mono ai.out.size).trans (G.below (Nat.le_trans ai.out.size x.size) fun b hb (e:b=gn)=>by have:=O.out.size; omega))
 have aW:E.cell? ⟨g3,1,none⟩=some (.slice (some ⟨gn,0,none⟩) 1 1):=a6.cell 1
 have aU:E.cell? ⟨w.heap.size,4,none⟩=some (.slice none 0 0):=am.cell 4
 have b5:(loadCellsFrom ⟨g3,0,none⟩ 0 4 #[]).run Tryz.prog E=.ok #[.int .i64 1,.slice (some ⟨gn,0,none⟩) 1 1,.slice (some ⟨s,0,none⟩) 1 1,.slice (some ⟨gm,0,none⟩) 1 1] E:=Ah a6 rfl
 obtain⟨w7,aG,aD,aj⟩:=Wn a5 #[.int .i64 1,.slice (some ⟨gn,0,none⟩) 1 1,.slice (some ⟨s,0,none⟩) 1 1,.slice (some ⟨gm,0,none⟩) 1 1] rfl (by simp [Value.oneCell'])
 have b6:(storeCells ⟨w1.heap.size,0,none⟩ [.int .i64 1,.slice (some ⟨gn,0,none⟩) 1 1,.slice (some ⟨s,0,none⟩) 1 1,.slice (some ⟨gm,0,none⟩) 1 1] 0).run Tryz.prog E=.ok () w7:=aG
 have aP:=hide (Ah aD (n:=4) rfl)
 have J:∀{g:Nat} {ty:TypeId} {cs:Array Value},Blk E g ty cs→ty≠88→Blk w7 g ty cs:=fun hB aQ=>hB.kept aj (Blk.ne_ hB a5 aQ)
 have a8:=J au (by decide)
 have aa:=J aw (by decide)
 have a7:=J aq (by decide)
 have a9:=J av (by decide)
 have hF:=hide (show Below w.heap.size w w7∧∃aA aK az,Value.agg #[.int .i64 1,.slice (some ⟨gn,0,none⟩) 1 1,.slice (some ⟨s,0,none⟩) 1 1,.slice (some ⟨gm,0,none⟩) 1 1]=.agg #[.int .i64 1,.slice (some ⟨aA,0,none⟩) 1 1,.slice (some ⟨s,0,none⟩) 1 1,.slice (some ⟨az,0,none⟩) 1 1]∧WK w7 aA aK az s from
  ⟨af.trans (aj.below af.size fun b hb (e:b=w1.heap.size)=>by omega),gn,gx,gm,rfl,⟨a8.lt,aa.lt,a7.lt,a9.lt,a8.cell 0,aa.cell 0,a7.cell 0,a9.cell 0⟩⟩)
 clear ab aE x C a2 G au aw a6 aq am a5 av af aG aD aj J a8 aa a7 a9 aN
 refine Reg.rest_walk' [6,7] [] rfl (by kernel_rfl) ?_
 intro Qf F
 go_wp2_with fail
 first | refine F _ _ ?_ | skip
 try clear F
 refine Reg.rest_end ?_
 go_wp2_with fail
 rw [rounds_succ]
 go_wp2_with fail
 refine wp_loop_rounds 1 ?_
 rw [rounds_succ]
 go_wp2_with fail
 have hl:=aP.out
 exact bodyPost_ret (v:=.agg #[.int .i64 1,.slice (some ⟨gn,0,none⟩) 1 1,.slice (some ⟨s,0,none⟩) 1 1,.slice (some ⟨gm,0,none⟩) 1 1]) (by simp [results,Tryz.results41,go_sem,hl]) rfl hF.out
end
end Go.Proofs.YtfcfpoemojjglaaGreatDoor
namespace Go.Proofs.YtfcfpoemojjglaaGreatDoor
open Go.RowKit
set_option maxHeartbeats 16000000
set_option maxRecDepth 100000
section
variable {w w':World} {gn gx gm s t:Nat}
theorem YC (h:WK w gn gx gm s):Calls Tryz.prog 113 #[.agg #[.int .i64 1,.slice (some ⟨gn,0,none⟩) 1 1,.slice (some ⟨s,0,none⟩) 1 1,.slice (some ⟨gm,0,none⟩) 1 1]] w (Ret fun r w'=>Below w.heap.size w w'∧∃g,r=.slice (some ⟨g,0,none⟩) 1 1∧Blk w' g 3 #[.int .i64 0]):=by
 obtain⟨w1,b5,ai,a5,-⟩:=Ae w #[.int .i64 1,.slice (some ⟨gn,0,none⟩) 1 1,.slice (some ⟨s,0,none⟩) 1 1,.slice (some ⟨gm,0,none⟩) 1 1] 88
 obtain⟨x,w2,ax,av,a6,aF⟩:=Et w1 1 (by omega)
 have b0:(Instr.makeSlice 24 (.int .i64 1) (.int .i64 1)).run Tryz.prog w1=.ok (.slice (some ⟨x,0,none⟩) 1 1) w2:=ax
 obtain⟨gb,y,ay,au,a7,aE⟩:=Ra w2 1 (by omega)
 have b4:(Instr.makeSlice 75 (.int .i64 1) (.int .i64 1)).run Tryz.prog w2=.ok (.slice (some ⟨gb,0,none⟩) 1 1) y:=ay
 have F:Blk y x 3 #[.int .i64 0]:=av.below a7
 have J:Blk y gb 24 #[.slice none 0 0]:=au
 have s1:=ai.size
 have s2:=a6.size
 have af:=ai.trans (a6.mono s1)
 have G:=af.trans (a7.mono af.size)
 have ad:=a5.below a6
 have ae:=ad.below a7
 have a1:w1.cell? ⟨w.heap.size,1,none⟩=some (.slice (some ⟨gn,0,none⟩) 1 1):=a5.cell 1
 have a2:w2.cell? ⟨w.heap.size,1,none⟩=some (.slice (some ⟨gn,0,none⟩) 1 1):=ad.cell 1
 have a3:y.cell? ⟨w.heap.size,1,none⟩=some (.slice (some ⟨gn,0,none⟩) 1 1):=ae.cell 1
 have W:=h.next G
 have a4:=W.cn
 have aN:y.cell? ⟨x,0,none⟩=some (.int .i64 0):=F.cell 0
 have aS:=F.frozen 0
 obtain⟨C,a9⟩:∃C,C=y.setCell ⟨x,0,none⟩ (.int .i64 (-1)):=⟨_,rfl⟩
 have E:Ac y C (fun k=>k=x):=by rw [a9]; exact(Ac.refl y (fun k=>k=x)).setCell (p:=⟨x,0,none⟩) (fun _=>rfl) _
 have U:Blk C x 3 #[.int .i64 (-1)]:=by rw [a9]; exact F.set_ 0 _
 have b6:=a9.symm
 have l0:=a5.lt
 have aR:w.heap.size≤x:=by omega
 have c4:∀{g:Nat} {v:Value},y.cell? ⟨g,0,none⟩=some v→g<w.heap.size→C.cell? ⟨g,0,none⟩=some v:=fun {g v} hc hg=>(E.cell (p:=⟨g,0,none⟩) (by show g<y.heap.size; have:=G.size; omega) (by show ¬(g=x); omega)).trans hc
 have x4:=c4 W.cx h.lx
 have am:=ae.kept E (by show w.heap.size≠x; omega)
 have m3:C.cell? ⟨w.heap.size,3,none⟩=some (.slice (some ⟨gm,0,none⟩) 1 1):=am.cell 3
 have m4:=c4 W.cm h.lm
 have aO:C.cell? ⟨x,0,none⟩=some (.int .i64 (-1)):=U.cell 0
 have aT:=U.frozen 0
 obtain⟨Z,aa⟩:∃Z,Z=C.setCell ⟨x,0,none⟩ (.int .i64 0):=⟨_,rfl⟩
 have aj:Ac C Z (fun k=>k=x):=by rw [aa]; exact(Ac.refl C (fun k=>k=x)).setCell (p:=⟨x,0,none⟩) (fun _=>rfl) _
 have V:Blk Z x 3 #[.int .i64 0]:=by rw [aa]; exact U.set_ 0 _
 have b7:=aa.symm
 have O:=(J.kept E (Blk.ne_ J F (by decide))).kept aj (Blk.ne_ (J.kept E (Blk.ne_ J F (by decide))) U (by decide))
 have I:=(G.trans (E.below G.size fun b hb (e:b=x)=>by omega)).trans (aj.below (Nat.le_trans G.size E.size) fun b hb (e:b=x)=>by omega)
 have M:=hide (And.intro V (And.intro O I))
 clear ai a6 a7 a5 av au ax ay af G ad ae W E aj a9 aa F J U V O I am c4 h aF aE s1 s2 l0
 go_enter Tryz.func113,Tryz.ntmps113
 go_wp2_with fail
 refine wp_loop_rounds 2 ?_
 rw [rounds_succ]
 go_wp2_with fail
 refine wp_loop_rounds 2 ?_
 rw [rounds_succ]
 go_wp2_with fail
 refine wp_loop_rounds 1 ?_
 rw [rounds_succ]
 go_wp2_with fail
 rw [rounds_succ]
 go_wp2_with (
  at_builtin
  refine BP C9 rfl _ _ rfl Z.heap.size (.slice none 0 0) 0 _ rfl (World.ownsRow_nil _ _ _ _) [.int .i64 0] 1 rfl rfl (by simp [Value.oneCell']) (by omega) (Nat.le_refl _) ?_
  intro gq cq w6 ak aw aG aZ
  obtain⟨V,O,I⟩:=M.out
  have a8:=aw.below' (fun b hb e=>by cases e)
  have ao:=V.below a8
  have an:=O.below a8
  have ap:=I.trans (a8.mono I.size)
  obtain⟨aV,aP,eQ,aq⟩:=C7 ak (k:=0) (u:=.int .i64 0) rfl
  cases eQ
  have q6:w6.cell? ⟨gq,0,none⟩=some (.int .i64 0):=aq
  have y6:w6.cell? ⟨gb,0,none⟩=some (.slice none 0 0):=an.cell 0
  have aY:1≤cq:=(by rcases ak.2 with⟨e,_⟩ | ⟨g',c',aQ,e,h1,h2,W,h4⟩ <;> (cases e; try omega))
  have hF:=hide (show Below w.heap.size w w6∧∃g,Value.slice (some ⟨x,0,none⟩) 1 1=.slice (some ⟨g,0,none⟩) 1 1∧Blk w6 g 3 #[.int .i64 0] from⟨ap,x,rfl,ao⟩)
  clear ak aw aG a8 V O I ao an ap aq)
 rw [rounds_succ]
 go_wp2_with fail
 refine wp_loop_rounds 2 ?_
 rw [rounds_succ]
 go_wp2_with fail
 refine wp_loop_rounds 1 ?_
 rw [rounds_succ]
 go_wp2_with fail
 all_goals
  rw [rounds_succ]
  go_wp2_with fail
  exact bodyPost_ret (v:=.slice (some ⟨x,0,none⟩) 1 1) (by simp [results,Tryz.results113,go_sem]) rfl hF.out
theorem aAA (h:WK w gn gx gm s):Calls Tryz.prog 70 #[.agg #[.int .i64 1,.slice (some ⟨gn,0,none⟩) 1 1,.slice (some ⟨s,0,none⟩) 1 1,.slice (some ⟨gm,0,none⟩) 1 1]] w (Ret fun r w'=>Below w.heap.size w w'∧r=.tuple #[.slice none 0 0,.bool true]):=by
 obtain⟨w1,ao,V,U,-⟩:=Ae w #[.int .i64 1,.slice (some ⟨gn,0,none⟩) 1 1,.slice (some ⟨s,0,none⟩) 1 1,.slice (some ⟨gm,0,none⟩) 1 1] 88
 have af:=U.cell
 have h1:=h.next V
 have hd:=hide (YC h1)
 have ae:=hide U
 have W:=hide V
 have ad:=hide h1
 clear V U h h1
 go_enter Tryz.func70,Tryz.ntmps70
 go_wp2_with fail
 refine Calls.ret hd.out ?_
 rintro r w2 ⟨E,g,rfl,hG⟩
 obtain⟨x,ap,F,a4,-⟩:=Ae w2 #[.slice (some ⟨g,0,none⟩) 1 1] 24
 have O:=(ad.out.next E).next F
 have a3:=hide ((W.out.trans (E.mono W.out.size)).trans (F.mono (Nat.le_trans W.out.size E.size)))
 have ai:x.cell? ⟨w.heap.size,2,none⟩=some (.slice (some ⟨s,0,none⟩) 1 1):=((ae.out.below E).below F).cell 2
 have ac:=O.cs
 have c3:x.cell? ⟨w2.heap.size,0,none⟩=some (.slice (some ⟨g,0,none⟩) 1 1):=a4.cell 0
 have al:x.cell? ⟨g,0,none⟩=some (.int .i64 0):=(hG.below F).cell 0
 have a8:=hide (GY (w:=x) (B:=x.heap.size) (A:=some ⟨s,0,none⟩) (c:=1) (l:=[0]) ⟨by decide,fun _=>⟨_,0,rfl,O.ls,fun k d hd j hj=>by
  have hk:=AP hd
  have ah:k=0:=by simpa using hk
  have ag:j=0:=by omega
  subst ah ag
  have:d=0:=by simpa using hd.symm
  subst this
  exact ac⟩⟩ (by simp))
 have a9:Hid (Calls Tryz.prog 42 #[.slice (some ⟨s,0,none⟩) 1 1] x (Ret fun r w'=>w'.ownsRow x.heap.size 3 1 r (CL [0]).length ((CL [0]).map (Value.int .i64))∧Below x.heap.size x w')):=hide a8.out
 clear E F a4 hG O a8 hd af
 go_wp2_with fail
 refine wp_loop_rounds 2 ?_
 rw [rounds_succ]
 go_wp2_with fail
 rw [rounds_succ]
 go_wp2_with fail
 refine Calls.ret a9.out ?_
 rintro r y ⟨-,a6⟩
 obtain⟨M,aq,Z,I,-⟩:=Ae y #[.int .i64 0] 3
 have c5:M.cell? ⟨y.heap.size,0,none⟩=some (.int .i64 0):=I.cell 0
 have f5:=I.frozen 0
 obtain⟨G,J⟩:∃G,G=M.setCell ⟨y.heap.size,0,none⟩ (.int .i64 0):=⟨_,rfl⟩
 have a7:Ac M G (fun k=>k=y.heap.size):=by rw [J]; exact(Ac.refl M (fun k=>k=y.heap.size)).setCell (p:=⟨y.heap.size,0,none⟩) (fun _=>rfl) _
 have B6:Blk G y.heap.size 3 #[.int .i64 0]:=by rw [J]; exact I.set_ 0 _
 have c6:G.cell? ⟨y.heap.size,0,none⟩=some (.int .i64 0):=B6.cell 0
 have ar:=J.symm
 have C:=a3.out.trans (a6.mono a3.out.size)
 have ab:=hide ((C.trans (Z.mono C.size)).trans (a7.below (Nat.le_trans C.size Z.size) fun b hb (e:b=y.heap.size)=>by have:=C.size; omega))
 clear a6 Z I a9 J a7 B6 C
 go_wp2_with fail
 refine wp_loop_rounds 1 ?_
 rw [rounds_succ]
 go_wp2_with fail
 exact bodyPost_ret (v:=.tuple #[.slice none 0 0,.bool true]) (by simp [results,Tryz.results70,go_sem]) rfl ⟨ab.out,rfl⟩
end
end Go.Proofs.YtfcfpoemojjglaaGreatDoor
namespace Go.Proofs.YtfcfpoemojjglaaGreatDoor
open Go.RowKit
open K (Ah Dv EQ Kc)
attribute [-go_sem] loadCellsFrom storeCells
set_option maxHeartbeats 16000000
set_option maxRecDepth 100000
section
variable {w w':World} {gn gx gm s t:Nat}
theorem Yn (C:Blk w s 3 #[.int .i64 0]) (ht:Blk w t 3 #[.int .i64 0]):Calls Tryz.prog 31 #[.agg #[.int .i64 1,.int .i64 1,.slice (some ⟨s,0,none⟩) 1 1,.slice (some ⟨t,0,none⟩) 1 1,.slice none 0 0]] w (Ret fun r w'=>Below w.heap.size w w'∧r=.tuple #[.slice none 0 0,.bool true,.int .i64 0]):=by
 obtain⟨E,a7,h,y,-⟩:=Ae w #[.int .i64 1,.int .i64 1,.slice (some ⟨s,0,none⟩) 1 1,.slice (some ⟨t,0,none⟩) 1 1,.slice none 0 0] 35
 have Z:=Ah y (n:=5) rfl
 have a3:=hide (C.below h)
 have a5:=hide (ht.below h)
 have J:=hide h
 have V:=hide y
 have hv:Hid (Calls Tryz.prog 39 #[.agg #[.int .i64 1,.int .i64 1,.slice (some ⟨s,0,none⟩) 1 1,.slice (some ⟨t,0,none⟩) 1 1,.slice none 0 0]] E (Ret fun r w'=>r=.int .i64 0∧Below E.heap.size E w')):=hide (Iv (a:=⟨1,1,[0],[0],[]⟩) ⟨_,1,_,1,none,0,rfl,Xp (C.below h),Xp (ht.below h),Sl.nil rfl,by decide⟩)
 clear h y C ht
 go_enter Tryz.func31,Tryz.ntmps31
 go_wp2_with fail
 refine Calls.ret hv.out ?_
 rintro r w2 ⟨rfl,x⟩
 have a2:=Ah (V.out.below x) (n:=5) rfl
 have U:=hide (ZX (a3.out.below x) (a5.out.below x))
 have G:=hide (J.out.trans (x.mono J.out.size))
 clear x Z
 go_wp2_with fail
 refine Calls.ret U.out ?_
 rintro r w3 ⟨M,gn,gx,gm,rfl,F⟩
 have a4:=hide (aAA F)
 have I:=hide (G.out.trans (M.mono G.out.size))
 clear M F a2 U
 go_wp2_with fail
 refine Calls.ret a4.out ?_
 rintro r w4 ⟨O,rfl⟩
 have W:=hide (I.out.trans (O.mono I.out.size))
 clear O
 go_wp2_with fail
 exact bodyPost_ret (v:=.tuple #[.slice none 0 0,.bool true,.int .i64 0]) (by simp [results,Tryz.results31,go_sem]) rfl ⟨W.out,rfl⟩
theorem W7 (O:BV w):Calls Tryz.prog 10 #[] w (Ret fun v w'=>v=.bool true∧Below w.heap.size w w'):=by
 have V:=hide (Yj O)
 clear O
 go_enter Tryz.func10,Tryz.ntmps10
 go_wp2_with fail
 refine Calls.ret V.out ?_
 rintro v x ⟨h,A1,c1,A3,c3,rfl⟩
 obtain⟨w2,Z,y,I,-⟩:=Ae x #[.int .i64 1,.int .i64 1,.slice A1 1 c1,.slice none 0 0,.slice A3 1 c3] 35
 have a8:∀c:Array Value,c.size=5→(storeCells ⟨x.heap.size,0,none⟩ [.int .i64 1,.int .i64 1,.slice A1 1 c1,.slice none 0 0,.slice A3 1 c3] 0).run Tryz.prog (x.alloc (.cells c 35))=.ok () w2:=fun c hc=>by
  rw [←Z]
  exact Dv x 35 5 (by kernel_rfl) (rc:=#[.int .i64 1,.int .i64 1,.slice A1 1 c1,.slice none 0 0,.slice A3 1 c3]) rfl (by simp [Value.oneCell']) c hc
 obtain⟨w3,a9,E,J,-⟩:=Ae w2 #[.int .i64 0] 3
 obtain⟨w4,aa,F,M,-⟩:=Ae w3 #[.int .i64 0] 3
 have C:=E.trans (F.mono E.size)
 have W:=hide (Yn (J.below F) M)
 have a3:=hide (I.below C)
 have U:=hide ((h.trans (y.mono h.size)).trans (C.mono (Nat.le_trans h.size y.size)))
 clear V h y I E J F M C Z
 go_wp2_with fail
 refine Calls.ret W.out ?_
 rintro v w5 ⟨G,rfl⟩
 have a7:=(a3.out.below G).cell
 have a4:=hide (U.out.trans (G.mono U.out.size))
 clear W G
 go_wp2_with fail
 go_ret
 exact⟨rfl,a4.out⟩
end
end Go.Proofs.YtfcfpoemojjglaaGreatDoor
