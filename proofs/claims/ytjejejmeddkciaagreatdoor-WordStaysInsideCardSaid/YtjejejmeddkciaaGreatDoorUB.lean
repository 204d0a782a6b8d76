/-
  Part UB of a proof.
-/
import Derived.LoopN
import Derived.Test.YtjejejmeddkciaaGreatDoorPA
import Derived.Test.YtjejejmeddkciaaGreatDoorPS
import Derived.Test.YtjejejmeddkciaaGreatDoorPE
import Derived.Test.YtjejejmeddkciaaGreatDoorTK
import Derived.Test.YtjejejmeddkciaaGreatDoorCE
import Derived.Test.YtjejejmeddkciaaGreatDoorYC
import Derived.Test.YtjejejmeddkciaaGreatDoorPC
set_option maxHeartbeats 16000000
set_option maxRecDepth 100000
set_option linter.unusedVariables false
set_option linter.unusedSimpArgs false
namespace Go.Proofs.YtjejejmeddkciaaGreatDoor
open Go.RowKit
set_option maxHeartbeats 16000000
set_option maxRecDepth 100000
structure Wu (w:World) (v:Value) (b1 o1 c1 b2 o2 c2 b3 o3 c3:Nat):Prop where
 is:v=.agg #[.slice (some ⟨b1,o1,none⟩) 1 c1,.slice (some ⟨b2,o2,none⟩) 1 c2]
 l1:b1<w.heap.size
 l2:b2<w.heap.size
 r1:w.cell? ⟨b1,o1,none⟩=some (.slice (some ⟨b3,o3,none⟩) 1 c3)
 r2:w.cell? ⟨b2,o2,none⟩=some (.bool false)
 l3:b3<w.heap.size
 r3:w.cell? ⟨b3,o3,none⟩=some (.int .i64 0)
section
variable {w w':World} {v u:Value} {b1 o1 c1 b2 o2 c2 b3 o3 c3 b o c:Nat} {z:Int}
theorem Wu.next (h:Wu w v b1 o1 c1 b2 o2 c2 b3 o3 c3) (C:Below w.heap.size w w'):Wu w' v b1 o1 c1 b2 o2 c2 b3 o3 c3:=
 ⟨h.is,Nat.lt_of_lt_of_le h.l1 C.size,Nat.lt_of_lt_of_le h.l2 C.size,(C.cell (p:=⟨b1,o1,none⟩) h.l1).trans h.r1,(C.cell (p:=⟨b2,o2,none⟩) h.l2).trans h.r2,Nat.lt_of_lt_of_le h.l3 C.size,(C.cell (p:=⟨b3,o3,none⟩) h.l3).trans h.r3⟩
end
end Go.Proofs.YtjejejmeddkciaaGreatDoor
namespace Go.Proofs.YtjejejmeddkciaaGreatDoor
open Go.RowKit
set_option maxHeartbeats 16000000
set_option maxRecDepth 100000
end Go.Proofs.YtjejejmeddkciaaGreatDoor
namespace Go.Proofs.YtjejejmeddkciaaGreatDoor
open Go.RowKit
open K (Ah Dv EQ Kc)
attribute [-go_sem] loadCellsFrom storeCells
set_option maxHeartbeats 16000000
set_option maxRecDepth 100000
section
variable {w w':World} {v u:Value} {b1 o1 c1 b2 o2 c2 b3 o3 c3 b o c:Nat} {z:Int}
theorem Ys (h:Wu w v b1 o1 c1 b2 o2 c2 b3 o3 c3):Calls Tryz.prog 56 #[v,.int .i64 1] w (Ret fun r w'=>Below w.heap.size w w'/\∃S s E e,r=.agg #[.int .i64 1,.int .i64 1,.slice S 1 s,.slice none 0 0,.slice E 1 e]):=by
 obtain⟨rfl,l1,l2,r1,r2,l3,r3⟩:=h;obtain⟨M,aH,a9,J,-⟩:=Ae w #[.slice (some ⟨b1,o1,none⟩) 1 c1,.slice (some ⟨b2,o2,none⟩) 1 c2] 70;obtain⟨w2,aJ,G,a7,-⟩:=Ae M #[.int .i64 0,.int .i64 0,.slice none 0 0,.slice none 0 0,.slice none 0 0] 33;obtain⟨C,aK,I,an,-⟩:=Ae w2 #[.int .i64 0] 3;obtain⟨F,al,U,a8,-⟩:=Ae C #[.int .i64 1,.int .i64 1,.slice (some ⟨w2.heap.size,0,none⟩) 1 1,.slice none 0 0,.slice none 0 0] 33;have aF:∀c:Array Value,c.size=5->(storeCells ⟨C.heap.size,0,none⟩ [.int .i64 1,.int .i64 1,.slice (some ⟨w2.heap.size,0,none⟩) 1 1,.slice none 0 0,.slice none 0 0] 0).run Tryz.prog (C.alloc (.cells c 33))=.ok () F:=fun c hc=>by
  rw [<-al];exact Dv C 33 5 (by kernel_rfl) (rc:=#[.int .i64 1,.int .i64 1,.slice (some ⟨w2.heap.size,0,none⟩) 1 1,.slice none 0 0,.slice none 0 0]) rfl (by simp [Value.oneCell']) c hc
 have s1:=a9.size;have s2:=G.size;have s3:=I.size;have a6:=a9.trans ((G.mono s1).trans (I.mono (by omega)));have O:=a6.trans (U.mono a6.size);have x1:C.cell? ⟨w.heap.size,0,none⟩=some (.slice (some ⟨b1,o1,none⟩) 1 c1):=((J.below G).below I).cell 0;have aM:w2.cell? ⟨w.heap.size,0,none⟩=some (.slice (some ⟨b1,o1,none⟩) 1 c1):=(J.below G).cell 0;have x2:F.cell? ⟨w.heap.size,0,none⟩=some (.slice (some ⟨b1,o1,none⟩) 1 c1):=(((J.below G).below I).below U).cell 0;have x3:F.cell? ⟨w.heap.size,1,none⟩=some (.slice (some ⟨b2,o2,none⟩) 1 c2):=(((J.below G).below I).below U).cell 1;have x4:F.cell? ⟨b1,o1,none⟩=some (.slice (some ⟨b3,o3,none⟩) 1 c3):=(O.cell (p:=⟨b1,o1,none⟩) l1).trans r1;have x5:F.cell? ⟨b2,o2,none⟩=some (.bool false):=(O.cell (p:=⟨b2,o2,none⟩) l2).trans r2;have x6:F.cell? ⟨b3,o3,none⟩=some (.int .i64 0):=(O.cell (p:=⟨b3,o3,none⟩) l3).trans r3;have x7:F.cell? ⟨C.heap.size,4,none⟩=some (.slice none 0 0):=a8.cell 4;have ao:=hide a8;have am:=hide ((a7.below I).below U);have ag:=hide O;have e1:=J.lt;have aC:M.heap.size<C.heap.size:=by have:=a7.lt;omega
 have aA:w.heap.size<=M.heap.size:=s1;clear a9 G I U J a7 an a8 a6 O r1 r2 r3 s1 s2 s3 al;go_enter Tryz.func56,Tryz.ntmps56;go_wp2_with fail;refine wp_loop_rounds 2 ?_;rw [rounds_succ];go_wp2_with fail;refine wp_loop_rounds 2 ?_;rw [rounds_succ]
 go_wp2_with (
  at_builtin;refine BP Ga rfl _ _ rfl F.heap.size (.slice none 0 0) 0 _ rfl (World.ownsRow_nil _ _ _ _) [.int .i64 0,.int .i64 0,.int .i64 0] 1 rfl rfl (by simp [Value.oneCell']) (by omega) (Nat.le_refl _) ?_;intro gn cn w5 av ai au aD;have a2:=ai.below' (fun b hb e=>by cases e);have W:=ao.out.below a2;have ad:=hide (am.out.below a2);have Z:=hide (ag.out.trans (a2.mono ag.out.size));obtain⟨V,a5⟩:∃V,V=w5.setCell ⟨C.heap.size,4,none⟩ (.slice (some ⟨gn,0,none⟩) 1 cn):=⟨_,rfl⟩;have aw:=W3 (W.cell 4) (W.frozen 4) (v:=.slice (some ⟨gn,0,none⟩) 1 cn) rfl;rw [<-a5] at aw;have a3:Ac w5 V (fun k=>k=C.heap.size):=(by rw [a5];exact(Ac.refl w5 (fun k=>k=C.heap.size)).setCell (p:=⟨C.heap.size,4,none⟩) (fun _=>rfl) _);have af:Blk V C.heap.size 33 #[.int .i64 1,.int .i64 1,.slice (some ⟨w2.heap.size,0,none⟩) 1 1,.slice none 0 0,.slice (some ⟨gn,0,none⟩) 1 cn]:=(by rw [a5];exact W.set_ 4 _);have aE:=Ah af (n:=5) rfl;obtain⟨w7,ak,ae,aj⟩:=Wn (ad.out.kept a3 (by show M.heap.size≠C.heap.size;omega)) #[.int .i64 1,.int .i64 1,.slice (some ⟨w2.heap.size,0,none⟩) 1 1,.slice none 0 0,.slice (some ⟨gn,0,none⟩) 1 cn] rfl (by simp [Value.oneCell']);have aG:(storeCells ⟨M.heap.size,0,none⟩ [.int .i64 1,.int .i64 1,.slice (some ⟨w2.heap.size,0,none⟩) 1 1,.slice none 0 0,.slice (some ⟨gn,0,none⟩) 1 cn] 0).run Tryz.prog V=.ok () w7:=ak;have a4:=Ah ae (n:=5) rfl;have hF:=hide (Z.out.trans ((a3.below (B:=w.heap.size) (by have:=Z.out.size;omega) fun b hb (e:b=C.heap.size)=>by omega).trans (aj.below (B:=w.heap.size) (Nat.le_trans Z.out.size a3.size) fun b hb (e:b=M.heap.size)=>by omega)));have ar:=hide a4;clear av ai au a2 W ad Z a5 a3 af ak ae aj a4)
 rw [rounds_succ];go_wp2_with fail;rw [rounds_succ];go_wp2_with fail;have a4:=ar.out;exact bodyPost_ret (v:=.agg #[.int .i64 1,.int .i64 1,.slice (some ⟨w2.heap.size,0,none⟩) 1 1,.slice none 0 0,.slice (some ⟨gn,0,none⟩) 1 cn]) (by simp [results,Tryz.results56,go_sem,a4]) rfl ⟨hF.out,_,_,_,_,rfl⟩
end
end Go.Proofs.YtjejejmeddkciaaGreatDoor
namespace Go.Proofs.YtjejejmeddkciaaGreatDoor
open Go.RowKit
open K (Ah Dv EQ Kc)
attribute [-go_sem] loadCellsFrom storeCells
set_option maxHeartbeats 16000000
set_option maxRecDepth 100000
section
variable {w w':World}
theorem aC7:Cz 1 1 (fun _ _=>0) (fun _=>false) (fun _=>false):=by
 have h:∀w,Ay (fun _ _:Nat=>0) 0 w=0:=fun w=>by
  refine aDu (P:=fun w=>Ay (fun _ _:Nat=>0) 0 w=0) rfl (fun l a _=>?_) w;rw [Fs]
 refine⟨fun _ _=>rfl,fun u v _ _ _=>(h u).trans (h v).symm,?_⟩;have h1:Exp 1 (fun _ _:Nat=>0) 0 1 [0]:=Exp.row (s:=0) .start rfl;exact h1
theorem aC8:¬(⟨1,0,[],[],[]⟩:WA).nf.Large 400:=by
 rintro⟨i,l,F,M⟩;obtain⟨m,I,h⟩:=Exp.rel (R:=fun(s:List Bool) (q:Nat)=>q=0/\s=[]) (δ':=fun _ _=>0) (t0:=0) (fun x y U V h1 E=>by
  obtain⟨rfl,rfl⟩:=h1;obtain⟨rfl,rfl⟩:=E;simp) ⟨rfl,by simp [NF.st,WA.nf,NF.n,WA.n,BN]⟩ (fun s q x O C=>⟨rfl,by simp [NF.after,WA.nf,NF.n,WA.n]⟩) F
 have G:=D6 m [0] I.inv.nodup fun q J=>by
  obtain⟨s,_,C,_⟩:=h.right J;simp [C]
 have:=h.length;simp at G;omega
theorem Yt (Z:BV w):Calls Tryz.prog 55 #[.agg #[.int .i64 1,.int .i64 0,.slice none 0 0,.slice none 0 0,.slice none 0 0]] w (Ret fun r w'=>Below w.heap.size w w'/\∃u,r=.tuple #[u,.int .i64 0]/\∃b1 o1 c1 b2 o2 c2 b3 o3 c3,Wu w' u b1 o1 c1 b2 o2 c2 b3 o3 c3):=by
 have a5:(⟨1,0,[],[],[]⟩:WA).In:=(WA.ok_iff.1 (by decide)).2;refine Calls.ret (MN (a:=⟨1,0,[],[],[]⟩) ⟨none,0,none,0,none,0,rfl,Sl.nil rfl,Sl.nil rfl,Sl.nil rfl,by decide⟩ a5 ⟨by decide,by decide⟩ ⟨by decide,by decide⟩ (by decide) (by decide) Z) ?_;rintro r w' ⟨hb,⟨W,-⟩|⟨-,t,ac,d,O,-,rfl,V⟩⟩
 ·exact absurd W aC8
 have U:=V w' (Ac.refl _ _);have G:BH 1 t ac (⟨1,0,[],[],[]⟩:WA).lang:=O;obtain⟨F,-,J⟩:=G.can.unique aC7 fun w hw=>by
  simp [WA.lang,NF.lang,NF.has,WA.nf,NF.n,WA.n]
 obtain⟨A1,c1,A2,c2,rfl,h1,M⟩:=U;have C:=G.ok;obtain⟨b1,o1,Ar,I,b3,o3,rfl,l1,l3,r1,rfl,r3⟩:=aCD h1 C (q:=0) (x:=0) (by omega) (by omega);obtain⟨x,E⟩:=An (l:=ac) (i:=0) (by omega);obtain⟨b2,o2,rfl,l2,hc⟩:=M.2 (by rintro rfl;simp at E);have r2:=hc 0 x E 0 (by omega);have a6:x=false:=by
  have:=J 0 (by omega);unfold dac at this
  rwa [getD_some E] at this
 have a4:dnx t 0 0=0:=by
  obtain⟨-,-,-,-,h⟩:=C.at (q:=0) (x:=0) (by omega) (by omega);omega
 rw [a4] at r3;rw [a6] at r2;refine⟨hb,_,rfl,b1,o1,c1,b2,o2,c2,b3,o3,I,?_⟩;have ht:t.length=1:=by rw [C.len,F]
 rw [ht,F];exact⟨rfl,l1,l2,by simpa using r1,by simpa [DH] using r2,l3,by simpa using r3⟩
theorem Yj (hT:BV w):Calls Tryz.prog 22 #[.agg #[.int .i64 1,.int .i64 0,.slice none 0 0,.slice none 0 0,.slice none 0 0]] w (Ret fun r w'=>Below w.heap.size w w'/\∃S s E e,r=.tuple #[.agg #[.int .i64 1,.int .i64 1,.slice S 1 s,.slice none 0 0,.slice E 1 e],.int .i64 0]):=by
 obtain⟨w1,aQ,I,G,-⟩:=Ae w #[.int .i64 1,.int .i64 0,.slice none 0 0,.slice none 0 0,.slice none 0 0] 33;obtain⟨w2,aR,J,a4,-⟩:=Ae w1 #[.int .i64 0,.int .i64 0,.slice none 0 0,.slice none 0 0,.slice none 0 0] 33;have af:=hide (I.trans (J.mono I.size));have ax:=Ah (G.below J) (n:=5) rfl;have aa:=hide (G.below J);have ar:=hide a4;have au:=hide hT;have e1:=G.lt;have e0:=I.size;have e2:=a4.lt;have hv:Hid (Calls Tryz.prog 24 #[.agg #[.int .i64 1,.int .i64 0,.slice none 0 0,.slice none 0 0,.slice none 0 0]] w2 (Ret fun r w'=>r=.int .i64 0/\Below w2.heap.size w2 w')):=hide (Iv (a:=⟨1,0,[],[],[]⟩) ⟨none,0,none,0,none,0,rfl,Sl.nil rfl,Sl.nil rfl,Sl.nil rfl,by decide⟩);clear I J G a4 hT;go_enter Tryz.func22,Tryz.ntmps22;go_wp2_with fail;refine Calls.ret hv.out ?_;rintro r w3 ⟨rfl,h⟩;have a6:=hide (af.out.trans (h.mono af.out.size));have ay:=Ah (aa.out.below h) (n:=5) rfl;have ao:=hide (aa.out.below h);have ap:=hide (ar.out.below h);have e3:=h.size;have O:=hide (Yt (au.out.below a6.out));clear h ax;go_wp2_with fail;refine Calls.ret O.out ?_;rintro r U ⟨F,u,rfl,a1,p1,W,V,p2,Z,a3,p3,d3,hD⟩;obtain rfl:=hD.is;have ag:=hide (a6.out.trans (F.mono a6.out.size));obtain⟨w5,al,C,ab,-⟩:=Ae U #[.slice (some ⟨a1,p1,none⟩) 1 W,.slice (some ⟨V,p2,none⟩) 1 Z] 70;have aB:∀c:Array Value,c.size=2->(storeCells ⟨U.heap.size,0,none⟩ [.slice (some ⟨a1,p1,none⟩) 1 W,.slice (some ⟨V,p2,none⟩) 1 Z] 0).run Tryz.prog (U.alloc (.cells c 70))=.ok () w5:=fun c O=>by
  rw [<-al];exact Dv U 70 2 (by kernel_rfl) (rc:=#[.slice (some ⟨a1,p1,none⟩) 1 W,.slice (some ⟨V,p2,none⟩) 1 Z]) rfl (by simp [Value.oneCell']) c O
 have ah:=hide (ag.out.trans (C.mono ag.out.size));have hm:=hide (Ys (hD.next C));have az:=Ah ab (n:=2) rfl;have aq:=hide ((ap.out.below F).below C);have an:w5.cell? ⟨w.heap.size,0,none⟩=some (.int .i64 1):=((ao.out.below F).below C).cell 0;have e4:=F.size;have e5:=C.size;clear F C hD ab al O ay;go_wp2_with fail;refine Calls.ret hm.out ?_;rintro r w6 ⟨M,S,s,E,e,rfl⟩;obtain⟨w7,ak,ad,ai⟩:=Wn (aq.out.below M) #[.int .i64 1,.int .i64 1,.slice S 1 s,.slice none 0 0,.slice E 1 e] rfl (by simp [Value.oneCell']);have aP:(storeCells ⟨w1.heap.size,0,none⟩ [.int .i64 1,.int .i64 1,.slice S 1 s,.slice none 0 0,.slice E 1 e] 0).run Tryz.prog w6=.ok () w7:=ak;have aA:=hide (Ah ad (n:=5) rfl);have e6:=M.size;have av:=hide ((ah.out.trans (M.mono ah.out.size)).trans (ai.below (B:=w.heap.size) (by omega) fun b hb (e:b=w1.heap.size)=>by omega));clear M ak ad ai hm az aB an;go_wp2_with fail;have hl:=aA.out;exact bodyPost_ret (v:=.tuple #[.agg #[.int .i64 1,.int .i64 1,.slice S 1 s,.slice none 0 0,.slice E 1 e],.int .i64 0]) (by simp [results,Tryz.results22,go_sem,hl]) rfl ⟨av.out,_,_,_,_,rfl⟩
end
end Go.Proofs.YtjejejmeddkciaaGreatDoor
namespace Go.Proofs.YtjejejmeddkciaaGreatDoor
open Go.RowKit
open K (Ah Dv EQ Kc)
attribute [-go_sem] loadCellsFrom storeCells
set_option maxHeartbeats 16000000
set_option maxRecDepth 100000
structure WK (w:World) (gn gx gm s:Nat):Prop where
 ln:gn<w.heap.size
 lx:gx<w.heap.size
 lm:gm<w.heap.size
 ls:s<w.heap.size
 cn:w.cell? ⟨gn,0,none⟩=some (.slice (some ⟨gx,0,none⟩) 1 1)
 cx:w.cell? ⟨gx,0,none⟩=some (.slice none 0 0)
 cm:w.cell? ⟨gm,0,none⟩=some (.bool true)
 cs:w.cell? ⟨s,0,none⟩=some (.int .i64 0)
section
variable {w w':World} {gn gx gm s t:Nat}
theorem WK.next (h:WK w gn gx gm s) (C:Below w.heap.size w w'):WK w' gn gx gm s:=
 ⟨Nat.lt_of_lt_of_le h.ln C.size,Nat.lt_of_lt_of_le h.lx C.size,Nat.lt_of_lt_of_le h.lm C.size,Nat.lt_of_lt_of_le h.ls C.size,(C.cell (p:=⟨gn,0,none⟩) h.ln).trans h.cn,(C.cell (p:=⟨gx,0,none⟩) h.lx).trans h.cx,(C.cell (p:=⟨gm,0,none⟩) h.lm).trans h.cm,(C.cell (p:=⟨s,0,none⟩) h.ls).trans h.cs⟩
theorem Xp (h:Blk w s 3 #[.int .i64 0]):Sl w w.heap.size 1 Ai (some ⟨s,0,none⟩) [0]:=⟨by decide,fun _=>⟨_,0,rfl,h.lt,fun k d C j I=>by
 have F:=AP C;have G:k=0:=by simpa using F
 have E:j=0:=by omega
 subst G E;have:d=0:=by simpa using C.symm
 subst this;exact h.cell 0⟩⟩
theorem ZX (hs:Blk w s 3 #[.int .i64 0]) (ht:Blk w t 3 #[.int .i64 0]):Calls Tryz.prog 26 #[.agg #[.int .i64 1,.int .i64 1,.slice (some ⟨s,0,none⟩) 1 1,.slice (some ⟨t,0,none⟩) 1 1,.slice none 0 0]] w (Ret fun r w'=>Below w.heap.size w w'/\∃gn gx gm,r=.agg #[.int .i64 1,.slice (some ⟨gn,0,none⟩) 1 1,.slice (some ⟨s,0,none⟩) 1 1,.slice (some ⟨gm,0,none⟩) 1 1]/\WK w' gn gx gm s):=by
 obtain⟨w1,b9,a3,af,-⟩:=Ae w #[.int .i64 1,.int .i64 1,.slice (some ⟨s,0,none⟩) 1 1,.slice (some ⟨t,0,none⟩) 1 1,.slice none 0 0] 33;obtain⟨w2,ba,aj,ah,-⟩:=Ae w1 #[.int .i64 0,.slice none 0 0,.slice none 0 0,.slice none 0 0] 86;have V:=hide (a3.trans (aj.mono a3.size));have ag:=hide (show Blk w2 w.heap.size 33 #[.int .i64 1,.int .i64 ((1:Nat):Int),.slice (some ⟨s,0,none⟩) 1 1,.slice (some ⟨t,0,none⟩) 1 1,.slice none 0 0] from af.below aj);have aN:=hide ah;have aT:=hide (hs.below V.out);have aV:=hide (Xp (ht.below V.out));have e1:=af.lt;have e0:=a3.size;have e2:=ah.lt;have es:=hs.lt;clear a3 aj af ah hs ht;go_enter Tryz.func26,Tryz.ntmps26;go_wp2_with fail;refine Rg (n:=1) (acc:=[0]) (B:=w2.heap.size) (by omega) ag.out aV.out rfl (Nat.le_refl _) (by simp [inN]) (by repeat (first|refine Reg.NoQ.then ?_|refine Reg.NoQ.inBlock ?_|exact Reg.NoQ.body (fun _ _ h=>h) (fun _ h=>h))) ?_;iterate 13 (intro _)
 intro E g3 gn gm U;have b3:=U.blk _ (List.mem_cons_self);have bn:=U.blk _ (List.mem_cons_of_mem _ List.mem_cons_self);have Z:=U.blk _ (List.mem_cons_of_mem _ (List.mem_cons_of_mem _ List.mem_cons_self));have ak:=U.below;dsimp only at b3 bn Z;have W:Blk E g3 86 #[.int .i64 1,.slice (some ⟨gn,0,none⟩) 1 1,.slice (some ⟨s,0,none⟩) 1 1,.slice (some ⟨gm,0,none⟩) 1 1]:=b3.1;have aB:Blk E gn 67 #[.slice none 0 0]:=bn.1;have aA:Blk E gm 4 #[.bool true]:=Z.1;have x3:=b3.2;have xn:=bn.2;have xm:=Z.2;have M:=ak.trans ((Ap E).mono ak.size);have c3:E.cell? ⟨g3,1,none⟩=some (.slice (some ⟨gn,0,none⟩) 1 1):=W.cell 1;have aZ:E.drew.cell? ⟨g3,1,none⟩=some (.slice (some ⟨gn,0,none⟩) 1 1):=(W.below (Ap E)).cell 1;have aX:E.drew.cell? ⟨w.heap.size,0,none⟩=some (.int .i64 1):=(ag.out.below M).cell 0;have au:=hide (W.below (Ap E));have aL:=hide (aB.below (Ap E));have aw:=hide (aA.below (Ap E));have aq:=hide (ag.out.below M);have ar:=hide (aN.out.below M);have al:=hide (V.out.trans (M.mono V.out.size));have aJ:=hide (aT.out.below M);have b6:=M.size;clear b3 bn Z U ak W aB aA M;go_wp2_with fail;refine wp_loop_rounds 2 ?_;rw [rounds_succ];go_wp2_with fail;refine Reg.cC [0,1,0,0,8,24,63,127] [0,1,2,3,4,5,6,7] ?_ (by kernel_rfl) ?_
 rotate_left
 ·repeat (first|refine Reg.NoQ.then ?_|refine Reg.NoQ.inBlock ?_|exact Reg.NoQ.body (fun _ _ h=>h) (fun _ h=>h))
 refine Reg.rest_walk' [0,1,2,3,4] [5,6,7] rfl (by kernel_rfl) ?_;intro Qf I;go_wp2_with fail;first|refine I _ _ ?_|skip
 (try clear I);refine Reg.rest_act' 5 [6,7] [1] rfl (by kernel_rfl) ?_;intro Qf I;simp only [gT,gS,gZ];refine LG Tryz.underlying67 Hu (by omega) (by omega) 1 (by omega) rfl _ _ rfl rfl rfl ?_;intro gx w5 aH C aP;first|refine I _ _ ⟨Reg.same_below C _ rfl,?_⟩|refine⟨Reg.same_below C _ rfl,?_⟩
 (try clear I);have ae:Blk w5 gx 24 #[.slice none 0 0]:=by
  have h9:=aH;rw [show(Value.slice none 0 0).cells=#[Value.slice none 0 0] from rfl,QU] at h9;exact h9
 have F:=aL.out.below C;obtain⟨G,a4⟩:∃G,G=w5.setCell ⟨gn,0,none⟩ (.slice (some ⟨gx,0,none⟩) 1 1):=⟨_,rfl⟩;have aU:=W3 (F.cell 0) (F.frozen 0) (v:=.slice (some ⟨gx,0,none⟩) 1 1) rfl;rw [<-a4] at aU;have J:Ac w5 G (fun k=>k=gn):=by rw [a4];exact(Ac.refl w5 (fun k=>k=gn)).setCell (p:=⟨gn,0,none⟩) (fun _=>rfl) _
 have ax:Blk G gn 67 #[.slice (some ⟨gx,0,none⟩) 1 1]:=by rw [a4];exact F.set_ 0 _
 have az:=ae.kept J (Blk.ne_ ae F (by decide));have a8:=(au.out.below C).kept J (Blk.ne_ (au.out.below C) F (by decide));have av:=(aw.out.below C).kept J (Blk.ne_ (aw.out.below C) F (by decide));have ap:=(aq.out.below C).kept J (Blk.ne_ (aq.out.below C) F (by decide));have a7:=(ar.out.below C).kept J (Blk.ne_ (ar.out.below C) F (by decide));have ay:=(aJ.out.below C).kept J (Blk.ne_ (aJ.out.below C) F (by decide));have ai:=al.out.trans ((C.mono al.out.size).trans (J.below (Nat.le_trans al.out.size C.size) fun b hb (e:b=gn)=>by have:=V.out.size;omega));have aY:G.cell? ⟨g3,1,none⟩=some (.slice (some ⟨gn,0,none⟩) 1 1):=a8.cell 1;have aW:G.cell? ⟨w.heap.size,4,none⟩=some (.slice none 0 0):=ap.cell 4;have b7:(loadCellsFrom ⟨g3,0,none⟩ 0 4 #[]).run Tryz.prog G=.ok #[.int .i64 1,.slice (some ⟨gn,0,none⟩) 1 1,.slice (some ⟨s,0,none⟩) 1 1,.slice (some ⟨gm,0,none⟩) 1 1] G:=Ah a8 rfl;obtain⟨w7,aK,aG,am⟩:=Wn a7 #[.int .i64 1,.slice (some ⟨gn,0,none⟩) 1 1,.slice (some ⟨s,0,none⟩) 1 1,.slice (some ⟨gm,0,none⟩) 1 1] rfl (by simp [Value.oneCell']);have b8:(storeCells ⟨w1.heap.size,0,none⟩ [.int .i64 1,.slice (some ⟨gn,0,none⟩) 1 1,.slice (some ⟨s,0,none⟩) 1 1,.slice (some ⟨gm,0,none⟩) 1 1] 0).run Tryz.prog G=.ok () w7:=aK;have aR:=hide (Ah aG (n:=4) rfl);have O:∀{g:Nat} {ty:TypeId} {cs:Array Value},Blk G g ty cs->ty≠86->Blk w7 g ty cs:=fun hB aS=>hB.kept am (Blk.ne_ hB a7 aS);have aa:=O ax (by decide);have ad:=O az (by decide);have a9:=O av (by decide);have ab:=O ay (by decide)
 have hF:=hide (show Below w.heap.size w w7/\∃aD aM aC,Value.agg #[.int .i64 1,.slice (some ⟨gn,0,none⟩) 1 1,.slice (some ⟨s,0,none⟩) 1 1,.slice (some ⟨gm,0,none⟩) 1 1]=.agg #[.int .i64 1,.slice (some ⟨aD,0,none⟩) 1 1,.slice (some ⟨s,0,none⟩) 1 1,.slice (some ⟨aC,0,none⟩) 1 1]/\WK w7 aD aM aC s from
  ⟨ai.trans (am.below ai.size fun b hb (e:b=w1.heap.size)=>by omega),gn,gx,gm,rfl,⟨aa.lt,ad.lt,a9.lt,ab.lt,aa.cell 0,ad.cell 0,a9.cell 0,ab.cell 0⟩⟩)
 clear ae aH C F a4 J ax az a8 av ap a7 ay ai aK aG am O aa ad a9 ab aP;refine Reg.rest_walk' [6,7] [] rfl (by kernel_rfl) ?_;intro Qf I;go_wp2_with fail;first|refine I _ _ ?_|skip
 (try clear I);refine Reg.rest_end ?_;go_wp2_with fail;rw [rounds_succ];go_wp2_with fail;refine wp_loop_rounds 1 ?_;rw [rounds_succ];go_wp2_with fail;have hl:=aR.out;exact bodyPost_ret (v:=.agg #[.int .i64 1,.slice (some ⟨gn,0,none⟩) 1 1,.slice (some ⟨s,0,none⟩) 1 1,.slice (some ⟨gm,0,none⟩) 1 1]) (by simp [results,Tryz.results26,go_sem,hl]) rfl hF.out
end
end Go.Proofs.YtjejejmeddkciaaGreatDoor
namespace Go.Proofs.YtjejejmeddkciaaGreatDoor
open Go.RowKit
set_option maxHeartbeats 16000000
set_option maxRecDepth 100000
section
variable {w w':World} {gn gx gm s t:Nat}
theorem YC (h:WK w gn gx gm s):Calls Tryz.prog 116 #[.agg #[.int .i64 1,.slice (some ⟨gn,0,none⟩) 1 1,.slice (some ⟨s,0,none⟩) 1 1,.slice (some ⟨gm,0,none⟩) 1 1]] w (Ret fun r w'=>Below w.heap.size w w'/\∃g,r=.slice (some ⟨g,0,none⟩) 1 1/\Blk w' g 3 #[.int .i64 0]):=by
 obtain⟨w1,b7,ak,a7,-⟩:=Ae w #[.int .i64 1,.slice (some ⟨gn,0,none⟩) 1 1,.slice (some ⟨s,0,none⟩) 1 1,.slice (some ⟨gm,0,none⟩) 1 1] 86;obtain⟨C,w2,az,ax,a8,aH⟩:=Et w1 1 (by omega);have b5:(Instr.makeSlice 24 (.int .i64 1) (.int .i64 1)).run Tryz.prog w1=.ok (.slice (some ⟨C,0,none⟩) 1 1) w2:=az;obtain⟨gb,E,aA,aw,a9,aG⟩:=Ra w2 1 (by omega);have b6:(Instr.makeSlice 67 (.int .i64 1) (.int .i64 1)).run Tryz.prog w2=.ok (.slice (some ⟨gb,0,none⟩) 1 1) E:=aA;have I:Blk E C 3 #[.int .i64 0]:=ax.below a9;have U:Blk E gb 24 #[.slice none 0 0]:=aw;have s1:=ak.size;have s2:=a8.size;have ah:=ak.trans (a8.mono s1);have J:=ah.trans (a9.mono ah.size);have af:=a7.below a8;have ag:=af.below a9;have a1:w1.cell? ⟨w.heap.size,1,none⟩=some (.slice (some ⟨gn,0,none⟩) 1 1):=a7.cell 1;have a2:w2.cell? ⟨w.heap.size,1,none⟩=some (.slice (some ⟨gn,0,none⟩) 1 1):=af.cell 1;have a3:E.cell? ⟨w.heap.size,1,none⟩=some (.slice (some ⟨gn,0,none⟩) 1 1):=ag.cell 1;have h3:=h.next J
 have a4:=h3.cn;have aP:E.cell? ⟨C,0,none⟩=some (.int .i64 0):=I.cell 0;have aU:=I.frozen 0;obtain⟨F,ab⟩:∃F,F=E.setCell ⟨C,0,none⟩ (.int .i64 (-1)):=⟨_,rfl⟩;have G:Ac E F (fun k=>k=C):=by rw [ab];exact(Ac.refl E (fun k=>k=C)).setCell (p:=⟨C,0,none⟩) (fun _=>rfl) _
 have W:Blk F C 3 #[.int .i64 (-1)]:=by rw [ab];exact I.set_ 0 _
 have b8:=ab.symm;have l0:=a7.lt;have aT:w.heap.size<=C:=by omega
 have c4:∀{g:Nat} {v:Value},E.cell? ⟨g,0,none⟩=some v->g<w.heap.size->F.cell? ⟨g,0,none⟩=some v:=fun {g v} hc hg=>(G.cell (p:=⟨g,0,none⟩) (by show g<E.heap.size;have:=J.size;omega) (by show ¬(g=C);omega)).trans hc;have x4:=c4 h3.cx h.lx;have ao:=ag.kept G (by show w.heap.size≠C;omega);have m3:F.cell? ⟨w.heap.size,3,none⟩=some (.slice (some ⟨gm,0,none⟩) 1 1):=ao.cell 3;have m4:=c4 h3.cm h.lm;have aQ:F.cell? ⟨C,0,none⟩=some (.int .i64 (-1)):=W.cell 0;have aV:=W.frozen 0;obtain⟨w5,ad⟩:∃w5,w5=F.setCell ⟨C,0,none⟩ (.int .i64 0):=⟨_,rfl⟩;have al:Ac F w5 (fun k=>k=C):=by rw [ad];exact(Ac.refl F (fun k=>k=C)).setCell (p:=⟨C,0,none⟩) (fun _=>rfl) _
 have Z:Blk w5 C 3 #[.int .i64 0]:=by rw [ad];exact W.set_ 0 _
 have b9:=ad.symm;have V:=(U.kept G (Blk.ne_ U I (by decide))).kept al (Blk.ne_ (U.kept G (Blk.ne_ U I (by decide))) W (by decide));have O:=(J.trans (G.below J.size fun b hb (e:b=C)=>by omega)).trans (al.below (Nat.le_trans J.size G.size) fun b hb (e:b=C)=>by omega);have M:=hide (And.intro Z (And.intro V O));clear ak a8 a9 a7 ax aw az aA ah J af ag h3 G al ab ad I U W Z V O ao c4 h aH aG s1 s2 l0;go_enter Tryz.func116,Tryz.ntmps116;go_wp2_with fail;refine wp_loop_rounds 2 ?_;rw [rounds_succ];go_wp2_with fail;refine wp_loop_rounds 2 ?_;rw [rounds_succ];go_wp2_with fail;refine wp_loop_rounds 1 ?_;rw [rounds_succ];go_wp2_with fail;rw [rounds_succ]
 go_wp2_with (
  at_builtin;refine BP C9 rfl _ _ rfl w5.heap.size (.slice none 0 0) 0 _ rfl (World.ownsRow_nil _ _ _ _) [.int .i64 0] 1 rfl rfl (by simp [Value.oneCell']) (by omega) (Nat.le_refl _) ?_;intro gq cq w6 am ay aJ b4;obtain⟨Z,V,O⟩:=M.out;have aa:=ay.below' (fun b hb e=>by cases e);have aq:=Z.below aa;have ap:=V.below aa;have ar:=O.trans (aa.mono O.size);obtain⟨aX,aR,eQ,au⟩:=C7 am (k:=0) (u:=.int .i64 0) rfl;cases eQ;have q6:w6.cell? ⟨gq,0,none⟩=some (.int .i64 0):=au;have y6:w6.cell? ⟨gb,0,none⟩=some (.slice none 0 0):=ap.cell 0;have b0:1<=cq:=(by rcases am.2 with⟨e,_⟩|⟨g',c',aS,e,h1,h2,h3,h4⟩ <;> (cases e;try omega));have hF:=hide (show Below w.heap.size w w6/\∃g,Value.slice (some ⟨C,0,none⟩) 1 1=.slice (some ⟨g,0,none⟩) 1 1/\Blk w6 g 3 #[.int .i64 0] from⟨ar,C,rfl,aq⟩);clear am ay aJ aa Z V O aq ap ar au)
 rw [rounds_succ];go_wp2_with fail;refine wp_loop_rounds 2 ?_;rw [rounds_succ];go_wp2_with fail;refine wp_loop_rounds 1 ?_;rw [rounds_succ];go_wp2_with fail
 all_goals
  rw [rounds_succ];go_wp2_with fail;exact bodyPost_ret (v:=.slice (some ⟨C,0,none⟩) 1 1) (by simp [results,Tryz.results116,go_sem]) rfl hF.out
theorem aAA (h:WK w gn gx gm s):Calls Tryz.prog 57 #[.agg #[.int .i64 1,.slice (some ⟨gn,0,none⟩) 1 1,.slice (some ⟨s,0,none⟩) 1 1,.slice (some ⟨gm,0,none⟩) 1 1]] w (Ret fun r w'=>Below w.heap.size w w'/\r=.tuple #[.slice none 0 0,.bool true]):=by
 obtain⟨w1,au,a2,Z,-⟩:=Ae w #[.int .i64 1,.slice (some ⟨gn,0,none⟩) 1 1,.slice (some ⟨s,0,none⟩) 1 1,.slice (some ⟨gm,0,none⟩) 1 1] 86;have ai:=Z.cell;have h1:=h.next a2
 have J:=hide (YC h1);have ah:=hide Z;have a3:=hide a2;have ag:=hide h1;clear a2 Z h h1;go_enter Tryz.func57,Tryz.ntmps57;go_wp2_with fail;refine Calls.ret J.out ?_;rintro r w2 ⟨G,g,rfl,hG⟩;obtain⟨C,av,I,a7,-⟩:=Ae w2 #[.slice (some ⟨g,0,none⟩) 1 1] 24;have W:=(ag.out.next G).next I
 have a6:=hide ((a3.out.trans (G.mono a3.out.size)).trans (I.mono (Nat.le_trans a3.out.size G.size)));have am:C.cell? ⟨w.heap.size,2,none⟩=some (.slice (some ⟨s,0,none⟩) 1 1):=((ah.out.below G).below I).cell 2;have af:=W.cs;have c3:C.cell? ⟨w2.heap.size,0,none⟩=some (.slice (some ⟨g,0,none⟩) 1 1):=a7.cell 0;have ap:C.cell? ⟨g,0,none⟩=some (.int .i64 0):=(hG.below I).cell 0;have ab:=hide (GY (w:=C) (B:=C.heap.size) (A:=some ⟨s,0,none⟩) (c:=1) (l:=[0]) ⟨by decide,fun _=>⟨_,0,rfl,W.ls,fun k d J j hj=>by
  have hk:=AP J;have al:k=0:=by simpa using hk
  have aj:j=0:=by omega
  subst al aj;have:d=0:=by simpa using J.symm
  subst this;exact af⟩⟩ (by simp))
 have ad:Hid (Calls Tryz.prog 27 #[.slice (some ⟨s,0,none⟩) 1 1] C (Ret fun r w'=>w'.ownsRow C.heap.size 3 1 r (CL [0]).length ((CL [0]).map (Value.int .i64))/\Below C.heap.size C w')):=hide ab.out;clear G I a7 hG W ab J ai;go_wp2_with fail;refine wp_loop_rounds 2 ?_;rw [rounds_succ];go_wp2_with fail;rw [rounds_succ];go_wp2_with fail;refine Calls.ret ad.out ?_;rintro r E ⟨-,a9⟩;obtain⟨V,aw,a4,O,-⟩:=Ae E #[.int .i64 0] 3;have c5:V.cell? ⟨E.heap.size,0,none⟩=some (.int .i64 0):=O.cell 0;have f5:=O.frozen 0;obtain⟨M,U⟩:∃M,M=V.setCell ⟨E.heap.size,0,none⟩ (.int .i64 0):=⟨_,rfl⟩;have aa:Ac V M (fun k=>k=E.heap.size):=by rw [U];exact(Ac.refl V (fun k=>k=E.heap.size)).setCell (p:=⟨E.heap.size,0,none⟩) (fun _=>rfl) _
 have B6:Blk M E.heap.size 3 #[.int .i64 0]:=by rw [U];exact O.set_ 0 _
 have c6:M.cell? ⟨E.heap.size,0,none⟩=some (.int .i64 0):=B6.cell 0;have ax:=U.symm;have F:=a6.out.trans (a9.mono a6.out.size);have ae:=hide ((F.trans (a4.mono F.size)).trans (aa.below (Nat.le_trans F.size a4.size) fun b hb (e:b=E.heap.size)=>by have:=F.size;omega));clear a9 a4 O ad U aa B6 F;go_wp2_with fail;refine wp_loop_rounds 1 ?_;rw [rounds_succ];go_wp2_with fail;exact bodyPost_ret (v:=.tuple #[.slice none 0 0,.bool true]) (by simp [results,Tryz.results57,go_sem]) rfl ⟨ae.out,rfl⟩
end
end Go.Proofs.YtjejejmeddkciaaGreatDoor
namespace Go.Proofs.YtjejejmeddkciaaGreatDoor
open Go.RowKit
open K (Ah Dv EQ Kc)
attribute [-go_sem] loadCellsFrom storeCells
set_option maxHeartbeats 16000000
set_option maxRecDepth 100000
section
variable {w w':World} {gn gx gm s t:Nat}
theorem Yn (F:Blk w s 3 #[.int .i64 0]) (ht:Blk w t 3 #[.int .i64 0]):Calls Tryz.prog 23 #[.agg #[.int .i64 1,.int .i64 1,.slice (some ⟨s,0,none⟩) 1 1,.slice (some ⟨t,0,none⟩) 1 1,.slice none 0 0]] w (Ret fun r w'=>Below w.heap.size w w'/\r=.tuple #[.slice none 0 0,.bool true,.int .i64 0]):=by
 obtain⟨G,a9,h,E,-⟩:=Ae w #[.int .i64 1,.int .i64 1,.slice (some ⟨s,0,none⟩) 1 1,.slice (some ⟨t,0,none⟩) 1 1,.slice none 0 0] 33;have a3:=Ah E (n:=5) rfl;have a5:=hide (F.below h);have a7:=hide (ht.below h);have O:=hide h;have Z:=hide E;have hv:Hid (Calls Tryz.prog 24 #[.agg #[.int .i64 1,.int .i64 1,.slice (some ⟨s,0,none⟩) 1 1,.slice (some ⟨t,0,none⟩) 1 1,.slice none 0 0]] G (Ret fun r w'=>r=.int .i64 0/\Below G.heap.size G w')):=hide (Iv (a:=⟨1,1,[0],[0],[]⟩) ⟨_,1,_,1,none,0,rfl,Xp (F.below h),Xp (ht.below h),Sl.nil rfl,by decide⟩);clear h E F ht;go_enter Tryz.func23,Tryz.ntmps23;go_wp2_with fail;refine Calls.ret hv.out ?_;rintro r w2 ⟨rfl,C⟩;have a4:=Ah (Z.out.below C) (n:=5) rfl;have W:=hide (ZX (a5.out.below C) (a7.out.below C));have J:=hide (O.out.trans (C.mono O.out.size));clear C a3;go_wp2_with fail;refine Calls.ret W.out ?_;rintro r w3 ⟨U,gn,gx,gm,rfl,I⟩;have a6:=hide (aAA I);have M:=hide (J.out.trans (U.mono J.out.size));clear U I a4 W;go_wp2_with fail;refine Calls.ret a6.out ?_;rintro r w4 ⟨V,rfl⟩;have a2:=hide (M.out.trans (V.mono M.out.size));clear V;go_wp2_with fail;exact bodyPost_ret (v:=.tuple #[.slice none 0 0,.bool true,.int .i64 0]) (by simp [results,Tryz.results23,go_sem]) rfl ⟨a2.out,rfl⟩
theorem W7 (Z:BV w):Calls Tryz.prog 8 #[] w (Ret fun v w'=>v=.bool true/\Below w.heap.size w w'):=by
 have a3:=hide (Yj Z);clear Z;go_enter Tryz.func8,Tryz.ntmps8;go_wp2_with fail;refine Calls.ret a3.out ?_;rintro v C ⟨h,E,c1,F,c3,rfl⟩;obtain⟨w2,a5,G,U,-⟩:=Ae C #[.int .i64 1,.int .i64 1,.slice E 1 c1,.slice none 0 0,.slice F 1 c3] 33;have ab:∀c:Array Value,c.size=5->(storeCells ⟨C.heap.size,0,none⟩ [.int .i64 1,.int .i64 1,.slice E 1 c1,.slice none 0 0,.slice F 1 c3] 0).run Tryz.prog (C.alloc (.cells c 33))=.ok () w2:=fun c hc=>by
  rw [<-a5];exact Dv C 33 5 (by kernel_rfl) (rc:=#[.int .i64 1,.int .i64 1,.slice E 1 c1,.slice none 0 0,.slice F 1 c3]) rfl (by simp [Value.oneCell']) c hc
 obtain⟨w3,ad,J,V,-⟩:=Ae w2 #[.int .i64 0] 3;obtain⟨w4,ae,M,W,-⟩:=Ae w3 #[.int .i64 0] 3;have I:=J.trans (M.mono J.size);have a4:=hide (Yn (V.below M) W);have a6:=hide (U.below I);have a2:=hide ((h.trans (G.mono h.size)).trans (I.mono (Nat.le_trans h.size G.size)));clear a3 h G U J V M W I a5;go_wp2_with fail;refine Calls.ret a4.out ?_;rintro v w5 ⟨O,rfl⟩;have aa:=(a6.out.below O).cell;have a7:=hide (a2.out.trans (O.mono a2.out.size));clear a4 O;go_wp2_with fail;go_ret;exact⟨rfl,a7.out⟩
end
end Go.Proofs.YtjejejmeddkciaaGreatDoor
