/-
  Part UA of a proof.
-/
import Derived.LoopN
import Derived.ScopeJumps
import Derived.Test.YtfcfpoemojjglaaGreatDoorPA
import Derived.Test.YtfcfpoemojjglaaGreatDoorPS
import Derived.Test.YtfcfpoemojjglaaGreatDoorPE
set_option maxHeartbeats 16000000
set_option maxRecDepth 100000
set_option linter.unusedVariables false
set_option linter.unusedSimpArgs false
namespace Go.Proofs.YtfcfpoemojjglaaGreatDoor
open Go.RowKit
set_option maxHeartbeats 16000000
set_option maxRecDepth 100000
structure Wv (w:World) (v:Value) (z:Int) (b o c:Nat):Prop where
 is:v=.slice (some ⟨b,o,none⟩) 1 c
 lt:b<w.heap.size
 cell:w.cell? ⟨b,o,none⟩=some (.int .i64 z)
structure Wu (w:World) (v:Value) (b1 o1 c1 b2 o2 c2 b3 o3 c3:Nat):Prop where
 is:v=.agg #[.slice (some ⟨b1,o1,none⟩) 1 c1,.slice (some ⟨b2,o2,none⟩) 1 c2]
 l1:b1<w.heap.size
 l2:b2<w.heap.size
 r1:w.cell? ⟨b1,o1,none⟩=some (.slice (some ⟨b3,o3,none⟩) 1 c3)
 r2:w.cell? ⟨b2,o2,none⟩=some (.bool false)
 l3:b3<w.heap.size
 r3:w.cell? ⟨b3,o3,none⟩=some (.int .i64 0)
def WC (w0 w:World) (v:Value):Prop:=∃b1 o1 c1 b2 o2 c2 b3 o3 c3,Wu w v b1 o1 c1 b2 o2 c2 b3 o3 c3∧w0.heap.size≤b1∧w0.heap.size≤b2∧w0.heap.size≤b3
section
variable {w w':World} {v u:Value} {b1 o1 c1 b2 o2 c2 b3 o3 c3 b o c:Nat} {z:Int}
theorem Wv.next (h:Wv w v z b o c) (x:Below w.heap.size w w'):Wv w' v z b o c:=⟨h.is,Nat.lt_of_lt_of_le h.lt x.size,(x.cell (p:=⟨b,o,none⟩) h.lt).trans h.cell⟩
theorem Wu.next (h:Wu w v b1 o1 c1 b2 o2 c2 b3 o3 c3) (x:Below w.heap.size w w'):Wu w' v b1 o1 c1 b2 o2 c2 b3 o3 c3:=
 ⟨h.is,Nat.lt_of_lt_of_le h.l1 x.size,Nat.lt_of_lt_of_le h.l2 x.size,(x.cell (p:=⟨b1,o1,none⟩) h.l1).trans h.r1,(x.cell (p:=⟨b2,o2,none⟩) h.l2).trans h.r2,Nat.lt_of_lt_of_le h.l3 x.size,(x.cell (p:=⟨b3,o3,none⟩) h.l3).trans h.r3⟩
theorem ZZ (h:Wu w v b1 o1 c1 b2 o2 c2 b3 o3 c3):Calls Tryz.prog 165 #[v] w (Ret fun r w'=>Below w.heap.size w w'∧∃g,r=.tuple #[.slice (some ⟨g,0,none⟩) 1 1,.int .i64 1]∧w.heap.size≤g∧Wv w' (.slice (some ⟨g,0,none⟩) 1 1) 0 g 0 1):=by
 obtain⟨rfl,l1,l2,r1,r2,l3,r3⟩:=h
 obtain⟨w1,az,a3,Z,-⟩:=Ae w #[.slice (some ⟨b1,o1,none⟩) 1 c1,.slice (some ⟨b2,o2,none⟩) 1 c2] 78
 obtain⟨x,w2,aa,a7,M,ai⟩:=Et w1 1 (by omega)
 have aw:(Instr.makeSlice 24 (.int .i64 1) (.int .i64 1)).run Tryz.prog w1=.ok (.slice (some ⟨x,0,none⟩) 1 1) w2:=aa
 clear aa
 obtain⟨gm,C,ax,I,G,ah⟩:=F1 264 w2
 have ab:=a3.size
 have al:=M.size
 have am:=G.size
 have F:Below w.heap.size w C:=a3.trans ((M.mono ab).trans (G.mono (by omega)))
 have ao:=Z.cell
 have ap:=((Z.below M).below G).cell
 have q2:C.cell? ⟨b2,o2,none⟩=some (.bool false):=(F.cell (p:=⟨b2,o2,none⟩) l2).trans r2
 have E:Blk C x 3 #[.int .i64 0]:=a7.below G
 have aj:=Ft Gy Tryz.underlying264 Fa (show Bw C gm (([]:List Bool).map Value.bool) from I) false
 simp only [List.not_mem_nil,if_false,decide_false] at aj
 obtain⟨W,ac,U,a8,an⟩:=EY Gy Tryz.underlying264 (show Bw C gm (([]:List Bool).map Value.bool) from I) false (by simp)
 have ay:(Instr.mapUpdate 264 (.map (some gm)) (.bool false) (.int .i64 0)).run Tryz.prog C=.ok () W:=ac
 have au:∀ty,(Builtin.len_ #[264] ty #[.map (some gm)]).run Tryz.prog C=.ok (.int .i64 0) C:=fun ty=>by simpa using GS (ty:=ty) Tryz.underlying264 I
 have O:=Ac.of_grown a8
 have a5:x≠gm:=fun e=>by
  obtain⟨es,cl,h1,-⟩:=I
  unfold Blk at E
  rw [e,h1] at E
  injection E with E
  cases E
 have J:=E.kept O (fun e=>a5 (Option.some.inj e).symm)
 have ak:=KV Gy Tryz.underlying264 U (s:=false) (by simp)
 rw [show(Ax ([]++[false]) false:Int)=0 from rfl] at ak
 obtain⟨y,V⟩:∃y,y=W.setCell ⟨x,0,none⟩ (.int .i64 0):=⟨_,rfl⟩
 have a4:Ac W y (fun b=>b=x):=by rw [V]; exact(Ac.refl W (fun b=>b=x)).setCell (p:=⟨x,0,none⟩) (fun _=>rfl) _
 have a2:Blk y x 3 #[.int .i64 0]:=by rw [V]; exact J.set_ 0 (.int .i64 0)
 have a9:=U.keep (a4.block gm U.lt (fun e=>a5 e.symm))
 have av:∀ty,(Builtin.len_ #[264] ty #[.map (some gm)]).run Tryz.prog y=.ok (.int .i64 1) y:=fun ty=>by simpa using GS (ty:=ty) Tryz.underlying264 a9
 have aq:=J.cell 0
 have ar:=J.frozen 0
 have aA:=V.symm
 have a6:Below w.heap.size w y:=(F.trans (O.below F.size fun b hb e=>by have:=Option.some.inj e; omega)).trans (a4.below (Nat.le_trans F.size O.size) fun b hb (e:b=x)=>by omega)
 have hF:=hide (show Below w.heap.size w y∧∃g,Value.tuple #[.slice (some ⟨x,0,none⟩) 1 1,.int .i64 1]=.tuple #[.slice (some ⟨g,0,none⟩) 1 1,.int .i64 1]∧w.heap.size≤g∧Wv y (.slice (some ⟨g,0,none⟩) 1 1) 0 g 0 1 from⟨a6,x,rfl,by omega,rfl,a2.lt,a2.cell 0⟩)
 clear ac a7 I U a8 an O a4 a2 a9 V a6 J E F a3 M G Z r1 r2 r3 l1 l2 l3 ai ah ab al am a5
 go_enter Tryz.func165,Tryz.ntmps165
 go_wp2_with fail
 refine wp_loop_rounds 2 ?_
 rw [rounds_succ]
 go_wp2_with fail
 rw [rounds_succ]
 go_wp2_with fail
 exact bodyPost_ret (v:=.tuple #[.slice (some ⟨x,0,none⟩) 1 1,.int .i64 1]) (by simp [results,Tryz.results165,go_sem]) rfl hF.out
theorem aAD (h:Wu w v b1 o1 c1 b2 o2 c2 b3 o3 c3) (hc:Wv w u 0 b o c) (hT:BV w):Calls Tryz.prog 166 #[v,u] w (Ret fun r w'=>Below w.heap.size w w'∧∃g,r=.tuple #[.slice (some ⟨g,0,none⟩) 1 1,.int .i64 1]∧w.heap.size≤g∧Wv w' (.slice (some ⟨g,0,none⟩) 1 1) 0 g 0 1):=by
 obtain⟨rfl,l1,l2,r1,r2,l3,r3⟩:=h
 obtain⟨rfl,lc,rc⟩:=hc
 obtain⟨w1,bv,ao,ag,-⟩:=Ae w #[.slice (some ⟨b1,o1,none⟩) 1 c1,.slice (some ⟨b2,o2,none⟩) 1 c2] 78
 obtain⟨gm,w2,bq,ab,a4,bj⟩:=F1 221 w1
 obtain⟨x,G,aP,aG,O,bk⟩:=Et w2 1 (by omega)
 have bp:(Instr.makeSlice 24 (.int .i64 1) (.int .i64 1)).run Tryz.prog w2=.ok (.slice (some ⟨x,0,none⟩) 1 1) G:=aP
 have b5:=ao.size
 have bs:=a4.size
 have bt:=O.size
 have am:Below w.heap.size w G:=ao.trans ((a4.mono b5).trans (O.mono (by omega)))
 have V:Blk G x 3 #[.int .i64 0]:=aG
 have ar:=ab.keep (O.block gm ab.lt)
 have bl:=ag.lt
 obtain⟨y,ac⟩:∃y,y=G.setCell ⟨x,0,none⟩ (.int .i64 (-1)):=⟨_,rfl⟩
 have a6:Ac G y (fun b=>b=x):=by rw [ac]; exact(Ac.refl G (fun b=>b=x)).setCell (p:=⟨x,0,none⟩) (fun _=>rfl) _
 have aj:Blk y x 3 #[.int .i64 (-1)]:=by rw [ac]; exact V.set_ 0 (.int .i64 (-1))
 have aw:x≠gm:=fun e=>by have:=ab.lt; omega
 have a9:=ar.keep (a6.block gm ar.lt (fun e=>aw e.symm))
 have ah:=((ag.below a4).below O).kept a6 (by show w.heap.size≠x; omega)
 have J:=am.trans (a6.below am.size fun b Z (e:b=x)=>by omega)
 have be:=V.cell 0
 have bg:=V.frozen 0
 have bw:=ac.symm
 have bc:=ah.cell
 have q4:y.cell? ⟨b,o,none⟩=some (.int .i64 0):=(J.cell (p:=⟨b,o,none⟩) lc).trans rc
 obtain⟨w5,bx,F,ay,-⟩:=Ae y #[.int .i64 0] 3
 have M:=J.trans (F.mono J.size)
 have bd:=(ah.below F).cell
 have q5:w5.cell? ⟨b,o,none⟩=some (.int .i64 0):=(M.cell (p:=⟨b,o,none⟩) lc).trans rc
 have t5:w5.cell? ⟨b1,o1,none⟩=some (.slice (some ⟨b3,o3,none⟩) 1 c3):=(M.cell (p:=⟨b1,o1,none⟩) l1).trans r1
 have s5:w5.cell? ⟨b3,o3,none⟩=some (.int .i64 0):=(M.cell (p:=⟨b3,o3,none⟩) l3).trans r3
 have ai:=hide (DD (base:=y.heap.size) (n:=1) ay (Nat.le_refl _) rfl (by omega))
 have b6:=F.size
 have br:=J.size
 have aN:=hide (a9.keep (F.block gm a9.lt))
 have aA:=hide (aj.below F)
 have an:=hide M
 have aX:=hide hT
 have aZ:=a9.lt
 have b4:=aj.lt
 clear aG ab ar V a9 aj a6 ac ao a4 O F am J M ag ah ay aP rc r1 r2 r3 hT
 go_enter Tryz.func166,Tryz.ntmps166
 go_wp2_with fail
 refine wp_loop_rounds 2 ?_
 rw [rounds_succ]
 go_wp2_with fail
 refine wp_loop_rounds 2 ?_
 rw [rounds_succ]
 go_wp2_with (at_builtin; refine BP C9 rfl _ _ rfl y.heap.size (.slice (some ⟨y.heap.size,0,none⟩) 1 1) 1 _ rfl ai.out [.int .i64 0] 1 rfl rfl (by simp [Value.oneCell']) (by omega) b6 ?_; intro g7 U w6 aQ a7 b0 bi)
 have az:w6.ownsRow y.heap.size 3 1 (.slice (some ⟨g7,0,none⟩) 2 U) 2 ((Ak [0,0]).map (Value.int .i64)):=aQ
 have hX:∀b,b<y.heap.size→¬((Value.slice (some ⟨y.heap.size,0,none⟩) 1 1).ownBlock=some b):=fun b Z e=>by have h9:y.heap.size≤b:=Bb ai.out e; omega
 have au:=hide (aN.out.keep (a7.block gm (by omega) (hX gm aZ)))
 have aB:=hide (aA.out.kept a7 (hX x b4))
 have a2:=hide (an.out.trans (a7.below an.out.size fun b Z=>hX b (by omega)))
 obtain⟨g0,c0,e0,aD,aH⟩:=Rq az (l:=[0,0]) rfl (by omega) (by omega)
 injection e0 with I _ e3
 injection I with I
 injection I with I
 subst I e3
 have aJ:=Tryz.slices_Contains_int g7 0 2 U [0,0] (-1) w6 (by decide) (by decide) aH
 have aK:Calls Tryz.prog 74 #[.slice (some ⟨g7,0,none⟩) 2 U,.int .i64 (-1)] w6 fun e w'=>e=.returned (.bool false)∧w'=w6:=aJ
 have aM:=hide (JN (l:=[0,0]) (c:=U) aD (Nat.le_refl _) (by simp) (by simp) (aX.out.below a2.out))
 clear aQ a7 b0 az aD aH aN aA an ai aJ
 go_wp2_with fail
 rw [rounds_succ]
 go_wp2_with fail
 refine Calls.mono aK ?_
 rintro e wb ⟨rfl,rfl⟩
 go_wp2_with fail
 refine Calls.ret aM.out ?_
 rintro r E ⟨rfl,a5⟩
 have aa:=au.out.keep (a5.block gm au.out.lt)
 have aC:=aB.out.below a5
 have a3:=a2.out.trans (a5.mono a2.out.size)
 have aq:=Ft FV Tryz.underlying221 Fa (show Bw E gm (([]:List (List Nat)).map Dq) from aa) [0,0]
 simp only [List.not_mem_nil,if_false,decide_false] at aq
 obtain⟨w8,aR,av,aL,b7⟩:=EY FV Tryz.underlying221 (show Bw E gm (([]:List (List Nat)).map Dq) from aa) [0,0] (by simp)
 have bu:(Instr.mapUpdate 221 (.map (some gm)) (.string ⟨(Cw [0,0]).toArray⟩) (.int .i64 0)).run Tryz.prog E=.ok () w8:=aR
 have bo:(Instr.lookup 221 (.map (some gm)) (.string ⟨(Cw [0,0]).toArray⟩) true).run Tryz.prog E=.ok (.tuple #[.int .i64 0,.bool false]) E:=aq
 have bm:∀ty,(Builtin.len_ #[221] ty #[.map (some gm)]).run Tryz.prog E=.ok (.int .i64 0) E:=fun ty=>by simpa using GS (ty:=ty) Tryz.underlying221 aa
 have a8:=Ac.of_grown aL
 have W:=aC.kept a8 (fun e=>aw (Option.some.inj e).symm)
 obtain⟨C,ad⟩:∃C,C=w8.setCell ⟨x,0,none⟩ (.int .i64 0):=⟨_,rfl⟩
 have ap:Ac w8 C (fun b=>b=x):=by rw [ad]; exact(Ac.refl w8 (fun b=>b=x)).setCell (p:=⟨x,0,none⟩) (fun _=>rfl) _
 have ak:Blk C x 3 #[.int .i64 0]:=by rw [ad]; exact W.set_ 0 (.int .i64 0)
 have aO:=av.keep (ap.block gm av.lt (fun e=>aw e.symm))
 have bn:∀ty,(Builtin.len_ #[221] ty #[.map (some gm)]).run Tryz.prog C=.ok (.int .i64 1) C:=fun ty=>by simpa using GS (ty:=ty) Tryz.underlying221 aO
 have bf:=W.cell 0
 have bh:=W.frozen 0
 have bz:=ad.symm
 have aF:Below w.heap.size w C:=(a3.trans (a8.below a3.size fun b Z e=>by have:=Option.some.inj e; omega)).trans (ap.below (Nat.le_trans a3.size a8.size) fun b Z (e:b=x)=>by omega)
 have hF:=hide (show Below w.heap.size w C∧∃g,Value.tuple #[.slice (some ⟨x,0,none⟩) 1 1,.int .i64 1]=.tuple #[.slice (some ⟨g,0,none⟩) 1 1,.int .i64 1]∧w.heap.size≤g∧Wv C (.slice (some ⟨g,0,none⟩) 1 1) 0 g 0 1 from⟨aF,x,rfl,by omega,rfl,ak.lt,ak.cell 0⟩)
 clear aR aq aa aC a3 av aL b7 a8 ap W ak aO ad aF a5 aM au aB a2 aK
 go_wp2_with fail
 rw [rounds_succ]
 go_wp2_with fail
 exact bodyPost_ret (v:=.tuple #[.slice (some ⟨x,0,none⟩) 1 1,.int .i64 1]) (by simp [results,Tryz.results166,go_sem]) rfl hF.out
theorem Z8 (h:Wu w v b1 o1 c1 b2 o2 c2 b3 o3 c3) (hc:Wv w u 0 b o c):Calls Tryz.prog 167 #[v,u] w (Ret fun r w'=>Below w.heap.size w w'∧WC w w' r):=by
 obtain⟨rfl,l1,l2,r1,r2,l3,r3⟩:=h
 obtain⟨rfl,lc,rc⟩:=hc
 obtain⟨C,bU,aU,aR,-⟩:=Ae w #[.slice (some ⟨b1,o1,none⟩) 1 c1,.slice (some ⟨b2,o2,none⟩) 1 c2] 78
 obtain⟨x,bV,az,aS,-⟩:=Ae C #[.slice none 0 0,.slice none 0 0] 78
 obtain⟨w3,bW,al,aT,-⟩:=Ae x #[.slice none 0 0,.slice none 0 0] 78
 obtain⟨gm,w4,bO,bj,ac,cH⟩:=F1 181 w3
 obtain⟨w5,bm,aW,ba,bS⟩:=EY Fj Tryz.underlying181 (l:=[]) bj 0 (by simp)
 have bT:(Instr.mapUpdate 181 (.map (some gm)) (.int .i64 0) (.int .i64 0)).run Tryz.prog w4=.ok () w5:=bm
 have bg:=Ac.of_grown ba
 obtain⟨F,bX,aA,ay,-⟩:=Ae w5 #[.int .i64 0] 3
 have s1:=aU.size
 have s2:=az.size
 have s3:=al.size
 have s4:=ac.size
 have s6:=aA.size
 have e1:=aR.lt
 have e2:=aS.lt
 have e3:=aT.lt
 have aO:=aU.trans ((az.mono s1).trans ((al.mono (by omega)).trans (ac.mono (by omega))))
 have aj:Below w3.heap.size w4 F:=(bg.below s4 fun b hb e=>by have:=Option.some.inj e; omega).trans (aA.mono (by omega))
 have ar:Below w.heap.size w F:=aO.trans (aj.mono (by omega))
 have m6:=aW.keep (aA.block _ aW.lt)
 have x1:Blk F w.heap.size 78 #[.slice (some ⟨b1,o1,none⟩) 1 c1,.slice (some ⟨b2,o2,none⟩) 1 c2]:=by
  have:=((aR.below az).below al).below (ac.trans aj)
  exact this
 have x2:Blk F C.heap.size 78 #[.slice none 0 0,.slice none 0 0]:=(aS.below al).below (ac.trans aj)
 have x3:Blk F x.heap.size 78 #[.slice none 0 0,.slice none 0 0]:=aT.below (ac.trans aj)
 have y1:=x1.cell
 have y3:=x3.cell 1
 have q4:w4.cell? ⟨b,o,none⟩=some (.int .i64 0):=(aO.cell (p:=⟨b,o,none⟩) lc).trans rc
 have t2:F.cell? ⟨b2,o2,none⟩=some (.bool false):=(ar.cell (p:=⟨b2,o2,none⟩) l2).trans r2
 have bG:=ay.cell 0
 have cG:=hide ay
 have aP:=hide ar
 have aF:=hide m6
 have bu:=hide x1
 have bx:=hide x2
 have bA:=hide x3
 have bq:=hide r1
 have bY:=hide r3
 have bZ:=hide rc
 have cq:x.heap.size<F.heap.size:=by omega
 have cp:C.heap.size<x.heap.size:=by omega
 have e5:w5.heap.size<F.heap.size:=ay.lt
 have co:w.heap.size≤F.heap.size:=ar.size
 have cm:w.heap.size<C.heap.size:=e1
 have cv:x.heap.size<w5.heap.size:=by omega
 clear bm bj aW ba bS bg aU az al ac aA aR aS aT ay aO aj ar m6 x1 x2 x3 r1 r2 r3 rc s1 s2 s3 s4 s6 e1 e2
 go_enter Tryz.func167,Tryz.ntmps167
 go_wp2_with fail
 refine wp_loop_rounds 2 ?_
 rw [rounds_succ]
 go_wp2_with fail
 have bv:=hide (bu.out.below (Ap F))
 have bz:=hide (bx.out.below (Ap F))
 have b5:=hide (bA.out.below (Ap F))
 have aX:=hide (aF.out.keep ((Ap F).block _ aF.out.lt))
 have d3:F.drew.cell? ⟨w.heap.size,1,none⟩=some (.slice (some ⟨b2,o2,none⟩) 1 c2):=bv.out.cell 1
 have d4:F.drew.cell? ⟨x.heap.size,1,none⟩=some (.slice none 0 0):=b5.out.cell 1
 have d2:F.drew.cell? ⟨b2,o2,none⟩=some (.bool false):=t2
 have au:=hide (aP.out.trans ((Ap F).mono aP.out.size))
 have cz:=b5.out.frozen 1
 have eD:F.heap.size≤F.drew.heap.size:=Nat.le_refl _
 have cU:=aF.out.lt
 clear aF bu bx bA aP y1 y3 t2 bG bU bV bW bO bT bX
 refine Reg.cP [0,1,0,4,0,28,60,124,255,511,1023] ?_ (by kernel_rfl) ?_
 rotate_left
 ·repeat (first | refine Reg.NoQ.then ?_ | refine Reg.NoQ.inBlock ?_ | exact Reg.NoQ.body (fun _ _ h=>h) (fun _ h=>h))
 generalize F.drew=wd at*
 have bk:=fun wx=>Et wx 1 (by omega)
 go_wp2_with (
  at_builtin
  refine BP GM rfl _ _ rfl wd.heap.size (.slice none 0 0) 0 _ rfl (World.ownsRow_nil _ _ _ _) [.bool false] 1 rfl rfl (by simp [Value.oneCell']) (by omega) (Nat.le_refl _) ?_
  intro y M w8 an bh bQ bK
  have U:=bh.below' (fun b hb e=>by cases e)
  have ah:=b5.out.below U
  have cg:w8.cell? ⟨x.heap.size,1,none⟩=some (.slice none 0 0):=ah.cell 1
  have cB:=ah.frozen 1
  obtain⟨G,ao⟩:∃G,G=w8.setCell ⟨x.heap.size,1,none⟩ (.slice (some ⟨y,0,none⟩) 1 M):=⟨_,rfl⟩
  have ae:Ac w8 G (fun k=>k=x.heap.size):=(by rw [ao]; exact(Ac.refl w8 (fun k=>k=x.heap.size)).setCell (p:=⟨x.heap.size,1,none⟩) (fun _=>rfl) _)
  have aN:Blk G x.heap.size 78 #[.slice none 0 0,.slice (some ⟨y,0,none⟩) 1 M]:=(by rw [ao]; exact ah.set_ 1 _)
  have cR:=ao.symm
  have aH:=(bv.out.below U).kept ae (by show w.heap.size≠x.heap.size; omega)
  have aL:=(bz.out.below U).kept ae (by show C.heap.size≠x.heap.size; omega)
  have ai:=(au.out.trans (U.mono au.out.size)).trans (ae.below (Nat.le_trans au.out.size U.size) fun b hb (e:b=x.heap.size)=>by omega)
  have m9:=(aX.out.keep (U.block _ aX.out.lt)).keep (ae.block gm (Nat.lt_of_lt_of_le aX.out.lt U.size) fun e=>by have hq:gm=x.heap.size:=e; omega)
  obtain⟨E,I,bl,aB,O,bd⟩:=bk G
  have cK:(Instr.makeSlice 24 (.int .i64 1) (.int .i64 1)).run Tryz.prog G=.ok (.slice (some ⟨E,0,none⟩) 1 1) I:=bl
  have ab:=ai.trans (O.mono ai.size)
  have a0:G.cell? ⟨w.heap.size,0,none⟩=some (.slice (some ⟨b1,o1,none⟩) 1 c1):=aH.cell 0
  have a1:G.cell? ⟨b1,o1,none⟩=some (.slice (some ⟨b3,o3,none⟩) 1 c3):=(ai.cell (p:=⟨b1,o1,none⟩) l1).trans bq.out
  have a2:I.cell? ⟨w.heap.size,0,none⟩=some (.slice (some ⟨b1,o1,none⟩) 1 c1):=(aH.below O).cell 0
  have a3:I.cell? ⟨b1,o1,none⟩=some (.slice (some ⟨b3,o3,none⟩) 1 c3):=(ab.cell (p:=⟨b1,o1,none⟩) l1).trans bq.out
  have a4:I.cell? ⟨b3,o3,none⟩=some (.int .i64 0):=(ab.cell (p:=⟨b3,o3,none⟩) l3).trans bY.out
  have a5:I.cell? ⟨b,o,none⟩=some (.int .i64 0):=(ab.cell (p:=⟨b,o,none⟩) lc).trans bZ.out
  have bo:=m9.keep (O.block _ m9.lt)
  have bi:=Ft Fj Tryz.underlying181 Fa (l:=[0]) bo 0
  have cJ:(Instr.lookup 181 (.map (some gm)) (.int .i64 0) true).run Tryz.prog I=.ok (.tuple #[.int .i64 0,.bool true]) I:=bi
  have r0:I.cell? ⟨E,0,none⟩=some (.int .i64 0):=aB.cell 0
  have rf:=aB.frozen 0
  obtain⟨a6,aC⟩:∃a6,a6=I.setCell ⟨E,0,none⟩ (.int .i64 0):=⟨_,rfl⟩
  have ad:Ac I a6 (fun k=>k=E):=(by rw [aC]; exact(Ac.refl I (fun k=>k=E)).setCell (p:=⟨E,0,none⟩) (fun _=>rfl) _)
  have a7:Blk a6 E 3 #[.int .i64 0]:=(by rw [aC]; exact aB.set_ 0 _)
  have cM:=aC.symm
  have e9:=ai.size
  have ct:x.heap.size<G.heap.size:=aN.lt
  have cr:C.heap.size<G.heap.size:=aL.lt
  have aa:=(aN.below O).kept ad (by show x.heap.size≠E; omega)
  have af:=(aL.below O).kept ad (by show C.heap.size≠E; omega)
  have a8:=ab.trans (ad.below ab.size fun b hb (e:b=E)=>by omega)
  have ce:a6.cell? ⟨x.heap.size,0,none⟩=some (.slice none 0 0):=aa.cell 0
  have bE:y≠x.heap.size:=fun e=>Aw an ah (by decide) (by rw [e]; rfl)
  have cE:G.heap.size=w8.heap.size:=(by rw [ao]; simp [World.setCell])
  obtain⟨cD,ch,eA,b7⟩:=C7 an (k:=0) (u:=.bool false) rfl
  cases eA
  have b8:G.cell? ⟨y,0,none⟩=some (.bool false):=(ae.cell (p:=⟨y,0,none⟩) bK bE).trans b7
  have ax:a6.cell? ⟨y,0,none⟩=some (.bool false):=(ad.cell (p:=⟨y,0,none⟩) (by show y<I.heap.size; have:=O.size; omega) (by show y≠E; omega)).trans ((O.cell (p:=⟨y,0,none⟩) (by show y<G.heap.size; omega)).trans b8)
  have hH:=hide (And.intro aa (And.intro af (And.intro a8 (And.intro a7 ax))))
  have bb:y<a6.heap.size:=(by have:=O.size; have:=ad.size; omega)
  have bL:w.heap.size≤y:=Nat.le_trans au.out.size (Bb an rfl)
  have bM:w.heap.size≤E:=Nat.le_trans e9 bd
  have cx:y≠C.heap.size:=fun e=>Aw an (bz.out.below U) (by decide) (by rw [e]; rfl)
  clear bk an bh bQ U ah ae aN ao aH aL ai m9 bl aB O ab bo bi ad a7 aC aa af a8 b7 b8 ax bd e9)
 obtain⟨aa,af,a8,a7,ax⟩:=hH.out
 refine wp_loop_rounds 2 ?_
 rw [rounds_succ]
 go_wp2_with fail
 rw [rounds_succ]
 go_wp2_with (
  at_builtin
  refine BP F9 rfl _ _ rfl a6.heap.size (.slice none 0 0) 0 _ rfl (World.ownsRow_nil _ _ _ _) [.slice (some ⟨E,0,none⟩) 1 1] 1 rfl rfl (by simp [Value.oneCell']) (by omega) (Nat.le_refl _) ?_
  intro gn cn ap am be bP bc
  have W:=be.below' (fun b hb e=>by cases e)
  have ag:=aa.below W
  have aJ:=af.below W
  have cf:ap.cell? ⟨x.heap.size,0,none⟩=some (.slice none 0 0):=ag.cell 0
  have cA:=ag.frozen 0
  obtain⟨J,aD⟩:∃J,J=ap.setCell ⟨x.heap.size,0,none⟩ (.slice (some ⟨gn,0,none⟩) 1 cn):=⟨_,rfl⟩
  have aV:Ac ap J (fun k=>k=x.heap.size):=(by rw [aD]; exact(Ac.refl ap (fun k=>k=x.heap.size)).setCell (p:=⟨x.heap.size,0,none⟩) (fun _=>rfl) _)
  have aM:Blk J x.heap.size 78 #[.slice (some ⟨gn,0,none⟩) 1 cn,.slice (some ⟨y,0,none⟩) 1 M]:=(by rw [aD]; exact ag.set_ 0 _)
  have cO:=aD.symm
  have a9:=aJ.kept aV (by show C.heap.size≠x.heap.size; omega)
  have d0:J.cell? ⟨x.heap.size,0,none⟩=some (.slice (some ⟨gn,0,none⟩) 1 cn):=aM.cell 0
  have d1:J.cell? ⟨x.heap.size,1,none⟩=some (.slice (some ⟨y,0,none⟩) 1 M):=aM.cell 1
  have e0:J.cell? ⟨C.heap.size,0,none⟩=some (.slice none 0 0):=a9.cell 0
  have e1:J.cell? ⟨C.heap.size,1,none⟩=some (.slice none 0 0):=a9.cell 1
  have ef:=a9.frozen
  have el:=a9.lt
  obtain⟨V,aE⟩:∃V,V=(J.setCell ⟨C.heap.size,0,none⟩ (.slice (some ⟨gn,0,none⟩) 1 cn)).setCell ⟨C.heap.size,1,none⟩ (.slice (some ⟨y,0,none⟩) 1 M):=⟨_,rfl⟩
  have bf:Ac J V (fun k=>k=C.heap.size):=(by rw [aE]; exact((Ac.refl J (fun k=>k=C.heap.size)).setCell (p:=⟨C.heap.size,0,none⟩) (fun _=>rfl) _).setCell (p:=⟨C.heap.size,1,none⟩) (fun _=>rfl) _)
  have aK:Blk V C.heap.size 78 #[.slice (some ⟨gn,0,none⟩) 1 cn,.slice (some ⟨y,0,none⟩) 1 M]:=(by rw [aE]; exact(a9.set_ 0 _).set_ 1 _)
  have cQ:=aE.symm
  obtain⟨cF,ci,eN,b9⟩:=C7 am (k:=0) (u:=.slice (some ⟨E,0,none⟩) 1 1) rfl
  cases eN
  have n3:gn≠x.heap.size:=fun e=>Aw am ag (by decide) (by rw [e]; rfl)
  have n2:gn≠C.heap.size:=fun e=>Aw am aJ (by decide) (by rw [e]; rfl)
  have m3:E≠x.heap.size:=Blk.ne_ a7 aa (by decide)
  have m2:E≠C.heap.size:=Blk.ne_ a7 af (by decide)
  have Z:Ac ap V (fun k=>k=x.heap.size∨k=C.heap.size):=(aV.mono (fun b _ e=>.inl e)).trans bf (fun b _ e=>.inr e)
  have bR:=W.size
  have bN:=a7.lt
  have hF:=hide (show Below w.heap.size w V∧WC w V (.agg #[.slice (some ⟨gn,0,none⟩) 1 cn,.slice (some ⟨y,0,none⟩) 1 M]) from
   ⟨(a8.trans (W.mono a8.size)).trans (Z.below (Nat.le_trans a8.size W.size) fun b hb e=>by rcases e with e | e <;> omega),gn,0,cn,y,0,M,E,0,1,⟨rfl,Nat.lt_of_lt_of_le bc Z.size,Nat.lt_of_lt_of_le bb (Nat.le_trans bR Z.size),
    (Z.cell (p:=⟨gn,0,none⟩) bc (by show ¬(gn=_∨gn=_); omega)).trans b9,(Z.cell (p:=⟨y,0,none⟩) (by show y<_; omega) (by show ¬(y=_∨y=_); omega)).trans ((W.cell (p:=⟨y,0,none⟩) bb).trans ax),
    by have:=Z.size; omega,(Z.cell (p:=⟨E,0,none⟩) (by show E<_; omega) (by show ¬(E=_∨E=_); omega)).trans ((a7.below W).cell 0)⟩,Nat.le_trans a8.size (Bb am rfl),bL,bM⟩)
  have g0:V.cell? ⟨C.heap.size,0,none⟩=some (.slice (some ⟨gn,0,none⟩) 1 cn):=aK.cell 0
  have g1:V.cell? ⟨C.heap.size,1,none⟩=some (.slice (some ⟨y,0,none⟩) 1 M):=aK.cell 1
  have gH:=hide (And.intro g0 g1)
  clear am be bP W ag aJ aV aM aD a9 aE bf aK b9 Z bN g0 g1)
 rw [rounds_succ]
 go_wp2_with fail
 obtain⟨g0,g1⟩:=gH.out
 exact bodyPost_ret (v:=.agg #[.slice (some ⟨gn,0,none⟩) 1 cn,.slice (some ⟨y,0,none⟩) 1 M]) (by simp [results,Tryz.results167,go_sem,g0,g1]) rfl hF.out
end
end Go.Proofs.YtfcfpoemojjglaaGreatDoor
namespace Go.Proofs.YtfcfpoemojjglaaGreatDoor
open Go.RowKit
set_option maxHeartbeats 16000000
set_option maxRecDepth 100000
section
variable {w w':World} {v u:Value} {b1 o1 c1 b2 o2 c2 b3 o3 c3 b o c:Nat} {z:Int}
theorem ZO (h:Wu w v b1 o1 c1 b2 o2 c2 b3 o3 c3) (hT:BV w):Calls Tryz.prog 112 #[v] w (Ret fun r w'=>Below w.heap.size w w'∧WC w w' r):=by
 obtain⟨x,aP,a5,ak,-⟩:=Ae w #[.slice (some ⟨b1,o1,none⟩) 1 c1,.slice (some ⟨b2,o2,none⟩) 1 c2] 78
 obtain⟨w2,aQ,ad,an,-⟩:=Ae x #[.slice none 0 0,.slice none 0 0] 78
 have a9:=hide (a5.trans (ad.mono a5.size))
 have aB:=hide a5
 have ag:=h.next a9.out
 obtain rfl:=h.is
 have ah:=hide (ZZ ag)
 have aG:=hide ag
 have al:=hide (ak.below ad)
 have ay:=hide an
 have aC:=al.out.cell
 have aA:=hide hT
 clear a5 ad ak an ag h hT
 go_enter Tryz.func112,Tryz.ntmps112
 go_wp2_with fail
 refine Calls.ret ah.out ?_
 rintro r w3 ⟨V,g,rfl,hg,hr⟩
 have aa:=hide (a9.out.trans (V.mono a9.out.size))
 have aq:=hide (aG.out.next V)
 have am:=hide (al.out.below V)
 have ax:=hide (ay.out.below V)
 have aD:=am.out.cell
 have ai:=hide (aAD aq.out hr (aA.out.below aa.out))
 have aF:=hide hr
 clear V hr aC ah
 go_wp2_with fail
 refine wp_loop_rounds 1 ?_
 rw [rounds_succ]
 go_wp2_with fail
 refine Calls.ret ai.out ?_
 rintro r w4 ⟨U,g',rfl,aO,-⟩
 have ab:=hide (aa.out.trans (U.mono aa.out.size))
 have aH:=hide (aq.out.next U)
 have aE:=(am.out.below U).cell
 have ao:=hide (ax.out.below U)
 have aj:=hide (Z8 aH.out (aF.out.next U))
 clear U aD ai
 go_wp2_with fail
 refine Calls.ret aj.out ?_
 rintro r W ⟨ae,a1,G,J,C,I,M,a3,p3,d3,y,n1,n2,n3⟩
 obtain rfl:=y.is
 have O:=ao.out.below ae
 have e0:W.cell? ⟨x.heap.size,0,none⟩=some (.slice none 0 0):=O.cell 0
 have e1:W.cell? ⟨x.heap.size,1,none⟩=some (.slice none 0 0):=O.cell 1
 have ef:=O.frozen
 have el:=O.lt
 have ac:=ab.out.trans (ae.mono ab.out.size)
 have l4:x.heap.size<w4.heap.size:=ao.out.lt
 have l0:w.heap.size≤w4.heap.size:=ab.out.size
 obtain⟨F,a6⟩:∃F,F=(W.setCell ⟨x.heap.size,0,none⟩ (.slice (some ⟨a1,G,none⟩) 1 J)).setCell ⟨x.heap.size,1,none⟩ (.slice (some ⟨C,I,none⟩) 1 M):=⟨_,rfl⟩
 have E:Ac W F (fun k=>k=x.heap.size):=by rw [a6]; exact((Ac.refl W (fun k=>k=x.heap.size)).setCell (p:=⟨x.heap.size,0,none⟩) (fun _=>rfl) _).setCell (p:=⟨x.heap.size,1,none⟩) (fun _=>rfl) _
 have a7:Blk F x.heap.size 78 #[.slice (some ⟨a1,G,none⟩) 1 J,.slice (some ⟨C,I,none⟩) 1 M]:=by rw [a6]; exact(O.set_ 0 _).set_ 1 _
 have aR:=a6.symm
 have Z:F.cell? ⟨x.heap.size,0,none⟩=some (.slice (some ⟨a1,G,none⟩) 1 J):=a7.cell 0
 have g1:F.cell? ⟨x.heap.size,1,none⟩=some (.slice (some ⟨C,I,none⟩) 1 M):=a7.cell 1
 have hF:=hide (show Below w.heap.size w F∧WC w F (.agg #[.slice (some ⟨a1,G,none⟩) 1 J,.slice (some ⟨C,I,none⟩) 1 M]) from
  ⟨ac.trans (E.below ac.size fun b hb (e:b=x.heap.size)=>by have:=aB.out.size; omega),a1,G,J,C,I,M,a3,p3,d3,
   ⟨rfl,Nat.lt_of_lt_of_le y.l1 E.size,Nat.lt_of_lt_of_le y.l2 E.size,(E.cell (p:=⟨a1,G,none⟩) y.l1 (by show ¬(a1=_); omega)).trans y.r1,(E.cell (p:=⟨C,I,none⟩) y.l2 (by show ¬(C=_); omega)).trans y.r2,
    Nat.lt_of_lt_of_le y.l3 E.size,(E.cell (p:=⟨a3,p3,none⟩) y.l3 (by show ¬(a3=_); omega)).trans y.r3⟩,by omega,by omega,by omega⟩)
 have gH:=hide (And.intro Z g1)
 clear ae y O ac a6 E a7 aE aj Z g1
 go_wp2_with fail
 obtain⟨Z,g1⟩:=gH.out
 exact bodyPost_ret (v:=.agg #[.slice (some ⟨a1,G,none⟩) 1 J,.slice (some ⟨C,I,none⟩) 1 M]) (by simp [results,Tryz.results112,go_sem,Z,g1]) rfl hF.out
end
end Go.Proofs.YtfcfpoemojjglaaGreatDoor
namespace Go.Proofs.YtfcfpoemojjglaaGreatDoor
open Go.RowKit
set_option maxHeartbeats 16000000
set_option maxRecDepth 100000
def n0:NF:=⟨1,[],[],[]⟩
section
variable {w w':World} {g2 g4 g6 g7 gm c k1 k2 k3:Nat} {A A1 A2 A3:Option Addr} {u1:Value}
theorem XU (w:World) (B:Nat) (h:0≤k2):Cn w B (.agg #[.int .i64 1,.slice A1 0 k1,.slice A2 0 k2,.slice A3 0 k3]) n0:=⟨A1,k1,A2,k2,A3,k3,rfl,⟨by decide,fun h=>absurd rfl h⟩,Sl.nil rfl,Sl.nil rfl,h⟩
theorem XL (w:World) (h:BV w):Calls Tryz.prog 164 #[.slice A 0 c] w (Ret fun r w'=>r=.string ⟨(Cw []).toArray⟩∧Below w.heap.size w w'):=JN (l:=[]) (c:=c) (Sl.nil rfl) (Nat.le_refl _) (by simp) (by simp) h
theorem aAK (y:Blk w g6 221 #[.map (some gm)]) (F:Bw w gm [Dq []]) (C:BV w):
  Calls Tryz.prog 163 #[.slice A 0 c,.pointer (some ⟨g6,0,none⟩),.pointer (some ⟨g7,0,none⟩),.pointer (some ⟨g4,0,none⟩),.pointer (some ⟨g2,0,none⟩)] w (Ret fun v w'=>v=.int .i64 0∧Below w.heap.size w w'):=by
 have O:=hide (XL (A:=A) (c:=c) w C)
 have J:=hide y
 have G:=hide F
 clear y F C
 go_enter Tryz.func163,Tryz.ntmps163
 go_wp2_with fail
 refine Calls.ret O.out ?_
 rintro v x ⟨rfl,h⟩
 have I:=G.out.keep (h.block gm G.out.lt)
 have U:x.cell? ⟨g6,0,none⟩=some (.map (some gm)):=(J.out.below h).cell 0
 have E:=Ft FV Tryz.underlying221 Fa (show Bw x gm (([[]]:List (List Nat)).map Dq) from I) []
 have V:(Instr.lookup 221 (.map (some gm)) (.string ⟨(Cw []).toArray⟩) true).run Tryz.prog x=.ok (.tuple #[.int .i64 0,.bool true]) x:=E
 have M:=hide h
 clear E I h
 go_wp2_with fail
 go_ret
 exact⟨rfl,M.out⟩
theorem aAJ (aw:Blk w g6 221 #[.map (some gm)]) (hm:Bw w gm []) (W:Blk w g7 75 #[.slice none 0 0]) (a6:Blk w g4 78 #[.slice none 0 0,.slice none 0 0]) (a5:Blk w g2 88 #[.int .i64 1,.slice A1 0 k1,.slice A2 0 k2,.slice A3 0 k3]) (hT:BV w):
    Calls Tryz.prog 163 #[.slice A 0 c,.pointer (some ⟨g6,0,none⟩),.pointer (some ⟨g7,0,none⟩),.pointer (some ⟨g4,0,none⟩),.pointer (some ⟨g2,0,none⟩)] w (Ret fun v w'=>v=.int .i64 0∧Ac w w' (fun k=>k=g4∨k=g7∨k=gm)∧Bw w' gm [Dq []]∧
      ∃h cs y V,Blk w' g7 75 #[.slice (some ⟨h,0,none⟩) 1 cs]∧Blk w' g4 78 #[.slice none 0 0,.slice (some ⟨y,0,none⟩) 1 V]∧w.heap.size≤h∧h<w'.heap.size∧w'.cell? ⟨h,0,none⟩=some (.slice A 0 c)∧w.heap.size≤y∧y<w'.heap.size∧w'.cell? ⟨y,0,none⟩=some (.bool false)):=by
  have be:=hide (XL (A:=A) (c:=c) w hT)
  have b0:g6≠g7:=Blk.ne_ aw W (by decide)
  have am:g4≠g7:=Blk.ne_ a6 W (by decide)
  have al:g2≠g4:=Blk.ne_ a5 a6 (by decide)
  have ak:g2≠g7:=Blk.ne_ a5 W (by decide)
  have n7:=BT W (show Bw w gm (([]:List (List Nat)).map Dq) from hm)
  have n4:=BT a6 (show Bw w gm (([]:List (List Nat)).map Dq) from hm)
  have n2:=BT a5 (show Bw w gm (([]:List (List Nat)).map Dq) from hm)
  have l7:=W.lt
  have l4:=a6.lt
  have l2:=a5.lt
  have lm:=hm.lt
  have b6:=hide aw
  have aJ:=hide W
  have b5:=hide a6
  have b4:=hide a5
  have aR:=hide hm
  have az:=hide (And.intro am (And.intro al (And.intro ak (And.intro n7 (And.intro n4 n2)))))
  clear aw W a6 a5 hm hT b0 am al ak n7 n4 n2
  go_enter Tryz.func163,Tryz.ntmps163
  go_wp2_with fail
  refine Calls.ret be.out ?_
  rintro v J ⟨rfl,G⟩
  obtain⟨am,al,ak,n7,n4,n2⟩:=az.out
  have m1:=aR.out.keep (G.block gm aR.out.lt)
  have bs:J.cell? ⟨g6,0,none⟩=some (.map (some gm)):=(b6.out.below G).cell 0
  have aQ:=Ft FV Tryz.underlying221 Fa (show Bw J gm (([]:List (List Nat)).map Dq) from m1) []
  have bw:(Instr.lookup 221 (.map (some gm)) (.string ⟨(Cw []).toArray⟩) true).run Tryz.prog J=.ok (.tuple #[.int .i64 0,.bool false]) J:=aQ
  obtain⟨w2,aS,m2,hg,ay⟩:=EY FV Tryz.underlying221 (show Bw J gm (([]:List (List Nat)).map Dq) from m1) [] (by simp)
  have bx:(Instr.mapUpdate 221 (.map (some gm)) (.string ⟨(Cw []).toArray⟩) (.int .i64 0)).run Tryz.prog J=.ok () w2:=aS
  have bt:J.cell? ⟨g7,0,none⟩=some (.slice none 0 0):=(aJ.out.below G).cell 0
  have a8:Ac J w2 (fun k=>k=gm):=(Ac.of_grown hg).mono fun b _ e=>(Option.some.inj e).symm
  have O:=(aJ.out.below G).kept a8 n7
  have ad:=(b5.out.below G).kept a8 n4
  have ac:=(b4.out.below G).kept a8 n2
  have bu:w2.cell? ⟨g7,0,none⟩=some (.slice none 0 0):=O.cell 0
  have s1:=G.size
  have s2:=a8.size
  have b9:=hide G
  have bd:=hide a8
  have aE:=hide (show Bw w2 gm [Dq []] from m2)
  have H2:=hide (And.intro O (And.intro ad ac))
  clear aQ aS m1 m2 hg ay G a8 O ad ac n7 n4 n2 am al ak
  go_wp2_with (
    at_builtin
    refine BP F9 rfl _ _ rfl w2.heap.size (.slice none 0 0) 0 _ rfl (World.ownsRow_nil _ _ _ _) [.slice A 0 c] 1 rfl rfl (by simp [Value.oneCell']) (by omega) (Nat.le_refl _) ?_
    intro h cs w3 aA aO bf ay
    obtain⟨O,ad,ac⟩:=H2.out
    have a2:=aO.below' (fun b hb e=>by cases e)
    have aj:=O.below a2
    have bv:w3.cell? ⟨g7,0,none⟩=some (.slice none 0 0):=aj.cell 0
    have bn:=aj.frozen 0
    obtain⟨x,ap⟩:∃x,x=w3.setCell ⟨g7,0,none⟩ (.slice (some ⟨h,0,none⟩) 1 cs):=⟨_,rfl⟩
    have a3:Ac w3 x (fun k=>k=g7):=(by rw [ap]; exact(Ac.refl w3 (fun k=>k=g7)).setCell (p:=⟨g7,0,none⟩) (fun _=>rfl) _)
    have U:Blk x g7 75 #[.slice (some ⟨h,0,none⟩) 1 cs]:=(by rw [ap]; exact aj.set_ 0 _)
    have bz:=ap.symm
    have aa:=az.out
    have F:=(ad.below a2).kept a3 aa.1
    have M:=(ac.below a2).kept a3 aa.2.2.1
    have I:=(aE.out.keep (a2.block gm aE.out.lt)).keep (a3.block gm (Nat.lt_of_lt_of_le aE.out.lt a2.size) fun e=>aa.2.2.2.1 e.symm)
    obtain⟨bq,bk,eS,aK⟩:=C7 aA (k:=0) (u:=.slice A 0 c) rfl
    cases eS
    have br:w2.heap.size≤h:=Bb aA rfl
    have bE:=O.lt
    have Z:x.cell? ⟨h,0,none⟩=some (.slice A 0 c):=(a3.cell (p:=⟨h,0,none⟩) ay (by show h≠g7; omega)).trans aK
    have H4:=hide (And.intro U (And.intro F (And.intro M (And.intro I Z))))
    have bc:=hide (((Ac.of_below (b9.out) (fun k=>k=g4∨k=g7∨k=gm)).trans (bd.out.mono fun b _ e=>.inr (.inr e)) (fun b _ e=>e)).trans ((Ac.of_below a2 (fun k=>k=g4∨k=g7∨k=gm)).trans (a3.mono fun b _ e=>.inr (.inl e)) (fun b _ e=>e)) (fun b _ e=>e))
    have s4:w3.heap.size≤x.heap.size:=a3.size
    clear aA aO bf a2 aj ap a3 U F M I aK Z O ad ac)
  obtain⟨U,F,M,I,Z⟩:=H4.out
  have aW:x.drew.cell? ⟨g4,1,none⟩=some (.slice none 0 0):=(F.below (Ap x)).cell 1
  have c2:=(M.below (Ap x)).cell
  have aM:Hid (Calls Tryz.prog 44 #[.agg #[.int .i64 1,.slice A1 0 k1,.slice A2 0 k2,.slice A3 0 k3],.slice A 0 c] x.drew (Ret fun r w'=>r=.bool false∧Below x.drew.heap.size x.drew w')):=hide (IM (c:=c) (l:=[]) (XU (A1:=A1) (A2:=A2) (A3:=A3) (k1:=k1) (k3:=k3) x.drew x.drew.heap.size (Nat.zero_le _)) rfl (Sl.nil rfl) (Nat.le_refl _) (by simp))
  clear U F M I Z
  refine Reg.cC [0,1,0,0,12,28,63,127,255] [0,1,2,3,4,5,6,7,8] ?_
  refine Reg.rest_walk' [0,1,2,3] [4,5,6,7,8] rfl (by kernel_rfl) ?_
  intro Qf C
  go_wp2_with fail
  first | refine C _ _ ?_ | skip
  try clear C
  refine Reg.rest_act' 4 [5,6,7,8] [1] rfl (by kernel_rfl) ?_
  intro Qf C
  simp only [gT,gS,gZ]
  go_wp2_with fail
  refine Calls.ret aM.out ?_
  rintro v w5 ⟨rfl,an⟩
  go_wp2_with fail
  first | refine C _ _ ⟨Reg.same_below (an) [1] rfl,?_⟩ | refine⟨Reg.same_below (an) [1] rfl,?_⟩
  try clear C
  have ao:=hide ((Ap x).trans (an.mono (Ap x).size))
  have bl:x.heap.size≤w5.heap.size:=ao.out.size
  clear an aM aW c2
  refine Reg.rest_walk' [5] [6,7,8] rfl (by kernel_rfl) ?_
  intro Qf C
  go_wp2_with fail
  first | refine C _ _ ?_ | skip
  try clear C
  obtain⟨U,F,M,I,Z⟩:=H4.out
  have av:=F.below ao.out
  refine Reg.rest_act' 6 [7,8] [1] rfl (by kernel_rfl) ?_
  intro Qf C
  simp only [gT,gS,gZ]
  refine BP GM rfl _ _ rfl w5.heap.size (.slice none 0 0) 0 _ rfl (World.ownsRow_nil _ _ _ _) [.bool false] 1 rfl rfl (by simp [Value.oneCell']) (by omega) (Nat.le_refl _) ?_
  intro y V w6 aB aP bg ba
  have ax:=aP.below' (fun b hb e=>by cases e)
  have ae:=av.below ax
  have bi:w6.cell? ⟨g4,1,none⟩=some (.slice none 0 0):=ae.cell 1
  have bm:=ae.frozen 1
  refine C _ _ ⟨?_,?_⟩
  · intro z hz q hq
    simp only [List.mem_singleton] at hz
    subst hz
    injection hq with hq
    subst hq
    exact Reg.same_load1 rfl rfl ((av.kept ((Ac.refl w5 (fun _=>False)).alloc (.cells #[.bool false] 4)) id).cell 1) (ae.cell 1) Tryz.underlying76 rfl
  clear C
  obtain⟨E,aq⟩:∃E,E=w6.setCell ⟨g4,1,none⟩ (.slice (some ⟨y,0,none⟩) 1 V):=⟨_,rfl⟩
  have a4:Ac w6 E (fun k=>k=g4):=by rw [aq]; exact(Ac.refl w6 (fun k=>k=g4)).setCell (p:=⟨g4,1,none⟩) (fun _=>rfl) _
  have aF:Blk E g4 78 #[.slice none 0 0,.slice (some ⟨y,0,none⟩) 1 V]:=by rw [aq]; exact ae.set_ 1 _
  have bA:=aq.symm
  have aa:=az.out
  obtain⟨bo,bj,eA,aH⟩:=C7 aB (k:=0) (u:=.bool false) rfl
  cases eA
  have bp:w5.heap.size≤y:=Bb aB rfl
  have a7:=ao.out.trans (ax.mono ao.out.size)
  have bC:=F.lt
  have bb:h<x.heap.size:=by omega
  have bh:=a7.size
  have bI:=a4.size
  have aZ:h≠g4:=by omega
  have hF:=hide (show Ac w E (fun k=>k=g4∨k=g7∨k=gm)∧Bw E gm [Dq []]∧
      ∃h cs y V,Blk E g7 75 #[.slice (some ⟨h,0,none⟩) 1 cs]∧Blk E g4 78 #[.slice none 0 0,.slice (some ⟨y,0,none⟩) 1 V]∧w.heap.size≤h∧h<E.heap.size∧E.cell? ⟨h,0,none⟩=some (.slice A 0 c)∧w.heap.size≤y∧y<E.heap.size∧E.cell? ⟨y,0,none⟩=some (.bool false) from
    ⟨(bc.out.trans (Ac.of_below a7 (fun k=>k=g4∨k=g7∨k=gm)) (fun b _ e=>e)).trans (a4.mono fun b _ e=>.inl e) (fun b _ e=>e),
     (I.keep (a7.block gm I.lt)).keep (a4.block gm (Nat.lt_of_lt_of_le I.lt bh) fun e=>aa.2.2.2.2.1 e.symm),h,cs,y,V,
     (U.below a7).kept a4 (fun e=>aa.1 e.symm),aF,by omega,by omega,(a4.cell (p:=⟨h,0,none⟩) (by show h<_; omega) aZ).trans ((a7.cell (p:=⟨h,0,none⟩) bb).trans Z),by omega,by omega,(a4.cell (p:=⟨y,0,none⟩) ba (by show y≠g4; omega)).trans aH⟩)
  clear U F M I Z av aB aP bg ax ae aq a4 aF aH a7
  refine Reg.rest_walk' [7,8] [] rfl (by kernel_rfl) ?_
  intro Qf C
  go_wp2_with fail
  first | refine C _ _ ?_ | skip
  try clear C
  refine Reg.rest_end ?_
  go_wp2_with fail
  go_ret
  exact⟨rfl,hF.out⟩
end
end Go.Proofs.YtfcfpoemojjglaaGreatDoor
namespace Go.Proofs.YtfcfpoemojjglaaGreatDoor
open Go.RowKit
set_option maxHeartbeats 16000000
set_option maxRecDepth 100000
theorem aAU {P:Program} {c rest:Code} {Q:Exit→Act→World→Prop} {a:Act} {w:World} (l:Nat) (y:findLabel c l=some rest)
  (h:c.wp P (Exit.jump l (fun a' w'=>rest.wp P (Exit.jump l (fun _ _=>False) Q) a' w') Q) a w):(Code.scope c).wp P Q a w:=
 wp_scope_jumps l (fun a w=>rest.wp P (Exit.jump l (fun _ _=>False) Q) a w) (fun _ _=>0) y h fun a w x=>Code.wp_mono (fun e a w q=>by
  cases e <;> first | exact q | exact q.2.elim) x
def ZA (f:Func) (l:Nat):Code:=match f.body with
 | some c=>(findLabel (Ih c) l).getD .skip
 | none=>.skip
section
variable {w w':World} {k1 k2 k3:Nat} {A1 A2 A3:Option Addr}
theorem aAC (w:World) (A:Option Addr) (c:Nat):Calls Tryz.prog 42 #[.slice A 0 c] w (Ret fun r w'=>Below w.heap.size w w'∧∃S z,r=.slice S 0 z):=
 Calls.ret (GY (w:=w) (c:=c) (l:=[]) (B:=w.heap.size) (A:=A) (Sl.nil rfl) (by simp)) fun r w' h=>by
  obtain⟨S,z,e⟩:=AH h.1
  rw [Tb] at e
  exact⟨h.2,S,z,e⟩
theorem aAH (w:World) (A:Option Addr) (c:Nat):Calls Tryz.prog 43 #[.agg #[.int .i64 1,.slice A1 0 k1,.slice A2 0 k2,.slice A3 0 k3],.slice A 0 c,.int .i64 0] w (Ret fun r w'=>Below w.heap.size w w'∧∃S z,r=.slice S 0 z):=
 Calls.ret (Iq (w:=w) (v:=.agg #[.int .i64 1,.slice A1 0 k1,.slice A2 0 k2,.slice A3 0 k3]) (a:=n0) (m:=[]) (x:=0) (A:=A) (c:=c) (XU _ _ (Nat.zero_le _)) ⟨rfl,by simp [n0],by simp [n0],by simp [n0]⟩ rfl (Sl.nil rfl) (Nat.le_refl _) (by decide) (by decide)) fun r w' h=>by
  obtain⟨S,z,e⟩:=AH h.1
  exact⟨h.2,S,z,e⟩
theorem aAL (hT:BV w):Calls Tryz.prog 111 #[.agg #[.int .i64 1,.slice A1 0 k1,.slice A2 0 k2,.slice A3 0 k3],.int .i64 400] w (Ret fun r w'=>Below w.heap.size w w'∧∃u,r=.tuple #[u,.bool true]∧WC w w' u):=by
 obtain⟨x,cK,b4,aY,-⟩:=Ae w #[.int .i64 1,.slice A1 0 k1,.slice A2 0 k2,.slice A3 0 k3] 88
 obtain⟨w2,cL,aD,aZ,-⟩:=Ae x #[.slice none 0 0,.slice none 0 0] 78
 obtain⟨gm,w3,cJ,b0,aq,cF⟩:=F1 221 w2
 obtain⟨F,cM,b5,bn,-⟩:=Ae w3 #[.map (some gm)] 221
 obtain⟨w6,cO,aE,aB,-⟩:=Ae F #[.slice none 0 0] 75
 have s1:=b4.size
 have s2:=aD.size
 have s3:=aq.size
 have s5:=b5.size
 have s6:=aE.size
 have l1:=aY.lt
 have l2:=aZ.lt
 have al:=b5.trans (aE.mono s5)
 have bg:=b4.trans ((aD.mono s1).trans ((aq.mono (by omega)).trans (al.mono (by omega))))
 have I:=(((aY.below aD).below aq).below al)
 have V:=((aZ.below aq).below al)
 have W:=bn.below aE
 have m6:=b0.keep (al.block gm b0.lt)
 have z2:w6.cell? ⟨w.heap.size,2,none⟩=some (.slice A2 0 k2):=I.cell 2
 have br:=hide hT
 have bh:=hide bg
 have M6:=hide (And.intro I (And.intro V (And.intro W (And.intro aB m6))))
 have cz:w.heap.size≤gm:=by omega
 have cE:w.heap.size≤F.heap.size:=by omega
 have cu:w.heap.size≤x.heap.size:=s1
 have cv:x.heap.size<w6.heap.size:=V.lt
 have cw:F.heap.size<w6.heap.size:=aB.lt
 have cy:gm<w6.heap.size:=m6.lt
 have co:x.heap.size≠F.heap.size:=Blk.ne_ V aB (by decide)
 clear b4 aD aq b5 aE aY aZ bn aB b0 al bg I V W m6 s2 s3 s5 s6 l1 l2 hT
 go_enter Tryz.func111,Tryz.ntmps111
 go_wp2_with fail
 refine aAU (rest:=ZA Tryz.f111 0) 0 (by kernel_rfl) ?_
 go_wp2_with fail
 refine Calls.ret (aAC w6 A2 k2) ?_
 rintro r w7 ⟨O,S0,c0,rfl⟩
 obtain⟨I,V,W,au,m6⟩:=M6.out
 have bF:=hide (I.below O)
 have av:=hide (bh.out.trans (O.mono bh.out.size))
 have c6:=hide (aAJ (A:=S0) (c:=c0) (W.below O) (m6.keep (O.block gm m6.lt)) (au.below O) (V.below O) (I.below O) (br.out.below av.out))
 have bG:=hide (W.below O)
 have aA:=Blk.ne_ W au (by decide)
 have az:=Blk.ne_ W V (by decide)
 have ax:=Blk.ne_ I V (by decide)
 have ay:=Blk.ne_ I au (by decide)
 have n6:=BT W (show Bw w6 gm (([]:List (List Nat)).map Dq) from m6)
 have n2:=BT I (show Bw w6 gm (([]:List (List Nat)).map Dq) from m6)
 have ct:w6.heap.size≤w7.heap.size:=O.size
 have c5:=hide (And.intro aA (And.intro az (And.intro ax (And.intro ay (And.intro n6 n2)))))
 clear O I V W au m6 z2 aA az ax ay n6 n2
 go_wp2_with fail
 refine Calls.ret c6.out ?_
 rintro q w8 ⟨rfl,aG,m8,gs,cs,y,M,aj,aU,cD,bV,bp,cx,bS,bm⟩
 obtain⟨aA,az,ax,ay,n6,n2⟩:=c5.out
 have aT:=bF.out.kept aG (by show ¬(w.heap.size=_∨w.heap.size=_∨w.heap.size=_); intro h; rcases h with h | h | h <;> simp_all)
 have bc:=bG.out.kept aG (by show ¬(w3.heap.size=_∨w3.heap.size=_∨w3.heap.size=_); intro h; rcases h with h | h | h <;> simp_all)
 have aX:=av.out.trans (aG.below (B:=w.heap.size) (by have:=av.out.size; omega) fun b hb e=>by rcases e with e | e | e <;> omega)
 obtain⟨E,w9,bx,bt,aF,cG⟩:=Et w8 1 (by omega)
 have cH:(Instr.makeSlice 24 (.int .i64 1) (.int .i64 1)).run Tryz.prog w8=.ok (.slice (some ⟨E,0,none⟩) 1 1) w9:=bx
 have ck:w8.cell? ⟨F.heap.size,0,none⟩=some (.slice (some ⟨gs,0,none⟩) 1 cs):=aj.cell 0
 have ch:w8.cell? ⟨w.heap.size,0,none⟩=some (.int .i64 1):=aT.cell 0
 have J:=aF.trans ((Ap w9).mono aF.size)
 have aw:=hide (aX.trans (J.mono aX.size))
 have d2:=(aT.below J).cell
 have d7:w9.drew.cell? ⟨F.heap.size,0,none⟩=some (.slice (some ⟨gs,0,none⟩) 1 cs):=(aj.below J).cell 0
 have dS:w9.drew.cell? ⟨gs,0,none⟩=some (.slice S0 0 c0):=(J.cell (p:=⟨gs,0,none⟩) bV).trans bp
 have bd:=hide (aj.below J)
 have ba:=hide (aU.below J)
 have bH:=hide (bc.below J)
 have m9:=hide (m8.keep (J.block gm m8.lt))
 have bI:=hide (bt.below (Ap w9))
 have bW:=hide ((J.cell (p:=⟨y,0,none⟩) bS).trans bm)
 have bY:=hide (br.out.below aw.out)
 have s9:=aF.size
 have cU:=aU.lt
 have cW:=aj.lt
 clear aj aU bc m8 aF J bm aT aX aG bx bt bp aA az ax ay n6 n2
 go_wp2_with fail
 go_step3
 rename_i hK
 refine hK _ _ ?_
 go_wp2_with fail
 refine wp_loop_rounds 2 ?_
 rw [rounds_succ]
 go_wp2_with fail
 refine Reg.cP [0,0,0,0,0,0,48,112,0,504,1020,2047,4095] ?_ (by kernel_rfl) ?_
 rotate_left
 ·repeat (first | refine Reg.NoQ.then ?_ | refine Reg.NoQ.inBlock ?_ | refine IB ?_ | exact Reg.NoQ.body (fun _ _ h=>h) (fun _ h=>h))
 go_wp2_with fail
 refine Calls.ret (aAH _ _ _) ?_
 rintro r wa ⟨ar,S1,c1,rfl⟩
 have bz:=hide (aAK (A:=S1) (c:=c1) (g7:=F.heap.size) (g4:=x.heap.size) (g2:=w.heap.size) (bH.out.below ar) (m9.out.keep (ar.block gm m9.out.lt)) (bY.out.below ar))
 have b6:=hide ar
 clear ar d2 d7 dS
 go_wp2_with fail
 refine Calls.ret bz.out ?_
 rintro q wb ⟨rfl,bs⟩
 have G:=b6.out.trans (bs.mono b6.out.size)
 have af:=bI.out.below G
 have cY:wb.cell? ⟨E,0,none⟩=some (.int .i64 0):=af.cell 0
 have cZ:=af.frozen 0
 obtain⟨wc,aH⟩:∃wc,wc=wb.setCell ⟨E,0,none⟩ (.int .i64 0):=⟨_,rfl⟩
 have ah:Ac wb wc (fun k=>k=E):=by rw [aH]; exact(Ac.refl wb (fun k=>k=E)).setCell (p:=⟨E,0,none⟩) (fun _=>rfl) _
 have aa:Blk wc E 3 #[.int .i64 0]:=by rw [aH]; exact af.set_ 0 _
 have cQ:=aH.symm
 have a3:=(ba.out.below G).kept ah (Blk.ne_ (ba.out.below G) af (by decide))
 have ak:=(bd.out.below G).kept ah (Blk.ne_ (bd.out.below G) af (by decide))
 have bu:y<w9.drew.heap.size:=by show y<w9.heap.size; omega
 have am:=(ah.cell (p:=⟨y,0,none⟩) (Nat.lt_of_lt_of_le bu G.size) (by show y≠E; omega)).trans ((G.cell (p:=⟨y,0,none⟩) bu).trans bW.out)
 have a5:=(aw.out.trans (G.mono aw.out.size)).trans (ah.below (Nat.le_trans aw.out.size G.size) fun b hb (e:b=E)=>by have:=av.out.size; omega)
 have ci:wc.cell? ⟨x.heap.size,0,none⟩=some (.slice none 0 0):=a3.cell 0
 have sc:=Nat.le_trans G.size ah.size
 have d1:w9.heap.size≤wc.heap.size:=sc
 have Mc:=hide (And.intro a3 (And.intro ak (And.intro aa (And.intro am a5))))
 clear bs G af aH ah aa a3 ak am a5 bz b6 sc
 go_wp2_with fail
 rw [rounds_succ]
 go_wp2_with (
  at_builtin
  refine BP F9 rfl _ _ rfl wc.heap.size (.slice none 0 0) 0 _ rfl (World.ownsRow_nil _ _ _ _) [.slice (some ⟨E,0,none⟩) 1 1] 1 rfl rfl (by simp [Value.oneCell']) (by omega) (Nat.le_refl _) ?_
  intro gn cn wd b7 U c4 bZ
  obtain⟨a3,ak,aa,am,a5⟩:=Mc.out
  have a6:=U.below' (fun b hb e=>by cases e)
  have a4:=a3.below a6
  have cj:wd.cell? ⟨x.heap.size,0,none⟩=some (.slice none 0 0):=a4.cell 0
  have cp:=a4.frozen 0
  obtain⟨C,aJ⟩:∃C,C=wd.setCell ⟨x.heap.size,0,none⟩ (.slice (some ⟨gn,0,none⟩) 1 cn):=⟨_,rfl⟩
  have ac:Ac wd C (fun k=>k=x.heap.size):=(by rw [aJ]; exact(Ac.refl wd (fun k=>k=x.heap.size)).setCell (p:=⟨x.heap.size,0,none⟩) (fun _=>rfl) _)
  have ae:Blk C x.heap.size 78 #[.slice (some ⟨gn,0,none⟩) 1 cn,.slice (some ⟨y,0,none⟩) 1 M]:=(by rw [aJ]; exact a4.set_ 0 _)
  have cR:=aJ.symm
  have a9:=(ak.below a6).kept ac (by show F.heap.size≠x.heap.size; omega)
  have cl:C.cell? ⟨F.heap.size,0,none⟩=some (.slice (some ⟨gs,0,none⟩) 1 cs):=a9.cell 0
  obtain⟨cA,cm,eN,bo⟩:=C7 b7 (k:=0) (u:=.slice (some ⟨E,0,none⟩) 1 1) rfl
  cases eN
  have cB:wc.heap.size≤gn:=Bb b7 rfl
  have cV:=a3.lt
  have cX:=aa.lt
  have bl:E≠x.heap.size:=Blk.ne_ aa a3 (by decide)
  have sd:=a6.size
  have se:=ac.size
  have bT:y<wc.heap.size:=(by omega)
  have bk:y≠x.heap.size:=(by omega)
  have ao:=(ac.cell (p:=⟨gn,0,none⟩) bZ (by show gn≠x.heap.size; omega)).trans bo
  have an:=(ac.cell (p:=⟨y,0,none⟩) (by show y<wd.heap.size; omega) bk).trans ((a6.cell (p:=⟨y,0,none⟩) bT).trans am)
  have ap:=(ac.cell (p:=⟨E,0,none⟩) (by show E<wd.heap.size; omega) bl).trans ((aa.below a6).cell 0)
  have ag:=a5.trans ((a6.mono a5.size).trans (ac.below (Nat.le_trans a5.size a6.size) fun b hb (e:b=x.heap.size)=>by omega))
  have Me:=hide (And.intro ae (And.intro a9 (And.intro ao (And.intro an (And.intro ap ag)))))
  have bU:gn<C.heap.size:=(by omega)
  have bN:=a5.size
  clear b7 U c4 a6 a3 ak aa am a5 a4 aJ ac ae a9 bo ao an ap ag)
 refine wp_goto ⟨rfl,?_⟩
 conv=>arg 2; whnf
 refine wp_seq (wp_skip (show Exit.then _ _ .normal _ _ from ?_))
 go_wp2_with fail
 obtain⟨ae,a9,ao,an,ap,ag⟩:=Me.out
 have ai:=ae.below (Ap C)
 have bf:=a9.below (Ap C)
 have x0:C.drew.cell? ⟨x.heap.size,0,none⟩=some (.slice (some ⟨gn,0,none⟩) 1 cn):=ai.cell 0
 have x1:C.drew.cell? ⟨x.heap.size,1,none⟩=some (.slice (some ⟨y,0,none⟩) 1 M):=ai.cell 1
 have x7:C.drew.cell? ⟨F.heap.size,0,none⟩=some (.slice (some ⟨gs,0,none⟩) 1 cs):=bf.cell 0
 have xf:=ai.frozen
 have xl:=ai.lt
 obtain⟨wg,aL⟩:∃wg,wg=C.setCell ⟨x.heap.size,0,none⟩ (.slice (some ⟨gn,0,none⟩) 1 cn):=⟨_,rfl⟩
 have aV:Blk wg x.heap.size 78 #[.slice (some ⟨gn,0,none⟩) 1 cn,.slice (some ⟨y,0,none⟩) 1 M]:=by rw [aL]; exact ae.set_ 0 _
 have bw:Ac C wg (fun k=>k=x.heap.size):=by rw [aL]; exact(Ac.refl C (fun k=>k=x.heap.size)).setCell (p:=⟨x.heap.size,0,none⟩) (fun _=>rfl) _
 obtain⟨wf,aK⟩:∃wf,wf=wg.setCell ⟨x.heap.size,1,none⟩ (.slice (some ⟨y,0,none⟩) 1 M):=⟨_,rfl⟩
 have bv:Ac C wf (fun k=>k=x.heap.size):=by rw [aK]; exact bw.setCell (p:=⟨x.heap.size,1,none⟩) (fun _=>rfl) _
 have bb:Blk wf x.heap.size 78 #[.slice (some ⟨gn,0,none⟩) 1 cn,.slice (some ⟨y,0,none⟩) 1 M]:=by rw [aK]; exact aV.set_ 1 _
 have cT:=aL.symm
 have cS:=aK.symm
 have aW:=aV.below (Ap wg)
 have cq:wg.drew.cell? ⟨x.heap.size,1,none⟩=some (.slice (some ⟨y,0,none⟩) 1 M):=aW.cell 1
 have cr:=aW.frozen 1
 have U:=bv.drew
 have a4:=bb.below (Ap wf)
 have be:=a9.kept U (by show F.heap.size≠x.heap.size; omega)
 have sf:C.heap.size≤wf.drew.heap.size:=U.size
 have bi:=ag.trans (U.below ag.size fun b hb (e:b=x.heap.size)=>by omega)
 have hF:=hide (show Below w.heap.size w wf.drew∧∃u,Value.tuple #[.agg #[.slice (some ⟨gn,0,none⟩) 1 cn,.slice (some ⟨y,0,none⟩) 1 M],.bool true]=.tuple #[u,.bool true]∧WC w wf.drew u from
  ⟨bi,_,rfl,gn,0,cn,y,0,M,E,0,1,⟨rfl,by omega,by omega,(U.cell (p:=⟨gn,0,none⟩) bU (by show gn≠x.heap.size; omega)).trans ao,(U.cell (p:=⟨y,0,none⟩) (by show y<C.heap.size; omega) bk).trans an,
   by omega,(U.cell (p:=⟨E,0,none⟩) (by show E<C.heap.size; omega) bl).trans ap⟩,by have:=bN; omega,by omega,by omega⟩)
 have y0:wf.drew.cell? ⟨x.heap.size,0,none⟩=some (.slice (some ⟨gn,0,none⟩) 1 cn):=a4.cell 0
 have y1:wf.drew.cell? ⟨x.heap.size,1,none⟩=some (.slice (some ⟨y,0,none⟩) 1 M):=a4.cell 1
 have yH:=hide (And.intro y0 y1)
 have y7:=hide (show wf.drew.cell? ⟨F.heap.size,0,none⟩=some (.slice (some ⟨gs,0,none⟩) 1 cs) from be.cell 0)
 clear ae a9 ao an ap ag ai bf aK aL bv bw U bb aV aW a4 be bi y0 y1
 refine Reg.region_cutI [0,0,2,0,14,1,63] [0,1,2,3,4,5,6] (by kernel_rfl) ?_ ?_
 ·repeat (first | refine Reg.NoQ.then ?_ | refine Reg.NoQ.inBlock ?_ | refine IB ?_ | exact Reg.NoQ.body (fun _ _ h=>h) (fun _ h=>h))
 refine Reg.wI [0,1,2,3,4] [5,6] rfl fun Qf Z=>?_
 go_wp2_with fail
 try rw [List.filterMap_nil]
 go_wp2_with fail
 first | refine Z _ _ ⟨rfl,?_⟩ | refine⟨rfl,?_⟩ | refine Z _ _ ⟨by simp [Reg.fineT,Reg.intOp,Region.wanted,yielded,Reg.intFine,Reg.isInt,Act.eval],?_⟩
 try clear Z
 refine Reg.aI 5 [6] [1] rfl fun Qf Z=>?_
 simp only [gT,gS,gZ]
 go_wp2_with fail
 first | refine Z _ _ ⟨?_,?_⟩ | refine⟨?_,?_⟩
 ·intro z hz q hq
  simp only [List.mem_singleton] at hz
  subst hz
  injection hq with hq
  subst hq
  exact Reg.same_load1 rfl rfl x7 y7.out Tryz.underlying75 rfl
 try clear Z
 refine Reg.wI [6] [] rfl fun Qf Z=>?_
 go_wp2_with fail
 try rw [List.filterMap_nil]
 go_wp2_with fail
 first | refine Z _ _ ⟨rfl,?_⟩ | refine⟨rfl,?_⟩
 try clear Z
 refine Reg.restI_end ?_
 go_wp2_with fail
 obtain⟨y0,y1⟩:=yH.out
 exact bodyPost_ret (v:=.tuple #[.agg #[.slice (some ⟨gn,0,none⟩) 1 cn,.slice (some ⟨y,0,none⟩) 1 M],.bool true]) (by simp [results,Tryz.results111,go_sem,y0,y1]) rfl hF.out
end
end Go.Proofs.YtfcfpoemojjglaaGreatDoor
