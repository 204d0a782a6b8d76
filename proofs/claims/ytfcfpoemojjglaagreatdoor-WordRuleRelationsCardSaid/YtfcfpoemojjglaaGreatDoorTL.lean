/-
  Part TL of a proof.
-/
import Derived.Test.YtfcfpoemojjglaaGreatDoorPA
import Derived.Test.YtfcfpoemojjglaaGreatDoorTK
import Derived.Test.YtfcfpoemojjglaaGreatDoorTE
import Derived.Test.YtfcfpoemojjglaaGreatDoorAC
import Derived.Test.YtfcfpoemojjglaaGreatDoorTJ
import Derived.Test.YtfcfpoemojjglaaGreatDoorPE
set_option maxHeartbeats 16000000
set_option maxRecDepth 100000
set_option linter.unusedVariables false
set_option linter.unusedSimpArgs false
namespace Go.Proofs.YtfcfpoemojjglaaGreatDoor
open Go.RowKit
open K (Am Az At AW Fc BR Ah Du EQ Kc)
attribute [-go_sem] loadCellsFrom storeCells
set_option maxHeartbeats 16000000
set_option maxRecDepth 100000
theorem W3 {w:World} {g o:Nat} {v old:Value} (x:w.cell? ⟨g,o,none⟩=some old) (y:w.frozen? ⟨g,o,none⟩=false) (h1:v.oneCell'=true):(storeCells ⟨g,o,none⟩ [v] 0).run Tryz.prog w=.ok () (w.setCell ⟨g,o,none⟩ v):=by
 have h:(⟨g,o,none⟩:Addr).add 0=⟨g,o,none⟩:=rfl
 simp only [storeCells,Sem.run_bind,h,run_store _ w _ v _ h1,x]
 simp [y]
theorem Yi {w:World} {A:Option Addr} {m cap:Nat} {l:List Int} (hl:Sl w w.heap.size 1 Ai A l) (hm:m=l.length) (aF:m≤8):
  Calls Tryz.prog 110 #[.agg #[.slice none 0 0,.slice A m cap,.int .i64 (m:Int),.slice none 0 0,.slice none 0 0,.int .i64 0]] w (Ret fun v w'=>Below w.heap.size w w'∧Wo w m l v w'):=by
 obtain⟨J,aN,a2,a7,-⟩:=Ae w #[.slice none 0 0,.slice A m cap,.int .i64 (m:Int),.slice none 0 0,.slice none 0 0,.int .i64 0] 46
 obtain⟨E,aO,a3,ad,-⟩:=Ae J #[.slice none 0 0,.slice none 0 0,.int .i64 0,.slice none 0 0,.slice none 0 0,.int .i64 0] 46
 have aa:=a2.trans (a3.mono a2.size)
 have M:=hide (aa.trans ((Ap E).mono aa.size))
 have aL:=((a7.below a3).below (Ap E)).cell
 have ae:=hide (ad.below (Ap E))
 have ab:Hid (∀C,Calls Tryz.prog 47 #[.slice none 0 0] C (Ret fun r w'=>Below C.heap.size C w'∧∃Z z,r=.slice Z 0 z)):=hide fun C=>(Hh (c:=0) (xs:=[]) (Sl.nil rfl) (Nat.le_refl _) (by simp)).mono fun e w' h=>by
  cases e with
  | returned v=>obtain⟨h1,h2⟩:=h; obtain⟨Z,z,e⟩:=AH h2; exact⟨h1,Z,z,e⟩
  | panicked c=>exact h.elim
  | outgrown=>exact h.elim
 have aB:Hid (∀C,Below E.drew.heap.size E.drew C→Calls Tryz.prog 47 #[.slice A m cap] C (Ret fun r w'=>Below C.heap.size C w'∧w'.ownsRow C.heap.size 3 1 r m (l.map fun x=>.int .i64 x))):=hide fun C hx=>by
  have al:=M.out.trans (hx.mono M.out.size)
  have:=Hh (c:=cap) (hl.keep (w':=C) (B':=C.heap.size) (fun q hq=>al.cell hq) al.size) (Nat.le_refl _) (by omega)
  rw [←hm] at this
  exact this
 have aC:w.heap.size<E.heap.size:=by have:=a7.lt; have:=a3.size; omega
 have aM:w.heap.size≤J.heap.size:=a2.size
 clear a2 a3 aa a7 ad hl hm aF
 go_enter Tryz.func110,Tryz.ntmps110
 go_wp2_with fail
 refine Reg.cC [0,1,3,0,8,31,0,64,0,256,831,0,2048,7999,0,16384,65535,131071] [0,1,3,4,6,7,8,9,11,12,14,15,2,5,10,13,16,17] ?_ (by kernel_rfl) (by repeat (first | exact Reg.NoQ.body (fun _ _ h=>h) (fun _ h=>h) | refine Reg.NoQ.then ?_ | refine Reg.NoQ.inBlock ?_))
 refine Reg.rest_walk' [0,1,3,4,6,7,8,9,11,12,14,15] [2,5,10,13,16,17] rfl (by kernel_rfl) ?_
 intro Qf y
 go_wp2_with fail
 first | refine y _ _ ?_ | skip
 try clear y
 refine Reg.rest_act' 2 [5,10,13,16,17] [4,7,9,12,15] rfl (by kernel_rfl) ?_
 intro Qf y
 try simp only [gT,gS,gZ]
 go_wp2_with fail
 refine Calls.ret (ab.out _) ?_
 rintro v w3 ⟨F,U,z0,rfl⟩
 go_wp2_with fail
 first | refine y _ _ ⟨Reg.same_below (F) [4,7,9,12,15] rfl,?_⟩ | refine⟨Reg.same_below (F) [4,7,9,12,15] rfl,?_⟩
 try clear y
 have aA:=hide F
 have ah:=hide (M.out.trans (F.mono M.out.size))
 have ar:=hide (ae.out.below F)
 have ao:=hide (show E.heap.size≤w3.heap.size from F.size)
 have aE:=hide (show J.heap.size<E.heap.size from ae.out.lt)
 clear F
 refine Reg.rest_act' 5 [10,13,16,17] [7,9,12,15] rfl (by kernel_rfl) ?_
 intro Qf y
 try simp only [gT,gS,gZ]
 go_wp2_with fail
 refine Calls.ret (aB.out _ aA.out) ?_
 rintro v w4 ⟨O,a9⟩
 obtain⟨A1,c1,rfl⟩:=AH a9
 go_wp2_with fail
 first | refine y _ _ ⟨Reg.same_below (O) [7,9,12,15] rfl,?_⟩ | refine⟨Reg.same_below (O) [7,9,12,15] rfl,?_⟩
 try clear y
 have ai:=hide (ah.out.trans (O.mono ah.out.size))
 have au:=hide (ar.out.below O)
 have ay:=hide a9
 clear O a9
 refine Reg.rest_act' 10 [13,16,17] [7,12,15] rfl (by kernel_rfl) ?_
 intro Qf y
 try simp only [gT,gS,gZ]
 go_wp2_with fail
 refine Calls.ret (ab.out _) ?_
 rintro v w5 ⟨G,V,z3,rfl⟩
 go_wp2_with fail
 first | refine y _ _ ⟨Reg.same_below (G) [7,12,15] rfl,?_⟩ | refine⟨Reg.same_below (G) [7,12,15] rfl,?_⟩
 try clear y
 have aj:=hide (ai.out.trans (G.mono ai.out.size))
 have av:=hide (au.out.below G)
 have az:=hide (EQ ay.out G)
 clear G
 refine Reg.rest_act' 13 [16,17] [7,15] rfl (by kernel_rfl) ?_
 intro Qf y
 try simp only [gT,gS,gZ]
 go_wp2_with fail
 refine Calls.ret (ab.out _) ?_
 rintro v w6 ⟨I,W,z4,rfl⟩
 go_wp2_with fail
 first | refine y _ _ ⟨Reg.same_below (I) [7,15] rfl,?_⟩ | refine⟨Reg.same_below (I) [7,15] rfl,?_⟩
 try clear y
 have ak:=hide (aj.out.trans (I.mono aj.out.size))
 have aw:=hide (av.out.below I)
 have ag:=hide (EQ az.out I)
 clear I
 refine Reg.rest_act' 16 [17] [] rfl (by kernel_rfl) ?_
 intro Qf y
 try simp only [gT,gS,gZ]
 go_wp2_with fail
 first | refine y _ _ ⟨Reg.nm,?_⟩ | refine⟨Reg.nm,?_⟩
 try clear y
 obtain⟨wF,ap,af,a8⟩:=Wn aw.out #[.slice U 0 z0,.slice A1 m c1,.int .i64 (m:Int),.slice V 0 z3,.slice W 0 z4,.int .i64 0] rfl (by simp [Value.oneCell'])
 have aP:(storeCells ⟨J.heap.size,0,none⟩ [.slice U 0 z0,.slice A1 m c1,.int .i64 (m:Int),.slice V 0 z3,.slice W 0 z4,.int .i64 0] 0).run Tryz.prog w6=.ok () wF:=ap
 have aD:=Ah af (n:=6) rfl
 have hF:=hide (show Below w.heap.size w wF∧Wo w m l (.agg #[.slice U 0 z0,.slice A1 m c1,.int .i64 (m:Int),.slice V 0 z3,.slice W 0 z4,.int .i64 0]) wF from⟨ak.out.trans (a8.below (by have:=ak.out.size; omega) fun b hb (e:b=J.heap.size)=>by omega),_,_,_,_,_,_,_,_,rfl,a8.ownsRow (Kc ag.out (by have:=M.out.size; have:=ao.out; omega)) fun g hg (e:g=J.heap.size)=>by have:=Bb ag.out hg; have:=ao.out; have:=aC; have:=aE.out; omega⟩)
 clear ap af a8
 refine Reg.rest_act' 17 [] [] rfl (by kernel_rfl) ?_
 intro Qf y
 try simp only [gT,gS,gZ]
 go_wp2_with fail
 first | refine y _ _ ⟨Reg.nm,?_⟩ | refine⟨Reg.nm,?_⟩
 try clear y
 first | refine Reg.rest_end ?_ | skip
 go_wp2_with fail
 exact bodyPost_ret (v:=.agg #[.slice U 0 z0,.slice A1 m c1,.int .i64 (m:Int),.slice V 0 z3,.slice W 0 z4,.int .i64 0]) (by simp [results,Tryz.results110,go_sem,aD]) rfl hF.out
theorem Yr {w:World} {cs:List Value} {p:Am} {r:Az} {n m cap i:Nat} {k:Int} {A:Option Addr} {l:List Int} (h:At w w.heap.size cs p) (hr:p.rules[n]?=some r) (hR:WU p.topo p.states.length r) (hl:Sl w w.heap.size 1 Ai A l) (hm:m=l.length) (bp:m≤8) (hE:EnR p.topo r l i k):
  Calls Tryz.prog 66 #[.agg cs.toArray,.agg #[.slice none 0 0,.slice A m cap,.int .i64 (m:Int),.slice none 0 0,.slice none 0 0,.int .i64 0],.agg #[.int .i64 (n:Int),.int .i64 (i:Int),.int .i64 k]] w (Ret fun v w'=>Below w.heap.size w w'∧∃u,v=.tuple #[u,.bool true]∧Wo w m (AE r l i k) u w'):=by
 obtain⟨A1,c1,A2,c2,A3,c3,A4,c4,A5,c5,A6,c6,A7,c7,cn,q0,q1,q2,q3,q4,q5,q6,q7,q8,q9,-,-,-,-,-,-,h7,cd⟩:=h.cells
 have ck:=AP hr
 have hi:i<m:=by rw [hm]; exact hE.lt
 obtain⟨w1,di,aP,aA,-⟩:=Ae w cs.toArray 27
 obtain⟨w2,dj,av,aC,-⟩:=Ae w1 #[.slice none 0 0,.slice A m cap,.int .i64 (m:Int),.slice none 0 0,.slice none 0 0,.int .i64 0] 46
 obtain⟨G,dk,ac,aD,-⟩:=Ae w2 #[.int .i64 (n:Int),.int .i64 (i:Int),.int .i64 k] 63
 obtain⟨E,dl,Z,ao,-⟩:=Ae G #[.slice none 0 0,.slice none 0 0,.int .i64 0,.slice none 0 0,.slice none 0 0,.int .i64 0] 46
 have aO:=aP.trans (av.mono aP.size)
 have ar:=aO.trans (ac.mono aO.size)
 have aj:=ar.trans (Z.mono ar.size)
 have a7:=aj.trans ((Ap E).mono aj.size)
 have bU:=(((aA.below av).below ac).below Z).below (Ap E)
 have bV:=((aC.below ac).below Z).below (Ap E)
 have bW:=(aD.below Z).below (Ap E)
 have bX:=ao.below (Ap E)
 obtain⟨b,off,rc,bS,cc,hC,cf,bn⟩:=Du (h7.keep (w':=E.drew) (B':=w.heap.size) (R':=AW E.drew w.heap.size) (fun _ hp=>a7.cell hp) (fun _ _ x=>x.keep (fun _ hp=>a7.cell hp) (Nat.le_refl _)) (Nat.le_refl _)) hr
 subst bS
 obtain⟨E1,f1,E2,f2,E3,f3,E4,f4,E5,f5,E6,f6,E7,f7,E8,f8,⟨rz,r0,r1,r2,r3,r4,r5,r6,bJ,r8,r9,bx,ay,az,bB,bC,bD,bE,bF⟩,-⟩:=K.AW.cells hC.is
 simp only [Array.toArray_toList] at rz r0 r1 r2 r3 r4 r5 r6 bJ r8 r9 bx ay az bB bC bD bE bF
 have cg:=hide (fun O (hx:Below E.drew.heap.size E.drew O)=>Yi (cap:=cap) (hl.keep (w':=O) (B':=O.heap.size) (fun q hq=>(a7.trans (hx.mono a7.size)).cell hq) (a7.trans (hx.mono a7.size)).size) hm bp)
 have c8:=hide (((aA.below av).below ac).below Z)
 have c9:=hide ((aC.below ac).below Z)
 have aN:=hide (aD.below Z)
 have ca:=hide ao
 have bi:=hide aj
 have ce:(r.kind=4∧Hid (AE r l i k=l.set i r.to))∨(r.kind=5∧∃j:Nat,k=(j:Int)∧j<m∧Hid (AE r l i k=(l.set j r.pt).set i r.to)):=by
  rcases hR.kind with h4 | h5
  ·exact .inl ⟨h4,hide (by unfold AE; rw [if_neg (by omega)])⟩
  ·obtain⟨a,-,b,-⟩:=hE.pass h5
   have:=AP b
   exact .inr ⟨h5,k.toNat,by omega,by omega,hide (by unfold AE; rw [if_pos h5])⟩
 have hh:Hid (l.length=m):=hide hm.symm
 obtain⟨nr,bq⟩:∃x,x=p.rules.length:=⟨_,rfl⟩
 rw [←bq] at ck q9
 have cD:=hide q9
 have br:r.send.length=0:=by rw [hR.send]; rfl
 rw [br] at az
 rw [hR.wr] at ay
 have b0:=hide r1
 have bG:=hide r3
 have cE:=hide r5
 have bz:=hide ay
 have bA:=hide az
 have cF:=hide rz
 have cm:=hide hC.one
 have bo:(loadCellsFrom ⟨b,off+n*18,none⟩ 0 18 #[]).run Tryz.prog E.drew=.ok rc E.drew:=bn
 have cl:(n:Int)<(nr:Int):=by omega
 have dp:G.heap.size<E.heap.size:=ao.lt
 have dn:w2.heap.size<E.heap.size:=aN.out.lt
 have bv:w.heap.size≤E.heap.size:=aj.size
 have dm:w.heap.size≤G.heap.size:=ar.size
 have ch:=hide bo
 generalize cs.toArray=pc at*
 clear h h7 hC cf bn hr hR hl hm bp hE aP av ac Z aO ar aj a7 aA aC aD ao bo bU bV bW bX q0 q1 q2 q3 q4 q5 q6 q7 q8 q9 r0 r1 r2 r3 r4 r5 r6 bJ r8 r9 bx ay az bB bC bD bE bF rz cd cc bq cn br
 generalize AE r l i k=ol at*
 rcases ce with⟨h4,aS⟩ | ⟨h5,j,rfl,hj,aS⟩
 case' inl=>rw [h4] at b0; clear h4
 case' inr=>rw [h5] at b0; clear h5
 all_goals
  go_enter Tryz.func66,Tryz.ntmps66
  go_wp2_with fail
  refine Yq (m:=m) (cap:=cap) (l:=l) c8.out cD.out cl c9.out aN.out ch.out cF.out cm.out cg.out ?_ ?_
  ·repeat (first | refine Reg.NoQ.then ?_ | refine Reg.NoQ.inBlock ?_ | exact Reg.NoQ.body (fun _ _ h=>h) (fun _ h=>h))
  iterate 8 (intro _)
  intro w9 g8 g9 U z0 S1 F V z3 W z4 ad da db aL aE aa
  obtain⟨C,F,eS,-⟩:=C7 (k:=i) aa (by rw [List.getElem?_map,List.getElem?_eq_getElem (by rw [hh.out]; exact hi)]; rfl)
  cases eS
  have dc:E.heap.size≤C:=Bb aa (k:=C) rfl
  have ad:=(Ap E).trans (ad.mono (Ap E).size)
  have dg:g8≠C:=fun e=>Aw aa aL (by decide) (by rw [e]; rfl)
  have dh:g9≠C:=fun e=>Aw aa aE (by decide) (by rw [e]; rfl)
  have cb:=hide (bi.out.trans (ad.mono bi.out.size))
  have bg:=hide (aN.out.below ad)
  have bY:=hide (ca.out.below ad)
  have bb:=hide aE
  have aq:=hide aL
  have ab:=hide (show w9.ownsRow E.heap.size 3 1 (.slice (some ⟨C,0,none⟩) m F) m (l.map fun x=>.int .i64 x) from aa)
  clear ad aE aL aa
  have d0:=(aq.out.cell 1).trans b0.out
  have d1:=(aq.out.cell 3).trans bG.out
  have d2:=(aq.out.cell 5).trans cE.out
  have x9:=bg.out.cell
  have o9:w9.cell? ⟨g9,1,none⟩=some (.slice (some ⟨C,0,none⟩) m F):=bb.out.cell 1
  have de:(i:Int)<(m:Int):=by omega
  have bk:∀k,k<m→∃y:Value,(l.map fun x=>Value.int .i64 x)[k]?=some y:=fun k hk=>⟨_,List.getElem?_eq_getElem (by rw [List.length_map,hh.out]; exact hk)⟩
  have bT:=ab
  have bf:=aq
  have bd:=bb
  have bh:=bY
  have au:=cb
  have fi:=Ka ab.out i
  obtain⟨yi,bt⟩:=bk i hi
  have ci:=HQ ab.out bt
 ·
   have fj:=Ka ab.out j
   obtain⟨yj,bu⟩:=bk j hj
   have cj:=HQ ab.out bu
   have df:(j:Int)<(m:Int):=by omega
   obtain⟨ae,ax⟩:∃O,O=w9.setCell ⟨C,j,none⟩ (.int .i64 r.pt):=⟨_,rfl⟩
   have ag:=hide (show Ac w9 ae (fun k=>k=C) by rw [ax]; exact(Ac.refl w9 (fun k=>k=C)).setCell (fun _=>rfl) _)
   have aK:=hide (show ae.ownsRow E.heap.size 3 1 (.slice (some ⟨C,0,none⟩) m F) m _ by rw [ax]; exact Kd ab.out hj (.int .i64 r.pt))
   have be:=hide (bf.out.kept ag.out (by show g8≠C; omega))
   have bc:=hide (bd.out.kept ag.out (by show g9≠C; omega))
   have bZ:=hide (bh.out.kept ag.out (by show G.heap.size≠C; omega))
   have c0:=hide (bg.out.kept ag.out (by show w2.heap.size≠C; omega))
   have bj:=hide (au.out.trans (ag.out.below (by have:=au.out.size; omega) fun b hb (e:b=C)=>by omega))
   have co:=W3 cj fj (v:=.int .i64 r.pt) rfl
   rw [←ax] at co
   clear ax
   have cW:=(be.out.cell 3).trans bG.out
   have dt:=c0.out.cell
   have dq:ae.cell? ⟨g9,1,none⟩=some (.slice (some ⟨C,0,none⟩) m F):=bc.out.cell 1
   obtain⟨y2,cq⟩:∃y:Value,((l.map fun x=>Value.int .i64 x).set j (.int .i64 r.pt))[i]?=some y:=⟨_,List.getElem?_eq_getElem (by rw [List.length_set,List.length_map,hh.out]; exact hi)⟩
   have bR:=Ka aK.out i
   have bM:=HQ aK.out cq
   clear fj bu fi bt ci
   obtain⟨M,J⟩:∃O,O=ae.setCell ⟨C,i,none⟩ (.int .i64 r.to):=⟨_,rfl⟩
   have I:=hide (show Ac ae M (fun k=>k=C) by rw [J]; exact(Ac.refl ae (fun k=>k=C)).setCell (fun _=>rfl) _)
   have aJ:=hide (show M.ownsRow E.heap.size 3 1 (.slice (some ⟨C,0,none⟩) m F) m _ by rw [J]; exact Kd aK.out hi (.int .i64 r.to))
   have ah:=hide (be.out.kept I.out (by show g8≠C; omega))
   have aB:=hide (bc.out.kept I.out (by show g9≠C; omega))
   have aM:=hide (bZ.out.kept I.out (by show G.heap.size≠C; omega))
   have ai:=hide (bj.out.trans (I.out.below (by have:=bj.out.size; omega) fun b hb (e:b=C)=>by omega))
   have aW:=W3 bM bR (v:=.int .i64 r.to) rfl
   rw [←J] at aW
   obtain⟨a8,al,af,a6⟩:=Wn aM.out #[.slice U 0 z0,.slice (some ⟨C,0,none⟩) m F,.int .i64 (m:Int),.slice V 0 z3,.slice W 0 z4,.int .i64 0] rfl (by simp [Value.oneCell'])
   have cp:(storeCells ⟨G.heap.size,0,none⟩ [.slice U 0 z0,.slice (some ⟨C,0,none⟩) m F,.int .i64 (m:Int),.slice V 0 z3,.slice W 0 z4,.int .i64 0] 0).run Tryz.prog M=.ok () a8:=al
   have aR:=Ah af (n:=6) rfl
   have hF:=hide (show Below w.heap.size w a8∧∃u,Value.tuple #[.agg #[.slice U 0 z0,.slice (some ⟨C,0,none⟩) m F,.int .i64 (m:Int),.slice V 0 z3,.slice W 0 z4,.int .i64 0],.bool true]=.tuple #[u,.bool true]∧Wo w m ol u a8 from⟨ai.out.trans (a6.below (by have:=ai.out.size; omega) fun b hb (e:b=G.heap.size)=>by omega),_,rfl,_,_,_,_,_,_,_,_,rfl,by
    have:=a6.ownsRow (Kc aJ.out bv) (fun g hg (e:g=G.heap.size)=>by have hq:C=g:=(by cases hg; rfl); omega)
    rw [aS.out]
    simpa [List.map_set] using this⟩)
   have cr:=Ah aB.out (n:=6) rfl
   have bP:=(ah.out.cell 12).trans bA.out
   have bO:=(ah.out.cell 11).trans bz.out
   clear J al af a6
   go_wp2_with fail
   go_loopw [11,12] (fun oo ii wr=>oo=.bool true∧ii=.int .i64 0∧wr=M) (fun _ _ _=>0)
   case atStart=>exact⟨rfl,rfl,rfl⟩
   case round=>
    obtain⟨rfl,rfl,rfl⟩:=hrel
    go_wp2_with fail
    exact bodyPost_ret (v:=.tuple #[.agg #[.slice U 0 z0,.slice (some ⟨C,0,none⟩) m F,.int .i64 (m:Int),.slice V 0 z3,.slice W 0 z4,.int .i64 0],.bool true]) (by simp [results,Tryz.results66,go_sem,aR]) rfl hF.out
 ·
   obtain⟨M,J⟩:∃O,O=w9.setCell ⟨C,i,none⟩ (.int .i64 r.to):=⟨_,rfl⟩
   have I:=hide (show Ac w9 M (fun k=>k=C) by rw [J]; exact(Ac.refl w9 (fun k=>k=C)).setCell (fun _=>rfl) _)
   have aJ:=hide (show M.ownsRow E.heap.size 3 1 (.slice (some ⟨C,0,none⟩) m F) m _ by rw [J]; exact Kd bT.out hi (.int .i64 r.to))
   have ah:=hide (bf.out.kept I.out (by show g8≠C; omega))
   have aB:=hide (bd.out.kept I.out (by show g9≠C; omega))
   have aM:=hide (bh.out.kept I.out (by show G.heap.size≠C; omega))
   have ai:=hide (au.out.trans (I.out.below (by have:=au.out.size; omega) fun b hb (e:b=C)=>by omega))
   have aW:=W3 ci fi (v:=.int .i64 r.to) rfl
   rw [←J] at aW
   obtain⟨a8,al,af,a6⟩:=Wn aM.out #[.slice U 0 z0,.slice (some ⟨C,0,none⟩) m F,.int .i64 (m:Int),.slice V 0 z3,.slice W 0 z4,.int .i64 0] rfl (by simp [Value.oneCell'])
   have cp:(storeCells ⟨G.heap.size,0,none⟩ [.slice U 0 z0,.slice (some ⟨C,0,none⟩) m F,.int .i64 (m:Int),.slice V 0 z3,.slice W 0 z4,.int .i64 0] 0).run Tryz.prog M=.ok () a8:=al
   have aR:=Ah af (n:=6) rfl
   have hF:=hide (show Below w.heap.size w a8∧∃u,Value.tuple #[.agg #[.slice U 0 z0,.slice (some ⟨C,0,none⟩) m F,.int .i64 (m:Int),.slice V 0 z3,.slice W 0 z4,.int .i64 0],.bool true]=.tuple #[u,.bool true]∧Wo w m ol u a8 from⟨ai.out.trans (a6.below (by have:=ai.out.size; omega) fun b hb (e:b=G.heap.size)=>by omega),_,rfl,_,_,_,_,_,_,_,_,rfl,by
    have:=a6.ownsRow (Kc aJ.out bv) (fun g hg (e:g=G.heap.size)=>by have hq:C=g:=(by cases hg; rfl); omega)
    rw [aS.out]
    simpa [List.map_set] using this⟩)
   have cr:=Ah aB.out (n:=6) rfl
   have bP:=(ah.out.cell 12).trans bA.out
   have bO:=(ah.out.cell 11).trans bz.out
   clear J al af a6
   go_wp2_with fail
   go_loopw [11,12] (fun oo ii wr=>oo=.bool true∧ii=.int .i64 0∧wr=M) (fun _ _ _=>0)
   case atStart=>exact⟨rfl,rfl,rfl⟩
   case round=>
    obtain⟨rfl,rfl,rfl⟩:=hrel
    go_wp2_with fail
    exact bodyPost_ret (v:=.tuple #[.agg #[.slice U 0 z0,.slice (some ⟨C,0,none⟩) m F,.int .i64 (m:Int),.slice V 0 z3,.slice W 0 z4,.int .i64 0],.bool true]) (by simp [results,Tryz.results66,go_sem,aR]) rfl hF.out
end Go.Proofs.YtfcfpoemojjglaaGreatDoor
namespace Go.Proofs.YtfcfpoemojjglaaGreatDoor
open Go.RowKit
open K (Am Az At AW Fc BR Ah Du Dv)
attribute [-go_sem] loadCellsFrom storeCells
set_option maxHeartbeats 16000000
set_option maxRecDepth 100000
theorem ZY {r:Az} {l:List Int} {i:Nat} {k:Int}:(AE r l i k).length=l.length:=by
 unfold AE
 split <;> simp
section
variable {w:World} {cs:List Value} {p:Am} {r:Az} {m cap:Nat} {A:Option Addr} {l:List Int} {t:Stp}
theorem Yh (h:At w w.heap.size cs p) (ay:p.Small) (hT:K.SpOK w) (hrel:AC p=0) (hl:Sl w w.heap.size 1 Ai A l) (hm:m=l.length) (ag:m≤8) (aX:∀x∈l,inN (p.states.length:Int) x=true) (hr:p.rules[t.1]?=some r) (hE:EnR p.topo r l t.2.1 t.2.2):
  Calls Tryz.prog 25 #[.agg cs.toArray,.agg #[.int .i64 (m:Int),.int .i64 0,.int .i64 0],.agg #[.slice none 0 0,.slice A m cap,.int .i64 (m:Int),.slice none 0 0,.slice none 0 0,.int .i64 0],.agg #[.int .i64 (t.1:Int),.int .i64 (t.2.1:Int),.int .i64 t.2.2]] w (Ret fun v w'=>Below w.heap.size w w'∧∃y,v=.tuple #[y,.int .i64 0]∧Wo w m (AE r l t.2.1 t.2.2) y w'):=by
 have ax:=h.rules_at.1
 obtain⟨aw,-⟩:=Xb hrel
 obtain⟨w1,ba,ao,aC,-⟩:=Ae w cs.toArray 27
 obtain⟨w2,bb,ap,aD,-⟩:=Ae w1 #[.int .i64 (m:Int),.int .i64 0,.int .i64 0] 44
 obtain⟨w3,bc,ae,aE,-⟩:=Ae w2 #[.slice none 0 0,.slice A m cap,.int .i64 (m:Int),.slice none 0 0,.slice none 0 0,.int .i64 0] 46
 obtain⟨w4,bd,a9,aF,-⟩:=Ae w3 #[.int .i64 (t.1:Int),.int .i64 (t.2.1:Int),.int .i64 t.2.2] 63
 obtain⟨w5,be,a6,aG,-⟩:=Ae w4 #[.slice none 0 0,.slice none 0 0,.int .i64 0,.slice none 0 0,.slice none 0 0,.int .i64 0] 46
 have am:=ao.trans (ap.mono ao.size)
 have an:=am.trans (ae.mono am.size)
 have ad:=an.trans (a9.mono an.size)
 have aS:=ad.trans (a6.mono ad.size)
 have G:=hide aS
 have bz:w.heap.size≤w4.heap.size:=ad.size
 have ak:=hide ((((aC.below ap).below ae).below a9).below a6)
 have aN:=hide (((aD.below ae).below a9).below a6)
 have al:=hide ((aE.below a9).below a6)
 have aO:=hide (aF.below a6)
 have aP:=hide aG
 have aA:=(W2 hrel).topo
 have aY:m≠0:=by have:=hE.lt; omega
 have hR:=Xm hrel hr
 have b0:Hid (∀C,Below w5.heap.size w5 C→Calls Tryz.prog 63 #[.agg cs.toArray,.agg #[.int .i64 (m:Int),.int .i64 0,.int .i64 0],.agg #[.slice none 0 0,.slice A m cap,.int .i64 (m:Int),.slice none 0 0,.slice none 0 0,.int .i64 0]] C (Ret fun v w'=>v=.int .i64 0∧Below C.heap.size C w')):=hide (fun C hx=>by
  have E:=G.out.trans (hx.mono G.out.size)
  have:=Xx (cap:=cap) (h.keep (fun p F=>E.cell F) E.size) ay (hT.below E) aw (Ml aw aA) (hl.keep (fun p F=>E.cell F) E.size) hm aX ag
  rw [if_neg aY] at this
  exact this)
 have aW:Hid (∀C,Below w5.heap.size w5 C→Calls Tryz.prog 65 #[.agg cs.toArray,.agg #[.int .i64 (m:Int),.int .i64 0,.int .i64 0],.agg #[.slice none 0 0,.slice A m cap,.int .i64 (m:Int),.slice none 0 0,.slice none 0 0,.int .i64 0],.agg #[.int .i64 (t.1:Int),.int .i64 (t.2.1:Int),.int .i64 t.2.2],.bool false] C (Ret fun v w'=>v=.bool true∧Below C.heap.size C w')):=hide (fun C hx=>by
  have E:=G.out.trans (hx.mono G.out.size)
  have hk:=hE.range
  rw [←hm] at hk
  refine(XF (cap:=cap) (h.keep (fun p F=>E.cell F) E.size) aA hr hR ay.rules (hl.keep (fun p F=>E.cell F) E.size) hm ag hE.fr hk).mono fun e w' he=>?_
  cases e with
  | returned v=>obtain⟨⟨b,rfl,hb⟩,h2⟩:=he; exact⟨by rw [hb.2 ⟨r,hr,hE⟩],h2⟩
  | panicked c=>exact he.elim
  | outgrown=>exact he.elim)
 have aQ:Hid (∀C,Below w5.heap.size w5 C→Calls Tryz.prog 66 #[.agg cs.toArray,.agg #[.slice none 0 0,.slice A m cap,.int .i64 (m:Int),.slice none 0 0,.slice none 0 0,.int .i64 0],.agg #[.int .i64 (t.1:Int),.int .i64 (t.2.1:Int),.int .i64 t.2.2]] C (Ret fun v w'=>Below C.heap.size C w'∧∃u,v=.tuple #[u,.bool true]∧Wo C m (AE r l t.2.1 t.2.2) u w')):=hide (fun C hx=>by
  have E:=G.out.trans (hx.mono G.out.size)
  exact Yr (h.keep (fun p F=>E.cell F) E.size) hr hR (hl.keep (fun p F=>E.cell F) E.size) hm ag hE)
 have aZ:=hide ax
 generalize AE r l t.2.1 t.2.2=ol at*
 generalize cs.toArray=pc at*
 obtain⟨a1,a2,a3⟩:=t
 have bf:=Ah ak.out ax
 have bg:=Ah aN.out (n:=3) rfl
 have bh:=Ah al.out (n:=6) rfl
 clear h ay hT hrel hl hm ag aX hr hE aw aA aY hR ao ap ae a9 a6 aC aD aE aF aG am an ad aS ax
 go_enter Tryz.func25,Tryz.ntmps25
 go_wp2_with fail
 refine Calls.ret (b0.out _ (Below.refl _ _)) ?_
 rintro v w6 ⟨rfl,a7⟩
 have aq:=hide a7
 have bi:=Ah (ak.out.below a7) aZ.out
 have bj:=Ah (aN.out.below a7) (n:=3) rfl
 have bk:=Ah (al.out.below a7) (n:=6) rfl
 have bl:=Ah (aO.out.below a7) (n:=3) rfl
 clear a7 bf bg bh b0
 go_wp2_with fail
 refine Calls.ret (aW.out _ aq.out) ?_
 rintro v w7 ⟨rfl,aU⟩
 have Z:=hide (aq.out.trans (aU.mono aq.out.size))
 have bm:=Ah (ak.out.below Z.out) aZ.out
 have bn:=Ah (al.out.below Z.out) (n:=6) rfl
 have bo:=Ah (aO.out.below Z.out) (n:=3) rfl
 clear aU bi bj bk bl aW
 go_wp2_with fail
 refine Calls.ret (aQ.out _ Z.out) ?_
 rintro v w8 ⟨aV,u,rfl,J,U,I,c',M,V,O,W,rfl,aK⟩
 have aT:=hide (Z.out.trans (aV.mono Z.out.size))
 obtain⟨w9,b4,au,aH,-⟩:=Ae w8 #[.slice J 0 U,.slice I m c',.int .i64 (m:Int),.slice M 0 V,.slice O 0 W,.int .i64 0] 46
 have az:=Dv w8 46 6 (by kernel_rfl) (rc:=#[.slice J 0 U,.slice I m c',.int .i64 (m:Int),.slice M 0 V,.slice O 0 W,.int .i64 0]) rfl (by simp [Value.oneCell']) #[.slice none 0 0,.slice none 0 0,.int .i64 0,.slice none 0 0,.slice none 0 0,.int .i64 0] rfl
 rw [b4] at az
 have bw:(storeCells ⟨w8.heap.size,0,none⟩ [.slice J 0 U,.slice I m c',.int .i64 (m:Int),.slice M 0 V,.slice O 0 W,.int .i64 0] 0).run Tryz.prog (w8.alloc (.cells #[.slice none 0 0,.slice none 0 0,.int .i64 0,.slice none 0 0,.slice none 0 0,.int .i64 0] 46))=.ok () w9:=az
 have ar:=hide (aT.out.trans (au.mono aT.out.size))
 have l9:=Ah aH (n:=6) rfl
 obtain⟨wF,b5,aJ,ai⟩:=Wn (aP.out.below ar.out) #[.slice J 0 U,.slice I m c',.int .i64 (m:Int),.slice M 0 V,.slice O 0 W,.int .i64 0] rfl (by simp [Value.oneCell'])
 have bx:(storeCells ⟨w4.heap.size,0,none⟩ [.slice J 0 U,.slice I m c',.int .i64 (m:Int),.slice M 0 V,.slice O 0 W,.int .i64 0] 0).run Tryz.prog w9=.ok () wF:=b5
 have b9:=Ah aJ (n:=6) rfl
 have bu:w4.heap.size<w5.heap.size:=aP.out.lt
 have bv:=Z.out.size
 have hF:=hide (show Below w.heap.size w wF∧∃y,Value.tuple #[.agg #[.slice J 0 U,.slice I m c',.int .i64 (m:Int),.slice M 0 V,.slice O 0 W,.int .i64 0],.int .i64 0]=.tuple #[y,.int .i64 0]∧Wo w m ol y wF from
  ⟨G.out.trans ((ar.out.mono G.out.size).trans (ai.below (B:=w.heap.size) (by have:=G.out.size; have:=ar.out.size; omega) fun b hb (e:b=w4.heap.size)=>by
    omega)),_,rfl,J,U,I,c',M,V,O,W,rfl,by
   have aL:=K.EQ aK au
   exact K.Kc (ai.ownsRow aL (fun g hg (e:g=w4.heap.size)=>by have:=Bb aL hg; omega)) (by omega)⟩)
 clear aV aK au aH aJ ai b5 az bm bn bo aQ ba bb bc bd be b4
 go_wp2_with fail
 exact bodyPost_ret (v:=.tuple #[.agg #[.slice J 0 U,.slice I m c',.int .i64 (m:Int),.slice M 0 V,.slice O 0 W,.int .i64 0],.int .i64 0]) (by simp [results,Tryz.results25,go_sem,b9]) rfl hF.out
end
end Go.Proofs.YtfcfpoemojjglaaGreatDoor
namespace Go.Proofs.YtfcfpoemojjglaaGreatDoor
open Go.RowKit
set_option maxHeartbeats 16000000
set_option maxRecDepth 100000
def Cg:List Int→List Int→Int
 | [],[]=>0
 | [],_::_=>-1
 | _::_,[]=>1
 | x::xs,y::ys=>if x<y then -1 else if y<x then 1 else Cg xs ys
theorem Jb:∀{xs ys:List Int},Cg xs ys=0↔xs=ys
 | [],[]=>by simp [Cg]
 | [],_::_=>by simp [Cg]
 | _::_,[]=>by simp [Cg]
 | x::xs,y::ys=>by
  have C:=Jb (xs:=xs) (ys:=ys)
  unfold Cg
  rcases Int.lt_trichotomy x y with h | h | h
  ·rw [if_pos h]
   constructor
   ·intro e; omega
   ·intro e; injection e with e _; omega
  ·subst h
   rw [if_neg (by omega),if_neg (by omega),C]
   constructor
   ·intro e; rw [e]
   ·intro e; injection e
  ·rw [if_neg (by omega),if_pos h]
   constructor
   ·intro e; omega
   ·intro e; injection e with e _; omega
theorem M1 {xs ys:List Int} {i:Nat} {x y:Int} (C:xs[i]?=some x) (E:ys[i]?=some y):Cg (xs.drop i) (ys.drop i)=if x<y then -1 else if y<x then 1 else Cg (xs.drop (i+1)) (ys.drop (i+1)):=by
 obtain⟨h1,rfl⟩:=List.getElem?_eq_some_iff.1 C
 obtain⟨h,rfl⟩:=List.getElem?_eq_some_iff.1 E
 rw [List.drop_eq_getElem_cons h1,List.drop_eq_getElem_cons h,Cg]
theorem M3 {w:World} {M O c1 c2:Nat} {A1 A2:Option Addr} {xs ys:List Int} (h1:Sl w M 1 Ai A1 xs) (U:Sl w O 1 Ai A2 ys) (aa:M≤w.heap.size) (ab:O≤w.heap.size):
  Calls Tryz.prog 67 #[.slice A1 xs.length c1,.slice A2 ys.length c2] w (Ret fun r w'=>r=.int .i64 (Cg xs ys)∧Below w.heap.size w w'):=by
 have hn:=h1.1
 have hm:=U.1
 go_enter Tryz.func67,Tryz.ntmps67
 go_wp2_with fail
 go_loopw [5] (fun J wr=>∃(i:Nat),J=.int .i64 (i:Int)∧i≤xs.length∧i≤ys.length∧Below w.heap.size w wr∧Hid (Cg xs ys=Cg (xs.drop i) (ys.drop i))) (fun J _=>xs.length - (intOf J).toNat)
 case atStart=>exact⟨0,rfl,Nat.zero_le _,Nat.zero_le _,Below.refl _ _,by show _=_; simp⟩
 case round=>
  obtain⟨i,rfl,hi,af,C,E⟩:=hrel
  by_cases Z:i<xs.length
  ·by_cases I:i<ys.length
   ·obtain⟨b1,o1,x,rfl,ac,hx,V⟩:=h1.at Z
    obtain⟨b2,o2,y,rfl,ad,hy,W⟩:=U.at I
    have e1:=(C.cell (by show b1<_; omega)).trans (V 0 (by omega))
    have e2:=(C.cell (by show b2<_; omega)).trans (W 0 (by omega))
    simp only [Nat.mul_one,Nat.add_zero,Ai] at e1 e2
    have a9:=hide (C.trans ((Ap wr).mono C.size))
    have a3:=hide ((C.trans ((Ap wr).mono C.size)).trans ((Ap wr.drew).mono C.size))
    have G:=hide (E.out.trans (M1 hx hy))
    clear hx hy V W E
    rcases Int.lt_trichotomy x y with F | F | F
    ·have h:Hid (Cg xs ys= -1):=by show _=_; rw [G.out,if_pos F]
     go_wp2_with fail
     refine Reg.cP [0,0,3,7,0,0,48,112,255] ?_
     go_wp2_with fail
     go_ret
     exact⟨by rw [h.out]; first | done | rfl,a9.out⟩
    ·subst F
     have h:Hid (Cg xs ys=Cg (xs.drop (i+1)) (ys.drop (i+1))):=by show _=_; rw [G.out,if_neg (by omega),if_neg (by omega)]
     go_wp2_with fail
     refine Reg.cP [0,0,3,7,0,0,48,112,255] ?_
     go_wp2_with fail
     refine Reg.cP [0,0,3,7,0,0,48,112,255] ?_
     go_wp2_with fail
     exact⟨⟨i+1,by simp,by omega,by omega,a3.out,h⟩,by simp [intOf]; omega⟩
    ·have h:Hid (Cg xs ys=1):=by show _=_; rw [G.out,if_neg (by omega),if_pos F]
     have ai:¬x<y:=by omega
     go_wp2_with fail
     refine Reg.cP [0,0,3,7,0,0,48,112,255] ?_
     go_wp2_with fail
     refine Reg.cP [0,0,3,7,0,0,48,112,255] ?_
     go_wp2_with fail
     go_ret
     exact⟨by rw [h.out]; first | done | rfl,a3.out⟩
   ·have h:Hid (Cg xs ys=1):=by
     show _=_
     rw [E.out,(List.drop_eq_nil_of_le (by omega):ys.drop i=[]),List.drop_eq_getElem_cons Z,Cg]
    have a8:ys.length<xs.length:=by omega
    have a2:¬xs.length<ys.length:=by omega
    go_wp2_with fail
    go_ret
    exact⟨by rw [h.out]; first | done | rfl,C⟩
  ·by_cases I:i<ys.length
   ·have h:Hid (Cg xs ys= -1):=by
     show _=_
     rw [E.out,(List.drop_eq_nil_of_le (by omega):xs.drop i=[]),List.drop_eq_getElem_cons I,Cg]
    have a2:xs.length<ys.length:=by omega
    go_wp2_with fail
    go_ret
    exact⟨by rw [h.out]; first | done | rfl,C⟩
   ·have h:Hid (Cg xs ys=0):=by
     show _=_
     rw [E.out,(List.drop_eq_nil_of_le (by omega):xs.drop i=[]),(List.drop_eq_nil_of_le (by omega):ys.drop i=[]),Cg]
    have a2:¬xs.length<ys.length:=by omega
    have a8:¬ys.length<xs.length:=by omega
    go_wp2_with fail
    go_ret
    exact⟨by rw [h.out]; first | done | rfl,C⟩
theorem KX {w:World} {h x c1 c2:Nat} {A1 A2:Option Addr} {xs ys:List Int} (h1:Sl w h 1 Ai A1 xs) (E:Sl w x 1 Ai A2 ys) (F:h≤w.heap.size) (G:x≤w.heap.size):
  Calls Tryz.prog 26 #[.slice A1 xs.length c1,.slice A2 ys.length c2] w (Ret fun r w'=>r=.bool (decide (xs=ys))∧Below w.heap.size w w'):=by
 have C:=M3 (c1:=c1) (c2:=c2) h1 E F G
 have J:=hide (Jb (xs:=xs) (ys:=ys))
 generalize Cg xs ys=z at*
 go_enter Tryz.func26,Tryz.ntmps26
 go_wp2_with fail
 refine Calls.ret C ?_
 rintro v M ⟨rfl,y⟩
 have I:=hide y
 clear y C
 go_wp2_with fail
 go_ret
 exact⟨congrArg Value.bool (decide_eq_decide.2 J.out),I.out⟩
end Go.Proofs.YtfcfpoemojjglaaGreatDoor
