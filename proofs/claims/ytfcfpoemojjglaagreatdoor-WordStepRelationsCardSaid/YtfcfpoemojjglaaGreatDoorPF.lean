/-
  Part PF of a proof.
-/
import Derived.Test.YtfcfpoemojjglaaGreatDoorPA
import Derived.Test.YtfcfpoemojjglaaGreatDoorPE
set_option maxHeartbeats 16000000
set_option maxRecDepth 100000
set_option linter.unusedVariables false
set_option linter.unusedSimpArgs false
namespace Go.Proofs.YtfcfpoemojjglaaGreatDoor
open Go.RowKit
set_option maxHeartbeats 16000000
set_option maxRecDepth 100000
theorem QU (z:Value) (n:Nat):madeCells #[z] (n*1)=Bi n fun _=>z:=by rw [HA,Fo]
theorem R5 (n:Nat) (z:Value):(List.replicate n z).toArray=Bi n fun _=>z:=by rw [←KH,Fo]
def WA.toK (a:WA) (k s x:Nat):List Int:=((a.edges.take k).filter fun e=>decide (e.frm=(s:Int))&&decide (e.letter=(x:Int))).map (·.to)
theorem WA.toK_zero (a:WA):a.toK 0=fun _ _=>[]:=by funext s x; simp [WA.toK]
theorem WA.toK_all (a:WA) {k:Nat} (h:a.edges.length≤k):a.toK k=a.to:=by funext s x; unfold WA.toK WA.to; rw [List.take_of_length_le h]
theorem WA.toK_succ (a:WA) {k f y:Nat} {to:Int} (h:a.edges[k]?=some ⟨(f:Int),(y:Int),to⟩):a.toK (k+1)=up2 (a.toK k) f y (a.toK k f y++[to]):=by
 funext s x
 unfold WA.toK
 rw [B5 h,List.filter_append,List.map_append]
 unfold up2
 by_cases e:s=f∧x=y
 ·rw [if_pos e,e.1,e.2]; simp
 ·rw [if_neg e]
  have:(decide ((f:Int)=(s:Int))&&decide ((y:Int)=(x:Int)))=false:=by
   rw [Bool.and_eq_false_iff]
   rcases Classical.not_and_iff_not_or_not.1 e with e | e
   ·exact .inl (by simp; omega)
   ·exact .inr (by simp; omega)
  simp [this]
theorem WA.toK_len (a:WA) (k s x:Nat):(a.toK k s x).length≤k:=by
 unfold WA.toK
 rw [List.length_map]
 exact Nat.le_trans (List.length_filter_le _ _) (List.length_take_le _ _)
theorem WA.to_len (a:WA) (s x:Nat):(a.to s x).length≤a.edges.length:=by
 rw [←WA.toK_all a (Nat.le_refl _)]
 exact WA.toK_len a _ s x
theorem Fe {w0 wr:World} {g y:Nat} {t z:TypeId} {cs C:Array Value} (h:Blk w0 g t cs) (E:Blk w0 y z C) (hk:Ac w0 wr (fun k=>k=y)) (F:t≠z):Blk wr g t cs:=h.kept hk (h.ne_ E F)
theorem HM {v:Value} {a:WA} {w:World} (h:Bj w w.heap.size v a) (aL:a.In) (hS:0≤a.states∧a.states≤200000) (hL:0≤a.letters∧a.letters≤8) (he:a.edges.length≤3000000):
  Calls Tryz.prog 41 #[v] w (Ret fun r w'=>Cn w' w'.heap.size r a.nf∧Below w.heap.size w w'):=by
 obtain⟨A1,c1,A2,c2,A3,c3,rfl,h1,h2,h3,h4⟩:=h
 obtain⟨n,hn⟩:=Int.eq_ofNat_of_zero_le hS.1
 obtain⟨L,aD⟩:=Int.eq_ofNat_of_zero_le hL.1
 have cb:n≤200000:=by omega
 have cv:L≤8:=by omega
 obtain⟨w1,cQ,aF,bE,c5⟩:=Ae w #[.int .i64 (L:Int),.int .i64 (n:Int),.slice A1 a.start.length c1,.slice A2 a.accept.length c2,.slice A3 a.edges.length c3] 35
 obtain⟨w2,cR,b0,bG,c6⟩:=Ae w1 #[.int .i64 0,.slice none 0 0,.slice none 0 0,.slice none 0 0] 88
 have aT:=bE.below b0
 have ai:=aF.trans (b0.mono aF.size)
 have bM:∀x∈a.accept,inN n x=true:=fun x hx=>by have:=aL.accept x hx; rwa [hn] at this
 rw [hn,aD]
 have be:=hide hn
 have aY:=hide aD
 have c0:=hide aL
 clear hS hL hn aD aL c5 c6
 go_enter Tryz.func41,Tryz.ntmps41
 go_wp2_with fail
 refine Rg cb aT (h2.keep (B':=w.heap.size) (fun p hp=>ai.cell (by omega)) (Nat.le_refl _)) rfl (by have:=ai.size; omega) bM (by repeat (first | exact Reg.NoQ.body (fun _ _ h=>h) (fun _ h=>h) | refine Reg.NoQ.then ?_ | refine Reg.NoQ.inBlock ?_)) ?_
 iterate 13 (intro _)
 intro w3 g3 E gm hA
 have b3:=hA.blk _ (List.mem_cons_self)
 have bn:=hA.blk _ (List.mem_cons_of_mem _ List.mem_cons_self)
 have bm:=hA.blk _ (List.mem_cons_of_mem _ (List.mem_cons_of_mem _ List.mem_cons_self))
 have an:=hA.below
 dsimp only at b3 bn bm
 rw [R5] at bn
 have bJ:Hid (EC w3 w3 n L 0 E (fun _=>0)):=by
  refine⟨Ac.refl _ _,?_,fun s M=>absurd M (by omega),fun s M=>absurd M (by omega)⟩
  rw [D4 (g:=fun _=>Value.slice none 0 0) (fun s _=>by simp)]
  exact bn.1
 have b1:=hide b3
 have Z:=hide bn
 have bQ:=hide bm
 have aZ:=hide (ai.trans (an.mono ai.size))
 have aU:=hide (aT.below an)
 have bH:=hide (bG.below an)
 have bT:=b3.1.cell
 clear b3 bn bm hA an
 go_wp2_with fail
 go_loopw [23] (fun ii wr=>∃(i:Nat) (I:Nat→Nat),ii=.int .i64 (i:Int)∧i≤n∧Hid (EC w3 wr n L i E I)) (fun ii _=>n - (intOf ii).toNat)
 case atStart=>exact⟨0,_,rfl,Nat.zero_le _,bJ⟩
 case round=>
  obtain⟨i,I,rfl,hi,J⟩:=hrel
  have hK:=J.out.kept
  have aJ:=Fe b1.out.1 Z.out.1 hK (by decide)
  have aV:=Fe aU.out Z.out.1 hK (by decide)
  have bX:=aJ.cell
  have bR:=aV.cell
  by_cases bb:i<n
  ·have cJ:=hide hK
   have cw:=hide aJ
   clear hK aJ aV
   go_wp2_with fail
   refine Reg.cC [0,1,0,0,8,24,63,127] [0,1,2,3,4,5,6,7] ?_
   refine Reg.rest_walk' [0,1,2,3,4] [5,6,7] rfl (by kernel_rfl) ?_
   intro Qf C
   go_wp2_with fail
   first | refine C _ _ ?_ | skip
   try clear C
   refine Reg.rest_act' 5 [6,7] [1] rfl (by kernel_rfl) ?_
   intro Qf C
   simp only [gT,gS,gZ]
   refine LG Tryz.underlying75 Hu (by omega) (by omega) L (by omega) rfl _ _ rfl rfl rfl ?_
   intro gr G W aC bZ
   first | refine C _ _ ⟨Reg.same_below aC _ rfl,?_⟩ | refine⟨Reg.same_below aC _ rfl,?_⟩
   try clear C
   have aW:Below wr.heap.size wr G:=(Ap wr).trans aC
   rw [show(Value.slice none 0 0).cells=#[Value.slice none 0 0] from rfl,QU] at W
   have aO:=hide (J.out.step bb aW W bZ)
   have ar:=(J.out.top.below aW)
   have cD:=ar.frozen i
   have cz:G.cell? ⟨E,i,none⟩=some (.slice none 0 0):=by rw [ar.cell,CV _ bb,if_neg (by omega)]
   have cM:=ar.lt
   clear ar
   refine Reg.rest_walk' [6,7] [] rfl (by kernel_rfl) ?_
   intro Qf C
   go_wp2_with fail
   first | refine C _ _ ?_ | skip
   try clear C
   refine Reg.rest_end ?_
   go_wp2_with fail
   exact⟨⟨i+1,up1 I i gr,by go_num,by omega,aO⟩,by simp [intOf]; omega⟩
  ·have ce:i=n:=by omega
   subst ce
   have bK:=hide J.out.done
   clear J
   obtain⟨w4,ck⟩:∃w4:World,w4=wr:=⟨_,rfl⟩
   subst ck
   go_wp2_with fail
   go_loopw [37] (fun ii wr=>∃(k:Nat) (u:Nat→Nat→Value),ii=.int .i64 (k:Int)∧k≤a.edges.length∧Hid (Ea w3 wr i L E I u (a.toK k))) (fun ii _=>a.edges.length - (intOf ii).toNat)
   case atStart=>exact⟨0,_,rfl,Nat.zero_le _,by rw [a.toK_zero]; exact bK⟩
   case round=>
    obtain⟨k,u,rfl,hk,J⟩:=hrel
    have ah:=J.out.kept
    have b2:=Fe b1.out.1 Z.out.1 ah (by decide)
    have bF:=Fe aU.out Z.out.1 ah (by decide)
    have bY:=b2.cell
    have bS:=bF.cell
    have aE:Below w.heap.size w wr:=aZ.out.trans (ah.below (by have:=aZ.out.size; omega) fun b hb e=>by have:=Z.out.2; have:=ai.size; omega)
    by_cases c9:k<a.edges.length
    ·obtain⟨bl,cT,⟨f0,y0,to⟩,rfl,bP,aP,hc⟩:=h3.at c9
     have ao:=fun j hj=>(aE.cell (by exact bP)).trans (hc j hj)
     have e0:=ao 0 (by omega)
     have e1:=ao 1 (by omega)
     have e2:=ao 2 (by omega)
     simp only [Nat.add_zero,DP] at e0 e1 e2
     obtain⟨i1,i2,i3⟩:=c0.out.edge _ (List.mem_of_getElem? aP)
     obtain⟨f,ba,O⟩:=CT i1
     obtain⟨y,bi,hy⟩:=CT i2
     dsimp only at ba bi O hy
     subst ba bi
     rw [be.out,Int.toNat_natCast] at O
     rw [aY.out,Int.toNat_natCast] at hy
     have cj:=hide (WA.toK_succ a aP)
     have c8:=hide (WA.toK_len a k f y)
     obtain⟨G,cS,W,aA,c7⟩:=Ae wr #[.int .i64 (f:Int),.int .i64 (y:Int),.int .i64 to] 83
     have a6:=J.out.keep W
     have aG:=b2.below W
     have bU:=aG.cell
     have bV:=aA.cell
     have b7:G.cell? ⟨E,f,none⟩=some (.slice (some ⟨I f,0,none⟩) L L):=by rw [a6.top.cell,CV _ O]
     have U:=a6.own f O y hy
     obtain⟨Au,cu,hu⟩:=AH U
     have b9:G.cell? ⟨I f,y,none⟩=some (.slice Au (a.toK k f y).length cu):=by rw [(a6.row f O).1.cell,CV _ hy,hu]
     rw [hu] at U
     have a7:=hide a6
     have aH:=hide aG
     have aB:=hide aA
     have b8:=hide b7
     have ca:(a.toK k f y).length≤3000000:=by have:=c8.out; omega
     obtain⟨m,hm⟩:∃m,m=(a.toK k f y).length:=⟨_,rfl⟩
     rw [←hm] at b9 U ca
     have aN:=hide hm
     have ci:=hide a6.kept.size
     have bh:=hide hu
     have cH:=hide W
     clear hm hc ao aP i1 i2 i3 a6 aG aA c7 hu bX bR bY bS bT W
     go_wp2_with fail
     refine Reg.cC [0,1,0,4,15,31,0,64,0,256,0,1024,3840,7936,0,16384,65280,130816,0,262144,786432,2096896,4194303,8388607] [0,1,2,3,4,5,6,7,8,9,10,11,12,13,14,15,16,17,18,19,20,21,22,23] ?_
     refine Reg.rest_walk' [0,1,2,3,4,5,6,7,8,9,10,11,12,13,14,15,16,17,18,19,20] [21,22,23] rfl (by kernel_rfl) ?_
     intro Qf C
     go_wp2_with fail
     first | refine C _ _ ?_ | skip
     try clear C
     refine Reg.rest_act' 21 [22,23] [1,3,5,7] rfl (by kernel_rfl) ?_
     intro Qf C
     simp only [gT,gS,gZ]
     refine BP (w:=G.drew) C9 rfl _ _ rfl w3.heap.size (.slice Au m cu) m _ rfl U [.int .i64 to] 1 rfl rfl (by simp [Value.oneCell']) (by omega) ci.out ?_
     intro g ay w6 bf a9 bc cF
     have aa:Ac G w6 (fun k=>(Value.slice Au m cu).ownBlock=some k):=⟨a9.os,a9.tape,a9.output,a9.size,a9.block⟩
     have bd:BJ G (.slice Au m cu) (.slice (some ⟨g,0,none⟩) (m+1) ay):=bc
     have aO:=hide (show Ea w3 (w6.setCell ⟨I f,y,none⟩ (.slice (some ⟨g,0,none⟩) (m+1) ay)) i L E I (up2 u f y (.slice (some ⟨g,0,none⟩) (m+1) ay)) (a.toK (k+1)) from by
      rw [cj.out]
      refine a7.out.step O hy ?_ ?_ ?_
      ·rw [bh.out,←aN.out]; exact aa
      ·rw [←aN.out]; exact bf
      ·rw [bh.out,←aN.out]; exact bd)
     have q3:=(aH.out.kept aa (Aw U aH.out (by decide))).cell
     have q6:=(aB.out.kept aa (Aw U aB.out (by decide))).cell
     have qn:w6.cell? ⟨E,f,none⟩=some (.slice (some ⟨I f,0,none⟩) L L):=(aa.cell a7.out.top.lt (Aw U a7.out.top (by decide))).trans b8.out
     have r3:=((aH.out.kept ((Ac.refl G (fun _=>False)).alloc (.cells #[.int .i64 to] 3)).drew id)).cell
     have r6:=((aB.out.kept ((Ac.refl G (fun _=>False)).alloc (.cells #[.int .i64 to] 3)).drew id)).cell
     have rn:((G.alloc (.cells #[.int .i64 to] 3)).drew).cell? ⟨E,f,none⟩=some (.slice (some ⟨I f,0,none⟩) L L):=(((Ac.refl G (fun _=>False)).alloc (.cells #[.int .i64 to] 3)).drew.cell a7.out.top.lt id).trans b8.out
     have aq:=(a7.out.row f O).1.kept aa (Aw U (a7.out.row f O).1 (by decide))
     have cE:=aq.frozen y
     have cy:w6.cell? ⟨I f,y,none⟩=some (u f y):=by rw [aq.cell,CV _ hy]
     have cL:=aq.lt
     refine C _ _ ⟨?_,?_⟩
     ·intro z hz q F
      simp only [List.mem_cons,List.not_mem_nil,or_false] at hz
      rcases hz with rfl | rfl | rfl | rfl
      ·injection F with F
       subst F
       exact Reg.same_load1 rfl rfl (r3 1) (q3 1) Tryz.underlying86 rfl
      ·injection F with F
       subst F
       exact Reg.same_load1 rfl rfl (r6 0) (q6 0) Tryz.underlying3 rfl
      ·injection F with F
       subst F
       exact Reg.same_load1 rfl rfl rn qn Tryz.underlying75 rfl
      ·injection F with F
       subst F
       exact Reg.same_load1 rfl rfl (r6 1) (q6 1) Tryz.underlying3 rfl
     ·clear C q3 q6 qn r3 r6 rn aq bf a9 aa bc bd bU bV b7 b9
      refine Reg.rest_walk' [22,23] [] rfl (by kernel_rfl) ?_
      intro Qf C
      go_wp2_with fail
      first | refine C _ _ ?_ | skip
      try clear C
      refine Reg.rest_end ?_
      go_wp2_with fail
      exact⟨⟨k+1,_,by go_num,by omega,aO⟩,by simp [intOf]; omega⟩
    ·have V:=Fe bH.out Z.out.1 ah (by decide)
     have b5:=Fe bQ.out.1 Z.out.1 ah (by decide)
     have cx:=V.cell
     have cB:=V.frozen
     have cK:=V.lt
     obtain⟨wF,cm,bI,a5⟩:=Lg V (.int .i64 (L:Int)) (.slice (some ⟨E,0,none⟩) i i) (.slice A1 a.start.length c1) (.slice (some ⟨gm,0,none⟩) i i)
     have cg:Hid (Cn wF wF.heap.size (.agg #[.int .i64 (L:Int),.slice (some ⟨E,0,none⟩) i i,.slice A1 a.start.length c1,.slice (some ⟨gm,0,none⟩) i i]) a.nf∧Below w.heap.size w wF):=by
      have aK:Below w.heap.size w wF:=aE.trans (a5.below aE.size fun b hb e=>by have:=aF.size; omega)
      have cO:=a5.size
      have bN:a.n=i:=by unfold WA.n; rw [be.out]; rfl
      have bL:a.L=L:=by unfold WA.L; rw [aY.out]; rfl
      have a8:=J.out
      rw [a.toK_all (by omega)] at a8
      have aS:∀g t cs,Blk wr g t cs→t≠88→g≠w1.heap.size:=fun g t cs hB cc=>hB.ne_ V cc
      have cf:=Rf (B:=wF.heap.size) (a8.top.kept a5 (aS _ _ _ a8.top (by decide))) (fun s M=>(a8.row s M).1.kept a5 (aS _ _ _ (a8.row s M).1 (by decide))) (fun s M x hx=>AK a5 (a8.own s M x hx) (fun g cs e hB=>by subst e; exact hB.ne_ V (by decide) rfl)) (Nat.le_refl _) (by omega) (by omega) (fun s M x hx=>by have:=a.to_len s x; omega)
      have cd:a.nf=⟨L,(List.range i).map fun s=>(List.range L).map fun x=>a.to s x,a.start,BN i a.accept⟩:=by unfold WA.nf; rw [bN,bL]
      refine⟨?_,aK⟩
      rw [cd]
      have b4:=b5.kept a5 (b5.ne_ V (by decide))
      obtain⟨co,cq,e3,ch⟩:=BX.sl (B:=wF.heap.size) ⟨gm,b4.lt,rfl,b4⟩ (by rw [Dh]; omega)
      rw [Dh] at e3
      injection e3 with e3 _ e4
      refine⟨_,i,A1,c1,some ⟨gm,0,none⟩,i,by simp [Dh],cf,h1.keep (fun p hp=>aK.cell hp) aK.size,?_,h4⟩
      rw [e3]
      exact ch
     go_wp2_with fail
     change bodyPost _ _ _ _ _ (set4t wr w1.heap.size (.int .i64 (L:Int)) (.slice (some ⟨E,0,none⟩) i i) (.slice A1 a.start.length c1) (.slice (some ⟨gm,0,none⟩) i i))
     rw [cm]
     have bW:=bI.cell
     exact bodyPost_ret (v:=.agg #[.int .i64 (L:Int),.slice (some ⟨E,0,none⟩) i i,.slice A1 a.start.length c1,.slice (some ⟨gm,0,none⟩) i i]) (by simp [results,Tryz.results41,go_sem,bW]) rfl cg.out
end Go.Proofs.YtfcfpoemojjglaaGreatDoor
