/-
  Part PF of a proof.
-/
import Derived.Test.YtfcfpoemojjglaaGreatDoorPA
import Derived.Test.YtfcfpoemojjglaaGreatDoorPE
set_option maxHeartbeats 16000000
set_option maxRecDepth 100000
set_option linter.unusedVariables false
set_option linter.unusedSimpArgs false
namespace Go.Proofs.YtfcfpoemojjglaaGreatDoor
open Go.RowKit
set_option maxHeartbeats 16000000
set_option maxRecDepth 100000
theorem QU (z:Value) (n:Nat):madeCells #[z] (n*1)=Bi n fun _=>z:=by rw [HA,Fo]
theorem R5 (n:Nat) (z:Value):(List.replicate n z).toArray=Bi n fun _=>z:=by rw [←KH,Fo]
def WA.toK (a:WA) (k s x:Nat):List Int:=((a.edges.take k).filter fun e=>decide (e.frm=(s:Int))&&decide (e.letter=(x:Int))).map (·.to)
theorem WA.toK_zero (a:WA):a.toK 0=fun _ _=>[]:=by funext s x; simp [WA.toK]
theorem WA.toK_all (a:WA) {k:Nat} (h:a.edges.length≤k):a.toK k=a.to:=by funext s x; unfold WA.toK WA.to; rw [List.take_of_length_le h]
theorem WA.toK_succ (a:WA) {k f y:Nat} {to:Int} (h:a.edges[k]?=some ⟨(f:Int),(y:Int),to⟩):a.toK (k+1)=up2 (a.toK k) f y (a.toK k f y++[to]):=by
 funext s x
 unfold WA.toK
 rw [B5 h,List.filter_append,List.map_append]
 unfold up2
 by_cases e:s=f∧x=y
 ·rw [if_pos e,e.1,e.2]; simp
 ·rw [if_neg e]
  have:(decide ((f:Int)=(s:Int))&&decide ((y:Int)=(x:Int)))=false:=by
   rw [Bool.and_eq_false_iff]
   rcases Classical.not_and_iff_not_or_not.1 e with e | e
   ·exact .inl (by simp; omega)
   ·exact .inr (by simp; omega)
  simp [this]
theorem WA.toK_len (a:WA) (k s x:Nat):(a.toK k s x).length≤k:=by
 unfold WA.toK
 rw [List.length_map]
 exact Nat.le_trans (List.length_filter_le _ _) (List.length_take_le _ _)
theorem WA.to_len (a:WA) (s x:Nat):(a.to s x).length≤a.edges.length:=by
 rw [←WA.toK_all a (Nat.le_refl _)]
 exact WA.toK_len a _ s x
theorem Fe {w0 wr:World} {g y:Nat} {t z:TypeId} {cs C:Array Value} (h:Blk w0 g t cs) (E:Blk w0 y z C) (hk:Ac w0 wr (fun k=>k=y)) (G:t≠z):Blk wr g t cs:=h.kept hk (h.ne_ E G)
theorem HM {v:Value} {a:WA} {w:World} (h:Bj w w.heap.size v a) (aK:a.In) (hS:0≤a.states∧a.states≤200000) (hL:0≤a.letters∧a.letters≤8) (he:a.edges.length≤3000000):
  Calls Tryz.prog 41 #[v] w (Ret fun r w'=>Cn w' w'.heap.size r a.nf∧Below w.heap.size w w'):=by
 obtain⟨A1,c1,A2,c2,A3,c3,rfl,h1,h2,h3,h4⟩:=h
 obtain⟨n,hn⟩:=Int.eq_ofNat_of_zero_le hS.1
 obtain⟨L,aC⟩:=Int.eq_ofNat_of_zero_le hL.1
 have cb:n≤200000:=by omega
 have cw:L≤8:=by omega
 obtain⟨w1,cR,aE,bE,c5⟩:=Ae w #[.int .i64 (L:Int),.int .i64 (n:Int),.slice A1 a.start.length c1,.slice A2 a.accept.length c2,.slice A3 a.edges.length c3] 35
 obtain⟨w2,cS,aZ,bG,c6⟩:=Ae w1 #[.int .i64 0,.slice none 0 0,.slice none 0 0,.slice none 0 0] 88
 have aS:=bE.below aZ
 have ah:=aE.trans (aZ.mono aE.size)
 have bM:∀x∈a.accept,inN n x=true:=fun x hx=>by have:=aK.accept x hx; rwa [hn] at this
 rw [hn,aC]
 have be:=hide hn
 have aX:=hide aC
 have c0:=hide aK
 clear hS hL hn aC aK c5 c6
 go_enter Tryz.func41,Tryz.ntmps41
 go_wp2_with fail
 refine Rg cb aS (h2.keep (B':=w.heap.size) (fun p hp=>ah.cell (by omega)) (Nat.le_refl _)) rfl (by have:=ah.size; omega) bM (by repeat (first | exact Reg.NoQ.body (fun _ _ h=>h) (fun _ h=>h) | refine Reg.NoQ.then ?_ | refine Reg.NoQ.inBlock ?_)) ?_
 iterate 13 (intro _)
 intro w3 g3 E gm hA
 have b3:=hA.blk _ (List.mem_cons_self)
 have bn:=hA.blk _ (List.mem_cons_of_mem _ List.mem_cons_self)
 have bm:=hA.blk _ (List.mem_cons_of_mem _ (List.mem_cons_of_mem _ List.mem_cons_self))
 have am:=hA.below
 dsimp only at b3 bn bm
 rw [R5] at bn
 have bJ:Hid (EC w3 w3 n L 0 E (fun _=>0)):=by
  refine⟨Ac.refl _ _,?_,fun s O=>absurd O (by omega),fun s O=>absurd O (by omega)⟩
  rw [D4 (g:=fun _=>Value.slice none 0 0) (fun s _=>by simp)]
  exact bn.1
 have b0:=hide b3
 have a2:=hide bn
 have bQ:=hide bm
 have aY:=hide (ah.trans (am.mono ah.size))
 have aT:=hide (aS.below am)
 have bH:=hide (bG.below am)
 have bT:=b3.1.cell
 clear b3 bn bm hA am
 go_wp2_with fail
 go_loopw [23] (fun ii wr=>∃(i:Nat) (J:Nat→Nat),ii=.int .i64 (i:Int)∧i≤n∧Hid (EC w3 wr n L i E J)) (fun ii _=>n - (intOf ii).toNat)
 case atStart=>exact⟨0,_,rfl,Nat.zero_le _,bJ⟩
 case round=>
  obtain⟨i,J,rfl,hi,M⟩:=hrel
  have hK:=M.out.kept
  have aH:=Fe b0.out.1 a2.out.1 hK (by decide)
  have aU:=Fe aT.out a2.out.1 hK (by decide)
  have bX:=aH.cell
  have bR:=aU.cell
  by_cases ba:i<n
  ·have cK:=hide hK
   have cx:=hide aH
   clear hK aH aU
   go_wp2_with fail
   refine Reg.cC [0,1,0,0,8,24,63,127] [0,1,2,3,4,5,6,7] ?_
   refine Reg.rest_walk' [0,1,2,3,4] [5,6,7] rfl (by kernel_rfl) ?_
   intro Qf C
   go_wp2_with fail
   first | refine C _ _ ?_ | skip
   try clear C
   refine Reg.rest_act' 5 [6,7] [1] rfl (by kernel_rfl) ?_
   intro Qf C
   simp only [gT,gS,gZ]
   refine LG Tryz.underlying75 Hu (by omega) (by omega) L (by omega) rfl _ _ rfl rfl rfl ?_
   intro gr I Z aB bZ
   first | refine C _ _ ⟨Reg.same_below aB _ rfl,?_⟩ | refine⟨Reg.same_below aB _ rfl,?_⟩
   try clear C
   have aV:Below wr.heap.size wr I:=(Ap wr).trans aB
   rw [show(Value.slice none 0 0).cells=#[Value.slice none 0 0] from rfl,QU] at Z
   have aN:=hide (M.out.step ba aV Z bZ)
   have aq:=(M.out.top.below aV)
   have cE:=aq.frozen i
   have cA:I.cell? ⟨E,i,none⟩=some (.slice none 0 0):=by rw [aq.cell,CV _ ba,if_neg (by omega)]
   have cO:=aq.lt
   clear aq
   refine Reg.rest_walk' [6,7] [] rfl (by kernel_rfl) ?_
   intro Qf C
   go_wp2_with fail
   first | refine C _ _ ?_ | skip
   try clear C
   refine Reg.rest_end ?_
   go_wp2_with fail
   exact⟨⟨i+1,up1 J i gr,by go_num,by omega,aN⟩,by simp [intOf]; omega⟩
  ·have ce:i=n:=by omega
   subst ce
   have bK:=hide M.out.done
   clear M
   obtain⟨w4,ck⟩:∃w4:World,w4=wr:=⟨_,rfl⟩
   subst ck
   go_wp2_with fail
   go_loopw [37] (fun ii wr=>∃(k:Nat) (u:Nat→Nat→Value),ii=.int .i64 (k:Int)∧k≤a.edges.length∧Hid (Ea w3 wr i L E J u (a.toK k))) (fun ii _=>a.edges.length - (intOf ii).toNat)
   case atStart=>exact⟨0,_,rfl,Nat.zero_le _,by rw [a.toK_zero]; exact bK⟩
   case round=>
    obtain⟨k,u,rfl,hk,M⟩:=hrel
    have ag:=M.out.kept
    have b1:=Fe b0.out.1 a2.out.1 ag (by decide)
    have bF:=Fe aT.out a2.out.1 ag (by decide)
    have bY:=b1.cell
    have bS:=bF.cell
    have aD:Below w.heap.size w wr:=aY.out.trans (ag.below (by have:=aY.out.size; omega) fun b hb e=>by have:=a2.out.2; have:=ah.size; omega)
    by_cases c9:k<a.edges.length
    ·obtain⟨bl,cU,⟨f0,y0,to⟩,rfl,bP,aO,hc⟩:=h3.at c9
     have an:=fun j hj=>(aD.cell (by exact bP)).trans (hc j hj)
     have e0:=an 0 (by omega)
     have e1:=an 1 (by omega)
     have e2:=an 2 (by omega)
     simp only [Nat.add_zero,DP] at e0 e1 e2
     obtain⟨i1,i2,i3⟩:=c0.out.edge _ (List.mem_of_getElem? aO)
     obtain⟨f,b9,U⟩:=CT i1
     obtain⟨y,bi,hy⟩:=CT i2
     dsimp only at b9 bi U hy
     subst b9 bi
     rw [be.out,Int.toNat_natCast] at U
     rw [aX.out,Int.toNat_natCast] at hy
     have cj:=hide (WA.toK_succ a aO)
     have c8:=hide (WA.toK_len a k f y)
     obtain⟨I,cT,Z,az,c7⟩:=Ae wr #[.int .i64 (f:Int),.int .i64 (y:Int),.int .i64 to] 83
     have a6:=M.out.keep Z
     have aF:=b1.below Z
     have bU:=aF.cell
     have bV:=az.cell
     have b6:I.cell? ⟨E,f,none⟩=some (.slice (some ⟨J f,0,none⟩) L L):=by rw [a6.top.cell,CV _ U]
     have V:=a6.own f U y hy
     obtain⟨Au,cu,hu⟩:=AH V
     have b8:I.cell? ⟨J f,y,none⟩=some (.slice Au (a.toK k f y).length cu):=by rw [(a6.row f U).1.cell,CV _ hy,hu]
     rw [hu] at V
     have a7:=hide a6
     have aG:=hide aF
     have aA:=hide az
     have b7:=hide b6
     have ca:(a.toK k f y).length≤3000000:=by have:=c8.out; omega
     obtain⟨m,hm⟩:∃m,m=(a.toK k f y).length:=⟨_,rfl⟩
     rw [←hm] at b8 V ca
     have aM:=hide hm
     have ci:=hide a6.kept.size
     have bh:=hide hu
     have cJ:=hide Z
     clear hm hc an aO i1 i2 i3 a6 aF az c7 hu bX bR bY bS bT Z
     go_wp2_with fail
     refine Reg.cC [0,1,0,4,15,31,0,64,0,256,0,1024,3840,7936,0,16384,65280,130816,0,262144,786432,2096896,4194303,8388607] [0,1,2,3,4,5,6,7,8,9,10,11,12,13,14,15,16,17,18,19,20,21,22,23] ?_
     refine Reg.rest_walk' [0,1,2,3,4,5,6,7,8,9,10,11,12,13,14,15,16,17,18,19,20] [21,22,23] rfl (by kernel_rfl) ?_
     intro Qf C
     go_wp2_with fail
     first | refine C _ _ ?_ | skip
     try clear C
     refine Reg.rest_act' 21 [22,23] [1,3,5,7] rfl (by kernel_rfl) ?_
     intro Qf C
     simp only [gT,gS,gZ]
     refine BP (w:=I.drew) C9 rfl _ _ rfl w3.heap.size (.slice Au m cu) m _ rfl V [.int .i64 to] 1 rfl rfl (by simp [Value.oneCell']) (by omega) ci.out ?_
     intro g ax w6 bf a9 bb cG
     have aa:Ac I w6 (fun k=>(Value.slice Au m cu).ownBlock=some k):=⟨a9.os,a9.tape,a9.output,a9.size,a9.block⟩
     have bd:BJ I (.slice Au m cu) (.slice (some ⟨g,0,none⟩) (m+1) ax):=bb
     have aN:=hide (show Ea w3 (w6.setCell ⟨J f,y,none⟩ (.slice (some ⟨g,0,none⟩) (m+1) ax)) i L E J (up2 u f y (.slice (some ⟨g,0,none⟩) (m+1) ax)) (a.toK (k+1)) from by
      rw [cj.out]
      refine a7.out.step U hy ?_ ?_ ?_
      ·rw [bh.out,←aM.out]; exact aa
      ·rw [←aM.out]; exact bf
      ·rw [bh.out,←aM.out]; exact bd)
     have q3:=(aG.out.kept aa (Aw V aG.out (by decide))).cell
     have q6:=(aA.out.kept aa (Aw V aA.out (by decide))).cell
     have qn:w6.cell? ⟨E,f,none⟩=some (.slice (some ⟨J f,0,none⟩) L L):=(aa.cell a7.out.top.lt (Aw V a7.out.top (by decide))).trans b7.out
     have r3:=((aG.out.kept ((Ac.refl I (fun _=>False)).alloc (.cells #[.int .i64 to] 3)).drew id)).cell
     have r6:=((aA.out.kept ((Ac.refl I (fun _=>False)).alloc (.cells #[.int .i64 to] 3)).drew id)).cell
     have rn:((I.alloc (.cells #[.int .i64 to] 3)).drew).cell? ⟨E,f,none⟩=some (.slice (some ⟨J f,0,none⟩) L L):=(((Ac.refl I (fun _=>False)).alloc (.cells #[.int .i64 to] 3)).drew.cell a7.out.top.lt id).trans b7.out
     have ap:=(a7.out.row f U).1.kept aa (Aw V (a7.out.row f U).1 (by decide))
     have cF:=ap.frozen y
     have cz:w6.cell? ⟨J f,y,none⟩=some (u f y):=by rw [ap.cell,CV _ hy]
     have cM:=ap.lt
     refine C _ _ ⟨?_,?_⟩
     ·intro z hz q G
      simp only [List.mem_cons,List.not_mem_nil,or_false] at hz
      rcases hz with rfl | rfl | rfl | rfl
      ·injection G with G
       subst G
       exact Reg.same_load1 rfl rfl (r3 1) (q3 1) Tryz.underlying86 rfl
      ·injection G with G
       subst G
       exact Reg.same_load1 rfl rfl (r6 0) (q6 0) Tryz.underlying3 rfl
      ·injection G with G
       subst G
       exact Reg.same_load1 rfl rfl rn qn Tryz.underlying75 rfl
      ·injection G with G
       subst G
       exact Reg.same_load1 rfl rfl (r6 1) (q6 1) Tryz.underlying3 rfl
     ·clear C q3 q6 qn r3 r6 rn ap bf a9 aa bb bd bU bV b6 b8
      refine Reg.rest_walk' [22,23] [] rfl (by kernel_rfl) ?_
      intro Qf C
      go_wp2_with fail
      first | refine C _ _ ?_ | skip
      try clear C
      refine Reg.rest_end ?_
      go_wp2_with fail
      exact⟨⟨k+1,_,by go_num,by omega,aN⟩,by simp [intOf]; omega⟩
    ·have W:=Fe bH.out a2.out.1 ag (by decide)
     have b4:=Fe bQ.out.1 a2.out.1 ag (by decide)
     have cy:=W.cell
     have cD:=W.frozen
     have cL:=W.lt
     obtain⟨wF,cm,bI,a5⟩:=Lg W (.int .i64 (L:Int)) (.slice (some ⟨E,0,none⟩) i i) (.slice A1 a.start.length c1) (.slice (some ⟨gm,0,none⟩) i i)
     have cg:Hid (Cn wF wF.heap.size (.agg #[.int .i64 (L:Int),.slice (some ⟨E,0,none⟩) i i,.slice A1 a.start.length c1,.slice (some ⟨gm,0,none⟩) i i]) a.nf∧Below w.heap.size w wF):=by
      have aJ:Below w.heap.size w wF:=aD.trans (a5.below aD.size fun b hb e=>by have:=aE.size; omega)
      have cQ:=a5.size
      have bN:a.n=i:=by unfold WA.n; rw [be.out]; rfl
      have bL:a.L=L:=by unfold WA.L; rw [aX.out]; rfl
      have a8:=M.out
      rw [a.toK_all (by omega)] at a8
      have aR:∀g t cs,Blk wr g t cs→t≠88→g≠w1.heap.size:=fun g t cs hB cc=>hB.ne_ W cc
      have cf:=Rf (B:=wF.heap.size) (a8.top.kept a5 (aR _ _ _ a8.top (by decide))) (fun s O=>(a8.row s O).1.kept a5 (aR _ _ _ (a8.row s O).1 (by decide))) (fun s O x hx=>AK a5 (a8.own s O x hx) (fun g cs e hB=>by subst e; exact hB.ne_ W (by decide) rfl)) (Nat.le_refl _) (by omega) (by omega) (fun s O x hx=>by have:=a.to_len s x; omega)
      have cd:a.nf=⟨L,(List.range i).map fun s=>(List.range L).map fun x=>a.to s x,a.start,BN i a.accept⟩:=by unfold WA.nf; rw [bN,bL]
      refine⟨?_,aJ⟩
      rw [cd]
      have b2:=b4.kept a5 (b4.ne_ W (by decide))
      obtain⟨co,cq,e3,ch⟩:=BX.sl (B:=wF.heap.size) ⟨gm,b2.lt,rfl,b2⟩ (by rw [Dh]; omega)
      rw [Dh] at e3
      injection e3 with e3 _ e4
      refine⟨_,i,A1,c1,some ⟨gm,0,none⟩,i,by simp [Dh],cf,h1.keep (fun p hp=>aJ.cell hp) aJ.size,?_,h4⟩
      rw [e3]
      exact ch
     go_wp2_with fail
     change bodyPost _ _ _ _ _ (set4t wr w1.heap.size (.int .i64 (L:Int)) (.slice (some ⟨E,0,none⟩) i i) (.slice A1 a.start.length c1) (.slice (some ⟨gm,0,none⟩) i i))
     rw [cm]
     have bW:=bI.cell
     exact bodyPost_ret (v:=.agg #[.int .i64 (L:Int),.slice (some ⟨E,0,none⟩) i i,.slice A1 a.start.length c1,.slice (some ⟨gm,0,none⟩) i i]) (by simp [results,Tryz.results41,go_sem,bW]) rfl cg.out
end Go.Proofs.YtfcfpoemojjglaaGreatDoor
