/-
  Part PF of a proof.
-/
import Derived.Test.YtlakpndhhelliaaGreatDoorPA
import Derived.Test.YtlakpndhhelliaaGreatDoorPE
set_option maxHeartbeats 16000000
set_option maxRecDepth 100000
set_option linter.unusedVariables false
set_option linter.unusedSimpArgs false
namespace Go.Proofs.YtlakpndhhelliaaGreatDoor
open Go.RowKit
set_option maxHeartbeats 16000000
set_option maxRecDepth 100000
theorem P7 (z:Value) (n:Nat):madeCells #[z] (n*1)=Bf n fun _=>z:=by rw [Gm,EZ]
theorem Pf (n:Nat) (z:Value):(List.replicate n z).toArray=Bf n fun _=>z:=by rw [←IJ,EZ]
def WA.toK (a:WA) (k s x:Nat):List Int:=((a.edges.take k).filter fun e=>decide (e.frm=(s:Int))&&decide (e.letter=(x:Int))).map (·.to)
theorem WA.toK_zero (a:WA):a.toK 0=fun _ _=>[]:=by funext s x; simp [WA.toK]
theorem WA.toK_all (a:WA) {k:Nat} (h:a.edges.length≤k):a.toK k=a.to:=by funext s x; unfold WA.toK WA.to; rw [List.take_of_length_le h]
theorem WA.toK_succ (a:WA) {k f y:Nat} {to:Int} (h:a.edges[k]?=some ⟨(f:Int),(y:Int),to⟩):a.toK (k+1)=up2 (a.toK k) f y (a.toK k f y++[to]):=by
 funext s x
 unfold WA.toK
 rw [CF h,List.filter_append,List.map_append]
 unfold up2
 by_cases e:s=f∧x=y
 ·rw [if_pos e,e.1,e.2]; simp
 ·rw [if_neg e]
  have:(decide ((f:Int)=(s:Int))&&decide ((y:Int)=(x:Int)))=false:=by
   rw [Bool.and_eq_false_iff]
   rcases Classical.not_and_iff_not_or_not.1 e with e | e
   ·exact .inl (by simp; omega)
   ·exact .inr (by simp; omega)
  simp [this]
theorem WA.toK_len (a:WA) (k s x:Nat):(a.toK k s x).length≤k:=by
 unfold WA.toK
 rw [List.length_map]
 exact Nat.le_trans (List.length_filter_le _ _) (List.length_take_le _ _)
theorem WA.to_len (a:WA) (s x:Nat):(a.to s x).length≤a.edges.length:=by
 rw [←WA.toK_all a (Nat.le_refl _)]
 exact WA.toK_len a _ s x
theorem EP {w0 wr:World} {g f:Nat} {t y:TypeId} {cs z:Array Value} (h:Blk w0 g t cs) (C:Blk w0 f y z) (hk:Ae w0 wr (fun k=>k=f)) (E:t≠y):Blk wr g t cs:=h.kept hk (h.ne_ C E)
theorem Il {v:Value} {a:WA} {w:World} (h:Cb w w.heap.size v a) (ax:a.In) (hS:0≤a.states∧a.states≤200000) (hL:0≤a.letters∧a.letters≤8) (he:a.edges.length≤3000000):
  Calls Tryz.prog 20 #[v] w (Ret fun r w'=>Cc w' w'.heap.size r a.nf∧Below w.heap.size w w'):=by
 obtain⟨A1,c1,A2,c2,A3,c3,rfl,h1,h2,h3,h4⟩:=h
 obtain⟨n,hn⟩:=Int.eq_ofNat_of_zero_le hS.1
 obtain⟨L,ay⟩:=Int.eq_ofNat_of_zero_le hL.1
 have bC:n≤200000:=by omega
 have cq:L≤8:=by omega
 obtain⟨w1,cr,az,bD,bE⟩:=Ag w #[.int .i64 (L:Int),.int .i64 (n:Int),.slice A1 a.start.length c1,.slice A2 a.accept.length c2,.slice A3 a.edges.length c3] 39
 obtain⟨w2,ct,aT,bF,bG⟩:=Ag w1 #[.int .i64 0,.slice none 0 0,.slice none 0 0,.slice none 0 0] 63
 have aU:=bD.below aT
 have af:=az.trans (aT.mono az.size)
 have bH:∀x∈a.accept,inN n x=true:=fun x hx=>by have:=ax.accept x hx; rwa [hn] at this
 rw [hn,ay]
 have aV:=hide hn
 have aW:=hide ay
 have bI:=hide ax
 clear hS hL hn ay ax bE bG
 go_enter Tryz.func20,Tryz.ntmps20
 go_wp2_with fail
 refine LF bC aU (h2.keep (B':=w.heap.size) (fun p hp=>af.cell (by omega)) (Nat.le_refl _)) rfl (by have:=af.size; omega) bH (by repeat (first | exact Reg.NoQ.body (fun _ _ h=>h) (fun _ h=>h) | refine Reg.NoQ.then ?_ | refine Reg.NoQ.inBlock ?_)) ?_
 iterate 13 (intro _)
 intro w3 g3 E gm hA
 have b3:=hA.blk _ (List.mem_cons_self)
 have bn:=hA.blk _ (List.mem_cons_of_mem _ List.mem_cons_self)
 have bm:=hA.blk _ (List.mem_cons_of_mem _ (List.mem_cons_of_mem _ List.mem_cons_self))
 have al:=hA.below
 dsimp only at b3 bn bm
 rw [Pf] at bn
 have bJ:Hid (Ec w3 w3 n L 0 E (fun _=>0)):=by
  refine⟨Ae.refl _ _,?_,fun s J=>absurd J (by omega),fun s J=>absurd J (by omega)⟩
  rw [DM (g:=fun _=>Value.slice none 0 0) (fun s _=>by simp)]
  exact bn.1
 have aY:=hide b3
 have V:=hide bn
 have bK:=hide bm
 have aZ:=hide (af.trans (al.mono af.size))
 have b0:=hide (aU.below al)
 have bL:=hide (bF.below al)
 have bM:=b3.1.cell
 clear b3 bn bm hA al
 go_wp2_with fail
 go_loopw [23] (fun W wr=>∃(i:Nat) (I:Nat→Nat),W=.int .i64 (i:Int)∧i≤n∧Hid (Ec w3 wr n L i E I)) (fun W _=>n - (intOf W).toNat)
 case atStart=>exact⟨0,_,rfl,Nat.zero_le _,bJ⟩
 case round=>
  obtain⟨i,I,rfl,hi,M⟩:=hrel
  have hK:=M.out.kept
  have aB:=EP aY.out.1 V.out.1 hK (by decide)
  have b1:=EP b0.out V.out.1 hK (by decide)
  have bN:=aB.cell
  have bO:=b1.cell
  by_cases b2:i<n
  ·have cx:=hide hK
   have cy:=hide aB
   clear hK aB b1
   go_wp2_with fail
   refine Reg.cC [0,1,0,0,8,24,63,127] [0,1,2,3,4,5,6,7] ?_
   refine Reg.rest_walk' [0,1,2,3,4] [5,6,7] rfl (by kernel_rfl) ?_
   intro Qf C
   go_wp2_with fail
   first | refine C _ _ ?_ | skip
   try clear C
   refine Reg.rest_act' 5 [6,7] [1] rfl (by kernel_rfl) ?_
   intro Qf C
   simp only [gT,gS,gZ]
   refine Jl Tryz.underlying53 GE (by omega) (by omega) L (by omega) rfl _ _ rfl rfl rfl ?_
   intro gr F Z aC bP
   first | refine C _ _ ⟨Reg.same_below aC _ rfl,?_⟩ | refine⟨Reg.same_below aC _ rfl,?_⟩
   try clear C
   have b4:Below wr.heap.size wr F:=(Ap wr).trans aC
   rw [show(Value.slice none 0 0).cells=#[Value.slice none 0 0] from rfl,P7] at Z
   have aD:=hide (M.out.step b2 b4 Z bP)
   have an:=(M.out.top.below b4)
   have cz:=an.frozen i
   have cA:F.cell? ⟨E,i,none⟩=some (.slice none 0 0):=by rw [an.cell,CP _ b2,if_neg (by omega)]
   have cB:=an.lt
   clear an
   refine Reg.rest_walk' [6,7] [] rfl (by kernel_rfl) ?_
   intro Qf C
   go_wp2_with fail
   first | refine C _ _ ?_ | skip
   try clear C
   refine Reg.rest_end ?_
   go_wp2_with fail
   exact⟨⟨i+1,up1 I i gr,by go_num,by omega,aD⟩,by simp [intOf]; omega⟩
  ·have bQ:i=n:=by omega
   subst bQ
   have bR:=hide M.out.done
   clear M
   obtain⟨w4,bS⟩:∃w4:World,w4=wr:=⟨_,rfl⟩
   subst bS
   go_wp2_with fail
   go_loopw [37] (fun W wr=>∃(k:Nat) (u:Nat→Nat→Value),W=.int .i64 (k:Int)∧k≤a.edges.length∧Hid (DP w3 wr i L E I u (a.toK k))) (fun W _=>a.edges.length - (intOf W).toNat)
   case atStart=>exact⟨0,_,rfl,Nat.zero_le _,by rw [a.toK_zero]; exact bR⟩
   case round=>
    obtain⟨k,u,rfl,hk,M⟩:=hrel
    have ai:=M.out.kept
    have b6:=EP aY.out.1 V.out.1 ai (by decide)
    have bT:=EP b0.out V.out.1 ai (by decide)
    have bU:=b6.cell
    have bV:=bT.cell
    have aE:Below w.heap.size w wr:=aZ.out.trans (ai.below (by have:=aZ.out.size; omega) fun b hb e=>by have:=V.out.2; have:=af.size; omega)
    by_cases bX:k<a.edges.length
    ·obtain⟨bl,cE,⟨f0,y0,to⟩,rfl,bY,aF,hc⟩:=h3.at bX
     have ao:=fun j hj=>(aE.cell (by exact bY)).trans (hc j hj)
     have e0:=ao 0 (by omega)
     have e1:=ao 1 (by omega)
     have e2:=ao 2 (by omega)
     simp only [Nat.add_zero,DJ] at e0 e1 e2
     obtain⟨i1,i2,i3⟩:=bI.out.edge _ (List.mem_of_getElem? aF)
     obtain⟨f,ba,O⟩:=Dc i1
     obtain⟨y,bb,hy⟩:=Dc i2
     dsimp only at ba bb O hy
     subst ba bb
     rw [aV.out,Int.toNat_natCast] at O
     rw [aW.out,Int.toNat_natCast] at hy
     have c7:=hide (WA.toK_succ a aF)
     have c8:=hide (WA.toK_len a k f y)
     obtain⟨F,cH,Z,aG,c9⟩:=Ag wr #[.int .i64 (f:Int),.int .i64 (y:Int),.int .i64 to] 84
     have a7:=M.out.keep Z
     have aH:=b6.below Z
     have ca:=aH.cell
     have cb:=aG.cell
     have bc:F.cell? ⟨E,f,none⟩=some (.slice (some ⟨I f,0,none⟩) L L):=by rw [a7.top.cell,CP _ O]
     have U:=a7.own f O y hy
     obtain⟨Au,cu,hu⟩:=AV U
     have bd:F.cell? ⟨I f,y,none⟩=some (.slice Au (a.toK k f y).length cu):=by rw [(a7.row f O).1.cell,CP _ hy,hu]
     rw [hu] at U
     have a8:=hide a7
     have aJ:=hide aH
     have aK:=hide aG
     have be:=hide bc
     have cc:(a.toK k f y).length≤3000000:=by have:=c8.out; omega
     obtain⟨m,hm⟩:∃m,m=(a.toK k f y).length:=⟨_,rfl⟩
     rw [←hm] at bd U cc
     have aM:=hide hm
     have cd:=hide a7.kept.size
     have bf:=hide hu
     have cJ:=hide Z
     clear hm hc ao aF i1 i2 i3 a7 aH aG c9 hu bN bO bU bV bM Z
     go_wp2_with fail
     refine Reg.cC [0,1,0,4,15,31,0,64,0,256,0,1024,3840,7936,0,16384,65280,130816,0,262144,786432,2096896,4194303,8388607] [0,1,2,3,4,5,6,7,8,9,10,11,12,13,14,15,16,17,18,19,20,21,22,23] ?_
     refine Reg.rest_walk' [0,1,2,3,4,5,6,7,8,9,10,11,12,13,14,15,16,17,18,19,20] [21,22,23] rfl (by kernel_rfl) ?_
     intro Qf C
     go_wp2_with fail
     first | refine C _ _ ?_ | skip
     try clear C
     refine Reg.rest_act' 21 [22,23] [1,3,5,7] rfl (by kernel_rfl) ?_
     intro Qf C
     simp only [gT,gS,gZ]
     refine CO (w:=F.drew) DS rfl _ _ rfl w3.heap.size (.slice Au m cu) m _ rfl U [.int .i64 to] 1 rfl rfl (by simp [Value.oneCell']) (by omega) cd.out ?_
     intro g aN w6 bg a9 bh cK
     have aa:Ae F w6 (fun k=>(Value.slice Au m cu).ownBlock=some k):=⟨a9.os,a9.tape,a9.output,a9.size,a9.block⟩
     have bi:BX F (.slice Au m cu) (.slice (some ⟨g,0,none⟩) (m+1) aN):=bh
     have aD:=hide (show DP w3 (w6.setCell ⟨I f,y,none⟩ (.slice (some ⟨g,0,none⟩) (m+1) aN)) i L E I (up2 u f y (.slice (some ⟨g,0,none⟩) (m+1) aN)) (a.toK (k+1)) from by
      rw [c7.out]
      refine a8.out.step O hy ?_ ?_ ?_
      ·rw [bf.out,←aM.out]; exact aa
      ·rw [←aM.out]; exact bg
      ·rw [bf.out,←aM.out]; exact bi)
     have q3:=(aJ.out.kept aa (AK U aJ.out (by decide))).cell
     have q6:=(aK.out.kept aa (AK U aK.out (by decide))).cell
     have qn:w6.cell? ⟨E,f,none⟩=some (.slice (some ⟨I f,0,none⟩) L L):=(aa.cell a8.out.top.lt (AK U a8.out.top (by decide))).trans be.out
     have r3:=((aJ.out.kept ((Ae.refl F (fun _=>False)).alloc (.cells #[.int .i64 to] 3)).drew id)).cell
     have r6:=((aK.out.kept ((Ae.refl F (fun _=>False)).alloc (.cells #[.int .i64 to] 3)).drew id)).cell
     have rn:((F.alloc (.cells #[.int .i64 to] 3)).drew).cell? ⟨E,f,none⟩=some (.slice (some ⟨I f,0,none⟩) L L):=(((Ae.refl F (fun _=>False)).alloc (.cells #[.int .i64 to] 3)).drew.cell a8.out.top.lt id).trans be.out
     have av:=(a8.out.row f O).1.kept aa (AK U (a8.out.row f O).1 (by decide))
     have cL:=av.frozen y
     have cM:w6.cell? ⟨I f,y,none⟩=some (u f y):=by rw [av.cell,CP _ hy]
     have cO:=av.lt
     refine C _ _ ⟨?_,?_⟩
     ·intro z hz q G
      simp only [List.mem_cons,List.not_mem_nil,or_false] at hz
      rcases hz with rfl | rfl | rfl | rfl
      ·injection G with G
       subst G
       exact Reg.same_load1 rfl rfl (r3 1) (q3 1) Tryz.underlying61 rfl
      ·injection G with G
       subst G
       exact Reg.same_load1 rfl rfl (r6 0) (q6 0) Tryz.underlying3 rfl
      ·injection G with G
       subst G
       exact Reg.same_load1 rfl rfl rn qn Tryz.underlying53 rfl
      ·injection G with G
       subst G
       exact Reg.same_load1 rfl rfl (r6 1) (q6 1) Tryz.underlying3 rfl
     ·clear C q3 q6 qn r3 r6 rn av bg a9 aa bh bi ca cb bc bd
      refine Reg.rest_walk' [22,23] [] rfl (by kernel_rfl) ?_
      intro Qf C
      go_wp2_with fail
      first | refine C _ _ ?_ | skip
      try clear C
      refine Reg.rest_end ?_
      go_wp2_with fail
      exact⟨⟨k+1,_,by go_num,by omega,aD⟩,by simp [intOf]; omega⟩
    ·have a2:=EP bL.out V.out.1 ai (by decide)
     have br:=EP bK.out.1 V.out.1 ai (by decide)
     have cQ:=a2.cell
     have cR:=a2.frozen
     have cS:=a2.lt
     obtain⟨wF,ce,cf,ad⟩:=JW a2 (.int .i64 (L:Int)) (.slice (some ⟨E,0,none⟩) i i) (.slice A1 a.start.length c1) (.slice (some ⟨gm,0,none⟩) i i)
     have cg:Hid (Cc wF wF.heap.size (.agg #[.int .i64 (L:Int),.slice (some ⟨E,0,none⟩) i i,.slice A1 a.start.length c1,.slice (some ⟨gm,0,none⟩) i i]) a.nf∧Below w.heap.size w wF):=by
      have aQ:Below w.heap.size w wF:=aE.trans (ad.below aE.size fun b hb e=>by have:=az.size; omega)
      have cT:=ad.size
      have ch:a.n=i:=by unfold WA.n; rw [aV.out]; rfl
      have ci:a.L=L:=by unfold WA.L; rw [aW.out]; rfl
      have ae:=M.out
      rw [a.toK_all (by omega)] at ae
      have bs:∀g t cs,Blk wr g t cs→t≠63→g≠w1.heap.size:=fun g t cs hB cj=>hB.ne_ a2 cj
      have ck:=Mn (B:=wF.heap.size) (ae.top.kept ad (bs _ _ _ ae.top (by decide))) (fun s J=>(ae.row s J).1.kept ad (bs _ _ _ (ae.row s J).1 (by decide))) (fun s J x hx=>AX ad (ae.own s J x hx) (fun g cs e hB=>by subst e; exact hB.ne_ a2 (by decide) rfl)) (Nat.le_refl _) (by omega) (by omega) (fun s J x hx=>by have:=a.to_len s x; omega)
      have cm:a.nf=⟨L,(List.range i).map fun s=>(List.range L).map fun x=>a.to s x,a.start,BF i a.accept⟩:=by unfold WA.nf; rw [ch,ci]
      refine⟨?_,aQ⟩
      rw [cm]
      have bt:=br.kept ad (br.ne_ a2 (by decide))
      obtain⟨cU,cV,e3,cn⟩:=DB.sl (B:=wF.heap.size) ⟨gm,bt.lt,rfl,bt⟩ (by rw [C0]; omega)
      rw [C0] at e3
      injection e3 with e3 _ e4
      refine⟨_,i,A1,c1,some ⟨gm,0,none⟩,i,by simp [C0],ck,h1.keep (fun p hp=>aQ.cell hp) aQ.size,?_,h4⟩
      rw [e3]
      exact cn
     go_wp2_with fail
     change bodyPost _ _ _ _ _ (set4t wr w1.heap.size (.int .i64 (L:Int)) (.slice (some ⟨E,0,none⟩) i i) (.slice A1 a.start.length c1) (.slice (some ⟨gm,0,none⟩) i i))
     rw [ce]
     have co:=cf.cell
     exact bodyPost_ret (v:=.agg #[.int .i64 (L:Int),.slice (some ⟨E,0,none⟩) i i,.slice A1 a.start.length c1,.slice (some ⟨gm,0,none⟩) i i]) (by simp [results,Tryz.results20,go_sem,co]) rfl cg.out
end Go.Proofs.YtlakpndhhelliaaGreatDoor
