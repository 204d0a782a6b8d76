/-
  Part HC of a proof.
-/
import Derived.Test.YtfcfpoemojjglaaGreatDoorPA
import Derived.Test.YtfcfpoemojjglaaGreatDoorHA
set_option maxHeartbeats 16000000
set_option maxRecDepth 100000
set_option linter.unusedVariables false
set_option linter.unusedSimpArgs false
namespace Go.Proofs.YtfcfpoemojjglaaGreatDoor
open Go.RowKit
attribute [-go_sem] loadCellsFrom
set_option maxHeartbeats 16000000
set_option maxRecDepth 100000
theorem VH {w:World} {a b c L:Nat} {δ:Sc3→Nat→Sc3} {f:Sc3→Bool}
  (ab:∀wx,Below w.heap.size w wx→∀(s:Sc3) (x:Nat),s.Le→x<L→Calls Tryz.prog 79 #[UA s,.int .i64 (x:Int),.pointer (some ⟨a,0,none⟩),.pointer (some ⟨b,0,none⟩),.pointer (some ⟨c,0,none⟩)] wx (Ret fun v w'=>v=UA (δ s x)∧Below wx.heap.size wx w'))
  (bJ:∀wx,Below w.heap.size w wx→∀(s:Sc3),s.Le→Calls Tryz.prog 80 #[UA s,.pointer (some ⟨a,0,none⟩),.pointer (some ⟨b,0,none⟩)] wx (Ret fun v w'=>v=.bool (f s)∧Below wx.heap.size wx w'))
  (aw:∀s x,s.Le→x<L→(δ s x).Le) (hL:L≤8) (hT:BV w):
  Calls Tryz.prog 81 #[.int .i64 (L:Int),.agg #[.bool false,.int .i64 0,.int .i64 0,.int .i64 0,.bool false,.bool false,.bool false],.func (.func 79) #[] #[.pointer (some ⟨a,0,none⟩),.pointer (some ⟨b,0,none⟩),.pointer (some ⟨c,0,none⟩)],.func (.func 80) #[] #[.pointer (some ⟨a,0,none⟩),.pointer (some ⟨b,0,none⟩)]] w (Ret fun r w'=>Below w.heap.size w w'∧∃t ac,BH L t ac (fun z=>f (Ay δ UD z))∧ac.length≤1024∧∀w'',Ac w' w'' (fun k=>k<w.heap.size)→Br w'' w''.heap.size r t ac):=by
 obtain⟨g8,g9,gs,gm,w1,w2,w3,w4,w5,w6,e8,e9,es,dL,dM,dN,dO,dP,dQ,bv,bw,hQ⟩:=Wc w
 subst e8 e9 es
 have dA:(loadCellsFrom ⟨w.heap.size,0,none⟩ 0 7 #[]).run Tryz.prog w4=.ok _ w4:=K.Ah bv rfl
 have cJ:(loadCellsFrom ⟨w.heap.size,0,none⟩ 0 7 #[]).run Tryz.prog w5=.ok _ w5:=K.Ah bw rfl
 have cq:Hid (XsI w w6 w1.heap.size w2.heap.size gm L δ f 0 [UD] (.slice (some ⟨w5.heap.size,0,none⟩) 1 1) sn0 sn0 []):=⟨hQ,.start⟩
 have cH:=hide (show ∀(i:Nat) (all:List Sc3),Exp L δ UD i all→∀s∈all,s.Le from fun i all hE s hs=>Uq (I:=Sc3.Le) ⟨Nat.zero_le _,Nat.zero_le _,Nat.zero_le _⟩ aw hE hs)
 have av:=hide (show ∀(i:Nat) (all:List Sc3),Exp L δ UD i all→all.length≤1024 from fun i all hE=>by have:=Wb (I:=Sc3.Le) (fin:=UW) ⟨Nat.zero_le _,Nat.zero_le _,Nat.zero_le _⟩ aw (fun s hs=>VX hs) hE; rw [VW] at this; exact this)
 have dI:=hide aw
 have cR:=hide ab
 have cw:=hide bJ
 have cv:=hide hT
 clear ab bJ aw hT hQ bv bw
 go_enter Tryz.func81,Tryz.ntmps81
 go_wp2_with fail
 go_loopw [11,12] (fun vv Z wr=>∃(i:Nat) (all:List Sc3) (vN vA:Value) (ws:List Value),Z=.int .i64 (i:Int)∧i≤1024∧Hid (XsI w wr w1.heap.size w2.heap.size gm L δ f i all vv vN vA ws)) (fun _ Z _=>1025 - (intOf Z).toNat)
 case atStart=>exact⟨0,_,_,_,_,rfl,Nat.zero_le _,cq⟩
 case round=>
  obtain⟨i,all,vN,vA,ws,rfl,hi,hI⟩:=hrel
  have C:=hI.out
  have dk:all.length≤1024:=av.out _ _ C.exp
  have cG:=C.exp.inv.le
  obtain⟨AS,cS,rfl⟩:=AH C.mem.sts
  by_cases cK:i<all.length
  ·obtain⟨⟨qa,q0,q1,q2,qf,qo,qc⟩,hq⟩:=An cK
   obtain⟨q,aW⟩:∃q:Sc3,q=⟨qa,q0,q1,q2,qf,qo,qc⟩:=⟨_,rfl⟩
   have az:=hide aW
   rw [←aW] at hq
   have c7:=hide (cH.out _ _ C.exp q (List.mem_of_getElem? hq))
   obtain⟨gr,w9,dJ,aH,cx,dw⟩:=Et wr L (by omega)
   rw [Fo] at aH
   have dK:=C.mem.below.size
   have cr:Hid (XsJ w w9 w1.heap.size w2.heap.size gm L δ f i q gr 0 all all (.slice AS all.length cS) vN vA ws):=by
    refine⟨(C.mem.weak (N':=fun g=>g≠gr) (fun g hg _ e=>by omega)).keep cx,rfl,fun e=>?_,?_⟩
    ·have:=Cj C.mem.sts e; omega
    ·rw [D4 (g:=fun _=>Value.int .i64 0) (fun y _=>by rw [if_neg (by omega)])]
     exact aH
   have aO:w.heap.size≤gr:=by omega
   have c4:=hide hq
   clear C hq aH aW
   go_wp2_with fail
   go_loopw [11,33] (fun vv Z wz=>∃(x:Nat) (all':List Sc3),Z=.int .i64 (x:Int)∧x≤L∧Hid (XsJ w wz w1.heap.size w2.heap.size gm L δ f i q gr x all all' vv vN vA ws)) (fun _ Z _=>L - (intOf Z).toNat)
   case atStart=>exact⟨0,all,rfl,Nat.zero_le _,cr⟩
   case round=>
    rename World=>wz
    obtain⟨x,all',rfl,hx,G⟩:=hrel
    have h:=G.out
    have dl:all'.length≤2000:=by
     have:=Vc δ q all x
     rw [←h.eq] at this
     omega
    have ae:all'[i]?=some q:=by rw [h.eq]; exact Ds (DK _ _ _) c4.out
    have dz:i<all'.length:=AP ae
    obtain⟨dh,cm,d2⟩:=AH h.mem.sts
    subst d2
    by_cases b8:x<L
    ·obtain⟨bQ,ck,e,-,-,bT⟩:=U1 h.mem.sts rfl (by rw [az.out] at ae; exact ae)
     cases e
     have ar:=cR.out wz h.mem.below q x c7.out b8
     rw [show UA q=_ from(congrArg UA az.out).trans (UT _ _ _ _ _ _ _)] at ar
     clear h
     go_wp2_with fail
     refine Calls.ret ar ?_
     rintro v wy ⟨rfl,aJ⟩
     obtain⟨⟨za,z0,z1,z2,zf,zo,zc⟩,a5⟩:∃z:Sc3,δ q x=z:=⟨_,rfl⟩
     rw [a5,UT]
     obtain⟨U,b7,aG,a2,bS⟩:=Ae wy #[.bool za,.int .i64 (z0:Int),.int .i64 (z1:Int),.int .i64 (z2:Int),.bool zf,.bool zo,.bool zc] 133
     have dF:(loadCellsFrom ⟨wy.heap.size,0,none⟩ 0 7 #[]).run Tryz.prog U=.ok _ U:=K.Ah a2 rfl
     have bD:=hide ((G.out.below aJ).below aG)
     have h:=bD.out
     have a4:=h.mem.map
     have a3:=Ft U0 Tryz.underlying185 Fa a4 (δ q x)
     have dp:U.cell? ⟨gr,x,none⟩=some (.int .i64 0):=by rw [h.blk.cell,CV _ b8,if_neg (by omega)]
     have dt:=h.blk.frozen x
     have dG:=h.blk.lt
     have cc:=h.mem.below.size
     have dj:=hide a2
     by_cases M:δ q x∈all'
     ·have bZ:=hide (h.old M aO)
      simp only [M,if_true,decide_true] at a3
      rw [a5] at a3 bZ
      rw [UT] at a3
      clear ar h a4 M aJ a5 aG a2 bS
      go_wp2_with fail
      exact⟨⟨x+1,all',by go_num,by omega,bZ⟩,by simp [intOf]; omega⟩
     ·simp only [M,if_false,decide_false] at a3
      obtain⟨wm,cd,aT,aP,ca⟩:=EY U0 Tryz.underlying185 a4 (δ q x) M
      have aR:Ac U wm (fun k=>gm=k):=(Ac.of_grown aP).mono fun b _ e=>Option.some.inj e
      have cX:=aR.ownsRow h.mem.sts fun g hg e=>Di h.mem.sts a4 (by rw [hg,e])
      have cZ:w.heap.size≤wm.heap.size:=by omega
      have bA:=a2.kept aR (fun e=>BT a2 a4 e.symm)
      have dH:(loadCellsFrom ⟨wy.heap.size,0,none⟩ 0 7 #[]).run Tryz.prog wm=.ok _ wm:=K.Ah bA rfl
      rw [a5] at a3 cd aT M
      rw [UT] at a3 cd
      have d5:=hide a5
      have cL:=hide M
      have cM:=hide aT
      have cF:=hide aP
      have cW:=hide ca
      clear ar h a4 M aJ aT aP ca aR a5 aG a2 bS bA
      go_wp2_with (
       at_builtin
       refine BP (w:=wm) VQ rfl _ _ rfl w.heap.size (.slice (some ⟨bQ,0,none⟩) all'.length cm) all'.length _ rfl cX (BE ⟨za,z0,z1,z2,zf,zo,zc⟩) 1 rfl rfl (by simp [BE,Value.oneCell']) (by omega) cZ ?_
       intro ga ai wa ad a9 ax cE
       obtain⟨aq,bY⟩:=bD.out.new d5.out cL.out aO cM.out cF.out cW.out a9 ad ax
       have aK:wa.cell? ⟨gr,x,none⟩=some (.int .i64 0):=by rw [aq.cell,CV _ b8,if_neg (by omega)]
       have bO:=aq.frozen x
       have bV:=aq.lt
       have cQ:=hide bY
       clear bY aq ad a9 ax)
      exact⟨⟨x+1,all'++[⟨za,z0,z1,z2,zf,zo,zc⟩],by go_num,by omega,cQ⟩,by simp [intOf]; omega⟩
    ·obtain rfl:x=L:=by omega
     obtain⟨AN,cN,rfl⟩:=AH h.mem.nxt
     have b1:=D5 (L:=x) (δ:=δ) cG
     have ab:=h.mem.nxt
     have cB:=h.mem.b5.cell
     rw [b1] at ab cB
     obtain⟨O,aA⟩:∃O,O=(List.range x).map fun y=>Ax all' (δ q y):=⟨_,rfl⟩
     have aX:O.length=x:=by rw [aA]; simp
     have c1:wz.ownsRow w.heap.size 3 1 (.slice (some ⟨gr,0,none⟩) O.length x) O.length ((Ak O).map (Value.int .i64)):=by
      have:=DD h.blk aO (Fp _ _) (by omega)
      rw [aX]
      have e:(Bi x fun y=>if y<x then Value.int .i64 (Ax all' (δ q y):Int) else .int .i64 0).toList=(Ak O).map (Value.int .i64):=by
       rw [aA]
       simp only [Bi,Ak,List.map_map]
       exact List.map_congr_left fun y hy=>by rw [if_pos (List.mem_range.1 hy)]; rfl
      rw [e] at this
      exact this
     have cc:=h.mem.below.size
     have cU:=hide aA
     have cV:=hide aX
     have cT:=hide c1
     have b2:=hide b1
     have aU:=hide ae
     clear h aA aX c1 b1 ae
     go_wp2_with (
      at_builtin
      refine BP (w:=wz) F9 rfl _ _ rfl w.heap.size (.slice AN i cN) i _ rfl ab [.slice (some ⟨gr,0,none⟩) x x] 1 rfl rfl (by simp [Value.oneCell']) (by omega) cc ?_
      intro ga ai wa ad a9 ax cE
      have au:=a9
      rw [←b2.out] at au
      have an:=G.out.mem.b5.kept au (Aw G.out.mem.nxt G.out.mem.b5 (by decide))
      have hR:=G.out.mem.addR (vN':=.slice (some ⟨ga,0,none⟩) (i+1) ai) cT.out G.out.sep au (by rw [b2.out,cV.out]; exact ad)
      have aK:=an.cell
      rw [b2.out] at aK
      have bO:=an.frozen 0
      have bV:=an.lt
      have bG:=hide hR
      clear hR an ad a9 au ax)
     obtain⟨U,b7⟩:∃U,wa.setCell ⟨w2.heap.size,0,none⟩ (.slice (some ⟨ga,0,none⟩) (i+1) ai)=U:=⟨_,rfl⟩
     rw [b7] at bG ⊢
     have a8:=bG.out
     obtain⟨AA,cA,rfl⟩:=AH a8.acc
     have J:((all.take i).map f).length=i:=by simp; omega
     have aV:=aU.out
     rw [az.out] at aV
     obtain⟨bQ,ck,e,-,-,bT⟩:=U1 a8.sts rfl aV
     cases e
     have bK:=fun wx hx=>cw.out wx hx q c7.out
     rw [show UA q=_ from(congrArg UA az.out).trans (UT _ _ _ _ _ _ _)] at bK
     have bM:=a8.b5.cell
     rw [J] at bM
     have aF:=hide (a8.keep (Ap U))
     obtain⟨dx,di,e,-,-,dE⟩:=U1 aF.out.sts rfl aV
     cases e
     have W:=hide J
     clear bT
     clear a8 aK bO bV J b7
     refine Reg.cC [0,1,0,0,0,24,56,124,252,511,1023,2047] [0,1,2,3,4,5,6,7,8,9,10,11] ?_
     refine Reg.rest_walk' [0,1,2,3,4,5,6] [7,8,9,10,11] rfl (by kernel_rfl) ?_
     intro Qf E
     go_wp2_with fail
     first | refine E _ _ ?_ | skip
     try clear E
     refine Reg.rest_act' 7 [8,9,10,11] [1] rfl (by kernel_rfl) ?_
     intro Qf E
     simp only [gT,gS,gZ]
     go_wp2_with fail
     refine Calls.ret (bK _ (by exact aF.out.below)) ?_
     rintro v wc ⟨rfl,ao⟩
     go_wp2_with fail
     first | refine E _ _ ⟨Reg.same_below ao _ rfl,?_⟩ | refine⟨Reg.same_below ao _ rfl,?_⟩
     try clear E
     have V:=hide (aF.out.keep ao)
     have bL:=V.out.acc
     have cY:=V.out.below.size
     rw [W.out] at bL
     have bN:=V.out.b5.cell
     rw [W.out] at bN
     clear ao bM
     refine Reg.rest_walk' [8] [9,10,11] rfl (by kernel_rfl) ?_
     intro Qf E
     go_wp2_with fail
     first | refine E _ _ ?_ | skip
     try clear E
     refine Reg.rest_act' 9 [10,11] [] rfl (by kernel_rfl) ?_
     intro Qf E
     simp only [gT,gS,gZ]
     refine BP (w:=wc) GM rfl _ _ rfl w.heap.size (.slice AA i cA) i _ rfl bL [.bool (f q)] 1 rfl rfl (by simp [Value.oneCell']) (by omega) cY ?_
     intro g' bt w7 c0 bR cO du
     have aQ:Ac wc w7 (fun b=>(Value.slice AA ((all.take i).map f).length cA).ownBlock=some b):=by rw [W.out]; exact bR
     have bE:=V.out.addA (b:=f q) (vA':=.slice (some ⟨g',0,none⟩) (i+1) bt) aQ (by rw [W.out]; exact c0)
     have am:=V.out.b5.kept aQ (Aw V.out.acc V.out.b5 (by decide))
     have cz:=am.cell
     rw [W.out] at cz
     have dr:=am.frozen 1
     have dC:=am.lt
     have cu:=hide bE
     refine E _ _ ⟨Reg.nm,?_⟩
     clear E bE c0 bR aQ cO am bN
     refine Reg.rest_walk' [10,11] [] rfl (by kernel_rfl) ?_
     intro Qf E
     go_wp2_with fail
     first | refine E _ _ ?_ | skip
     try clear E
     refine Reg.rest_end ?_
     go_wp2_with fail
     refine⟨⟨i+1,all',.slice (some ⟨ga,0,none⟩) (i+1) ai,.slice (some ⟨g',0,none⟩) (i+1) bt,ws++[.slice (some ⟨gr,0,none⟩) O.length x],by go_num,by omega,?_⟩,by simp [intOf]; omega⟩
     have c3:all<+:all':=by rw [G.out.eq]; exact DK _ _ _
     have d0:all'.take (i+1)=all.take i++[q]:=(B5 aU.out).trans (by
      obtain⟨u,hu⟩:=c3
      rw [←hu,List.take_append_of_le_length (by omega)])
     refine hide ⟨?_,?_⟩
     ·have:=cu.out
      rw [d0,List.map_append,GP aU.out,GO hI.out.exp c3,←cU.out]
      exact this
     ·rw [G.out.eq]
      exact .row hI.out.exp c4.out
  ·obtain rfl:i=all.length:=by omega
   have ak:Bf L δ UD all:=C.exp
   have bU:=av.out _ _ ak
   have c9:(AM L δ all all.length).length=all.length:=D5 (Nat.le_refl _)
   have aN:=(C.mem.finO (Ac.refl _ _)).read (fun r hr=>by
    unfold AM at hr
    obtain⟨s,_,rfl⟩:=List.mem_map.1 hr
    simp; omega) (by rw [c9]; omega) (by simp; omega)
   rw [List.take_length] at aN
   have aL:=Fq ak (ac:=all.map f) (by simp)
   have bX:=Q8 aN aL hL (by rw [List.length_map]; omega) (cv.out.below C.mem.below)
   have dB:(loadCellsFrom ⟨w2.heap.size,0,none⟩ 0 2 #[]).run Tryz.prog wr=.ok _ wr:=K.Ah C.mem.b5 rfl
   have bx:=hide C.mem.b4
   have a6:=hide C.mem.below
   have dv:=C.mem.ge.1
   have cp:=hide ak
   have av:=hide bU
   have cD:=hide aL
   clear C aN ak bU aL c9
   go_wp2_with fail
   refine Calls.ret bX ?_
   rintro d wd ⟨ap,cl,st,hW,cb,aZ,bC,aC⟩
   obtain⟨A5,c5,A6,c6,rfl,-,-⟩:=aC wd (Ac.refl _ _)
   have a7:=bx.out.below ap
   have dq:=a7.frozen
   have cJ:=a7.lt
   have dn:=a7.cell
   obtain⟨wF,b6,bz,aE⟩:=Dm a7 (.slice A5 (AM L (AF (dnx (AM L δ all all.length)) cl) (st.map fun s=>cl.getD s 0) st.length).length c5) (.slice A6 (st.map (dac (all.map f))).length c6)
   have aS:(loadCellsFrom ⟨w1.heap.size,0,none⟩ 0 2 #[]).run Tryz.prog wF=.ok _ wF:=K.Ah bz rfl
   have dD:=bx.out.lt
   have cy:=hide ((a6.out.trans (ap.mono a6.out.size)).trans (aE.below (by have:=a6.out.size; have:=ap.size; omega) fun b hb e=>by omega))
   have aM:=hide (fun w'' (hk:Ac wF w'' (fun k=>k<w.heap.size))=>aC w'' ((aE.mono (fun b _ e=>by have:=a6.out.size; omega)).trans hk (fun b _ e=>by have:=a6.out.size; omega)))
   have bB:=hide ((HG cD.out hW cb bC).congr (Λ':=fun z=>f (Ay δ UD z)) fun z hz=>(KS cp.out f hz).symm)
   have b0:Hid ((st.map (dac (all.map f))).length≤1024):=by
    show _≤_
    rw [List.length_map]
    rw [List.length_map] at aZ
    exact Nat.le_trans aZ av.out
   clear aC a7 bz aE ap bC bX hW cb aZ
   unfold CY at b6
   obtain⟨tt,b3⟩:∃tt,tt=AM L (AF (dnx (AM L δ all all.length)) cl) (st.map fun s=>cl.getD s 0) st.length:=⟨_,rfl⟩
   obtain⟨aa,al⟩:∃aa,aa=st.map (dac (all.map f)):=⟨_,rfl⟩
   rw [←b3,←al] at aM bB
   rw [←al] at b0
   rw [←b3,←al] at b6 aS ⊢
   clear b3 al
   obtain⟨lr,bW⟩:∃lr,lr=tt.length:=⟨_,rfl⟩
   obtain⟨la,J⟩:∃la,la=aa.length:=⟨_,rfl⟩
   rw [←bW,←J] at b6 aS aM ⊢
   rw [←J] at b0
   have W:=hide J
   clear bW J
   go_wp2_with fail
   refine bodyPost_ret (v:=.agg #[.slice A5 lr c5,.slice A6 la c6]) (by simp [results,Tryz.results81,go_sem,aS]) rfl ⟨cy.out,tt,aa,bB.out,by rw [←W.out]; exact b0.out,aM.out⟩
end Go.Proofs.YtfcfpoemojjglaaGreatDoor
