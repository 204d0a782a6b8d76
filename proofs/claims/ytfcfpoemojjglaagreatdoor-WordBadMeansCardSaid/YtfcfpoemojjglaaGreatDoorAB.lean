/-
  Part AB of a proof.
-/
import Derived.Test.YtfcfpoemojjglaaGreatDoorPA
import Derived.Test.YtfcfpoemojjglaaGreatDoorCI
set_option maxHeartbeats 16000000
set_option maxRecDepth 100000
set_option linter.unusedVariables false
set_option linter.unusedSimpArgs false
namespace Go.Proofs.YtfcfpoemojjglaaGreatDoor.K
open Go.RowKit
attribute [-go_sem] loadCellsFrom storeCells
theorem DX (b:Bool) (e:Int) (w:World):Calls Tryz.prog 121 #[.bool b,.int .i64 e] w (Ret fun r w'=>(∃x,r=.int .i64 x∧Hid (x=Ad b e))∧w=w'):=
 (Ce b e w).mono fun r w' h=>by
  obtain⟨rfl,rfl⟩:=h
  exact⟨⟨_,rfl,rfl⟩,rfl⟩
theorem Nb {w:World} {A:Option Addr} {cc:Nat} {l:List D9} {n:Int} (h:BR w w.heap.size 2 (Db w w.heap.size) A l):
  Calls Tryz.prog 122 #[.slice A l.length cc,.int .i64 n] w (Ret fun v w'=>v=.int .i64 (Aj (AV n) l)∧Below w.heap.size w w'):=by
 have hH:=hide h
 have hn:=h.1
 clear h
 go_enter Tryz.func122,Tryz.ntmps122
 go_wp2_with fail
 go_loopw [10] (fun ii wr=>∃(k:Nat),ii=.int .i64 (k:Int)∧k≤l.length∧Hid (Below w.heap.size w wr)∧Hid (Aj (AV n) (l.take k)=0)) (fun ii _=>l.length - (intOf ii).toNat)
 case atStart=>exact⟨0,rfl,Nat.zero_le _,Below.refl _ _,by show _=_; rfl⟩
 case round=>
  obtain⟨k,rfl,hk,hB,hE⟩:=hrel
  by_cases aO:k<l.length
  case neg=>
   have ar:=hE.out
   rw [show k=l.length by omega,List.take_length] at ar
   have aF:=hide ar
   clear ar hE
   go_wp2_with fail
   go_ret
   exact⟨by rw [aF.out]; rfl,hB.out⟩
  obtain⟨b,aC,c,cs,hA,aR,he,aU,ay,hR⟩:=(hH.out.keep (w':=wr) (B':=w.heap.size) (R':=Db wr w.heap.size) (fun _ hp=>hB.out.cell hp) (fun _ _ h=>h.keep (fun _ hp=>hB.out.cell hp) (Nat.le_refl _)) (Nat.le_refl _)).at aO
  obtain⟨E1,f1,rfl,hS⟩:=hR
  have aM:(loadCellsFrom ⟨b,aC+k*2,none⟩ 0 2 #[]).run Tryz.prog wr=.ok #[.slice E1 c.states.length f1,.int .i64 c.least] wr:=by
   have:=run_loadCells_list (P:=Tryz.prog) wr ⟨b,aC+k*2,none⟩ [.slice E1 c.states.length f1,.int .i64 c.least] (fun j v hv=>by rw [Addr.add_mid]; exact ay j v hv)
   simpa [loadCells] using this
  obtain⟨w5,aB,ax,aq,aL⟩:=Ae wr #[.slice E1 c.states.length f1,.int .i64 c.least] 119
  have aP:∀cq:Array Value,cq.size=2→(storeCells ⟨wr.heap.size,0,none⟩ [.slice E1 c.states.length f1,.int .i64 c.least] 0).run Tryz.prog (wr.alloc (.cells cq 119))=.ok () w5:=fun cq hc=>by rw [←aB]; exact Dv wr 119 2 (by kernel_rfl) (rc:=#[.slice E1 c.states.length f1,.int .i64 c.least]) rfl (by simp [Value.oneCell']) cq hc
  have aK:=aq.cell
  have ad:=hide aq
  have aw:=hide (hB.out.trans (ax.mono hB.out.size))
  have G:=hide (aw.out.trans ((Ap w5).mono aw.out.size))
  have aA:∀wx,Below w.heap.size w wx→Calls Tryz.prog 119 #[.slice E1 c.states.length f1,.int .i64 n] wx (Ret fun r w'=>r=.int .i64 (setE c.states n)∧Below wx.heap.size wx w'):=fun wx U=>
   DE ((hS.keep (w':=w) (B':=w.heap.size) (fun _ hp=>(hB.out.cell hp).symm) (Nat.le_refl _)).keep (fun _ hp=>U.cell hp) U.size)
  have a8:=hide aA
  have af:=hide he
  have aN:=hS.1
  obtain⟨ns,au⟩:∃m,m=c.states.length:=⟨_,rfl⟩
  have ag:=hide (show((ns:Int)==0)=c.states.isEmpty by rw [Bv,EF,au])
  rw [←au] at a8 aK aP aM aB aN
  obtain⟨E,O⟩:∃e,Hid (AV n c=e):=⟨_,rfl⟩
  subst hA
  clear ay aA he hS aL aq ax au
  cases ae:((ns:Int)==0)
  case true=>
   have hq:((ns:Int)==0)=true:=ae
   clear ae
   by_cases C:E=0
   ·have aj:(E != 0)=false:=by simp [C]
    have ai:=hide (show Aj (AV n) (l.take (k+1))=0 from by rw [CD (AV n) af.out hE.out,O.out,C])
    clear C
    go_wp2_with fail
    refine Reg.cI [0,1,0,7,0,16,48,112,255,511,1023,2047,4095,8191,16383,32767,65535,131071,262143,524287,1048575,2097151] [0,1,2,4,5,6,7,3,8,9,10,11,12,13,14,15,16,17,18,19,20,21] ?_
    refine Reg.wI [0,1,2,4,5,6,7] [3,8,9,10,11,12,13,14,15,16,17,18,19,20,21] rfl fun Qf y=>?_
    go_wp2_with fail
    first | refine y _ _ ⟨rfl,?_⟩ | refine⟨rfl,?_⟩ | refine y _ _ ⟨by simp [Reg.fineT,Reg.intOp,Region.wanted,yielded,Reg.intFine,Reg.isInt,Act.eval],?_⟩
    try clear y
    refine Reg.aI 3 [8,9,10,11,12,13,14,15,16,17,18,19,20,21] [5] rfl fun Qf y=>?_
    simp only [gT,gS,gZ]
    go_wp2_with (go_at_call 119; refine Calls.ret (a8.out _ G.out) ?_; rintro v w6 ⟨rfl,z⟩)
    first | refine y _ _ ⟨Reg.same_below (z) [5] rfl,?_⟩ | refine⟨Reg.same_below (z) [5] rfl,?_⟩
    try clear y
    have ah:=(ad.out.below ((Ap w5).trans z)).cell
    have J:=hide (G.out.trans (z.mono G.out.size))
    clear z
    refine Reg.wI [8,9,10,11,12,13,14,15,16,17] [18,19,20,21] rfl fun Qf y=>?_
    go_wp2_with fail
    first | refine y _ _ ⟨rfl,?_⟩ | refine⟨rfl,?_⟩ | refine y _ _ ⟨by simp [Reg.fineT,Reg.intOp,Region.wanted,yielded,Reg.intFine,Reg.isInt,Act.eval],?_⟩
    try clear y
    refine Reg.aI 18 [19,20,21] [] rfl fun Qf y=>?_
    simp only [gT,gS,gZ]
    go_wp2_with (go_at_call 121; refine Calls.ret (DX _ _ _) ?_; rintro r w' ⟨⟨x,rfl,U⟩,rfl⟩)
    first | refine y _ _ ⟨Reg.nm,?_⟩ | refine⟨Reg.nm,?_⟩
    try clear y
    have Z:=hide (show Aj id [setE c.states n,x]=E from by
     simp only [Aj,id_eq,Bk]
     rw [←O.out]
     unfold AV
     congr 1
     rw [U.out]
     congr 1
     rw [←ag.out,hq]
     rfl
    )
    obtain⟨wz,al,M,I,a2⟩:=Ae w6 #[.int .i64 (setE c.states n),.int .i64 (x)] 36
    have V:=hide (Ch (l:=[setE c.states n,x]) I (by simp))
    have W:=hide (J.out.trans (M.mono J.out.size))
    clear I a2 M
    refine Reg.wI [19] [20,21] rfl fun Qf y=>?_
    go_wp2_with fail
    first | refine y _ _ ⟨rfl,?_⟩ | refine⟨rfl,?_⟩ | refine y _ _ ⟨by simp [Reg.fineT,Reg.intOp,Region.wanted,yielded,Reg.intFine,Reg.isInt,Act.eval],?_⟩
    try clear y
    refine Reg.aI 20 [21] [] rfl fun Qf y=>?_
    simp only [gT,gS,gZ]
    go_wp2_with (go_at_call 120; refine(Ci (l:=[setE c.states n,x]) V.out).mono ?_; rintro e w' ⟨rfl,rfl⟩; rw [Z.out])
    first | refine y _ _ ⟨Reg.nm,?_⟩ | refine⟨Reg.nm,?_⟩
    try clear y
    refine Reg.wI [21] [] rfl fun Qf y=>?_
    go_wp2_with fail
    first | refine y _ _ ⟨rfl,?_⟩ | refine⟨rfl,?_⟩ | refine y _ _ ⟨by simp [Reg.fineT,Reg.intOp,Region.wanted,yielded,Reg.intFine,Reg.isInt,Act.eval],?_⟩
    try clear y
    first | refine Reg.restI_end ?_ | skip
    go_wp2_with fail
    exact⟨⟨k+1,by go_num,by omega,W.out,ai.out⟩,by simp [intOf]; omega⟩
   ·have aj:(E != 0)=true:=by simp [C]
    have ak:=hide (show Aj (AV n) l=E from by rw [Ct (AV n) af.out hE.out (by rw [O.out]; exact C),O.out])
    clear C
    go_wp2_with fail
    refine Reg.cI [0,1,0,7,0,16,48,112,255,511,1023,2047,4095,8191,16383,32767,65535,131071,262143,524287,1048575,2097151] [0,1,2,4,5,6,7,3,8,9,10,11,12,13,14,15,16,17,18,19,20,21] ?_
    refine Reg.wI [0,1,2,4,5,6,7] [3,8,9,10,11,12,13,14,15,16,17,18,19,20,21] rfl fun Qf y=>?_
    go_wp2_with fail
    first | refine y _ _ ⟨rfl,?_⟩ | refine⟨rfl,?_⟩ | refine y _ _ ⟨by simp [Reg.fineT,Reg.intOp,Region.wanted,yielded,Reg.intFine,Reg.isInt,Act.eval],?_⟩
    try clear y
    refine Reg.aI 3 [8,9,10,11,12,13,14,15,16,17,18,19,20,21] [5] rfl fun Qf y=>?_
    simp only [gT,gS,gZ]
    go_wp2_with (go_at_call 119; refine Calls.ret (a8.out _ G.out) ?_; rintro v w6 ⟨rfl,z⟩)
    first | refine y _ _ ⟨Reg.same_below (z) [5] rfl,?_⟩ | refine⟨Reg.same_below (z) [5] rfl,?_⟩
    try clear y
    have ah:=(ad.out.below ((Ap w5).trans z)).cell
    have J:=hide (G.out.trans (z.mono G.out.size))
    clear z
    refine Reg.wI [8,9,10,11,12,13,14,15,16,17] [18,19,20,21] rfl fun Qf y=>?_
    go_wp2_with fail
    first | refine y _ _ ⟨rfl,?_⟩ | refine⟨rfl,?_⟩ | refine y _ _ ⟨by simp [Reg.fineT,Reg.intOp,Region.wanted,yielded,Reg.intFine,Reg.isInt,Act.eval],?_⟩
    try clear y
    refine Reg.aI 18 [19,20,21] [] rfl fun Qf y=>?_
    simp only [gT,gS,gZ]
    go_wp2_with (go_at_call 121; refine Calls.ret (DX _ _ _) ?_; rintro r w' ⟨⟨x,rfl,U⟩,rfl⟩)
    first | refine y _ _ ⟨Reg.nm,?_⟩ | refine⟨Reg.nm,?_⟩
    try clear y
    have Z:=hide (show Aj id [setE c.states n,x]=E from by
     simp only [Aj,id_eq,Bk]
     rw [←O.out]
     unfold AV
     congr 1
     rw [U.out]
     congr 1
     rw [←ag.out,hq]
     rfl
    )
    obtain⟨wz,al,M,I,a2⟩:=Ae w6 #[.int .i64 (setE c.states n),.int .i64 (x)] 36
    have V:=hide (Ch (l:=[setE c.states n,x]) I (by simp))
    have W:=hide (J.out.trans (M.mono J.out.size))
    clear I a2 M
    refine Reg.wI [19] [20,21] rfl fun Qf y=>?_
    go_wp2_with fail
    first | refine y _ _ ⟨rfl,?_⟩ | refine⟨rfl,?_⟩ | refine y _ _ ⟨by simp [Reg.fineT,Reg.intOp,Region.wanted,yielded,Reg.intFine,Reg.isInt,Act.eval],?_⟩
    try clear y
    refine Reg.aI 20 [21] [] rfl fun Qf y=>?_
    simp only [gT,gS,gZ]
    go_wp2_with (go_at_call 120; refine(Ci (l:=[setE c.states n,x]) V.out).mono ?_; rintro e w' ⟨rfl,rfl⟩; rw [Z.out])
    first | refine y _ _ ⟨Reg.nm,?_⟩ | refine⟨Reg.nm,?_⟩
    try clear y
    refine Reg.wI [21] [] rfl fun Qf y=>?_
    go_wp2_with fail
    first | refine y _ _ ⟨rfl,?_⟩ | refine⟨rfl,?_⟩ | refine y _ _ ⟨by simp [Reg.fineT,Reg.intOp,Region.wanted,yielded,Reg.intFine,Reg.isInt,Act.eval],?_⟩
    try clear y
    first | refine Reg.restI_end ?_ | skip
    go_wp2_with fail
    go_ret
    exact⟨by rw [ak.out]; rfl,W.out⟩
  case false=>
   by_cases hl:c.least<1
   ·have hq:((ns:Int)==0)=false:=ae
    clear ae
    by_cases C:E=0
    ·have aj:(E != 0)=false:=by simp [C]
     have ai:=hide (show Aj (AV n) (l.take (k+1))=0 from by rw [CD (AV n) af.out hE.out,O.out,C])
     clear C
     go_wp2_with fail
     refine Reg.cI [0,1,0,7,0,16,48,112,255,511,1023,2047,4095,8191,16383,32767,65535,131071,262143,524287,1048575,2097151] [0,1,2,4,5,6,7,3,8,9,10,11,12,13,14,15,16,17,18,19,20,21] ?_
     refine Reg.wI [0,1,2,4,5,6,7] [3,8,9,10,11,12,13,14,15,16,17,18,19,20,21] rfl fun Qf y=>?_
     go_wp2_with fail
     first | refine y _ _ ⟨rfl,?_⟩ | refine⟨rfl,?_⟩ | refine y _ _ ⟨by simp [Reg.fineT,Reg.intOp,Region.wanted,yielded,Reg.intFine,Reg.isInt,Act.eval],?_⟩
     try clear y
     refine Reg.aI 3 [8,9,10,11,12,13,14,15,16,17,18,19,20,21] [5] rfl fun Qf y=>?_
     simp only [gT,gS,gZ]
     go_wp2_with (go_at_call 119; refine Calls.ret (a8.out _ G.out) ?_; rintro v w6 ⟨rfl,z⟩)
     first | refine y _ _ ⟨Reg.same_below (z) [5] rfl,?_⟩ | refine⟨Reg.same_below (z) [5] rfl,?_⟩
     try clear y
     have ah:=(ad.out.below ((Ap w5).trans z)).cell
     have J:=hide (G.out.trans (z.mono G.out.size))
     clear z
     refine Reg.wI [8,9,10,11,12,13,14,15,16,17] [18,19,20,21] rfl fun Qf y=>?_
     go_wp2_with fail
     first | refine y _ _ ⟨rfl,?_⟩ | refine⟨rfl,?_⟩ | refine y _ _ ⟨by simp [Reg.fineT,Reg.intOp,Region.wanted,yielded,Reg.intFine,Reg.isInt,Act.eval],?_⟩
     try clear y
     refine Reg.aI 18 [19,20,21] [] rfl fun Qf y=>?_
     simp only [gT,gS,gZ]
     go_wp2_with (go_at_call 121; refine Calls.ret (DX _ _ _) ?_; rintro r w' ⟨⟨x,rfl,U⟩,rfl⟩)
     first | refine y _ _ ⟨Reg.nm,?_⟩ | refine⟨Reg.nm,?_⟩
     try clear y
     have Z:=hide (show Aj id [setE c.states n,x]=E from by
      simp only [Aj,id_eq,Bk]
      rw [←O.out]
      unfold AV
      congr 1
      rw [U.out]
      congr 1
      rw [←ag.out,hq]
      simp
      omega
     )
     obtain⟨wz,al,M,I,a2⟩:=Ae w6 #[.int .i64 (setE c.states n),.int .i64 (x)] 36
     have V:=hide (Ch (l:=[setE c.states n,x]) I (by simp))
     have W:=hide (J.out.trans (M.mono J.out.size))
     clear I a2 M
     refine Reg.wI [19] [20,21] rfl fun Qf y=>?_
     go_wp2_with fail
     first | refine y _ _ ⟨rfl,?_⟩ | refine⟨rfl,?_⟩ | refine y _ _ ⟨by simp [Reg.fineT,Reg.intOp,Region.wanted,yielded,Reg.intFine,Reg.isInt,Act.eval],?_⟩
     try clear y
     refine Reg.aI 20 [21] [] rfl fun Qf y=>?_
     simp only [gT,gS,gZ]
     go_wp2_with (go_at_call 120; refine(Ci (l:=[setE c.states n,x]) V.out).mono ?_; rintro e w' ⟨rfl,rfl⟩; rw [Z.out])
     first | refine y _ _ ⟨Reg.nm,?_⟩ | refine⟨Reg.nm,?_⟩
     try clear y
     refine Reg.wI [21] [] rfl fun Qf y=>?_
     go_wp2_with fail
     first | refine y _ _ ⟨rfl,?_⟩ | refine⟨rfl,?_⟩ | refine y _ _ ⟨by simp [Reg.fineT,Reg.intOp,Region.wanted,yielded,Reg.intFine,Reg.isInt,Act.eval],?_⟩
     try clear y
     first | refine Reg.restI_end ?_ | skip
     go_wp2_with fail
     exact⟨⟨k+1,by go_num,by omega,W.out,ai.out⟩,by simp [intOf]; omega⟩
    ·have aj:(E != 0)=true:=by simp [C]
     have ak:=hide (show Aj (AV n) l=E from by rw [Ct (AV n) af.out hE.out (by rw [O.out]; exact C),O.out])
     clear C
     go_wp2_with fail
     refine Reg.cI [0,1,0,7,0,16,48,112,255,511,1023,2047,4095,8191,16383,32767,65535,131071,262143,524287,1048575,2097151] [0,1,2,4,5,6,7,3,8,9,10,11,12,13,14,15,16,17,18,19,20,21] ?_
     refine Reg.wI [0,1,2,4,5,6,7] [3,8,9,10,11,12,13,14,15,16,17,18,19,20,21] rfl fun Qf y=>?_
     go_wp2_with fail
     first | refine y _ _ ⟨rfl,?_⟩ | refine⟨rfl,?_⟩ | refine y _ _ ⟨by simp [Reg.fineT,Reg.intOp,Region.wanted,yielded,Reg.intFine,Reg.isInt,Act.eval],?_⟩
     try clear y
     refine Reg.aI 3 [8,9,10,11,12,13,14,15,16,17,18,19,20,21] [5] rfl fun Qf y=>?_
     simp only [gT,gS,gZ]
     go_wp2_with (go_at_call 119; refine Calls.ret (a8.out _ G.out) ?_; rintro v w6 ⟨rfl,z⟩)
     first | refine y _ _ ⟨Reg.same_below (z) [5] rfl,?_⟩ | refine⟨Reg.same_below (z) [5] rfl,?_⟩
     try clear y
     have ah:=(ad.out.below ((Ap w5).trans z)).cell
     have J:=hide (G.out.trans (z.mono G.out.size))
     clear z
     refine Reg.wI [8,9,10,11,12,13,14,15,16,17] [18,19,20,21] rfl fun Qf y=>?_
     go_wp2_with fail
     first | refine y _ _ ⟨rfl,?_⟩ | refine⟨rfl,?_⟩ | refine y _ _ ⟨by simp [Reg.fineT,Reg.intOp,Region.wanted,yielded,Reg.intFine,Reg.isInt,Act.eval],?_⟩
     try clear y
     refine Reg.aI 18 [19,20,21] [] rfl fun Qf y=>?_
     simp only [gT,gS,gZ]
     go_wp2_with (go_at_call 121; refine Calls.ret (DX _ _ _) ?_; rintro r w' ⟨⟨x,rfl,U⟩,rfl⟩)
     first | refine y _ _ ⟨Reg.nm,?_⟩ | refine⟨Reg.nm,?_⟩
     try clear y
     have Z:=hide (show Aj id [setE c.states n,x]=E from by
      simp only [Aj,id_eq,Bk]
      rw [←O.out]
      unfold AV
      congr 1
      rw [U.out]
      congr 1
      rw [←ag.out,hq]
      simp
      omega
     )
     obtain⟨wz,al,M,I,a2⟩:=Ae w6 #[.int .i64 (setE c.states n),.int .i64 (x)] 36
     have V:=hide (Ch (l:=[setE c.states n,x]) I (by simp))
     have W:=hide (J.out.trans (M.mono J.out.size))
     clear I a2 M
     refine Reg.wI [19] [20,21] rfl fun Qf y=>?_
     go_wp2_with fail
     first | refine y _ _ ⟨rfl,?_⟩ | refine⟨rfl,?_⟩ | refine y _ _ ⟨by simp [Reg.fineT,Reg.intOp,Region.wanted,yielded,Reg.intFine,Reg.isInt,Act.eval],?_⟩
     try clear y
     refine Reg.aI 20 [21] [] rfl fun Qf y=>?_
     simp only [gT,gS,gZ]
     go_wp2_with (go_at_call 120; refine(Ci (l:=[setE c.states n,x]) V.out).mono ?_; rintro e w' ⟨rfl,rfl⟩; rw [Z.out])
     first | refine y _ _ ⟨Reg.nm,?_⟩ | refine⟨Reg.nm,?_⟩
     try clear y
     refine Reg.wI [21] [] rfl fun Qf y=>?_
     go_wp2_with fail
     first | refine y _ _ ⟨rfl,?_⟩ | refine⟨rfl,?_⟩ | refine y _ _ ⟨by simp [Reg.fineT,Reg.intOp,Region.wanted,yielded,Reg.intFine,Reg.isInt,Act.eval],?_⟩
     try clear y
     first | refine Reg.restI_end ?_ | skip
     go_wp2_with fail
     go_ret
     exact⟨by rw [ak.out]; rfl,W.out⟩
   ·have hq:((ns:Int)==0)=false:=ae
    clear ae
    by_cases C:E=0
    ·have aj:(E != 0)=false:=by simp [C]
     have ai:=hide (show Aj (AV n) (l.take (k+1))=0 from by rw [CD (AV n) af.out hE.out,O.out,C])
     clear C
     go_wp2_with fail
     refine Reg.cI [0,1,0,7,0,16,48,112,255,511,1023,2047,4095,8191,16383,32767,65535,131071,262143,524287,1048575,2097151] [0,1,2,4,5,6,7,3,8,9,10,11,12,13,14,15,16,17,18,19,20,21] ?_
     refine Reg.wI [0,1,2,4,5,6,7] [3,8,9,10,11,12,13,14,15,16,17,18,19,20,21] rfl fun Qf y=>?_
     go_wp2_with fail
     first | refine y _ _ ⟨rfl,?_⟩ | refine⟨rfl,?_⟩ | refine y _ _ ⟨by simp [Reg.fineT,Reg.intOp,Region.wanted,yielded,Reg.intFine,Reg.isInt,Act.eval],?_⟩
     try clear y
     refine Reg.aI 3 [8,9,10,11,12,13,14,15,16,17,18,19,20,21] [5] rfl fun Qf y=>?_
     simp only [gT,gS,gZ]
     go_wp2_with (go_at_call 119; refine Calls.ret (a8.out _ G.out) ?_; rintro v w6 ⟨rfl,z⟩)
     first | refine y _ _ ⟨Reg.same_below (z) [5] rfl,?_⟩ | refine⟨Reg.same_below (z) [5] rfl,?_⟩
     try clear y
     have ah:=(ad.out.below ((Ap w5).trans z)).cell
     have J:=hide (G.out.trans (z.mono G.out.size))
     clear z
     refine Reg.wI [8,9,10,11,12,13,14,15,16,17] [18,19,20,21] rfl fun Qf y=>?_
     go_wp2_with fail
     first | refine y _ _ ⟨rfl,?_⟩ | refine⟨rfl,?_⟩ | refine y _ _ ⟨by simp [Reg.fineT,Reg.intOp,Region.wanted,yielded,Reg.intFine,Reg.isInt,Act.eval],?_⟩
     try clear y
     refine Reg.aI 18 [19,20,21] [] rfl fun Qf y=>?_
     simp only [gT,gS,gZ]
     go_wp2_with (go_at_call 121; refine Calls.ret (DX _ _ _) ?_; rintro r w' ⟨⟨x,rfl,U⟩,rfl⟩)
     first | refine y _ _ ⟨Reg.nm,?_⟩ | refine⟨Reg.nm,?_⟩
     try clear y
     have Z:=hide (show Aj id [setE c.states n,x]=E from by
      simp only [Aj,id_eq,Bk]
      rw [←O.out]
      unfold AV
      congr 1
      rw [U.out]
      congr 1
      rw [←ag.out,hq]
      rw [decide_eq_false (show ¬c.least<1 by omega),show decide (3<c.least)= !decide (c.least≤3) from by by_cases h3:c.least≤3 <;> simp [h3] <;> omega,decide_eq_true (show 1≤c.least by omega)]
      simp
     )
     obtain⟨wz,al,M,I,a2⟩:=Ae w6 #[.int .i64 (setE c.states n),.int .i64 (x)] 36
     have V:=hide (Ch (l:=[setE c.states n,x]) I (by simp))
     have W:=hide (J.out.trans (M.mono J.out.size))
     clear I a2 M
     refine Reg.wI [19] [20,21] rfl fun Qf y=>?_
     go_wp2_with fail
     first | refine y _ _ ⟨rfl,?_⟩ | refine⟨rfl,?_⟩ | refine y _ _ ⟨by simp [Reg.fineT,Reg.intOp,Region.wanted,yielded,Reg.intFine,Reg.isInt,Act.eval],?_⟩
     try clear y
     refine Reg.aI 20 [21] [] rfl fun Qf y=>?_
     simp only [gT,gS,gZ]
     go_wp2_with (go_at_call 120; refine(Ci (l:=[setE c.states n,x]) V.out).mono ?_; rintro e w' ⟨rfl,rfl⟩; rw [Z.out])
     first | refine y _ _ ⟨Reg.nm,?_⟩ | refine⟨Reg.nm,?_⟩
     try clear y
     refine Reg.wI [21] [] rfl fun Qf y=>?_
     go_wp2_with fail
     first | refine y _ _ ⟨rfl,?_⟩ | refine⟨rfl,?_⟩ | refine y _ _ ⟨by simp [Reg.fineT,Reg.intOp,Region.wanted,yielded,Reg.intFine,Reg.isInt,Act.eval],?_⟩
     try clear y
     first | refine Reg.restI_end ?_ | skip
     go_wp2_with fail
     exact⟨⟨k+1,by go_num,by omega,W.out,ai.out⟩,by simp [intOf]; omega⟩
    ·have aj:(E != 0)=true:=by simp [C]
     have ak:=hide (show Aj (AV n) l=E from by rw [Ct (AV n) af.out hE.out (by rw [O.out]; exact C),O.out])
     clear C
     go_wp2_with fail
     refine Reg.cI [0,1,0,7,0,16,48,112,255,511,1023,2047,4095,8191,16383,32767,65535,131071,262143,524287,1048575,2097151] [0,1,2,4,5,6,7,3,8,9,10,11,12,13,14,15,16,17,18,19,20,21] ?_
     refine Reg.wI [0,1,2,4,5,6,7] [3,8,9,10,11,12,13,14,15,16,17,18,19,20,21] rfl fun Qf y=>?_
     go_wp2_with fail
     first | refine y _ _ ⟨rfl,?_⟩ | refine⟨rfl,?_⟩ | refine y _ _ ⟨by simp [Reg.fineT,Reg.intOp,Region.wanted,yielded,Reg.intFine,Reg.isInt,Act.eval],?_⟩
     try clear y
     refine Reg.aI 3 [8,9,10,11,12,13,14,15,16,17,18,19,20,21] [5] rfl fun Qf y=>?_
     simp only [gT,gS,gZ]
     go_wp2_with (go_at_call 119; refine Calls.ret (a8.out _ G.out) ?_; rintro v w6 ⟨rfl,z⟩)
     first | refine y _ _ ⟨Reg.same_below (z) [5] rfl,?_⟩ | refine⟨Reg.same_below (z) [5] rfl,?_⟩
     try clear y
     have ah:=(ad.out.below ((Ap w5).trans z)).cell
     have J:=hide (G.out.trans (z.mono G.out.size))
     clear z
     refine Reg.wI [8,9,10,11,12,13,14,15,16,17] [18,19,20,21] rfl fun Qf y=>?_
     go_wp2_with fail
     first | refine y _ _ ⟨rfl,?_⟩ | refine⟨rfl,?_⟩ | refine y _ _ ⟨by simp [Reg.fineT,Reg.intOp,Region.wanted,yielded,Reg.intFine,Reg.isInt,Act.eval],?_⟩
     try clear y
     refine Reg.aI 18 [19,20,21] [] rfl fun Qf y=>?_
     simp only [gT,gS,gZ]
     go_wp2_with (go_at_call 121; refine Calls.ret (DX _ _ _) ?_; rintro r w' ⟨⟨x,rfl,U⟩,rfl⟩)
     first | refine y _ _ ⟨Reg.nm,?_⟩ | refine⟨Reg.nm,?_⟩
     try clear y
     have Z:=hide (show Aj id [setE c.states n,x]=E from by
      simp only [Aj,id_eq,Bk]
      rw [←O.out]
      unfold AV
      congr 1
      rw [U.out]
      congr 1
      rw [←ag.out,hq]
      rw [decide_eq_false (show ¬c.least<1 by omega),show decide (3<c.least)= !decide (c.least≤3) from by by_cases h3:c.least≤3 <;> simp [h3] <;> omega,decide_eq_true (show 1≤c.least by omega)]
      simp
     )
     obtain⟨wz,al,M,I,a2⟩:=Ae w6 #[.int .i64 (setE c.states n),.int .i64 (x)] 36
     have V:=hide (Ch (l:=[setE c.states n,x]) I (by simp))
     have W:=hide (J.out.trans (M.mono J.out.size))
     clear I a2 M
     refine Reg.wI [19] [20,21] rfl fun Qf y=>?_
     go_wp2_with fail
     first | refine y _ _ ⟨rfl,?_⟩ | refine⟨rfl,?_⟩ | refine y _ _ ⟨by simp [Reg.fineT,Reg.intOp,Region.wanted,yielded,Reg.intFine,Reg.isInt,Act.eval],?_⟩
     try clear y
     refine Reg.aI 20 [21] [] rfl fun Qf y=>?_
     simp only [gT,gS,gZ]
     go_wp2_with (go_at_call 120; refine(Ci (l:=[setE c.states n,x]) V.out).mono ?_; rintro e w' ⟨rfl,rfl⟩; rw [Z.out])
     first | refine y _ _ ⟨Reg.nm,?_⟩ | refine⟨Reg.nm,?_⟩
     try clear y
     refine Reg.wI [21] [] rfl fun Qf y=>?_
     go_wp2_with fail
     first | refine y _ _ ⟨rfl,?_⟩ | refine⟨rfl,?_⟩ | refine y _ _ ⟨by simp [Reg.fineT,Reg.intOp,Region.wanted,yielded,Reg.intFine,Reg.isInt,Act.eval],?_⟩
     try clear y
     first | refine Reg.restI_end ?_ | skip
     go_wp2_with fail
     go_ret
     exact⟨by rw [ak.out]; rfl,W.out⟩
theorem L6 {w:World} {cs:List Value} {p:Am} {A:Option Addr} {cc:Nat} {l:List Int} (h:At w w.heap.size cs p) (M:Sl w w.heap.size 1 Ai A l):
  Calls Tryz.prog 123 #[.agg cs.toArray,.slice A l.length cc] w (Ret fun v w'=>v=.int .i64 (BA p.topo p.states.length l)∧Below w.heap.size w w'):=by
 obtain⟨A1,c1,A2,c2,A3,c3,A4,c4,A5,c5,A6,c6,A7,c7,aB,aW,az,aA,aX,aY,aZ,b0,b1,b2,b3,V,E,h3,h4,h5,h6,h7,au⟩:=h.cells
 have ax:=V.1
 have aV:=M.1
 clear h V E h3 h4 h5 h6 h7 au
 generalize cs.toArray=pc at*
 obtain⟨ns,ab⟩:∃n,n=p.states.length:=⟨_,rfl⟩
 obtain⟨kt,a9⟩:∃n,n=p.topo:=⟨_,rfl⟩
 rw [←ab] at aA ax ⊢
 rw [←a9] at az ⊢
 clear ab a9 aB
 obtain⟨w1,b5,G,Z,av⟩:=Ae w pc 27
 have aU:=Z.cell
 have J:=hide G
 have a5:=hide (G.trans ((Ap w1).mono G.size))
 have O:=hide (M.keep (w':=w1) (B':=w.heap.size) (fun _ hp=>G.cell hp) (Nat.le_refl _))
 clear Z av G M
 by_cases C:l.length=0
 ·have z:=hide (show BA kt ns l=0 by
   have:l=[]:=List.length_eq_zero_iff.1 C
   subst this
   simp [BA,Ad,orE,Aj])
  have hq:((l.length:Int)==0)=true:=by simp [C]
  generalize l.length=n at*
  clear C
  go_enter Tryz.func123,Tryz.ntmps123
  go_wp2_with fail
  go_ret
  exact⟨by rw [z.out]; rfl,J.out⟩
 have aa:l.isEmpty=false:=by rw [Bv]; exact decide_eq_false C
 have U:=hide aa
 clear aa
 have hq:((l.length:Int)==0)=false:=by simp [C]
 clear C
 by_cases ht:kt=1
 ·have z:=hide (show BA kt ns l=6 by
   unfold BA
   rw [U.out,ht]
   rfl)
  have aC:(kt==1)=true:=by simp [ht]
  clear ht
  generalize l.length=n at*
  go_enter Tryz.func123,Tryz.ntmps123
  go_wp2_with fail
  go_ret
  exact⟨by rw [z.out]; rfl,J.out⟩
 have aC:(kt==1)=false:=by simp [ht]
 have ae:=hide ht
 clear ht
 by_cases E:l.length=2
 case neg=>
  have z:=hide (show BA kt ns l=1 by
   unfold BA
   rw [U.out,decide_eq_false ae.out,decide_eq_false E]
   rfl)
  have b4:((l.length:Int) != 2)=true:=by
   have:((l.length:Int)==2)=false:=by
    simp
    omega
   simp [bne,this]
  clear E
  generalize l.length=n at*
  go_enter Tryz.func123,Tryz.ntmps123
  go_wp2_with fail
  go_ret
  exact⟨by rw [z.out]; rfl,J.out⟩
 obtain⟨a,b,rfl⟩:∃a b,l=[a,b]:=by
  match l,E with
  | [a,b],_=>exact⟨a,b,rfl⟩
 obtain⟨bb,b7,a',hA,aS,ha,a7⟩:=O.out.at (k:=0) (by simp)
 obtain⟨aM,b8,b',W,aT,hb,a8⟩:=O.out.at (k:=1) (by simp)
 subst hA
 have I:=Option.some.inj W
 injection I with I e2 _
 subst I e2
 obtain rfl:a=a':=by simpa using ha
 obtain rfl:b=b':=by simpa using hb
 have d0:=a7 0 (by omega)
 have d1:=a8 0 (by omega)
 simp only [Nat.add_zero,Nat.zero_mul,Nat.one_mul,Ai] at d0 d1
 have z:=hide (show BA kt ns [a,b]=Aj id [AD a (ns:Int),AD b (ns:Int)] by
  unfold BA
  rw [decide_eq_false ae.out]
  simp [Aj,Ad,orE,AD])
 clear a7 a8 W E ha hb O U
 simp only [List.length_cons,List.length_nil] at hq ⊢
 go_enter Tryz.func123,Tryz.ntmps123
 go_wp2_with fail
 refine Reg.cI [0,1,3,0,8,24,63,0,128,384,0,1024,3072,8191,16383,32767,65535] [0,1,2,3,4,5,7,8,9,10,11,12,6,13,14,15,16] ?_
 refine Reg.wI [0,1,2,3,4,5,7,8,9,10,11,12] [6,13,14,15,16] rfl fun Qf y=>?_
 go_wp2_with fail
 first | refine y _ _ ⟨rfl,?_⟩ | refine⟨rfl,?_⟩ | refine y _ _ ⟨by simp [Reg.fineT,Reg.intOp,Region.wanted,yielded,Reg.intFine,Reg.isInt,Act.eval],?_⟩
 try clear y
 refine Reg.aI 6 [13,14,15,16] [9,11] rfl fun Qf y=>?_
 simp only [gT,gS,gZ]
 go_wp2_with (go_at_call 173; refine(Cu _ _ _).mono ?_; rintro e w' ⟨rfl,rfl⟩)
 first | refine y _ _ ⟨Reg.same_below (Below.refl _ _) [9,11] rfl,?_⟩ | refine⟨Reg.same_below (Below.refl _ _) [9,11] rfl,?_⟩
 try clear y
 refine Reg.aI 13 [14,15,16] [] rfl fun Qf y=>?_
 simp only [gT,gS,gZ]
 go_wp2_with (go_at_call 173; refine(Cu _ _ _).mono ?_; rintro e w' ⟨rfl,rfl⟩)
 first | refine y _ _ ⟨Reg.nm,?_⟩ | refine⟨Reg.nm,?_⟩
 try clear y
 obtain⟨wz,b6,a6,a2,aw⟩:=Ae w1.drew #[.int .i64 (AD a (ns:Int)),.int .i64 (AD b (ns:Int))] 36
 have aq:=hide (Ch (l:=[AD a (ns:Int),AD b (ns:Int)]) a2 (by simp))
 have ar:=hide (a5.out.trans (a6.mono a5.out.size))
 clear a2 aw a6
 refine Reg.wI [14] [15,16] rfl fun Qf y=>?_
 go_wp2_with fail
 first | refine y _ _ ⟨rfl,?_⟩ | refine⟨rfl,?_⟩ | refine y _ _ ⟨by simp [Reg.fineT,Reg.intOp,Region.wanted,yielded,Reg.intFine,Reg.isInt,Act.eval],?_⟩
 try clear y
 refine Reg.aI 15 [16] [] rfl fun Qf y=>?_
 simp only [gT,gS,gZ]
 go_wp2_with (go_at_call 120; refine(Ci (l:=[AD a (ns:Int),AD b (ns:Int)]) aq.out).mono ?_; rintro e w' ⟨rfl,rfl⟩)
 first | refine y _ _ ⟨Reg.nm,?_⟩ | refine⟨Reg.nm,?_⟩
 try clear y
 refine Reg.wI [16] [] rfl fun Qf y=>?_
 go_wp2_with fail
 first | refine y _ _ ⟨rfl,?_⟩ | refine⟨rfl,?_⟩ | refine y _ _ ⟨by simp [Reg.fineT,Reg.intOp,Region.wanted,yielded,Reg.intFine,Reg.isInt,Act.eval],?_⟩
 try clear y
 first | refine Reg.restI_end ?_ | skip
 go_wp2_with fail
 go_ret
 exact⟨by rw [z.out]; rfl,ar.out⟩
end Go.Proofs.YtfcfpoemojjglaaGreatDoor.K
