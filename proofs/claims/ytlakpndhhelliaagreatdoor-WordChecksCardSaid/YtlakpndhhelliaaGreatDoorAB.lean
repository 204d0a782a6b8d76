/-
  Part AB of a proof.
-/
import Derived.Test.YtlakpndhhelliaaGreatDoorPA
import Derived.Test.YtlakpndhhelliaaGreatDoorCI
import Derived.Test.YtlakpndhhelliaaGreatDoorCE
set_option maxHeartbeats 16000000
set_option maxRecDepth 100000
set_option linter.unusedVariables false
set_option linter.unusedSimpArgs false
namespace Go.Proofs.YtlakpndhhelliaaGreatDoor.K
open Go.RowKit
attribute [-go_sem] loadCellsFrom storeCells
theorem Dn (b:Bool) (e:Int) (w:World):Calls Tryz.prog 27 #[.bool b,.int .i64 e] w (Ret fun r w'=>(∃x,r=.int .i64 x∧Hid (x=Ac b e))∧w=w'):=
 (BZ b e w).mono fun r w' h=>by
  obtain⟨rfl,rfl⟩:=h
  exact⟨⟨_,rfl,rfl⟩,rfl⟩
theorem DG {w:World} {A:Option Addr} {cc:Nat} {l:List DI} {n:Int} (h:BJ w w.heap.size 2 (CY w w.heap.size) A l):
  Calls Tryz.prog 28 #[.slice A l.length cc,.int .i64 n] w (Ret fun v w'=>v=.int .i64 (Ah (Az n) l)∧Below w.heap.size w w'):=by
 have hH:=hide h
 have hn:=h.1
 clear h
 go_enter Tryz.func28,Tryz.ntmps28
 go_wp2_with fail
 go_loopw [10] (fun ii wr=>∃(k:Nat),ii=.int .i64 (k:Int)∧k≤l.length∧Hid (Below w.heap.size w wr)∧Hid (Ah (Az n) (l.take k)=0)) (fun ii _=>l.length - (intOf ii).toNat)
 case atStart=>exact⟨0,rfl,Nat.zero_le _,Below.refl _ _,by show _=_; rfl⟩
 case round=>
  obtain⟨k,rfl,hk,hB,hE⟩:=hrel
  by_cases aD:k<l.length
  case neg=>
   have ao:=hE.out
   rw [show k=l.length by omega,List.take_length] at ao
   have aE:=hide ao
   clear ao hE
   go_wp2_with fail
   go_ret
   exact⟨by rw [aE.out]; rfl,hB.out⟩
  obtain⟨b,au,c,cs,hA,aQ,he,aR,aw,hR⟩:=(hH.out.keep (w':=wr) (B':=w.heap.size) (R':=CY wr w.heap.size) (fun _ hp=>hB.out.cell hp) (fun _ _ h=>h.keep (fun _ hp=>hB.out.cell hp) (Nat.le_refl _)) (Nat.le_refl _)).at aD
  obtain⟨E1,f1,rfl,hS⟩:=hR
  have aH:(loadCellsFrom ⟨b,au+k*2,none⟩ 0 2 #[]).run Tryz.prog wr=.ok #[.slice E1 c.states.length f1,.int .i64 c.least] wr:=by
   have:=run_loadCells_list (P:=Tryz.prog) wr ⟨b,au+k*2,none⟩ [.slice E1 c.states.length f1,.int .i64 c.least] (fun j v hv=>by rw [Addr.add_mid]; exact aw j v hv)
   simpa [loadCells] using this
  obtain⟨w5,ax,ay,ap,aK⟩:=Ag wr #[.slice E1 c.states.length f1,.int .i64 c.least] 51
  have aL:∀cq:Array Value,cq.size=2→(storeCells ⟨wr.heap.size,0,none⟩ [.slice E1 c.states.length f1,.int .i64 c.least] 0).run Tryz.prog (wr.alloc (.cells cq 51))=.ok () w5:=fun cq hc=>by rw [←ax]; exact Cf wr 51 2 (by kernel_rfl) (rc:=#[.slice E1 c.states.length f1,.int .i64 c.least]) rfl (by simp [Value.oneCell']) cq hc
  have aN:=ap.cell
  have aa:=hide ap
  have az:=hide (hB.out.trans (ay.mono hB.out.size))
  have C:=hide (az.out.trans ((Ap w5).mono az.out.size))
  have aA:∀wx,Below w.heap.size w wx→Calls Tryz.prog 24 #[.slice E1 c.states.length f1,.int .i64 n] wx (Ret fun r w'=>r=.int .i64 (Aa c.states n)∧Below wx.heap.size wx w'):=fun wx M=>
   Bw ((hS.keep (w':=w) (B':=w.heap.size) (fun _ hp=>(hB.out.cell hp).symm) (Nat.le_refl _)).keep (fun _ hp=>M.cell hp) M.size)
  have a6:=hide aA
  have ab:=hide he
  have aO:=hS.1
  obtain⟨ns,aq⟩:∃m,m=c.states.length:=⟨_,rfl⟩
  have ad:=hide (show((ns:Int)==0)=c.states.isEmpty by rw [Bn,D7,aq])
  rw [←aq] at a6 aN aL aH ax aO
  obtain⟨E,J⟩:∃e,Hid (Az n c=e):=⟨_,rfl⟩
  subst hA
  clear aw aA he hS aK ap ay aq
  cases ae:((ns:Int)==0)
  case true=>
   have hq:((ns:Int)==0)=true:=ae
   clear ae
   by_cases z:E=0
   ·have ag:(E != 0)=false:=by simp [z]
    have ah:=hide (show Ah (Az n) (l.take (k+1))=0 from by rw [Cq (Az n) ab.out hE.out,J.out,z])
    clear z
    go_wp2_with fail
    refine Reg.cI [0,1,0,7,0,16,48,112,255,511,1023,2047,4095,8191,16383,32767,65535,131071,262143,524287,1048575,2097151] [0,1,2,4,5,6,7,3,8,9,10,11,12,13,14,15,16,17,18,19,20,21] ?_
    refine Reg.wI [0,1,2,4,5,6,7] [3,8,9,10,11,12,13,14,15,16,17,18,19,20,21] rfl fun Qf f=>?_
    go_wp2_with fail
    first | refine f _ _ ⟨rfl,?_⟩ | refine⟨rfl,?_⟩ | refine f _ _ ⟨by simp [Reg.fineT,Reg.intOp,Region.wanted,yielded,Reg.intFine,Reg.isInt,Act.eval],?_⟩
    try clear f
    refine Reg.aI 3 [8,9,10,11,12,13,14,15,16,17,18,19,20,21] [5] rfl fun Qf f=>?_
    simp only [gT,gS,gZ]
    go_wp2_with (go_at_call 24; refine Calls.ret (a6.out _ C.out) ?_; rintro v O ⟨rfl,y⟩)
    first | refine f _ _ ⟨Reg.same_below (y) [5] rfl,?_⟩ | refine⟨Reg.same_below (y) [5] rfl,?_⟩
    try clear f
    have ai:=(aa.out.below ((Ap w5).trans y)).cell
    have F:=hide (C.out.trans (y.mono C.out.size))
    clear y
    refine Reg.wI [8,9,10,11,12,13,14,15,16,17] [18,19,20,21] rfl fun Qf f=>?_
    go_wp2_with fail
    first | refine f _ _ ⟨rfl,?_⟩ | refine⟨rfl,?_⟩ | refine f _ _ ⟨by simp [Reg.fineT,Reg.intOp,Region.wanted,yielded,Reg.intFine,Reg.isInt,Act.eval],?_⟩
    try clear f
    refine Reg.aI 18 [19,20,21] [] rfl fun Qf f=>?_
    simp only [gT,gS,gZ]
    go_wp2_with (go_at_call 27; refine Calls.ret (Dn _ _ _) ?_; rintro r w' ⟨⟨x,rfl,M⟩,rfl⟩)
    first | refine f _ _ ⟨Reg.nm,?_⟩ | refine⟨Reg.nm,?_⟩
    try clear f
    have U:=hide (show Ah id [Aa c.states n,x]=E from by
     simp only [Ah,id_eq,Be]
     rw [←J.out]
     unfold Az
     congr 1
     rw [M.out]
     congr 1
     rw [←ad.out,hq]
     rfl
    )
    obtain⟨wz,ak,G,I,V⟩:=Ag O #[.int .i64 (Aa c.states n),.int .i64 (x)] 33
    have W:=hide (B0 (l:=[Aa c.states n,x]) I (by simp))
    have Z:=hide (F.out.trans (G.mono F.out.size))
    clear I V G
    refine Reg.wI [19] [20,21] rfl fun Qf f=>?_
    go_wp2_with fail
    first | refine f _ _ ⟨rfl,?_⟩ | refine⟨rfl,?_⟩ | refine f _ _ ⟨by simp [Reg.fineT,Reg.intOp,Region.wanted,yielded,Reg.intFine,Reg.isInt,Act.eval],?_⟩
    try clear f
    refine Reg.aI 20 [21] [] rfl fun Qf f=>?_
    simp only [gT,gS,gZ]
    go_wp2_with (go_at_call 26; refine(B7 (l:=[Aa c.states n,x]) W.out).mono ?_; rintro e w' ⟨rfl,rfl⟩; rw [U.out])
    first | refine f _ _ ⟨Reg.nm,?_⟩ | refine⟨Reg.nm,?_⟩
    try clear f
    refine Reg.wI [21] [] rfl fun Qf f=>?_
    go_wp2_with fail
    first | refine f _ _ ⟨rfl,?_⟩ | refine⟨rfl,?_⟩ | refine f _ _ ⟨by simp [Reg.fineT,Reg.intOp,Region.wanted,yielded,Reg.intFine,Reg.isInt,Act.eval],?_⟩
    try clear f
    first | refine Reg.restI_end ?_ | skip
    go_wp2_with fail
    exact⟨⟨k+1,by go_num,by omega,Z.out,ah.out⟩,by simp [intOf]; omega⟩
   ·have ag:(E != 0)=true:=by simp [z]
    have al:=hide (show Ah (Az n) l=E from by rw [Cd (Az n) ab.out hE.out (by rw [J.out]; exact z),J.out])
    clear z
    go_wp2_with fail
    refine Reg.cI [0,1,0,7,0,16,48,112,255,511,1023,2047,4095,8191,16383,32767,65535,131071,262143,524287,1048575,2097151] [0,1,2,4,5,6,7,3,8,9,10,11,12,13,14,15,16,17,18,19,20,21] ?_
    refine Reg.wI [0,1,2,4,5,6,7] [3,8,9,10,11,12,13,14,15,16,17,18,19,20,21] rfl fun Qf f=>?_
    go_wp2_with fail
    first | refine f _ _ ⟨rfl,?_⟩ | refine⟨rfl,?_⟩ | refine f _ _ ⟨by simp [Reg.fineT,Reg.intOp,Region.wanted,yielded,Reg.intFine,Reg.isInt,Act.eval],?_⟩
    try clear f
    refine Reg.aI 3 [8,9,10,11,12,13,14,15,16,17,18,19,20,21] [5] rfl fun Qf f=>?_
    simp only [gT,gS,gZ]
    go_wp2_with (go_at_call 24; refine Calls.ret (a6.out _ C.out) ?_; rintro v O ⟨rfl,y⟩)
    first | refine f _ _ ⟨Reg.same_below (y) [5] rfl,?_⟩ | refine⟨Reg.same_below (y) [5] rfl,?_⟩
    try clear f
    have ai:=(aa.out.below ((Ap w5).trans y)).cell
    have F:=hide (C.out.trans (y.mono C.out.size))
    clear y
    refine Reg.wI [8,9,10,11,12,13,14,15,16,17] [18,19,20,21] rfl fun Qf f=>?_
    go_wp2_with fail
    first | refine f _ _ ⟨rfl,?_⟩ | refine⟨rfl,?_⟩ | refine f _ _ ⟨by simp [Reg.fineT,Reg.intOp,Region.wanted,yielded,Reg.intFine,Reg.isInt,Act.eval],?_⟩
    try clear f
    refine Reg.aI 18 [19,20,21] [] rfl fun Qf f=>?_
    simp only [gT,gS,gZ]
    go_wp2_with (go_at_call 27; refine Calls.ret (Dn _ _ _) ?_; rintro r w' ⟨⟨x,rfl,M⟩,rfl⟩)
    first | refine f _ _ ⟨Reg.nm,?_⟩ | refine⟨Reg.nm,?_⟩
    try clear f
    have U:=hide (show Ah id [Aa c.states n,x]=E from by
     simp only [Ah,id_eq,Be]
     rw [←J.out]
     unfold Az
     congr 1
     rw [M.out]
     congr 1
     rw [←ad.out,hq]
     rfl
    )
    obtain⟨wz,ak,G,I,V⟩:=Ag O #[.int .i64 (Aa c.states n),.int .i64 (x)] 33
    have W:=hide (B0 (l:=[Aa c.states n,x]) I (by simp))
    have Z:=hide (F.out.trans (G.mono F.out.size))
    clear I V G
    refine Reg.wI [19] [20,21] rfl fun Qf f=>?_
    go_wp2_with fail
    first | refine f _ _ ⟨rfl,?_⟩ | refine⟨rfl,?_⟩ | refine f _ _ ⟨by simp [Reg.fineT,Reg.intOp,Region.wanted,yielded,Reg.intFine,Reg.isInt,Act.eval],?_⟩
    try clear f
    refine Reg.aI 20 [21] [] rfl fun Qf f=>?_
    simp only [gT,gS,gZ]
    go_wp2_with (go_at_call 26; refine(B7 (l:=[Aa c.states n,x]) W.out).mono ?_; rintro e w' ⟨rfl,rfl⟩; rw [U.out])
    first | refine f _ _ ⟨Reg.nm,?_⟩ | refine⟨Reg.nm,?_⟩
    try clear f
    refine Reg.wI [21] [] rfl fun Qf f=>?_
    go_wp2_with fail
    first | refine f _ _ ⟨rfl,?_⟩ | refine⟨rfl,?_⟩ | refine f _ _ ⟨by simp [Reg.fineT,Reg.intOp,Region.wanted,yielded,Reg.intFine,Reg.isInt,Act.eval],?_⟩
    try clear f
    first | refine Reg.restI_end ?_ | skip
    go_wp2_with fail
    go_ret
    exact⟨by rw [al.out]; rfl,Z.out⟩
  case false=>
   by_cases hl:c.least<1
   ·have hq:((ns:Int)==0)=false:=ae
    clear ae
    by_cases z:E=0
    ·have ag:(E != 0)=false:=by simp [z]
     have ah:=hide (show Ah (Az n) (l.take (k+1))=0 from by rw [Cq (Az n) ab.out hE.out,J.out,z])
     clear z
     go_wp2_with fail
     refine Reg.cI [0,1,0,7,0,16,48,112,255,511,1023,2047,4095,8191,16383,32767,65535,131071,262143,524287,1048575,2097151] [0,1,2,4,5,6,7,3,8,9,10,11,12,13,14,15,16,17,18,19,20,21] ?_
     refine Reg.wI [0,1,2,4,5,6,7] [3,8,9,10,11,12,13,14,15,16,17,18,19,20,21] rfl fun Qf f=>?_
     go_wp2_with fail
     first | refine f _ _ ⟨rfl,?_⟩ | refine⟨rfl,?_⟩ | refine f _ _ ⟨by simp [Reg.fineT,Reg.intOp,Region.wanted,yielded,Reg.intFine,Reg.isInt,Act.eval],?_⟩
     try clear f
     refine Reg.aI 3 [8,9,10,11,12,13,14,15,16,17,18,19,20,21] [5] rfl fun Qf f=>?_
     simp only [gT,gS,gZ]
     go_wp2_with (go_at_call 24; refine Calls.ret (a6.out _ C.out) ?_; rintro v O ⟨rfl,y⟩)
     first | refine f _ _ ⟨Reg.same_below (y) [5] rfl,?_⟩ | refine⟨Reg.same_below (y) [5] rfl,?_⟩
     try clear f
     have ai:=(aa.out.below ((Ap w5).trans y)).cell
     have F:=hide (C.out.trans (y.mono C.out.size))
     clear y
     refine Reg.wI [8,9,10,11,12,13,14,15,16,17] [18,19,20,21] rfl fun Qf f=>?_
     go_wp2_with fail
     first | refine f _ _ ⟨rfl,?_⟩ | refine⟨rfl,?_⟩ | refine f _ _ ⟨by simp [Reg.fineT,Reg.intOp,Region.wanted,yielded,Reg.intFine,Reg.isInt,Act.eval],?_⟩
     try clear f
     refine Reg.aI 18 [19,20,21] [] rfl fun Qf f=>?_
     simp only [gT,gS,gZ]
     go_wp2_with (go_at_call 27; refine Calls.ret (Dn _ _ _) ?_; rintro r w' ⟨⟨x,rfl,M⟩,rfl⟩)
     first | refine f _ _ ⟨Reg.nm,?_⟩ | refine⟨Reg.nm,?_⟩
     try clear f
     have U:=hide (show Ah id [Aa c.states n,x]=E from by
      simp only [Ah,id_eq,Be]
      rw [←J.out]
      unfold Az
      congr 1
      rw [M.out]
      congr 1
      rw [←ad.out,hq]
      simp
      omega
     )
     obtain⟨wz,ak,G,I,V⟩:=Ag O #[.int .i64 (Aa c.states n),.int .i64 (x)] 33
     have W:=hide (B0 (l:=[Aa c.states n,x]) I (by simp))
     have Z:=hide (F.out.trans (G.mono F.out.size))
     clear I V G
     refine Reg.wI [19] [20,21] rfl fun Qf f=>?_
     go_wp2_with fail
     first | refine f _ _ ⟨rfl,?_⟩ | refine⟨rfl,?_⟩ | refine f _ _ ⟨by simp [Reg.fineT,Reg.intOp,Region.wanted,yielded,Reg.intFine,Reg.isInt,Act.eval],?_⟩
     try clear f
     refine Reg.aI 20 [21] [] rfl fun Qf f=>?_
     simp only [gT,gS,gZ]
     go_wp2_with (go_at_call 26; refine(B7 (l:=[Aa c.states n,x]) W.out).mono ?_; rintro e w' ⟨rfl,rfl⟩; rw [U.out])
     first | refine f _ _ ⟨Reg.nm,?_⟩ | refine⟨Reg.nm,?_⟩
     try clear f
     refine Reg.wI [21] [] rfl fun Qf f=>?_
     go_wp2_with fail
     first | refine f _ _ ⟨rfl,?_⟩ | refine⟨rfl,?_⟩ | refine f _ _ ⟨by simp [Reg.fineT,Reg.intOp,Region.wanted,yielded,Reg.intFine,Reg.isInt,Act.eval],?_⟩
     try clear f
     first | refine Reg.restI_end ?_ | skip
     go_wp2_with fail
     exact⟨⟨k+1,by go_num,by omega,Z.out,ah.out⟩,by simp [intOf]; omega⟩
    ·have ag:(E != 0)=true:=by simp [z]
     have al:=hide (show Ah (Az n) l=E from by rw [Cd (Az n) ab.out hE.out (by rw [J.out]; exact z),J.out])
     clear z
     go_wp2_with fail
     refine Reg.cI [0,1,0,7,0,16,48,112,255,511,1023,2047,4095,8191,16383,32767,65535,131071,262143,524287,1048575,2097151] [0,1,2,4,5,6,7,3,8,9,10,11,12,13,14,15,16,17,18,19,20,21] ?_
     refine Reg.wI [0,1,2,4,5,6,7] [3,8,9,10,11,12,13,14,15,16,17,18,19,20,21] rfl fun Qf f=>?_
     go_wp2_with fail
     first | refine f _ _ ⟨rfl,?_⟩ | refine⟨rfl,?_⟩ | refine f _ _ ⟨by simp [Reg.fineT,Reg.intOp,Region.wanted,yielded,Reg.intFine,Reg.isInt,Act.eval],?_⟩
     try clear f
     refine Reg.aI 3 [8,9,10,11,12,13,14,15,16,17,18,19,20,21] [5] rfl fun Qf f=>?_
     simp only [gT,gS,gZ]
     go_wp2_with (go_at_call 24; refine Calls.ret (a6.out _ C.out) ?_; rintro v O ⟨rfl,y⟩)
     first | refine f _ _ ⟨Reg.same_below (y) [5] rfl,?_⟩ | refine⟨Reg.same_below (y) [5] rfl,?_⟩
     try clear f
     have ai:=(aa.out.below ((Ap w5).trans y)).cell
     have F:=hide (C.out.trans (y.mono C.out.size))
     clear y
     refine Reg.wI [8,9,10,11,12,13,14,15,16,17] [18,19,20,21] rfl fun Qf f=>?_
     go_wp2_with fail
     first | refine f _ _ ⟨rfl,?_⟩ | refine⟨rfl,?_⟩ | refine f _ _ ⟨by simp [Reg.fineT,Reg.intOp,Region.wanted,yielded,Reg.intFine,Reg.isInt,Act.eval],?_⟩
     try clear f
     refine Reg.aI 18 [19,20,21] [] rfl fun Qf f=>?_
     simp only [gT,gS,gZ]
     go_wp2_with (go_at_call 27; refine Calls.ret (Dn _ _ _) ?_; rintro r w' ⟨⟨x,rfl,M⟩,rfl⟩)
     first | refine f _ _ ⟨Reg.nm,?_⟩ | refine⟨Reg.nm,?_⟩
     try clear f
     have U:=hide (show Ah id [Aa c.states n,x]=E from by
      simp only [Ah,id_eq,Be]
      rw [←J.out]
      unfold Az
      congr 1
      rw [M.out]
      congr 1
      rw [←ad.out,hq]
      simp
      omega
     )
     obtain⟨wz,ak,G,I,V⟩:=Ag O #[.int .i64 (Aa c.states n),.int .i64 (x)] 33
     have W:=hide (B0 (l:=[Aa c.states n,x]) I (by simp))
     have Z:=hide (F.out.trans (G.mono F.out.size))
     clear I V G
     refine Reg.wI [19] [20,21] rfl fun Qf f=>?_
     go_wp2_with fail
     first | refine f _ _ ⟨rfl,?_⟩ | refine⟨rfl,?_⟩ | refine f _ _ ⟨by simp [Reg.fineT,Reg.intOp,Region.wanted,yielded,Reg.intFine,Reg.isInt,Act.eval],?_⟩
     try clear f
     refine Reg.aI 20 [21] [] rfl fun Qf f=>?_
     simp only [gT,gS,gZ]
     go_wp2_with (go_at_call 26; refine(B7 (l:=[Aa c.states n,x]) W.out).mono ?_; rintro e w' ⟨rfl,rfl⟩; rw [U.out])
     first | refine f _ _ ⟨Reg.nm,?_⟩ | refine⟨Reg.nm,?_⟩
     try clear f
     refine Reg.wI [21] [] rfl fun Qf f=>?_
     go_wp2_with fail
     first | refine f _ _ ⟨rfl,?_⟩ | refine⟨rfl,?_⟩ | refine f _ _ ⟨by simp [Reg.fineT,Reg.intOp,Region.wanted,yielded,Reg.intFine,Reg.isInt,Act.eval],?_⟩
     try clear f
     first | refine Reg.restI_end ?_ | skip
     go_wp2_with fail
     go_ret
     exact⟨by rw [al.out]; rfl,Z.out⟩
   ·have hq:((ns:Int)==0)=false:=ae
    clear ae
    by_cases z:E=0
    ·have ag:(E != 0)=false:=by simp [z]
     have ah:=hide (show Ah (Az n) (l.take (k+1))=0 from by rw [Cq (Az n) ab.out hE.out,J.out,z])
     clear z
     go_wp2_with fail
     refine Reg.cI [0,1,0,7,0,16,48,112,255,511,1023,2047,4095,8191,16383,32767,65535,131071,262143,524287,1048575,2097151] [0,1,2,4,5,6,7,3,8,9,10,11,12,13,14,15,16,17,18,19,20,21] ?_
     refine Reg.wI [0,1,2,4,5,6,7] [3,8,9,10,11,12,13,14,15,16,17,18,19,20,21] rfl fun Qf f=>?_
     go_wp2_with fail
     first | refine f _ _ ⟨rfl,?_⟩ | refine⟨rfl,?_⟩ | refine f _ _ ⟨by simp [Reg.fineT,Reg.intOp,Region.wanted,yielded,Reg.intFine,Reg.isInt,Act.eval],?_⟩
     try clear f
     refine Reg.aI 3 [8,9,10,11,12,13,14,15,16,17,18,19,20,21] [5] rfl fun Qf f=>?_
     simp only [gT,gS,gZ]
     go_wp2_with (go_at_call 24; refine Calls.ret (a6.out _ C.out) ?_; rintro v O ⟨rfl,y⟩)
     first | refine f _ _ ⟨Reg.same_below (y) [5] rfl,?_⟩ | refine⟨Reg.same_below (y) [5] rfl,?_⟩
     try clear f
     have ai:=(aa.out.below ((Ap w5).trans y)).cell
     have F:=hide (C.out.trans (y.mono C.out.size))
     clear y
     refine Reg.wI [8,9,10,11,12,13,14,15,16,17] [18,19,20,21] rfl fun Qf f=>?_
     go_wp2_with fail
     first | refine f _ _ ⟨rfl,?_⟩ | refine⟨rfl,?_⟩ | refine f _ _ ⟨by simp [Reg.fineT,Reg.intOp,Region.wanted,yielded,Reg.intFine,Reg.isInt,Act.eval],?_⟩
     try clear f
     refine Reg.aI 18 [19,20,21] [] rfl fun Qf f=>?_
     simp only [gT,gS,gZ]
     go_wp2_with (go_at_call 27; refine Calls.ret (Dn _ _ _) ?_; rintro r w' ⟨⟨x,rfl,M⟩,rfl⟩)
     first | refine f _ _ ⟨Reg.nm,?_⟩ | refine⟨Reg.nm,?_⟩
     try clear f
     have U:=hide (show Ah id [Aa c.states n,x]=E from by
      simp only [Ah,id_eq,Be]
      rw [←J.out]
      unfold Az
      congr 1
      rw [M.out]
      congr 1
      rw [←ad.out,hq]
      rw [decide_eq_false (show ¬c.least<1 by omega),show decide (3<c.least)= !decide (c.least≤3) from by by_cases h3:c.least≤3 <;> simp [h3] <;> omega,decide_eq_true (show 1≤c.least by omega)]
      simp
     )
     obtain⟨wz,ak,G,I,V⟩:=Ag O #[.int .i64 (Aa c.states n),.int .i64 (x)] 33
     have W:=hide (B0 (l:=[Aa c.states n,x]) I (by simp))
     have Z:=hide (F.out.trans (G.mono F.out.size))
     clear I V G
     refine Reg.wI [19] [20,21] rfl fun Qf f=>?_
     go_wp2_with fail
     first | refine f _ _ ⟨rfl,?_⟩ | refine⟨rfl,?_⟩ | refine f _ _ ⟨by simp [Reg.fineT,Reg.intOp,Region.wanted,yielded,Reg.intFine,Reg.isInt,Act.eval],?_⟩
     try clear f
     refine Reg.aI 20 [21] [] rfl fun Qf f=>?_
     simp only [gT,gS,gZ]
     go_wp2_with (go_at_call 26; refine(B7 (l:=[Aa c.states n,x]) W.out).mono ?_; rintro e w' ⟨rfl,rfl⟩; rw [U.out])
     first | refine f _ _ ⟨Reg.nm,?_⟩ | refine⟨Reg.nm,?_⟩
     try clear f
     refine Reg.wI [21] [] rfl fun Qf f=>?_
     go_wp2_with fail
     first | refine f _ _ ⟨rfl,?_⟩ | refine⟨rfl,?_⟩ | refine f _ _ ⟨by simp [Reg.fineT,Reg.intOp,Region.wanted,yielded,Reg.intFine,Reg.isInt,Act.eval],?_⟩
     try clear f
     first | refine Reg.restI_end ?_ | skip
     go_wp2_with fail
     exact⟨⟨k+1,by go_num,by omega,Z.out,ah.out⟩,by simp [intOf]; omega⟩
    ·have ag:(E != 0)=true:=by simp [z]
     have al:=hide (show Ah (Az n) l=E from by rw [Cd (Az n) ab.out hE.out (by rw [J.out]; exact z),J.out])
     clear z
     go_wp2_with fail
     refine Reg.cI [0,1,0,7,0,16,48,112,255,511,1023,2047,4095,8191,16383,32767,65535,131071,262143,524287,1048575,2097151] [0,1,2,4,5,6,7,3,8,9,10,11,12,13,14,15,16,17,18,19,20,21] ?_
     refine Reg.wI [0,1,2,4,5,6,7] [3,8,9,10,11,12,13,14,15,16,17,18,19,20,21] rfl fun Qf f=>?_
     go_wp2_with fail
     first | refine f _ _ ⟨rfl,?_⟩ | refine⟨rfl,?_⟩ | refine f _ _ ⟨by simp [Reg.fineT,Reg.intOp,Region.wanted,yielded,Reg.intFine,Reg.isInt,Act.eval],?_⟩
     try clear f
     refine Reg.aI 3 [8,9,10,11,12,13,14,15,16,17,18,19,20,21] [5] rfl fun Qf f=>?_
     simp only [gT,gS,gZ]
     go_wp2_with (go_at_call 24; refine Calls.ret (a6.out _ C.out) ?_; rintro v O ⟨rfl,y⟩)
     first | refine f _ _ ⟨Reg.same_below (y) [5] rfl,?_⟩ | refine⟨Reg.same_below (y) [5] rfl,?_⟩
     try clear f
     have ai:=(aa.out.below ((Ap w5).trans y)).cell
     have F:=hide (C.out.trans (y.mono C.out.size))
     clear y
     refine Reg.wI [8,9,10,11,12,13,14,15,16,17] [18,19,20,21] rfl fun Qf f=>?_
     go_wp2_with fail
     first | refine f _ _ ⟨rfl,?_⟩ | refine⟨rfl,?_⟩ | refine f _ _ ⟨by simp [Reg.fineT,Reg.intOp,Region.wanted,yielded,Reg.intFine,Reg.isInt,Act.eval],?_⟩
     try clear f
     refine Reg.aI 18 [19,20,21] [] rfl fun Qf f=>?_
     simp only [gT,gS,gZ]
     go_wp2_with (go_at_call 27; refine Calls.ret (Dn _ _ _) ?_; rintro r w' ⟨⟨x,rfl,M⟩,rfl⟩)
     first | refine f _ _ ⟨Reg.nm,?_⟩ | refine⟨Reg.nm,?_⟩
     try clear f
     have U:=hide (show Ah id [Aa c.states n,x]=E from by
      simp only [Ah,id_eq,Be]
      rw [←J.out]
      unfold Az
      congr 1
      rw [M.out]
      congr 1
      rw [←ad.out,hq]
      rw [decide_eq_false (show ¬c.least<1 by omega),show decide (3<c.least)= !decide (c.least≤3) from by by_cases h3:c.least≤3 <;> simp [h3] <;> omega,decide_eq_true (show 1≤c.least by omega)]
      simp
     )
     obtain⟨wz,ak,G,I,V⟩:=Ag O #[.int .i64 (Aa c.states n),.int .i64 (x)] 33
     have W:=hide (B0 (l:=[Aa c.states n,x]) I (by simp))
     have Z:=hide (F.out.trans (G.mono F.out.size))
     clear I V G
     refine Reg.wI [19] [20,21] rfl fun Qf f=>?_
     go_wp2_with fail
     first | refine f _ _ ⟨rfl,?_⟩ | refine⟨rfl,?_⟩ | refine f _ _ ⟨by simp [Reg.fineT,Reg.intOp,Region.wanted,yielded,Reg.intFine,Reg.isInt,Act.eval],?_⟩
     try clear f
     refine Reg.aI 20 [21] [] rfl fun Qf f=>?_
     simp only [gT,gS,gZ]
     go_wp2_with (go_at_call 26; refine(B7 (l:=[Aa c.states n,x]) W.out).mono ?_; rintro e w' ⟨rfl,rfl⟩; rw [U.out])
     first | refine f _ _ ⟨Reg.nm,?_⟩ | refine⟨Reg.nm,?_⟩
     try clear f
     refine Reg.wI [21] [] rfl fun Qf f=>?_
     go_wp2_with fail
     first | refine f _ _ ⟨rfl,?_⟩ | refine⟨rfl,?_⟩ | refine f _ _ ⟨by simp [Reg.fineT,Reg.intOp,Region.wanted,yielded,Reg.intFine,Reg.isInt,Act.eval],?_⟩
     try clear f
     first | refine Reg.restI_end ?_ | skip
     go_wp2_with fail
     go_ret
     exact⟨by rw [al.out]; rfl,Z.out⟩
theorem DH {w:World} {cs:List Value} {p:Ao} {A:Option Addr} {cc:Nat} {l:List Int} (h:Ax w w.heap.size cs p) (F:Sl w w.heap.size 1 Ai A l):
  Calls Tryz.prog 29 #[.agg cs.toArray,.slice A l.length cc] w (Ret fun v w'=>v=.int .i64 (Bb p.topo p.states.length l)∧Below w.heap.size w w'):=by
 obtain⟨A1,c1,A2,c2,A3,c3,A4,c4,A5,c5,A6,c6,A7,c7,ae,aP,af,ag,aQ,aR,aS,aT,aU,aV,aW,O,z,h3,h4,h5,h6,h7,am⟩:=h.cells
 have an:=O.1
 have aX:=F.1
 clear h O z h3 h4 h5 h6 h7 am
 generalize cs.toArray=pc at*
 obtain⟨ns,U⟩:∃n,n=p.states.length:=⟨_,rfl⟩
 obtain⟨kt,V⟩:∃n,n=p.topo:=⟨_,rfl⟩
 rw [←U] at ag an ⊢
 rw [←V] at af ⊢
 clear U V ae
 obtain⟨w1,aY,E,W,ao⟩:=Ag w pc 27
 have aZ:=W.cell
 have G:=hide E
 have Z:=hide (E.trans ((Ap w1).mono E.size))
 have I:=hide (F.keep (w':=w1) (B':=w.heap.size) (fun _ hp=>E.cell hp) (Nat.le_refl _))
 clear W ao E F
 by_cases C:l.length=0
 ·have y:=hide (show Bb kt ns l=0 by
   have:l=[]:=List.length_eq_zero_iff.1 C
   subst this
   simp [Bb,Ac,orE,Ah])
  have hq:((l.length:Int)==0)=true:=by simp [C]
  generalize l.length=n at*
  clear C
  go_enter Tryz.func29,Tryz.ntmps29
  go_wp2_with fail
  go_ret
  exact⟨by rw [y.out]; rfl,G.out⟩
 have a3:l.isEmpty=false:=by rw [Bn]; exact decide_eq_false C
 have J:=hide a3
 clear a3
 have hq:((l.length:Int)==0)=false:=by simp [C]
 clear C
 by_cases ht:kt=1
 ·have y:=hide (show Bb kt ns l=6 by
   unfold Bb
   rw [J.out,ht]
   rfl)
  have aq:(kt==1)=true:=by simp [ht]
  clear ht
  generalize l.length=n at*
  go_enter Tryz.func29,Tryz.ntmps29
  go_wp2_with fail
  go_ret
  exact⟨by rw [y.out]; rfl,G.out⟩
 have aq:(kt==1)=false:=by simp [ht]
 have a4:=hide ht
 clear ht
 by_cases z:l.length=2
 case neg=>
  have y:=hide (show Bb kt ns l=1 by
   unfold Bb
   rw [J.out,decide_eq_false a4.out,decide_eq_false z]
   rfl)
  have b0:((l.length:Int) != 2)=true:=by
   have:((l.length:Int)==2)=false:=by
    simp
    omega
   simp [bne,this]
  clear z
  generalize l.length=n at*
  go_enter Tryz.func29,Tryz.ntmps29
  go_wp2_with fail
  go_ret
  exact⟨by rw [y.out]; rfl,G.out⟩
 obtain⟨a,b,rfl⟩:∃a b,l=[a,b]:=by
  match l,z with
  | [a,b],_=>exact⟨a,b,rfl⟩
 obtain⟨bb,b2,a',hA,b3,ha,a6⟩:=I.out.at (k:=0) (by simp)
 obtain⟨b4,b5,b',a7,b6,hb,a9⟩:=I.out.at (k:=1) (by simp)
 subst hA
 have M:=Option.some.inj a7
 injection M with M e2 _
 subst M e2
 obtain rfl:a=a':=by simpa using ha
 obtain rfl:b=b':=by simpa using hb
 have d0:=a6 0 (by omega)
 have d1:=a9 0 (by omega)
 simp only [Nat.add_zero,Nat.zero_mul,Nat.one_mul,Ai] at d0 d1
 have y:=hide (show Bb kt ns [a,b]=Ah id [Aw a (ns:Int),Aw b (ns:Int)] by
  unfold Bb
  rw [decide_eq_false a4.out]
  simp [Ah,Ac,orE,Aw])
 clear a6 a9 a7 z ha hb I J
 simp only [List.length_cons,List.length_nil] at hq ⊢
 go_enter Tryz.func29,Tryz.ntmps29
 go_wp2_with fail
 refine Reg.cI [0,1,3,0,8,24,63,0,128,384,0,1024,3072,8191,16383,32767,65535] [0,1,2,3,4,5,7,8,9,10,11,12,6,13,14,15,16] ?_
 refine Reg.wI [0,1,2,3,4,5,7,8,9,10,11,12] [6,13,14,15,16] rfl fun Qf f=>?_
 go_wp2_with fail
 first | refine f _ _ ⟨rfl,?_⟩ | refine⟨rfl,?_⟩ | refine f _ _ ⟨by simp [Reg.fineT,Reg.intOp,Region.wanted,yielded,Reg.intFine,Reg.isInt,Act.eval],?_⟩
 try clear f
 refine Reg.aI 6 [13,14,15,16] [9,11] rfl fun Qf f=>?_
 simp only [gT,gS,gZ]
 go_wp2_with (go_at_call 52; refine(Cl _ _ _).mono ?_; rintro e w' ⟨rfl,rfl⟩)
 first | refine f _ _ ⟨Reg.same_below (Below.refl _ _) [9,11] rfl,?_⟩ | refine⟨Reg.same_below (Below.refl _ _) [9,11] rfl,?_⟩
 try clear f
 refine Reg.aI 13 [14,15,16] [] rfl fun Qf f=>?_
 simp only [gT,gS,gZ]
 go_wp2_with (go_at_call 52; refine(Cl _ _ _).mono ?_; rintro e w' ⟨rfl,rfl⟩)
 first | refine f _ _ ⟨Reg.nm,?_⟩ | refine⟨Reg.nm,?_⟩
 try clear f
 obtain⟨wz,b8,aa,ab,ay⟩:=Ag w1.drew #[.int .i64 (Aw a (ns:Int)),.int .i64 (Aw b (ns:Int))] 33
 have az:=hide (B0 (l:=[Aw a (ns:Int),Aw b (ns:Int)]) ab (by simp))
 have aA:=hide (Z.out.trans (aa.mono Z.out.size))
 clear ab ay aa
 refine Reg.wI [14] [15,16] rfl fun Qf f=>?_
 go_wp2_with fail
 first | refine f _ _ ⟨rfl,?_⟩ | refine⟨rfl,?_⟩ | refine f _ _ ⟨by simp [Reg.fineT,Reg.intOp,Region.wanted,yielded,Reg.intFine,Reg.isInt,Act.eval],?_⟩
 try clear f
 refine Reg.aI 15 [16] [] rfl fun Qf f=>?_
 simp only [gT,gS,gZ]
 go_wp2_with (go_at_call 26; refine(B7 (l:=[Aw a (ns:Int),Aw b (ns:Int)]) az.out).mono ?_; rintro e w' ⟨rfl,rfl⟩)
 first | refine f _ _ ⟨Reg.nm,?_⟩ | refine⟨Reg.nm,?_⟩
 try clear f
 refine Reg.wI [16] [] rfl fun Qf f=>?_
 go_wp2_with fail
 first | refine f _ _ ⟨rfl,?_⟩ | refine⟨rfl,?_⟩ | refine f _ _ ⟨by simp [Reg.fineT,Reg.intOp,Region.wanted,yielded,Reg.intFine,Reg.isInt,Act.eval],?_⟩
 try clear f
 first | refine Reg.restI_end ?_ | skip
 go_wp2_with fail
 go_ret
 exact⟨by rw [y.out]; rfl,aA.out⟩
end Go.Proofs.YtlakpndhhelliaaGreatDoor.K
