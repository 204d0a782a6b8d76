/-
  Part AC of a proof.
-/
import Derived.Test.YtfcfpoemojjglaaGreatDoorPA
import Derived.Test.YtfcfpoemojjglaaGreatDoorCI
import Derived.Test.YtfcfpoemojjglaaGreatDoorCE
set_option maxHeartbeats 16000000
set_option maxRecDepth 100000
set_option linter.unusedVariables false
set_option linter.unusedSimpArgs false
namespace Go.Proofs.YtfcfpoemojjglaaGreatDoor.K
open Go.RowKit
attribute [-go_sem] loadCellsFrom storeCells
theorem DX (b:Bool) (e:Int) (w:World):Calls Tryz.prog 121 #[.bool b,.int .i64 e] w (Ret fun r w'=>(∃x,r=.int .i64 x/\Hid (x=Ad b e))/\w=w'):=
 (Ce b e w).mono fun r w' h=>by
  obtain⟨rfl,rfl⟩:=h;exact⟨⟨_,rfl,rfl⟩,rfl⟩
theorem Nb {w:World} {A:Option Addr} {cc:Nat} {l:List D9} {n:Int} (h:BR w w.heap.size 2 (Db w w.heap.size) A l):
  Calls Tryz.prog 122 #[.slice A l.length cc,.int .i64 n] w (Ret fun v w'=>v=.int .i64 (Aj (AV n) l)/\Below w.heap.size w w'):=by
 have hH:=hide h;have hn:=h.1;clear h;go_enter Tryz.func122,Tryz.ntmps122;go_wp2_with fail;go_loopw [10] (fun ii wr=>∃(k:Nat),ii=.int .i64 (k:Int)/\k<=l.length/\Hid (Below w.heap.size w wr)/\Hid (Aj (AV n) (l.take k)=0)) (fun ii _=>l.length - (intOf ii).toNat)
 case atStart=>exact⟨0,rfl,Nat.zero_le _,Below.refl _ _,by show _=_; rfl⟩
 case round=>
  obtain⟨k,rfl,hk,hB,hE⟩:=hrel;by_cases aM:k<l.length
  case neg=>
   have aq:=hE.out;rw [show k=l.length by omega,List.take_length] at aq;have aD:=hide aq;clear aq hE;go_wp2_with fail;go_ret;exact⟨by rw [aD.out]; rfl,hB.out⟩
  obtain⟨b,aA,c,cs,hA,aP,he,aT,ax,hR⟩:=(hH.out.keep (w':=wr) (B':=w.heap.size) (R':=Db wr w.heap.size) (fun _ hp=>hB.out.cell hp) (fun _ _ h=>h.keep (fun _ hp=>hB.out.cell hp) (Nat.le_refl _)) (Nat.le_refl _)).at aM;obtain⟨E1,f1,rfl,hS⟩:=hR;have aK:(loadCellsFrom ⟨b,aA+k*2,none⟩ 0 2 #[]).run Tryz.prog wr=.ok #[.slice E1 c.states.length f1,.int .i64 c.least] wr:=by
   have:=run_loadCells_list (P:=Tryz.prog) wr ⟨b,aA+k*2,none⟩ [.slice E1 c.states.length f1,.int .i64 c.least] (fun j v hv=>by rw [Addr.add_mid]; exact ax j v hv);simpa [loadCells] using this
  obtain⟨w5,az,aw,ap,aJ⟩:=Ae wr #[.slice E1 c.states.length f1,.int .i64 c.least] 119;have aN:∀cq:Array Value,cq.size=2->(storeCells ⟨wr.heap.size,0,none⟩ [.slice E1 c.states.length f1,.int .i64 c.least] 0).run Tryz.prog (wr.alloc (.cells cq 119))=.ok () w5:=fun cq hc=>by rw [<-az]; exact Dv wr 119 2 (by kernel_rfl) (rc:=#[.slice E1 c.states.length f1,.int .i64 c.least]) rfl (by simp [Value.oneCell']) cq hc
  have aH:=ap.cell;have ad:=hide ap;have av:=hide (hB.out.trans (aw.mono hB.out.size));have G:=hide (av.out.trans ((Ap w5).mono av.out.size));have ay:∀wx,Below w.heap.size w wx->Calls Tryz.prog 119 #[.slice E1 c.states.length f1,.int .i64 n] wx (Ret fun r w'=>r=.int .i64 (Aa c.states n)/\Below wx.heap.size wx w'):=fun wx U=>
   DE ((hS.keep (w':=w) (B':=w.heap.size) (fun _ hp=>(hB.out.cell hp).symm) (Nat.le_refl _)).keep (fun _ hp=>U.cell hp) U.size)
  have a8:=hide ay;have af:=hide he;have aL:=hS.1;obtain⟨ns,ar⟩:∃m,m=c.states.length:=⟨_,rfl⟩;have ag:=hide (show((ns:Int)==0)=c.states.isEmpty by rw [Bv,EF,ar]);rw [<-ar] at a8 aH aN aK az aL;obtain⟨E,O⟩:∃e,Hid (AV n c=e):=⟨_,rfl⟩;subst hA;clear ax ay he hS aJ ap aw ar;cases ae:((ns:Int)==0)
  case true=>
   have hq:((ns:Int)==0)=true:=ae;clear ae;by_cases C:E=0
   ·have aj:(E != 0)=false:=by simp [C]
    have ai:=hide (show Aj (AV n) (l.take (k+1))=0 from by rw [CD (AV n) af.out hE.out,O.out,C]);clear C;go_wp2_with fail;refine Reg.cI [0,1,0,7,0,16,48,112,255,511,1023,2047,4095,8191,16383,32767,65535,131071,262143,524287,1048575,2097151] [0,1,2,4,5,6,7,3,8,9,10,11,12,13,14,15,16,17,18,19,20,21] ?_;refine Reg.wI [0,1,2,4,5,6,7] [3,8,9,10,11,12,13,14,15,16,17,18,19,20,21] rfl fun Qf d=>?_;go_wp2_with fail;first | refine d _ _ ⟨rfl,?_⟩ | refine⟨rfl,?_⟩ | refine d _ _ ⟨by simp [Reg.fineT,Reg.intOp,Region.wanted,yielded,Reg.intFine,Reg.isInt,Act.eval],?_⟩
    (try clear d);refine Reg.aI 3 [8,9,10,11,12,13,14,15,16,17,18,19,20,21] [5] rfl fun Qf d=>?_;simp only [gT,gS,gZ];go_wp2_with (go_at_call 119; refine Calls.ret (a8.out _ G.out) ?_; rintro v w6 ⟨rfl,y⟩);first | refine d _ _ ⟨Reg.same_below (y) [5] rfl,?_⟩ | refine⟨Reg.same_below (y) [5] rfl,?_⟩
    (try clear d);have ah:=(ad.out.below ((Ap w5).trans y)).cell;have J:=hide (G.out.trans (y.mono G.out.size));clear y;refine Reg.wI [8,9,10,11,12,13,14,15,16,17] [18,19,20,21] rfl fun Qf d=>?_;go_wp2_with fail;first | refine d _ _ ⟨rfl,?_⟩ | refine⟨rfl,?_⟩ | refine d _ _ ⟨by simp [Reg.fineT,Reg.intOp,Region.wanted,yielded,Reg.intFine,Reg.isInt,Act.eval],?_⟩
    (try clear d);refine Reg.aI 18 [19,20,21] [] rfl fun Qf d=>?_;simp only [gT,gS,gZ];go_wp2_with (go_at_call 121; refine Calls.ret (DX _ _ _) ?_; rintro r w' ⟨⟨x,rfl,U⟩,rfl⟩);first | refine d _ _ ⟨Reg.nm,?_⟩ | refine⟨Reg.nm,?_⟩
    (try clear d);have Z:=hide (show Aj id [Aa c.states n,x]=E from by
     simp only [Aj,id_eq,Bk];rw [<-O.out];unfold AV;congr 1;rw [U.out];congr 1;rw [<-ag.out,hq];rfl
    )
    obtain⟨wz,al,M,I,a2⟩:=Ae w6 #[.int .i64 (Aa c.states n),.int .i64 (x)] 36;have V:=hide (Ch (l:=[Aa c.states n,x]) I (by simp));have W:=hide (J.out.trans (M.mono J.out.size));clear I a2 M;refine Reg.wI [19] [20,21] rfl fun Qf d=>?_;go_wp2_with fail;first | refine d _ _ ⟨rfl,?_⟩ | refine⟨rfl,?_⟩ | refine d _ _ ⟨by simp [Reg.fineT,Reg.intOp,Region.wanted,yielded,Reg.intFine,Reg.isInt,Act.eval],?_⟩
    (try clear d);refine Reg.aI 20 [21] [] rfl fun Qf d=>?_;simp only [gT,gS,gZ];go_wp2_with (go_at_call 120; refine(Ci (l:=[Aa c.states n,x]) V.out).mono ?_; rintro e w' ⟨rfl,rfl⟩; rw [Z.out]);first | refine d _ _ ⟨Reg.nm,?_⟩ | refine⟨Reg.nm,?_⟩
    (try clear d);refine Reg.wI [21] [] rfl fun Qf d=>?_;go_wp2_with fail;first | refine d _ _ ⟨rfl,?_⟩ | refine⟨rfl,?_⟩ | refine d _ _ ⟨by simp [Reg.fineT,Reg.intOp,Region.wanted,yielded,Reg.intFine,Reg.isInt,Act.eval],?_⟩
    (try clear d);first | refine Reg.restI_end ?_ | skip
    go_wp2_with fail;exact⟨⟨k+1,by go_num,by omega,W.out,ai.out⟩,by simp [intOf]; omega⟩
   ·have aj:(E != 0)=true:=by simp [C]
    have ak:=hide (show Aj (AV n) l=E from by rw [Ct (AV n) af.out hE.out (by rw [O.out]; exact C),O.out]);clear C;go_wp2_with fail;refine Reg.cI [0,1,0,7,0,16,48,112,255,511,1023,2047,4095,8191,16383,32767,65535,131071,262143,524287,1048575,2097151] [0,1,2,4,5,6,7,3,8,9,10,11,12,13,14,15,16,17,18,19,20,21] ?_;refine Reg.wI [0,1,2,4,5,6,7] [3,8,9,10,11,12,13,14,15,16,17,18,19,20,21] rfl fun Qf d=>?_;go_wp2_with fail;first | refine d _ _ ⟨rfl,?_⟩ | refine⟨rfl,?_⟩ | refine d _ _ ⟨by simp [Reg.fineT,Reg.intOp,Region.wanted,yielded,Reg.intFine,Reg.isInt,Act.eval],?_⟩
    (try clear d);refine Reg.aI 3 [8,9,10,11,12,13,14,15,16,17,18,19,20,21] [5] rfl fun Qf d=>?_;simp only [gT,gS,gZ];go_wp2_with (go_at_call 119; refine Calls.ret (a8.out _ G.out) ?_; rintro v w6 ⟨rfl,y⟩);first | refine d _ _ ⟨Reg.same_below (y) [5] rfl,?_⟩ | refine⟨Reg.same_below (y) [5] rfl,?_⟩
    (try clear d);have ah:=(ad.out.below ((Ap w5).trans y)).cell;have J:=hide (G.out.trans (y.mono G.out.size));clear y;refine Reg.wI [8,9,10,11,12,13,14,15,16,17] [18,19,20,21] rfl fun Qf d=>?_;go_wp2_with fail;first | refine d _ _ ⟨rfl,?_⟩ | refine⟨rfl,?_⟩ | refine d _ _ ⟨by simp [Reg.fineT,Reg.intOp,Region.wanted,yielded,Reg.intFine,Reg.isInt,Act.eval],?_⟩
    (try clear d);refine Reg.aI 18 [19,20,21] [] rfl fun Qf d=>?_;simp only [gT,gS,gZ];go_wp2_with (go_at_call 121; refine Calls.ret (DX _ _ _) ?_; rintro r w' ⟨⟨x,rfl,U⟩,rfl⟩);first | refine d _ _ ⟨Reg.nm,?_⟩ | refine⟨Reg.nm,?_⟩
    (try clear d);have Z:=hide (show Aj id [Aa c.states n,x]=E from by
     simp only [Aj,id_eq,Bk];rw [<-O.out];unfold AV;congr 1;rw [U.out];congr 1;rw [<-ag.out,hq];rfl
    )
    obtain⟨wz,al,M,I,a2⟩:=Ae w6 #[.int .i64 (Aa c.states n),.int .i64 (x)] 36;have V:=hide (Ch (l:=[Aa c.states n,x]) I (by simp));have W:=hide (J.out.trans (M.mono J.out.size));clear I a2 M;refine Reg.wI [19] [20,21] rfl fun Qf d=>?_;go_wp2_with fail;first | refine d _ _ ⟨rfl,?_⟩ | refine⟨rfl,?_⟩ | refine d _ _ ⟨by simp [Reg.fineT,Reg.intOp,Region.wanted,yielded,Reg.intFine,Reg.isInt,Act.eval],?_⟩
    (try clear d);refine Reg.aI 20 [21] [] rfl fun Qf d=>?_;simp only [gT,gS,gZ];go_wp2_with (go_at_call 120; refine(Ci (l:=[Aa c.states n,x]) V.out).mono ?_; rintro e w' ⟨rfl,rfl⟩; rw [Z.out]);first | refine d _ _ ⟨Reg.nm,?_⟩ | refine⟨Reg.nm,?_⟩
    (try clear d);refine Reg.wI [21] [] rfl fun Qf d=>?_;go_wp2_with fail;first | refine d _ _ ⟨rfl,?_⟩ | refine⟨rfl,?_⟩ | refine d _ _ ⟨by simp [Reg.fineT,Reg.intOp,Region.wanted,yielded,Reg.intFine,Reg.isInt,Act.eval],?_⟩
    (try clear d);first | refine Reg.restI_end ?_ | skip
    go_wp2_with fail;go_ret;exact⟨by rw [ak.out]; rfl,W.out⟩
  case false=>
   by_cases hl:c.least<1
   ·have hq:((ns:Int)==0)=false:=ae;clear ae;by_cases C:E=0
    ·have aj:(E != 0)=false:=by simp [C]
     have ai:=hide (show Aj (AV n) (l.take (k+1))=0 from by rw [CD (AV n) af.out hE.out,O.out,C]);clear C;go_wp2_with fail;refine Reg.cI [0,1,0,7,0,16,48,112,255,511,1023,2047,4095,8191,16383,32767,65535,131071,262143,524287,1048575,2097151] [0,1,2,4,5,6,7,3,8,9,10,11,12,13,14,15,16,17,18,19,20,21] ?_;refine Reg.wI [0,1,2,4,5,6,7] [3,8,9,10,11,12,13,14,15,16,17,18,19,20,21] rfl fun Qf d=>?_;go_wp2_with fail;first | refine d _ _ ⟨rfl,?_⟩ | refine⟨rfl,?_⟩ | refine d _ _ ⟨by simp [Reg.fineT,Reg.intOp,Region.wanted,yielded,Reg.intFine,Reg.isInt,Act.eval],?_⟩
     (try clear d);refine Reg.aI 3 [8,9,10,11,12,13,14,15,16,17,18,19,20,21] [5] rfl fun Qf d=>?_;simp only [gT,gS,gZ];go_wp2_with (go_at_call 119; refine Calls.ret (a8.out _ G.out) ?_; rintro v w6 ⟨rfl,y⟩);first | refine d _ _ ⟨Reg.same_below (y) [5] rfl,?_⟩ | refine⟨Reg.same_below (y) [5] rfl,?_⟩
     (try clear d);have ah:=(ad.out.below ((Ap w5).trans y)).cell;have J:=hide (G.out.trans (y.mono G.out.size));clear y;refine Reg.wI [8,9,10,11,12,13,14,15,16,17] [18,19,20,21] rfl fun Qf d=>?_;go_wp2_with fail;first | refine d _ _ ⟨rfl,?_⟩ | refine⟨rfl,?_⟩ | refine d _ _ ⟨by simp [Reg.fineT,Reg.intOp,Region.wanted,yielded,Reg.intFine,Reg.isInt,Act.eval],?_⟩
     (try clear d);refine Reg.aI 18 [19,20,21] [] rfl fun Qf d=>?_;simp only [gT,gS,gZ];go_wp2_with (go_at_call 121; refine Calls.ret (DX _ _ _) ?_; rintro r w' ⟨⟨x,rfl,U⟩,rfl⟩);first | refine d _ _ ⟨Reg.nm,?_⟩ | refine⟨Reg.nm,?_⟩
     (try clear d);have Z:=hide (show Aj id [Aa c.states n,x]=E from by
      simp only [Aj,id_eq,Bk];rw [<-O.out];unfold AV;congr 1;rw [U.out];congr 1;rw [<-ag.out,hq];simp;omega
     )
     obtain⟨wz,al,M,I,a2⟩:=Ae w6 #[.int .i64 (Aa c.states n),.int .i64 (x)] 36;have V:=hide (Ch (l:=[Aa c.states n,x]) I (by simp));have W:=hide (J.out.trans (M.mono J.out.size));clear I a2 M;refine Reg.wI [19] [20,21] rfl fun Qf d=>?_;go_wp2_with fail;first | refine d _ _ ⟨rfl,?_⟩ | refine⟨rfl,?_⟩ | refine d _ _ ⟨by simp [Reg.fineT,Reg.intOp,Region.wanted,yielded,Reg.intFine,Reg.isInt,Act.eval],?_⟩
     (try clear d);refine Reg.aI 20 [21] [] rfl fun Qf d=>?_;simp only [gT,gS,gZ];go_wp2_with (go_at_call 120; refine(Ci (l:=[Aa c.states n,x]) V.out).mono ?_; rintro e w' ⟨rfl,rfl⟩; rw [Z.out]);first | refine d _ _ ⟨Reg.nm,?_⟩ | refine⟨Reg.nm,?_⟩
     (try clear d);refine Reg.wI [21] [] rfl fun Qf d=>?_;go_wp2_with fail;first | refine d _ _ ⟨rfl,?_⟩ | refine⟨rfl,?_⟩ | refine d _ _ ⟨by simp [Reg.fineT,Reg.intOp,Region.wanted,yielded,Reg.intFine,Reg.isInt,Act.eval],?_⟩
     (try clear d);first | refine Reg.restI_end ?_ | skip
     go_wp2_with fail;exact⟨⟨k+1,by go_num,by omega,W.out,ai.out⟩,by simp [intOf]; omega⟩
    ·have aj:(E != 0)=true:=by simp [C]
     have ak:=hide (show Aj (AV n) l=E from by rw [Ct (AV n) af.out hE.out (by rw [O.out]; exact C),O.out]);clear C;go_wp2_with fail;refine Reg.cI [0,1,0,7,0,16,48,112,255,511,1023,2047,4095,8191,16383,32767,65535,131071,262143,524287,1048575,2097151] [0,1,2,4,5,6,7,3,8,9,10,11,12,13,14,15,16,17,18,19,20,21] ?_;refine Reg.wI [0,1,2,4,5,6,7] [3,8,9,10,11,12,13,14,15,16,17,18,19,20,21] rfl fun Qf d=>?_;go_wp2_with fail;first | refine d _ _ ⟨rfl,?_⟩ | refine⟨rfl,?_⟩ | refine d _ _ ⟨by simp [Reg.fineT,Reg.intOp,Region.wanted,yielded,Reg.intFine,Reg.isInt,Act.eval],?_⟩
     (try clear d);refine Reg.aI 3 [8,9,10,11,12,13,14,15,16,17,18,19,20,21] [5] rfl fun Qf d=>?_;simp only [gT,gS,gZ];go_wp2_with (go_at_call 119; refine Calls.ret (a8.out _ G.out) ?_; rintro v w6 ⟨rfl,y⟩);first | refine d _ _ ⟨Reg.same_below (y) [5] rfl,?_⟩ | refine⟨Reg.same_below (y) [5] rfl,?_⟩
     (try clear d);have ah:=(ad.out.below ((Ap w5).trans y)).cell;have J:=hide (G.out.trans (y.mono G.out.size));clear y;refine Reg.wI [8,9,10,11,12,13,14,15,16,17] [18,19,20,21] rfl fun Qf d=>?_;go_wp2_with fail;first | refine d _ _ ⟨rfl,?_⟩ | refine⟨rfl,?_⟩ | refine d _ _ ⟨by simp [Reg.fineT,Reg.intOp,Region.wanted,yielded,Reg.intFine,Reg.isInt,Act.eval],?_⟩
     (try clear d);refine Reg.aI 18 [19,20,21] [] rfl fun Qf d=>?_;simp only [gT,gS,gZ];go_wp2_with (go_at_call 121; refine Calls.ret (DX _ _ _) ?_; rintro r w' ⟨⟨x,rfl,U⟩,rfl⟩);first | refine d _ _ ⟨Reg.nm,?_⟩ | refine⟨Reg.nm,?_⟩
     (try clear d);have Z:=hide (show Aj id [Aa c.states n,x]=E from by
      simp only [Aj,id_eq,Bk];rw [<-O.out];unfold AV;congr 1;rw [U.out];congr 1;rw [<-ag.out,hq];simp;omega
     )
     obtain⟨wz,al,M,I,a2⟩:=Ae w6 #[.int .i64 (Aa c.states n),.int .i64 (x)] 36;have V:=hide (Ch (l:=[Aa c.states n,x]) I (by simp));have W:=hide (J.out.trans (M.mono J.out.size));clear I a2 M;refine Reg.wI [19] [20,21] rfl fun Qf d=>?_;go_wp2_with fail;first | refine d _ _ ⟨rfl,?_⟩ | refine⟨rfl,?_⟩ | refine d _ _ ⟨by simp [Reg.fineT,Reg.intOp,Region.wanted,yielded,Reg.intFine,Reg.isInt,Act.eval],?_⟩
     (try clear d);refine Reg.aI 20 [21] [] rfl fun Qf d=>?_;simp only [gT,gS,gZ];go_wp2_with (go_at_call 120; refine(Ci (l:=[Aa c.states n,x]) V.out).mono ?_; rintro e w' ⟨rfl,rfl⟩; rw [Z.out]);first | refine d _ _ ⟨Reg.nm,?_⟩ | refine⟨Reg.nm,?_⟩
     (try clear d);refine Reg.wI [21] [] rfl fun Qf d=>?_;go_wp2_with fail;first | refine d _ _ ⟨rfl,?_⟩ | refine⟨rfl,?_⟩ | refine d _ _ ⟨by simp [Reg.fineT,Reg.intOp,Region.wanted,yielded,Reg.intFine,Reg.isInt,Act.eval],?_⟩
     (try clear d);first | refine Reg.restI_end ?_ | skip
     go_wp2_with fail;go_ret;exact⟨by rw [ak.out]; rfl,W.out⟩
   ·have hq:((ns:Int)==0)=false:=ae;clear ae;by_cases C:E=0
    ·have aj:(E != 0)=false:=by simp [C]
     have ai:=hide (show Aj (AV n) (l.take (k+1))=0 from by rw [CD (AV n) af.out hE.out,O.out,C]);clear C;go_wp2_with fail;refine Reg.cI [0,1,0,7,0,16,48,112,255,511,1023,2047,4095,8191,16383,32767,65535,131071,262143,524287,1048575,2097151] [0,1,2,4,5,6,7,3,8,9,10,11,12,13,14,15,16,17,18,19,20,21] ?_;refine Reg.wI [0,1,2,4,5,6,7] [3,8,9,10,11,12,13,14,15,16,17,18,19,20,21] rfl fun Qf d=>?_;go_wp2_with fail;first | refine d _ _ ⟨rfl,?_⟩ | refine⟨rfl,?_⟩ | refine d _ _ ⟨by simp [Reg.fineT,Reg.intOp,Region.wanted,yielded,Reg.intFine,Reg.isInt,Act.eval],?_⟩
     (try clear d);refine Reg.aI 3 [8,9,10,11,12,13,14,15,16,17,18,19,20,21] [5] rfl fun Qf d=>?_;simp only [gT,gS,gZ];go_wp2_with (go_at_call 119; refine Calls.ret (a8.out _ G.out) ?_; rintro v w6 ⟨rfl,y⟩);first | refine d _ _ ⟨Reg.same_below (y) [5] rfl,?_⟩ | refine⟨Reg.same_below (y) [5] rfl,?_⟩
     (try clear d);have ah:=(ad.out.below ((Ap w5).trans y)).cell;have J:=hide (G.out.trans (y.mono G.out.size));clear y;refine Reg.wI [8,9,10,11,12,13,14,15,16,17] [18,19,20,21] rfl fun Qf d=>?_;go_wp2_with fail;first | refine d _ _ ⟨rfl,?_⟩ | refine⟨rfl,?_⟩ | refine d _ _ ⟨by simp [Reg.fineT,Reg.intOp,Region.wanted,yielded,Reg.intFine,Reg.isInt,Act.eval],?_⟩
     (try clear d);refine Reg.aI 18 [19,20,21] [] rfl fun Qf d=>?_;simp only [gT,gS,gZ];go_wp2_with (go_at_call 121; refine Calls.ret (DX _ _ _) ?_; rintro r w' ⟨⟨x,rfl,U⟩,rfl⟩);first | refine d _ _ ⟨Reg.nm,?_⟩ | refine⟨Reg.nm,?_⟩
     (try clear d);have Z:=hide (show Aj id [Aa c.states n,x]=E from by
      simp only [Aj,id_eq,Bk];rw [<-O.out];unfold AV;congr 1;rw [U.out];congr 1;rw [<-ag.out,hq];rw [decide_eq_false (show ¬c.least<1 by omega),show decide (3<c.least)= !decide (c.least<=3) from by by_cases h3:c.least<=3 <;> simp [h3] <;> omega,decide_eq_true (show 1<=c.least by omega)];simp
     )
     obtain⟨wz,al,M,I,a2⟩:=Ae w6 #[.int .i64 (Aa c.states n),.int .i64 (x)] 36;have V:=hide (Ch (l:=[Aa c.states n,x]) I (by simp));have W:=hide (J.out.trans (M.mono J.out.size));clear I a2 M;refine Reg.wI [19] [20,21] rfl fun Qf d=>?_;go_wp2_with fail;first | refine d _ _ ⟨rfl,?_⟩ | refine⟨rfl,?_⟩ | refine d _ _ ⟨by simp [Reg.fineT,Reg.intOp,Region.wanted,yielded,Reg.intFine,Reg.isInt,Act.eval],?_⟩
     (try clear d);refine Reg.aI 20 [21] [] rfl fun Qf d=>?_;simp only [gT,gS,gZ];go_wp2_with (go_at_call 120; refine(Ci (l:=[Aa c.states n,x]) V.out).mono ?_; rintro e w' ⟨rfl,rfl⟩; rw [Z.out]);first | refine d _ _ ⟨Reg.nm,?_⟩ | refine⟨Reg.nm,?_⟩
     (try clear d);refine Reg.wI [21] [] rfl fun Qf d=>?_;go_wp2_with fail;first | refine d _ _ ⟨rfl,?_⟩ | refine⟨rfl,?_⟩ | refine d _ _ ⟨by simp [Reg.fineT,Reg.intOp,Region.wanted,yielded,Reg.intFine,Reg.isInt,Act.eval],?_⟩
     (try clear d);first | refine Reg.restI_end ?_ | skip
     go_wp2_with fail;exact⟨⟨k+1,by go_num,by omega,W.out,ai.out⟩,by simp [intOf]; omega⟩
    ·have aj:(E != 0)=true:=by simp [C]
     have ak:=hide (show Aj (AV n) l=E from by rw [Ct (AV n) af.out hE.out (by rw [O.out]; exact C),O.out]);clear C;go_wp2_with fail;refine Reg.cI [0,1,0,7,0,16,48,112,255,511,1023,2047,4095,8191,16383,32767,65535,131071,262143,524287,1048575,2097151] [0,1,2,4,5,6,7,3,8,9,10,11,12,13,14,15,16,17,18,19,20,21] ?_;refine Reg.wI [0,1,2,4,5,6,7] [3,8,9,10,11,12,13,14,15,16,17,18,19,20,21] rfl fun Qf d=>?_;go_wp2_with fail;first | refine d _ _ ⟨rfl,?_⟩ | refine⟨rfl,?_⟩ | refine d _ _ ⟨by simp [Reg.fineT,Reg.intOp,Region.wanted,yielded,Reg.intFine,Reg.isInt,Act.eval],?_⟩
     (try clear d);refine Reg.aI 3 [8,9,10,11,12,13,14,15,16,17,18,19,20,21] [5] rfl fun Qf d=>?_;simp only [gT,gS,gZ];go_wp2_with (go_at_call 119; refine Calls.ret (a8.out _ G.out) ?_; rintro v w6 ⟨rfl,y⟩);first | refine d _ _ ⟨Reg.same_below (y) [5] rfl,?_⟩ | refine⟨Reg.same_below (y) [5] rfl,?_⟩
     (try clear d);have ah:=(ad.out.below ((Ap w5).trans y)).cell;have J:=hide (G.out.trans (y.mono G.out.size));clear y;refine Reg.wI [8,9,10,11,12,13,14,15,16,17] [18,19,20,21] rfl fun Qf d=>?_;go_wp2_with fail;first | refine d _ _ ⟨rfl,?_⟩ | refine⟨rfl,?_⟩ | refine d _ _ ⟨by simp [Reg.fineT,Reg.intOp,Region.wanted,yielded,Reg.intFine,Reg.isInt,Act.eval],?_⟩
     (try clear d);refine Reg.aI 18 [19,20,21] [] rfl fun Qf d=>?_;simp only [gT,gS,gZ];go_wp2_with (go_at_call 121; refine Calls.ret (DX _ _ _) ?_; rintro r w' ⟨⟨x,rfl,U⟩,rfl⟩);first | refine d _ _ ⟨Reg.nm,?_⟩ | refine⟨Reg.nm,?_⟩
     (try clear d);have Z:=hide (show Aj id [Aa c.states n,x]=E from by
      simp only [Aj,id_eq,Bk];rw [<-O.out];unfold AV;congr 1;rw [U.out];congr 1;rw [<-ag.out,hq];rw [decide_eq_false (show ¬c.least<1 by omega),show decide (3<c.least)= !decide (c.least<=3) from by by_cases h3:c.least<=3 <;> simp [h3] <;> omega,decide_eq_true (show 1<=c.least by omega)];simp
     )
     obtain⟨wz,al,M,I,a2⟩:=Ae w6 #[.int .i64 (Aa c.states n),.int .i64 (x)] 36;have V:=hide (Ch (l:=[Aa c.states n,x]) I (by simp));have W:=hide (J.out.trans (M.mono J.out.size));clear I a2 M;refine Reg.wI [19] [20,21] rfl fun Qf d=>?_;go_wp2_with fail;first | refine d _ _ ⟨rfl,?_⟩ | refine⟨rfl,?_⟩ | refine d _ _ ⟨by simp [Reg.fineT,Reg.intOp,Region.wanted,yielded,Reg.intFine,Reg.isInt,Act.eval],?_⟩
     (try clear d);refine Reg.aI 20 [21] [] rfl fun Qf d=>?_;simp only [gT,gS,gZ];go_wp2_with (go_at_call 120; refine(Ci (l:=[Aa c.states n,x]) V.out).mono ?_; rintro e w' ⟨rfl,rfl⟩; rw [Z.out]);first | refine d _ _ ⟨Reg.nm,?_⟩ | refine⟨Reg.nm,?_⟩
     (try clear d);refine Reg.wI [21] [] rfl fun Qf d=>?_;go_wp2_with fail;first | refine d _ _ ⟨rfl,?_⟩ | refine⟨rfl,?_⟩ | refine d _ _ ⟨by simp [Reg.fineT,Reg.intOp,Region.wanted,yielded,Reg.intFine,Reg.isInt,Act.eval],?_⟩
     (try clear d);first | refine Reg.restI_end ?_ | skip
     go_wp2_with fail;go_ret;exact⟨by rw [ak.out]; rfl,W.out⟩
theorem L6 {w:World} {cs:List Value} {p:Am} {A:Option Addr} {cc:Nat} {l:List Int} (h:At w w.heap.size cs p) (J:Sl w w.heap.size 1 Ai A l):
  Calls Tryz.prog 123 #[.agg cs.toArray,.slice A l.length cc] w (Ret fun v w'=>v=.int .i64 (BA p.topo p.states.length l)/\Below w.heap.size w w'):=by
 obtain⟨A1,c1,A2,c2,A3,c3,A4,c4,A5,c5,A6,c6,A7,c7,aA,aP,ay,az,aQ,aR,aS,aT,aU,aV,aW,U,C,h3,h4,h5,h6,h7,ar⟩:=h.cells;have aw:=U.1;have aO:=J.1;clear h U C h3 h4 h5 h6 h7 ar;generalize cs.toArray=pc at*;obtain⟨ns,aa⟩:∃n,n=p.states.length:=⟨_,rfl⟩;obtain⟨kt,a8⟩:∃n,n=p.topo:=⟨_,rfl⟩;rw [<-aa] at az aw ⊢;rw [<-a8] at ay ⊢;clear aa a8 aA;obtain⟨w1,aY,E,W,au⟩:=Ae w pc 27;have aN:=W.cell;have I:=hide E;have a4:=hide (E.trans ((Ap w1).mono E.size));have M:=hide (J.keep (w':=w1) (B':=w.heap.size) (fun _ hp=>E.cell hp) (Nat.le_refl _));clear W au E J;by_cases y:l.length=0
 ·have j:=hide (show BA kt ns l=0 by
   have:l=[]:=List.length_eq_zero_iff.1 y;subst this;simp [BA,Ad,orE,Aj])
  have hq:((l.length:Int)==0)=true:=by simp [y]
  generalize l.length=n at*;clear y;go_enter Tryz.func123,Tryz.ntmps123;go_wp2_with fail;go_ret;exact⟨by rw [j.out]; rfl,I.out⟩
 have a9:l.isEmpty=false:=by rw [Bv]; exact decide_eq_false y
 have O:=hide a9;clear a9;have hq:((l.length:Int)==0)=false:=by simp [y]
 clear y;by_cases ht:kt=1
 ·have j:=hide (show BA kt ns l=6 by
   unfold BA;rw [O.out,ht];rfl)
  have aB:(kt==1)=true:=by simp [ht]
  clear ht;generalize l.length=n at*;go_enter Tryz.func123,Tryz.ntmps123;go_wp2_with fail;go_ret;exact⟨by rw [j.out]; rfl,I.out⟩
 have aB:(kt==1)=false:=by simp [ht]
 have ad:=hide ht;clear ht;by_cases C:l.length=2
 case neg=>
  have j:=hide (show BA kt ns l=1 by
   unfold BA;rw [O.out,decide_eq_false ad.out,decide_eq_false C];rfl)
  have aX:((l.length:Int) != 2)=true:=by
   have:((l.length:Int)==2)=false:=by
    simp;omega
   simp [bne,this]
  clear C;generalize l.length=n at*;go_enter Tryz.func123,Tryz.ntmps123;go_wp2_with fail;go_ret;exact⟨by rw [j.out]; rfl,I.out⟩
 obtain⟨a,b,rfl⟩:∃a b,l=[a,b]:=by
  match l,C with
  | [a,b],_=>exact⟨a,b,rfl⟩
 obtain⟨bb,b0,a',hA,aL,ha,a6⟩:=M.out.at (k:=0) (by simp);obtain⟨aG,b4,b',V,aM,hb,a7⟩:=M.out.at (k:=1) (by simp);subst hA;have G:=Option.some.inj V;injection G with G e2 _
 subst G e2;obtain rfl:a=a':=by simpa using ha
 obtain rfl:b=b':=by simpa using hb
 have d0:=a6 0 (by omega);have d1:=a7 0 (by omega);simp only [Nat.add_zero,Nat.zero_mul,Nat.one_mul,Ai] at d0 d1;have j:=hide (show BA kt ns [a,b]=Aj id [AD a (ns:Int),AD b (ns:Int)] by
  unfold BA;rw [decide_eq_false ad.out];simp [Aj,Ad,orE,AD])
 clear a6 a7 V C ha hb M O;simp only [List.length_cons,List.length_nil] at hq ⊢;go_enter Tryz.func123,Tryz.ntmps123;go_wp2_with fail;refine Reg.cI [0,1,3,0,8,24,63,0,128,384,0,1024,3072,8191,16383,32767,65535] [0,1,2,3,4,5,7,8,9,10,11,12,6,13,14,15,16] ?_;refine Reg.wI [0,1,2,3,4,5,7,8,9,10,11,12] [6,13,14,15,16] rfl fun Qf d=>?_;go_wp2_with fail;first | refine d _ _ ⟨rfl,?_⟩ | refine⟨rfl,?_⟩ | refine d _ _ ⟨by simp [Reg.fineT,Reg.intOp,Region.wanted,yielded,Reg.intFine,Reg.isInt,Act.eval],?_⟩
 (try clear d);refine Reg.aI 6 [13,14,15,16] [9,11] rfl fun Qf d=>?_;simp only [gT,gS,gZ];go_wp2_with (go_at_call 173; refine(Cu _ _ _).mono ?_; rintro e w' ⟨rfl,rfl⟩);first | refine d _ _ ⟨Reg.same_below (Below.refl _ _) [9,11] rfl,?_⟩ | refine⟨Reg.same_below (Below.refl _ _) [9,11] rfl,?_⟩
 (try clear d);refine Reg.aI 13 [14,15,16] [] rfl fun Qf d=>?_;simp only [gT,gS,gZ];go_wp2_with (go_at_call 173; refine(Cu _ _ _).mono ?_; rintro e w' ⟨rfl,rfl⟩);first | refine d _ _ ⟨Reg.nm,?_⟩ | refine⟨Reg.nm,?_⟩
 (try clear d);obtain⟨wz,aZ,a5,Z,av⟩:=Ae w1.drew #[.int .i64 (AD a (ns:Int)),.int .i64 (AD b (ns:Int))] 36;have ap:=hide (Ch (l:=[AD a (ns:Int),AD b (ns:Int)]) Z (by simp));have aq:=hide (a4.out.trans (a5.mono a4.out.size));clear Z av a5;refine Reg.wI [14] [15,16] rfl fun Qf d=>?_;go_wp2_with fail;first | refine d _ _ ⟨rfl,?_⟩ | refine⟨rfl,?_⟩ | refine d _ _ ⟨by simp [Reg.fineT,Reg.intOp,Region.wanted,yielded,Reg.intFine,Reg.isInt,Act.eval],?_⟩
 (try clear d);refine Reg.aI 15 [16] [] rfl fun Qf d=>?_;simp only [gT,gS,gZ];go_wp2_with (go_at_call 120; refine(Ci (l:=[AD a (ns:Int),AD b (ns:Int)]) ap.out).mono ?_; rintro e w' ⟨rfl,rfl⟩);first | refine d _ _ ⟨Reg.nm,?_⟩ | refine⟨Reg.nm,?_⟩
 (try clear d);refine Reg.wI [16] [] rfl fun Qf d=>?_;go_wp2_with fail;first | refine d _ _ ⟨rfl,?_⟩ | refine⟨rfl,?_⟩ | refine d _ _ ⟨by simp [Reg.fineT,Reg.intOp,Region.wanted,yielded,Reg.intFine,Reg.isInt,Act.eval],?_⟩
 (try clear d);first | refine Reg.restI_end ?_ | skip
 go_wp2_with fail;go_ret;exact⟨by rw [j.out]; rfl,aq.out⟩
end Go.Proofs.YtfcfpoemojjglaaGreatDoor.K
namespace Go.Proofs.YtfcfpoemojjglaaGreatDoor.K
open Go.RowKit
attribute [-go_sem] loadCellsFrom storeCells
theorem AW.cells {w:World} {B:Nat} {cs:List Value} {r:Az} (h:AW w B cs r):∃A1 c1 A2 c2 A3 c3 d c4 j E l G y I C J,
  (cs.toArray.size=18/\cs.toArray[0]?=some (.string r.name)/\cs.toArray[1]?=some (.int .i64 r.kind)/\cs.toArray[2]?=some (.int .i64 r.fr)/\cs.toArray[3]?=some (.int .i64 r.to)/\cs.toArray[4]?=some (.int .i64 r.pf)/\cs.toArray[5]?=some (.int .i64 r.pt)/\cs.toArray[6]?=some (.slice A1 r.resp.length c1)/\
   cs.toArray[7]?=some (.slice A2 r.guards.length c2)/\cs.toArray[8]?=some (.slice A3 r.ex.length c3)/\cs.toArray[9]?=some (.slice d r.fa.length c4)/\cs.toArray[10]?=some (.int .i64 r.rd)/\cs.toArray[11]?=some (.int .i64 r.wr)/\cs.toArray[12]?=some (.slice j r.send.length E)/\
   cs.toArray[13]?=some (.int .i64 r.at_)/\cs.toArray[14]?=some (.slice l r.left.length G)/\cs.toArray[15]?=some (.slice y r.right.length I)/\cs.toArray[16]?=some (.slice C r.parent.length J)/\cs.toArray[17]?=some (.int .i64 r.dir))/\
  (Sl w B 1 Ai A1 r.resp/\Sl w B 6 CS A2 r.guards/\Sl w B 1 Ai A3 r.ex/\Sl w B 1 Ai d r.fa/\Sl w B 1 Ai j r.send/\Sl w B 1 Ai l r.left/\Sl w B 1 Ai y r.right/\Sl w B 1 Ai C r.parent):=by
 obtain⟨A1,c1,A2,c2,A3,c3,d,c4,j,E,l,G,y,I,C,J,rfl,M⟩:=h;exact⟨A1,c1,A2,c2,A3,c3,d,c4,j,E,l,G,y,I,C,J,⟨rfl,rfl,rfl,rfl,rfl,rfl,rfl,rfl,rfl,rfl,rfl,rfl,rfl,rfl,rfl,rfl,rfl,rfl,rfl⟩,M⟩
def unV (k1 k2 k3 k4 k5 t4:Bool) (ng ne nf nd nl nt np nr:Nat) (rd wr pf pt at_ dir:Int):Bool:=
 (!k1&&(decide (0<ng)||decide (0<ne)||decide (0<nf)||decide (0<nd)))||
 ((!k1&&!k2&&!k3)&&(!decide (rd= -1)||!decide (wr= -1)))||
 ((!k2&&!k5)&&(!decide (pf=0)||!decide (pt=0)))||
 (!k3&&decide (0<nr))||(!k5&&!decide (dir=0))||
 (!k4&&(!decide (at_=0)||decide (0<nl)||decide (0<nt)))||
 (decide (0<np)&&!(k4&&t4))
theorem Rd {A:Type} (l:List A):(!l.isEmpty)=decide (0<l.length):=by cases l <;> simp
theorem FC (topo:Int) (r:Az):B9 topo r=unV (decide (r.kind=1)) (decide (r.kind=2)) (decide (r.kind=3)) (decide (r.kind=4)) (decide (r.kind=5)) (decide (topo=4)) r.guards.length r.ex.length r.fa.length r.send.length r.left.length r.right.length r.parent.length r.resp.length r.rd r.wr r.pf r.pt r.at_ r.dir:=by
 unfold B9 unV;simp only [Rd]
theorem EU {w:World} {B:Nat} {cs:List Value} {p:Am} (h:At w B cs p):∃A1 c1 A2 c2 A3 c3 d c4 j C l E y G,
  cs.toArray.size=10/\cs.toArray[0]?=some (.string p.name)/\cs.toArray[1]?=some (.int .i64 p.topo)/\cs.toArray[2]?=some (.slice A1 p.states.length c1)/\cs.toArray[3]?=some (.slice A2 p.messages.length c2)/\
  cs.toArray[4]?=some (.slice A3 p.values.length c3)/\cs.toArray[5]?=some (.int .i64 p.fault)/\cs.toArray[6]?=some (.slice d p.res.length c4)/\cs.toArray[7]?=some (.slice j p.initial.length C)/\cs.toArray[8]?=some (.slice l p.leader.length E)/\cs.toArray[9]?=some (.slice y p.rules.length G):=by
 obtain⟨A1,c1,A2,c2,A3,c3,d,c4,j,C,l,E,y,G,rfl,_⟩:=h;exact⟨A1,c1,A2,c2,A3,c3,d,c4,j,C,l,E,y,G,rfl,rfl,rfl,rfl,rfl,rfl,rfl,rfl,rfl,rfl,rfl⟩
theorem TP {w:World} {cs ds:List Value} {p:Am} {r:Az} (h:At w w.heap.size cs p) (Z:AW w w.heap.size ds r) (hs:r.Small) (j:Hid (r.kind=1)):
  Calls Tryz.prog 192 #[.agg cs.toArray,.agg ds.toArray] w (Ret fun v w'=>v=.bool (B9 p.topo r)/\Below w.heap.size w w'):=by
 obtain⟨A1,c1,A2,c2,A3,c3,A4,c4,A5,c5,A6,c6,A7,c7,aK,aJ,a9,-⟩:=EU h;obtain⟨E1,f1,E2,f2,E3,f3,E4,f4,E5,f5,E6,f6,E7,f7,E8,f8,⟨aO,aL,ad,aM,aN,am,an,ao,ap,aq,ar,ae,af,ag,ah,ai,aj,ak,al⟩,-⟩:=Z.cells;obtain⟨aQ,aR,aS,aT,aU,aV,aW,aX⟩:=hs;have d:=FC p.topo r;obtain⟨w1,aY,C,a2,aG⟩:=Ae w cs.toArray 27;obtain⟨w2,aZ,E,a3,aH⟩:=Ae w1 ds.toArray 99;have a5:=hide (C.trans (E.mono C.size));have aD:=hide (a5.out.trans ((Ap w2).mono a5.out.size));have aE:=(a2.below E).cell;have aF:=a3.cell;generalize cs.toArray=pc at*;generalize ds.toArray=rc at*;obtain⟨ng,M⟩:∃n,n=r.guards.length:=⟨_,rfl⟩;rw [<-M] at d;obtain⟨ne,I⟩:∃n,n=r.ex.length:=⟨_,rfl⟩;rw [<-I] at d;obtain⟨nf,J⟩:∃n,n=r.fa.length:=⟨_,rfl⟩;rw [<-J] at d;obtain⟨nd,G⟩:∃n,n=r.send.length:=⟨_,rfl⟩;rw [<-G] at d;obtain⟨nl,O⟩:∃n,n=r.left.length:=⟨_,rfl⟩;rw [<-O] at d;obtain⟨nt,W⟩:∃n,n=r.right.length:=⟨_,rfl⟩;rw [<-W] at d;obtain⟨np,U⟩:∃n,n=r.parent.length:=⟨_,rfl⟩;rw [<-U] at d;obtain⟨nr,V⟩:∃n,n=r.resp.length:=⟨_,rfl⟩;rw [<-V] at d;rw [<-M] at ap aR;rw [<-I] at aq aS;rw [<-J] at ar aT;rw [<-G] at ag aU;rw [<-O] at ai aV;rw [<-W] at aj aW;rw [<-U] at ak aX;rw [<-V] at ao aQ;obtain⟨rd,au⟩:∃n,n=r.rd:=⟨_,rfl⟩;rw [<-au] at d ae;obtain⟨wr,aw⟩:∃n,n=r.wr:=⟨_,rfl⟩;rw [<-aw] at d af;obtain⟨pf,aa⟩:∃n,n=r.pf:=⟨_,rfl⟩;rw [<-aa] at d am;obtain⟨pt,ab⟩:∃n,n=r.pt:=⟨_,rfl⟩;rw [<-ab] at d an;obtain⟨ta,av⟩:∃n,n=r.at_:=⟨_,rfl⟩;rw [<-av] at d ah;obtain⟨di,a6⟩:∃n,n=r.dir:=⟨_,rfl⟩;rw [<-a6] at d al;obtain⟨kt,a8⟩:∃n,n=p.topo:=⟨_,rfl⟩;rw [<-a8] at d a9 ⊢;obtain⟨l,a7⟩:∃n,n=r.kind:=⟨_,rfl⟩;rw [<-a7] at d ad j;have q1:(l==1)=true:=by rw [j.out]; rfl
 have q2:(l==2)=false:=by rw [j.out]; rfl
 have q3:(l==3)=false:=by rw [j.out]; rfl
 have q4:(l==4)=false:=by rw [j.out]; rfl
 have q5:(l==5)=false:=by rw [j.out]; rfl
 have y1:decide (l=1)=true:=by rw [j.out]; rfl
 have y2:decide (l=2)=false:=by rw [j.out]; rfl
 have y3:decide (l=3)=false:=by rw [j.out]; rfl
 have y4:decide (l=4)=false:=by rw [j.out]; rfl
 have y5:decide (l=5)=false:=by rw [j.out]; rfl
 rw [y1,y2,y3,y4,y5] at d;have a4:=hide d;clear M I J G O W U V au aw aa ab av a6 a8 a7 d y1 y2 y3 y4 y5 C E a2 a3 aG aH aK aO aJ aL aM aN;go_enter Tryz.func192,Tryz.ntmps192;go_wp2_with fail;refine Reg.cI [0,1,3,0,8,24,0,64,192,0,512,1536,0,4096,12288,7,32831,98815,233471,524287] [0,1,2,3,4,5,6,7,8,9,10,11,12,13,14,15,16,17,18,19] ?_;refine Reg.wI [0,1,2,3,4,5,6,7,8,9,10,11,12,13,14,15,16,17,18,19] [] rfl fun Qf y=>?_;go_wp2_with fail;first | refine y _ _ ⟨rfl,?_⟩ | refine⟨rfl,?_⟩ | refine y _ _ ⟨by simp [Reg.fineT,Reg.intOp,Region.wanted,yielded,Reg.intFine,Reg.isInt,Act.eval],?_⟩
 (try clear y);first | refine Reg.restI_end ?_ | skip
 go_wp2_with fail
 all_goals
  go_ret;refine⟨?_,aD.out⟩;rw [a4.out];refine congrArg Value.bool ?_;clear q1 q2 q3 q4 q5 a4 aE aF aY aZ h Z a9 ad am an ao ap aq ar ae af ag ah ai aj ak al;unfold unV
  first
   | (simp_all; done)
   | (simp_all; omega)
   | (by_cases h4:kt=4 <;> simp_all; done)
   | (by_cases h4:kt=4 <;> simp_all <;> omega)
theorem TQ {w:World} {cs ds:List Value} {p:Am} {r:Az} (h:At w w.heap.size cs p) (Z:AW w w.heap.size ds r) (hs:r.Small) (j:Hid (r.kind=2)):
  Calls Tryz.prog 192 #[.agg cs.toArray,.agg ds.toArray] w (Ret fun v w'=>v=.bool (B9 p.topo r)/\Below w.heap.size w w'):=by
 obtain⟨A1,c1,A2,c2,A3,c3,A4,c4,A5,c5,A6,c6,A7,c7,aK,aJ,a9,-⟩:=EU h;obtain⟨E1,f1,E2,f2,E3,f3,E4,f4,E5,f5,E6,f6,E7,f7,E8,f8,⟨aO,aL,ad,aM,aN,am,an,ao,ap,aq,ar,ae,af,ag,ah,ai,aj,ak,al⟩,-⟩:=Z.cells;obtain⟨aQ,aR,aS,aT,aU,aV,aW,aX⟩:=hs;have d:=FC p.topo r;obtain⟨w1,aY,C,a2,aG⟩:=Ae w cs.toArray 27;obtain⟨w2,aZ,E,a3,aH⟩:=Ae w1 ds.toArray 99;have a5:=hide (C.trans (E.mono C.size));have aD:=hide (a5.out.trans ((Ap w2).mono a5.out.size));have aE:=(a2.below E).cell;have aF:=a3.cell;generalize cs.toArray=pc at*;generalize ds.toArray=rc at*;obtain⟨ng,M⟩:∃n,n=r.guards.length:=⟨_,rfl⟩;rw [<-M] at d;obtain⟨ne,I⟩:∃n,n=r.ex.length:=⟨_,rfl⟩;rw [<-I] at d;obtain⟨nf,J⟩:∃n,n=r.fa.length:=⟨_,rfl⟩;rw [<-J] at d;obtain⟨nd,G⟩:∃n,n=r.send.length:=⟨_,rfl⟩;rw [<-G] at d;obtain⟨nl,O⟩:∃n,n=r.left.length:=⟨_,rfl⟩;rw [<-O] at d;obtain⟨nt,W⟩:∃n,n=r.right.length:=⟨_,rfl⟩;rw [<-W] at d;obtain⟨np,U⟩:∃n,n=r.parent.length:=⟨_,rfl⟩;rw [<-U] at d;obtain⟨nr,V⟩:∃n,n=r.resp.length:=⟨_,rfl⟩;rw [<-V] at d;rw [<-M] at ap aR;rw [<-I] at aq aS;rw [<-J] at ar aT;rw [<-G] at ag aU;rw [<-O] at ai aV;rw [<-W] at aj aW;rw [<-U] at ak aX;rw [<-V] at ao aQ;obtain⟨rd,au⟩:∃n,n=r.rd:=⟨_,rfl⟩;rw [<-au] at d ae;obtain⟨wr,aw⟩:∃n,n=r.wr:=⟨_,rfl⟩;rw [<-aw] at d af;obtain⟨pf,aa⟩:∃n,n=r.pf:=⟨_,rfl⟩;rw [<-aa] at d am;obtain⟨pt,ab⟩:∃n,n=r.pt:=⟨_,rfl⟩;rw [<-ab] at d an;obtain⟨ta,av⟩:∃n,n=r.at_:=⟨_,rfl⟩;rw [<-av] at d ah;obtain⟨di,a6⟩:∃n,n=r.dir:=⟨_,rfl⟩;rw [<-a6] at d al;obtain⟨kt,a8⟩:∃n,n=p.topo:=⟨_,rfl⟩;rw [<-a8] at d a9 ⊢;obtain⟨l,a7⟩:∃n,n=r.kind:=⟨_,rfl⟩;rw [<-a7] at d ad j;have q1:(l==1)=false:=by rw [j.out]; rfl
 have q2:(l==2)=true:=by rw [j.out]; rfl
 have q3:(l==3)=false:=by rw [j.out]; rfl
 have q4:(l==4)=false:=by rw [j.out]; rfl
 have q5:(l==5)=false:=by rw [j.out]; rfl
 have y1:decide (l=1)=false:=by rw [j.out]; rfl
 have y2:decide (l=2)=true:=by rw [j.out]; rfl
 have y3:decide (l=3)=false:=by rw [j.out]; rfl
 have y4:decide (l=4)=false:=by rw [j.out]; rfl
 have y5:decide (l=5)=false:=by rw [j.out]; rfl
 rw [y1,y2,y3,y4,y5] at d;have a4:=hide d;clear M I J G O W U V au aw aa ab av a6 a8 a7 d y1 y2 y3 y4 y5 C E a2 a3 aG aH aK aO aJ aL aM aN;go_enter Tryz.func192,Tryz.ntmps192;go_wp2_with fail;refine Reg.cI [0,1,3,0,8,24,0,64,192,0,512,1536,0,4096,12288,7,32831,98815,233471,524287] [0,1,2,3,4,5,6,7,8,9,10,11,12,13,14,15,16,17,18,19] ?_;refine Reg.wI [0,1,2,3,4,5,6,7,8,9,10,11,12,13,14,15,16,17,18,19] [] rfl fun Qf y=>?_;go_wp2_with fail;first | refine y _ _ ⟨rfl,?_⟩ | refine⟨rfl,?_⟩ | refine y _ _ ⟨by simp [Reg.fineT,Reg.intOp,Region.wanted,yielded,Reg.intFine,Reg.isInt,Act.eval],?_⟩
 (try clear y);first | refine Reg.restI_end ?_ | skip
 go_wp2_with fail
 all_goals
  go_ret;refine⟨?_,aD.out⟩;rw [a4.out];refine congrArg Value.bool ?_;clear q1 q2 q3 q4 q5 a4 aE aF aY aZ h Z a9 ad am an ao ap aq ar ae af ag ah ai aj ak al;unfold unV
  first
   | (simp_all; done)
   | (simp_all; omega)
   | (by_cases h4:kt=4 <;> simp_all; done)
   | (by_cases h4:kt=4 <;> simp_all <;> omega)
theorem TS {w:World} {cs ds:List Value} {p:Am} {r:Az} (h:At w w.heap.size cs p) (Z:AW w w.heap.size ds r) (hs:r.Small) (j:Hid (r.kind=3)):
  Calls Tryz.prog 192 #[.agg cs.toArray,.agg ds.toArray] w (Ret fun v w'=>v=.bool (B9 p.topo r)/\Below w.heap.size w w'):=by
 obtain⟨A1,c1,A2,c2,A3,c3,A4,c4,A5,c5,A6,c6,A7,c7,aK,aJ,a9,-⟩:=EU h;obtain⟨E1,f1,E2,f2,E3,f3,E4,f4,E5,f5,E6,f6,E7,f7,E8,f8,⟨aO,aL,ad,aM,aN,am,an,ao,ap,aq,ar,ae,af,ag,ah,ai,aj,ak,al⟩,-⟩:=Z.cells;obtain⟨aQ,aR,aS,aT,aU,aV,aW,aX⟩:=hs;have d:=FC p.topo r;obtain⟨w1,aY,C,a2,aG⟩:=Ae w cs.toArray 27;obtain⟨w2,aZ,E,a3,aH⟩:=Ae w1 ds.toArray 99;have a5:=hide (C.trans (E.mono C.size));have aD:=hide (a5.out.trans ((Ap w2).mono a5.out.size));have aE:=(a2.below E).cell;have aF:=a3.cell;generalize cs.toArray=pc at*;generalize ds.toArray=rc at*;obtain⟨ng,M⟩:∃n,n=r.guards.length:=⟨_,rfl⟩;rw [<-M] at d;obtain⟨ne,I⟩:∃n,n=r.ex.length:=⟨_,rfl⟩;rw [<-I] at d;obtain⟨nf,J⟩:∃n,n=r.fa.length:=⟨_,rfl⟩;rw [<-J] at d;obtain⟨nd,G⟩:∃n,n=r.send.length:=⟨_,rfl⟩;rw [<-G] at d;obtain⟨nl,O⟩:∃n,n=r.left.length:=⟨_,rfl⟩;rw [<-O] at d;obtain⟨nt,W⟩:∃n,n=r.right.length:=⟨_,rfl⟩;rw [<-W] at d;obtain⟨np,U⟩:∃n,n=r.parent.length:=⟨_,rfl⟩;rw [<-U] at d;obtain⟨nr,V⟩:∃n,n=r.resp.length:=⟨_,rfl⟩;rw [<-V] at d;rw [<-M] at ap aR;rw [<-I] at aq aS;rw [<-J] at ar aT;rw [<-G] at ag aU;rw [<-O] at ai aV;rw [<-W] at aj aW;rw [<-U] at ak aX;rw [<-V] at ao aQ;obtain⟨rd,au⟩:∃n,n=r.rd:=⟨_,rfl⟩;rw [<-au] at d ae;obtain⟨wr,aw⟩:∃n,n=r.wr:=⟨_,rfl⟩;rw [<-aw] at d af;obtain⟨pf,aa⟩:∃n,n=r.pf:=⟨_,rfl⟩;rw [<-aa] at d am;obtain⟨pt,ab⟩:∃n,n=r.pt:=⟨_,rfl⟩;rw [<-ab] at d an;obtain⟨ta,av⟩:∃n,n=r.at_:=⟨_,rfl⟩;rw [<-av] at d ah;obtain⟨di,a6⟩:∃n,n=r.dir:=⟨_,rfl⟩;rw [<-a6] at d al;obtain⟨kt,a8⟩:∃n,n=p.topo:=⟨_,rfl⟩;rw [<-a8] at d a9 ⊢;obtain⟨l,a7⟩:∃n,n=r.kind:=⟨_,rfl⟩;rw [<-a7] at d ad j;have q1:(l==1)=false:=by rw [j.out]; rfl
 have q2:(l==2)=false:=by rw [j.out]; rfl
 have q3:(l==3)=true:=by rw [j.out]; rfl
 have q4:(l==4)=false:=by rw [j.out]; rfl
 have q5:(l==5)=false:=by rw [j.out]; rfl
 have y1:decide (l=1)=false:=by rw [j.out]; rfl
 have y2:decide (l=2)=false:=by rw [j.out]; rfl
 have y3:decide (l=3)=true:=by rw [j.out]; rfl
 have y4:decide (l=4)=false:=by rw [j.out]; rfl
 have y5:decide (l=5)=false:=by rw [j.out]; rfl
 rw [y1,y2,y3,y4,y5] at d;have a4:=hide d;clear M I J G O W U V au aw aa ab av a6 a8 a7 d y1 y2 y3 y4 y5 C E a2 a3 aG aH aK aO aJ aL aM aN;go_enter Tryz.func192,Tryz.ntmps192;go_wp2_with fail;refine Reg.cI [0,1,3,0,8,24,0,64,192,0,512,1536,0,4096,12288,7,32831,98815,233471,524287] [0,1,2,3,4,5,6,7,8,9,10,11,12,13,14,15,16,17,18,19] ?_;refine Reg.wI [0,1,2,3,4,5,6,7,8,9,10,11,12,13,14,15,16,17,18,19] [] rfl fun Qf y=>?_;go_wp2_with fail;first | refine y _ _ ⟨rfl,?_⟩ | refine⟨rfl,?_⟩ | refine y _ _ ⟨by simp [Reg.fineT,Reg.intOp,Region.wanted,yielded,Reg.intFine,Reg.isInt,Act.eval],?_⟩
 (try clear y);first | refine Reg.restI_end ?_ | skip
 go_wp2_with fail
 all_goals
  go_ret;refine⟨?_,aD.out⟩;rw [a4.out];refine congrArg Value.bool ?_;clear q1 q2 q3 q4 q5 a4 aE aF aY aZ h Z a9 ad am an ao ap aq ar ae af ag ah ai aj ak al;unfold unV
  first
   | (simp_all; done)
   | (simp_all; omega)
   | (by_cases h4:kt=4 <;> simp_all; done)
   | (by_cases h4:kt=4 <;> simp_all <;> omega)
theorem TT {w:World} {cs ds:List Value} {p:Am} {r:Az} (h:At w w.heap.size cs p) (Z:AW w w.heap.size ds r) (hs:r.Small) (j:Hid (r.kind=4)):
  Calls Tryz.prog 192 #[.agg cs.toArray,.agg ds.toArray] w (Ret fun v w'=>v=.bool (B9 p.topo r)/\Below w.heap.size w w'):=by
 obtain⟨A1,c1,A2,c2,A3,c3,A4,c4,A5,c5,A6,c6,A7,c7,aK,aJ,a9,-⟩:=EU h;obtain⟨E1,f1,E2,f2,E3,f3,E4,f4,E5,f5,E6,f6,E7,f7,E8,f8,⟨aO,aL,ad,aM,aN,am,an,ao,ap,aq,ar,ae,af,ag,ah,ai,aj,ak,al⟩,-⟩:=Z.cells;obtain⟨aQ,aR,aS,aT,aU,aV,aW,aX⟩:=hs;have d:=FC p.topo r;obtain⟨w1,aY,C,a2,aG⟩:=Ae w cs.toArray 27;obtain⟨w2,aZ,E,a3,aH⟩:=Ae w1 ds.toArray 99;have a5:=hide (C.trans (E.mono C.size));have aD:=hide (a5.out.trans ((Ap w2).mono a5.out.size));have aE:=(a2.below E).cell;have aF:=a3.cell;generalize cs.toArray=pc at*;generalize ds.toArray=rc at*;obtain⟨ng,M⟩:∃n,n=r.guards.length:=⟨_,rfl⟩;rw [<-M] at d;obtain⟨ne,I⟩:∃n,n=r.ex.length:=⟨_,rfl⟩;rw [<-I] at d;obtain⟨nf,J⟩:∃n,n=r.fa.length:=⟨_,rfl⟩;rw [<-J] at d;obtain⟨nd,G⟩:∃n,n=r.send.length:=⟨_,rfl⟩;rw [<-G] at d;obtain⟨nl,O⟩:∃n,n=r.left.length:=⟨_,rfl⟩;rw [<-O] at d;obtain⟨nt,W⟩:∃n,n=r.right.length:=⟨_,rfl⟩;rw [<-W] at d;obtain⟨np,U⟩:∃n,n=r.parent.length:=⟨_,rfl⟩;rw [<-U] at d;obtain⟨nr,V⟩:∃n,n=r.resp.length:=⟨_,rfl⟩;rw [<-V] at d;rw [<-M] at ap aR;rw [<-I] at aq aS;rw [<-J] at ar aT;rw [<-G] at ag aU;rw [<-O] at ai aV;rw [<-W] at aj aW;rw [<-U] at ak aX;rw [<-V] at ao aQ;obtain⟨rd,au⟩:∃n,n=r.rd:=⟨_,rfl⟩;rw [<-au] at d ae;obtain⟨wr,aw⟩:∃n,n=r.wr:=⟨_,rfl⟩;rw [<-aw] at d af;obtain⟨pf,aa⟩:∃n,n=r.pf:=⟨_,rfl⟩;rw [<-aa] at d am;obtain⟨pt,ab⟩:∃n,n=r.pt:=⟨_,rfl⟩;rw [<-ab] at d an;obtain⟨ta,av⟩:∃n,n=r.at_:=⟨_,rfl⟩;rw [<-av] at d ah;obtain⟨di,a6⟩:∃n,n=r.dir:=⟨_,rfl⟩;rw [<-a6] at d al;obtain⟨kt,a8⟩:∃n,n=p.topo:=⟨_,rfl⟩;rw [<-a8] at d a9 ⊢;obtain⟨l,a7⟩:∃n,n=r.kind:=⟨_,rfl⟩;rw [<-a7] at d ad j;have q1:(l==1)=false:=by rw [j.out]; rfl
 have q2:(l==2)=false:=by rw [j.out]; rfl
 have q3:(l==3)=false:=by rw [j.out]; rfl
 have q4:(l==4)=true:=by rw [j.out]; rfl
 have q5:(l==5)=false:=by rw [j.out]; rfl
 have y1:decide (l=1)=false:=by rw [j.out]; rfl
 have y2:decide (l=2)=false:=by rw [j.out]; rfl
 have y3:decide (l=3)=false:=by rw [j.out]; rfl
 have y4:decide (l=4)=true:=by rw [j.out]; rfl
 have y5:decide (l=5)=false:=by rw [j.out]; rfl
 rw [y1,y2,y3,y4,y5] at d;have a4:=hide d;clear M I J G O W U V au aw aa ab av a6 a8 a7 d y1 y2 y3 y4 y5 C E a2 a3 aG aH aK aO aJ aL aM aN;go_enter Tryz.func192,Tryz.ntmps192;go_wp2_with fail;refine Reg.cI [0,1,3,0,8,24,0,64,192,0,512,1536,0,4096,12288,7,32831,98815,233471,524287] [0,1,2,3,4,5,6,7,8,9,10,11,12,13,14,15,16,17,18,19] ?_;refine Reg.wI [0,1,2,3,4,5,6,7,8,9,10,11,12,13,14,15,16,17,18,19] [] rfl fun Qf y=>?_;go_wp2_with fail;first | refine y _ _ ⟨rfl,?_⟩ | refine⟨rfl,?_⟩ | refine y _ _ ⟨by simp [Reg.fineT,Reg.intOp,Region.wanted,yielded,Reg.intFine,Reg.isInt,Act.eval],?_⟩
 (try clear y);first | refine Reg.restI_end ?_ | skip
 go_wp2_with fail
 all_goals
  go_ret;refine⟨?_,aD.out⟩;rw [a4.out];refine congrArg Value.bool ?_;clear q1 q2 q3 q4 q5 a4 aE aF aY aZ h Z a9 ad am an ao ap aq ar ae af ag ah ai aj ak al;unfold unV
  first
   | (simp_all; done)
   | (simp_all; omega)
   | (by_cases h4:kt=4 <;> simp_all; done)
   | (by_cases h4:kt=4 <;> simp_all <;> omega)
theorem TU {w:World} {cs ds:List Value} {p:Am} {r:Az} (h:At w w.heap.size cs p) (Z:AW w w.heap.size ds r) (hs:r.Small) (j:Hid (r.kind=5)):
  Calls Tryz.prog 192 #[.agg cs.toArray,.agg ds.toArray] w (Ret fun v w'=>v=.bool (B9 p.topo r)/\Below w.heap.size w w'):=by
 obtain⟨A1,c1,A2,c2,A3,c3,A4,c4,A5,c5,A6,c6,A7,c7,aK,aJ,a9,-⟩:=EU h;obtain⟨E1,f1,E2,f2,E3,f3,E4,f4,E5,f5,E6,f6,E7,f7,E8,f8,⟨aO,aL,ad,aM,aN,am,an,ao,ap,aq,ar,ae,af,ag,ah,ai,aj,ak,al⟩,-⟩:=Z.cells;obtain⟨aQ,aR,aS,aT,aU,aV,aW,aX⟩:=hs;have d:=FC p.topo r;obtain⟨w1,aY,C,a2,aG⟩:=Ae w cs.toArray 27;obtain⟨w2,aZ,E,a3,aH⟩:=Ae w1 ds.toArray 99;have a5:=hide (C.trans (E.mono C.size));have aD:=hide (a5.out.trans ((Ap w2).mono a5.out.size));have aE:=(a2.below E).cell;have aF:=a3.cell;generalize cs.toArray=pc at*;generalize ds.toArray=rc at*;obtain⟨ng,M⟩:∃n,n=r.guards.length:=⟨_,rfl⟩;rw [<-M] at d;obtain⟨ne,I⟩:∃n,n=r.ex.length:=⟨_,rfl⟩;rw [<-I] at d;obtain⟨nf,J⟩:∃n,n=r.fa.length:=⟨_,rfl⟩;rw [<-J] at d;obtain⟨nd,G⟩:∃n,n=r.send.length:=⟨_,rfl⟩;rw [<-G] at d;obtain⟨nl,O⟩:∃n,n=r.left.length:=⟨_,rfl⟩;rw [<-O] at d;obtain⟨nt,W⟩:∃n,n=r.right.length:=⟨_,rfl⟩;rw [<-W] at d;obtain⟨np,U⟩:∃n,n=r.parent.length:=⟨_,rfl⟩;rw [<-U] at d;obtain⟨nr,V⟩:∃n,n=r.resp.length:=⟨_,rfl⟩;rw [<-V] at d;rw [<-M] at ap aR;rw [<-I] at aq aS;rw [<-J] at ar aT;rw [<-G] at ag aU;rw [<-O] at ai aV;rw [<-W] at aj aW;rw [<-U] at ak aX;rw [<-V] at ao aQ;obtain⟨rd,au⟩:∃n,n=r.rd:=⟨_,rfl⟩;rw [<-au] at d ae;obtain⟨wr,aw⟩:∃n,n=r.wr:=⟨_,rfl⟩;rw [<-aw] at d af;obtain⟨pf,aa⟩:∃n,n=r.pf:=⟨_,rfl⟩;rw [<-aa] at d am;obtain⟨pt,ab⟩:∃n,n=r.pt:=⟨_,rfl⟩;rw [<-ab] at d an;obtain⟨ta,av⟩:∃n,n=r.at_:=⟨_,rfl⟩;rw [<-av] at d ah;obtain⟨di,a6⟩:∃n,n=r.dir:=⟨_,rfl⟩;rw [<-a6] at d al;obtain⟨kt,a8⟩:∃n,n=p.topo:=⟨_,rfl⟩;rw [<-a8] at d a9 ⊢;obtain⟨l,a7⟩:∃n,n=r.kind:=⟨_,rfl⟩;rw [<-a7] at d ad j;have q1:(l==1)=false:=by rw [j.out]; rfl
 have q2:(l==2)=false:=by rw [j.out]; rfl
 have q3:(l==3)=false:=by rw [j.out]; rfl
 have q4:(l==4)=false:=by rw [j.out]; rfl
 have q5:(l==5)=true:=by rw [j.out]; rfl
 have y1:decide (l=1)=false:=by rw [j.out]; rfl
 have y2:decide (l=2)=false:=by rw [j.out]; rfl
 have y3:decide (l=3)=false:=by rw [j.out]; rfl
 have y4:decide (l=4)=false:=by rw [j.out]; rfl
 have y5:decide (l=5)=true:=by rw [j.out]; rfl
 rw [y1,y2,y3,y4,y5] at d;have a4:=hide d;clear M I J G O W U V au aw aa ab av a6 a8 a7 d y1 y2 y3 y4 y5 C E a2 a3 aG aH aK aO aJ aL aM aN;go_enter Tryz.func192,Tryz.ntmps192;go_wp2_with fail;refine Reg.cI [0,1,3,0,8,24,0,64,192,0,512,1536,0,4096,12288,7,32831,98815,233471,524287] [0,1,2,3,4,5,6,7,8,9,10,11,12,13,14,15,16,17,18,19] ?_;refine Reg.wI [0,1,2,3,4,5,6,7,8,9,10,11,12,13,14,15,16,17,18,19] [] rfl fun Qf y=>?_;go_wp2_with fail;first | refine y _ _ ⟨rfl,?_⟩ | refine⟨rfl,?_⟩ | refine y _ _ ⟨by simp [Reg.fineT,Reg.intOp,Region.wanted,yielded,Reg.intFine,Reg.isInt,Act.eval],?_⟩
 (try clear y);first | refine Reg.restI_end ?_ | skip
 go_wp2_with fail
 all_goals
  go_ret;refine⟨?_,aD.out⟩;rw [a4.out];refine congrArg Value.bool ?_;clear q1 q2 q3 q4 q5 a4 aE aF aY aZ h Z a9 ad am an ao ap aq ar ae af ag ah ai aj ak al;unfold unV
  first
   | (simp_all; done)
   | (simp_all; omega)
   | (by_cases h4:kt=4 <;> simp_all; done)
   | (by_cases h4:kt=4 <;> simp_all <;> omega)
theorem TO {w:World} {cs ds:List Value} {p:Am} {r:Az} (h:At w w.heap.size cs p) (Z:AW w w.heap.size ds r) (hs:r.Small) (j:Hid (r.kind≠1/\r.kind≠2/\r.kind≠3/\r.kind≠4/\r.kind≠5)):
  Calls Tryz.prog 192 #[.agg cs.toArray,.agg ds.toArray] w (Ret fun v w'=>v=.bool (B9 p.topo r)/\Below w.heap.size w w'):=by
 obtain⟨A1,c1,A2,c2,A3,c3,A4,c4,A5,c5,A6,c6,A7,c7,aK,aJ,a9,-⟩:=EU h;obtain⟨E1,f1,E2,f2,E3,f3,E4,f4,E5,f5,E6,f6,E7,f7,E8,f8,⟨aO,aL,ad,aM,aN,am,an,ao,ap,aq,ar,ae,af,ag,ah,ai,aj,ak,al⟩,-⟩:=Z.cells;obtain⟨aQ,aR,aS,aT,aU,aV,aW,aX⟩:=hs;have d:=FC p.topo r;obtain⟨w1,aY,C,a2,aG⟩:=Ae w cs.toArray 27;obtain⟨w2,aZ,E,a3,aH⟩:=Ae w1 ds.toArray 99;have a5:=hide (C.trans (E.mono C.size));have aD:=hide (a5.out.trans ((Ap w2).mono a5.out.size));have aE:=(a2.below E).cell;have aF:=a3.cell;generalize cs.toArray=pc at*;generalize ds.toArray=rc at*;obtain⟨ng,M⟩:∃n,n=r.guards.length:=⟨_,rfl⟩;rw [<-M] at d;obtain⟨ne,I⟩:∃n,n=r.ex.length:=⟨_,rfl⟩;rw [<-I] at d;obtain⟨nf,J⟩:∃n,n=r.fa.length:=⟨_,rfl⟩;rw [<-J] at d;obtain⟨nd,G⟩:∃n,n=r.send.length:=⟨_,rfl⟩;rw [<-G] at d;obtain⟨nl,O⟩:∃n,n=r.left.length:=⟨_,rfl⟩;rw [<-O] at d;obtain⟨nt,W⟩:∃n,n=r.right.length:=⟨_,rfl⟩;rw [<-W] at d;obtain⟨np,U⟩:∃n,n=r.parent.length:=⟨_,rfl⟩;rw [<-U] at d;obtain⟨nr,V⟩:∃n,n=r.resp.length:=⟨_,rfl⟩;rw [<-V] at d;rw [<-M] at ap aR;rw [<-I] at aq aS;rw [<-J] at ar aT;rw [<-G] at ag aU;rw [<-O] at ai aV;rw [<-W] at aj aW;rw [<-U] at ak aX;rw [<-V] at ao aQ;obtain⟨rd,au⟩:∃n,n=r.rd:=⟨_,rfl⟩;rw [<-au] at d ae;obtain⟨wr,aw⟩:∃n,n=r.wr:=⟨_,rfl⟩;rw [<-aw] at d af;obtain⟨pf,aa⟩:∃n,n=r.pf:=⟨_,rfl⟩;rw [<-aa] at d am;obtain⟨pt,ab⟩:∃n,n=r.pt:=⟨_,rfl⟩;rw [<-ab] at d an;obtain⟨ta,av⟩:∃n,n=r.at_:=⟨_,rfl⟩;rw [<-av] at d ah;obtain⟨di,a6⟩:∃n,n=r.dir:=⟨_,rfl⟩;rw [<-a6] at d al;obtain⟨kt,a8⟩:∃n,n=p.topo:=⟨_,rfl⟩;rw [<-a8] at d a9 ⊢;obtain⟨l,a7⟩:∃n,n=r.kind:=⟨_,rfl⟩;rw [<-a7] at d ad j;have q1:(l==1)=false:=by have:=j.out; simp; omega
 have q2:(l==2)=false:=by have:=j.out; simp; omega
 have q3:(l==3)=false:=by have:=j.out; simp; omega
 have q4:(l==4)=false:=by have:=j.out; simp; omega
 have q5:(l==5)=false:=by have:=j.out; simp; omega
 have y1:decide (l=1)=false:=by have:=j.out; simp; omega
 have y2:decide (l=2)=false:=by have:=j.out; simp; omega
 have y3:decide (l=3)=false:=by have:=j.out; simp; omega
 have y4:decide (l=4)=false:=by have:=j.out; simp; omega
 have y5:decide (l=5)=false:=by have:=j.out; simp; omega
 rw [y1,y2,y3,y4,y5] at d;have a4:=hide d;clear M I J G O W U V au aw aa ab av a6 a8 a7 d y1 y2 y3 y4 y5 C E a2 a3 aG aH aK aO aJ aL aM aN;go_enter Tryz.func192,Tryz.ntmps192;go_wp2_with fail;refine Reg.cI [0,1,3,0,8,24,0,64,192,0,512,1536,0,4096,12288,7,32831,98815,233471,524287] [0,1,2,3,4,5,6,7,8,9,10,11,12,13,14,15,16,17,18,19] ?_;refine Reg.wI [0,1,2,3,4,5,6,7,8,9,10,11,12,13,14,15,16,17,18,19] [] rfl fun Qf y=>?_;go_wp2_with fail;first | refine y _ _ ⟨rfl,?_⟩ | refine⟨rfl,?_⟩ | refine y _ _ ⟨by simp [Reg.fineT,Reg.intOp,Region.wanted,yielded,Reg.intFine,Reg.isInt,Act.eval],?_⟩
 (try clear y);first | refine Reg.restI_end ?_ | skip
 go_wp2_with fail
 all_goals
  go_ret;refine⟨?_,aD.out⟩;rw [a4.out];refine congrArg Value.bool ?_;clear q1 q2 q3 q4 q5 a4 aE aF aY aZ h Z a9 ad am an ao ap aq ar ae af ag ah ai aj ak al;unfold unV
  first
   | (simp_all; done)
   | (simp_all; omega)
   | (by_cases h4:kt=4 <;> simp_all; done)
   | (by_cases h4:kt=4 <;> simp_all <;> omega)
theorem FD {w:World} {cs ds:List Value} {p:Am} {r:Az} (h:At w w.heap.size cs p) (d:AW w w.heap.size ds r) (j:r.Small):
  Calls Tryz.prog 192 #[.agg cs.toArray,.agg ds.toArray] w (Ret fun v w'=>v=.bool (B9 p.topo r)/\Below w.heap.size w w'):=by
 by_cases k1:r.kind=1
 ·exact TP h d j k1
 by_cases k2:r.kind=2
 ·exact TQ h d j k2
 by_cases k3:r.kind=3
 ·exact TS h d j k3
 by_cases l:r.kind=4
 ·exact TT h d j l
 by_cases y:r.kind=5
 ·exact TU h d j y
 exact TO h d j ⟨k1,k2,k3,l,y⟩
end Go.Proofs.YtfcfpoemojjglaaGreatDoor.K
