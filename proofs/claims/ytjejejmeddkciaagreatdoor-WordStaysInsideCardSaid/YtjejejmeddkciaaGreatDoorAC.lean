/-
  Part AC of a proof.
-/
import Derived.Test.YtjejejmeddkciaaGreatDoorPA
import Derived.Test.YtjejejmeddkciaaGreatDoorCI
import Derived.Test.YtjejejmeddkciaaGreatDoorCE
set_option maxHeartbeats 16000000
set_option maxRecDepth 100000
set_option linter.unusedVariables false
set_option linter.unusedSimpArgs false
namespace Go.Proofs.YtjejejmeddkciaaGreatDoor.K
open Go.RowKit
attribute [-go_sem] loadCellsFrom storeCells
theorem DX (b:Bool) (e:Int) (w:World):Calls Tryz.prog 90 #[.bool b,.int .i64 e] w (Ret fun r w'=>(∃x,r=.int .i64 x/\Hid (x=Ad b e))/\w=w'):=
 (Ce b e w).mono fun r w' h=>by
  obtain⟨rfl,rfl⟩:=h;exact⟨⟨_,rfl,rfl⟩,rfl⟩
theorem Nb {w:World} {A:Option Addr} {cc:Nat} {l:List D9} {n:Int} (h:BR w w.heap.size 2 (Db w w.heap.size) A l):
  Calls Tryz.prog 91 #[.slice A l.length cc,.int .i64 n] w (Ret fun v w'=>v=.int .i64 (Aj (AV n) l)/\Below w.heap.size w w'):=by
 have hH:=hide h;have hn:=h.1;clear h;go_enter Tryz.func91,Tryz.ntmps91;go_wp2_with fail;go_loopw [10] (fun ii wr=>∃(k:Nat),ii=.int .i64 (k:Int)/\k<=l.length/\Hid (Below w.heap.size w wr)/\Hid (Aj (AV n) (l.take k)=0)) (fun ii _=>l.length - (intOf ii).toNat)
 case atStart=>exact⟨0,rfl,Nat.zero_le _,Below.refl _ _,by show _=_;rfl⟩
 case round=>
  obtain⟨k,rfl,hk,hB,hE⟩:=hrel;by_cases aO:k<l.length
  case neg=>
   have au:=hE.out;rw [show k=l.length by omega,List.take_length] at au;have aF:=hide au;clear au hE;go_wp2_with fail;go_ret;exact⟨by rw [aF.out];rfl,hB.out⟩
  obtain⟨b,off,c,cs,hA,aR,he,aV,az,hR⟩:=(hH.out.keep (w':=wr) (B':=w.heap.size) (R':=Db wr w.heap.size) (fun _ hp=>hB.out.cell hp) (fun _ _ h=>h.keep (fun _ hp=>hB.out.cell hp) (Nat.le_refl _)) (Nat.le_refl _)).at aO;obtain⟨E1,f1,rfl,hS⟩:=hR;have aM:(loadCellsFrom ⟨b,off+k*2,none⟩ 0 2 #[]).run Tryz.prog wr=.ok #[.slice E1 c.states.length f1,.int .i64 c.least] wr:=by
   have:=run_loadCells_list (P:=Tryz.prog) wr ⟨b,off+k*2,none⟩ [.slice E1 c.states.length f1,.int .i64 c.least] (fun j v hv=>by rw [Addr.add_mid];exact az j v hv);simpa [loadCells] using this
  obtain⟨w5,aC,ay,ar,aL⟩:=Ae wr #[.slice E1 c.states.length f1,.int .i64 c.least] 112;have aP:∀cq:Array Value,cq.size=2->(storeCells ⟨wr.heap.size,0,none⟩ [.slice E1 c.states.length f1,.int .i64 c.least] 0).run Tryz.prog (wr.alloc (.cells cq 112))=.ok () w5:=fun cq hc=>by rw [<-aC];exact Dv wr 112 2 (by kernel_rfl) (rc:=#[.slice E1 c.states.length f1,.int .i64 c.least]) rfl (by simp [Value.oneCell']) cq hc
  have aK:=ar.cell;have ae:=hide ar;have ax:=hide (hB.out.trans (ay.mono hB.out.size));have I:=hide (ax.out.trans ((Ap w5).mono ax.out.size));have aB:∀wx,Below w.heap.size w wx->Calls Tryz.prog 88 #[.slice E1 c.states.length f1,.int .i64 n] wx (Ret fun r w'=>r=.int .i64 (Aa c.states n)/\Below wx.heap.size wx w'):=fun wx V=>
   DE ((hS.keep (w':=w) (B':=w.heap.size) (fun _ hp=>(hB.out.cell hp).symm) (Nat.le_refl _)).keep (fun _ hp=>V.cell hp) V.size)
  have a9:=hide aB;have ag:=hide he;have aN:=hS.1;obtain⟨ns,av⟩:∃m,m=c.states.length:=⟨_,rfl⟩;have ah:=hide (show((ns:Int)==0)=c.states.isEmpty by rw [Bv,EF,av]);rw [<-av] at a9 aK aP aM aC aN;obtain⟨G,U⟩:∃e,Hid (AV n c=e):=⟨_,rfl⟩;subst hA;clear az aB he hS aL ar ay av;cases af:((ns:Int)==0)
  case true=>
   have hq:((ns:Int)==0)=true:=af;clear af;by_cases F:G=0
   ·have ak:(G != 0)=false:=by simp [F]
    have aj:=hide (show Aj (AV n) (l.take (k+1))=0 from by rw [CD (AV n) ag.out hE.out,U.out,F]);clear F;go_wp2_with fail;refine Reg.cI [0,1,0,7,0,16,48,112,255,511,1023,2047,4095,8191,16383,32767,65535,131071,262143,524287,1048575,2097151] [0,1,2,4,5,6,7,3,8,9,10,11,12,13,14,15,16,17,18,19,20,21] ?_;refine Reg.wI [0,1,2,4,5,6,7] [3,8,9,10,11,12,13,14,15,16,17,18,19,20,21] rfl fun Qf C=>?_;go_wp2_with fail;first|refine C _ _ ⟨rfl,?_⟩|refine⟨rfl,?_⟩|refine C _ _ ⟨by simp [Reg.fineT,Reg.intOp,Region.wanted,yielded,Reg.intFine,Reg.isInt,Act.eval],?_⟩
    (try clear C);refine Reg.aI 3 [8,9,10,11,12,13,14,15,16,17,18,19,20,21] [5] rfl fun Qf C=>?_;simp only [gT,gS,gZ];go_wp2_with (go_at_call 88;refine Calls.ret (a9.out _ I.out) ?_;rintro v w6 ⟨rfl,E⟩);first|refine C _ _ ⟨Reg.same_below (E) [5] rfl,?_⟩|refine⟨Reg.same_below (E) [5] rfl,?_⟩
    (try clear C);have ai:=(ae.out.below ((Ap w5).trans E)).cell;have M:=hide (I.out.trans (E.mono I.out.size));clear E;refine Reg.wI [8,9,10,11,12,13,14,15,16,17] [18,19,20,21] rfl fun Qf C=>?_;go_wp2_with fail;first|refine C _ _ ⟨rfl,?_⟩|refine⟨rfl,?_⟩|refine C _ _ ⟨by simp [Reg.fineT,Reg.intOp,Region.wanted,yielded,Reg.intFine,Reg.isInt,Act.eval],?_⟩
    (try clear C);refine Reg.aI 18 [19,20,21] [] rfl fun Qf C=>?_;simp only [gT,gS,gZ];go_wp2_with (go_at_call 90;refine Calls.ret (DX _ _ _) ?_;rintro r w' ⟨⟨x,rfl,V⟩,rfl⟩);first|refine C _ _ ⟨Reg.nm,?_⟩|refine⟨Reg.nm,?_⟩
    (try clear C);have a2:=hide (show Aj id [Aa c.states n,x]=G from by
     simp only [Aj,id_eq,Bk];rw [<-U.out];unfold AV;congr 1;rw [V.out];congr 1;rw [<-ah.out,hq];rfl
    )
    obtain⟨wz,am,O,J,a3⟩:=Ae w6 #[.int .i64 (Aa c.states n),.int .i64 (x)] 40;have W:=hide (Ch (l:=[Aa c.states n,x]) J (by simp));have Z:=hide (M.out.trans (O.mono M.out.size));clear J a3 O;refine Reg.wI [19] [20,21] rfl fun Qf C=>?_;go_wp2_with fail;first|refine C _ _ ⟨rfl,?_⟩|refine⟨rfl,?_⟩|refine C _ _ ⟨by simp [Reg.fineT,Reg.intOp,Region.wanted,yielded,Reg.intFine,Reg.isInt,Act.eval],?_⟩
    (try clear C);refine Reg.aI 20 [21] [] rfl fun Qf C=>?_;simp only [gT,gS,gZ];go_wp2_with (go_at_call 89;refine(Ci (l:=[Aa c.states n,x]) W.out).mono ?_;rintro e w' ⟨rfl,rfl⟩;rw [a2.out]);first|refine C _ _ ⟨Reg.nm,?_⟩|refine⟨Reg.nm,?_⟩
    (try clear C);refine Reg.wI [21] [] rfl fun Qf C=>?_;go_wp2_with fail;first|refine C _ _ ⟨rfl,?_⟩|refine⟨rfl,?_⟩|refine C _ _ ⟨by simp [Reg.fineT,Reg.intOp,Region.wanted,yielded,Reg.intFine,Reg.isInt,Act.eval],?_⟩
    (try clear C);first|refine Reg.restI_end ?_|skip
    go_wp2_with fail;exact⟨⟨k+1,by go_num,by omega,Z.out,aj.out⟩,by simp [intOf];omega⟩
   ·have ak:(G != 0)=true:=by simp [F]
    have al:=hide (show Aj (AV n) l=G from by rw [Ct (AV n) ag.out hE.out (by rw [U.out];exact F),U.out]);clear F;go_wp2_with fail;refine Reg.cI [0,1,0,7,0,16,48,112,255,511,1023,2047,4095,8191,16383,32767,65535,131071,262143,524287,1048575,2097151] [0,1,2,4,5,6,7,3,8,9,10,11,12,13,14,15,16,17,18,19,20,21] ?_;refine Reg.wI [0,1,2,4,5,6,7] [3,8,9,10,11,12,13,14,15,16,17,18,19,20,21] rfl fun Qf C=>?_;go_wp2_with fail;first|refine C _ _ ⟨rfl,?_⟩|refine⟨rfl,?_⟩|refine C _ _ ⟨by simp [Reg.fineT,Reg.intOp,Region.wanted,yielded,Reg.intFine,Reg.isInt,Act.eval],?_⟩
    (try clear C);refine Reg.aI 3 [8,9,10,11,12,13,14,15,16,17,18,19,20,21] [5] rfl fun Qf C=>?_;simp only [gT,gS,gZ];go_wp2_with (go_at_call 88;refine Calls.ret (a9.out _ I.out) ?_;rintro v w6 ⟨rfl,E⟩);first|refine C _ _ ⟨Reg.same_below (E) [5] rfl,?_⟩|refine⟨Reg.same_below (E) [5] rfl,?_⟩
    (try clear C);have ai:=(ae.out.below ((Ap w5).trans E)).cell;have M:=hide (I.out.trans (E.mono I.out.size));clear E;refine Reg.wI [8,9,10,11,12,13,14,15,16,17] [18,19,20,21] rfl fun Qf C=>?_;go_wp2_with fail;first|refine C _ _ ⟨rfl,?_⟩|refine⟨rfl,?_⟩|refine C _ _ ⟨by simp [Reg.fineT,Reg.intOp,Region.wanted,yielded,Reg.intFine,Reg.isInt,Act.eval],?_⟩
    (try clear C);refine Reg.aI 18 [19,20,21] [] rfl fun Qf C=>?_;simp only [gT,gS,gZ];go_wp2_with (go_at_call 90;refine Calls.ret (DX _ _ _) ?_;rintro r w' ⟨⟨x,rfl,V⟩,rfl⟩);first|refine C _ _ ⟨Reg.nm,?_⟩|refine⟨Reg.nm,?_⟩
    (try clear C);have a2:=hide (show Aj id [Aa c.states n,x]=G from by
     simp only [Aj,id_eq,Bk];rw [<-U.out];unfold AV;congr 1;rw [V.out];congr 1;rw [<-ah.out,hq];rfl
    )
    obtain⟨wz,am,O,J,a3⟩:=Ae w6 #[.int .i64 (Aa c.states n),.int .i64 (x)] 40;have W:=hide (Ch (l:=[Aa c.states n,x]) J (by simp));have Z:=hide (M.out.trans (O.mono M.out.size));clear J a3 O;refine Reg.wI [19] [20,21] rfl fun Qf C=>?_;go_wp2_with fail;first|refine C _ _ ⟨rfl,?_⟩|refine⟨rfl,?_⟩|refine C _ _ ⟨by simp [Reg.fineT,Reg.intOp,Region.wanted,yielded,Reg.intFine,Reg.isInt,Act.eval],?_⟩
    (try clear C);refine Reg.aI 20 [21] [] rfl fun Qf C=>?_;simp only [gT,gS,gZ];go_wp2_with (go_at_call 89;refine(Ci (l:=[Aa c.states n,x]) W.out).mono ?_;rintro e w' ⟨rfl,rfl⟩;rw [a2.out]);first|refine C _ _ ⟨Reg.nm,?_⟩|refine⟨Reg.nm,?_⟩
    (try clear C);refine Reg.wI [21] [] rfl fun Qf C=>?_;go_wp2_with fail;first|refine C _ _ ⟨rfl,?_⟩|refine⟨rfl,?_⟩|refine C _ _ ⟨by simp [Reg.fineT,Reg.intOp,Region.wanted,yielded,Reg.intFine,Reg.isInt,Act.eval],?_⟩
    (try clear C);first|refine Reg.restI_end ?_|skip
    go_wp2_with fail;go_ret;exact⟨by rw [al.out];rfl,Z.out⟩
  case false=>
   by_cases hl:c.least<1
   ·have hq:((ns:Int)==0)=false:=af;clear af;by_cases F:G=0
    ·have ak:(G != 0)=false:=by simp [F]
     have aj:=hide (show Aj (AV n) (l.take (k+1))=0 from by rw [CD (AV n) ag.out hE.out,U.out,F]);clear F;go_wp2_with fail;refine Reg.cI [0,1,0,7,0,16,48,112,255,511,1023,2047,4095,8191,16383,32767,65535,131071,262143,524287,1048575,2097151] [0,1,2,4,5,6,7,3,8,9,10,11,12,13,14,15,16,17,18,19,20,21] ?_;refine Reg.wI [0,1,2,4,5,6,7] [3,8,9,10,11,12,13,14,15,16,17,18,19,20,21] rfl fun Qf C=>?_;go_wp2_with fail;first|refine C _ _ ⟨rfl,?_⟩|refine⟨rfl,?_⟩|refine C _ _ ⟨by simp [Reg.fineT,Reg.intOp,Region.wanted,yielded,Reg.intFine,Reg.isInt,Act.eval],?_⟩
     (try clear C);refine Reg.aI 3 [8,9,10,11,12,13,14,15,16,17,18,19,20,21] [5] rfl fun Qf C=>?_;simp only [gT,gS,gZ];go_wp2_with (go_at_call 88;refine Calls.ret (a9.out _ I.out) ?_;rintro v w6 ⟨rfl,E⟩);first|refine C _ _ ⟨Reg.same_below (E) [5] rfl,?_⟩|refine⟨Reg.same_below (E) [5] rfl,?_⟩
     (try clear C);have ai:=(ae.out.below ((Ap w5).trans E)).cell;have M:=hide (I.out.trans (E.mono I.out.size));clear E;refine Reg.wI [8,9,10,11,12,13,14,15,16,17] [18,19,20,21] rfl fun Qf C=>?_;go_wp2_with fail;first|refine C _ _ ⟨rfl,?_⟩|refine⟨rfl,?_⟩|refine C _ _ ⟨by simp [Reg.fineT,Reg.intOp,Region.wanted,yielded,Reg.intFine,Reg.isInt,Act.eval],?_⟩
     (try clear C);refine Reg.aI 18 [19,20,21] [] rfl fun Qf C=>?_;simp only [gT,gS,gZ];go_wp2_with (go_at_call 90;refine Calls.ret (DX _ _ _) ?_;rintro r w' ⟨⟨x,rfl,V⟩,rfl⟩);first|refine C _ _ ⟨Reg.nm,?_⟩|refine⟨Reg.nm,?_⟩
     (try clear C);have a2:=hide (show Aj id [Aa c.states n,x]=G from by
      simp only [Aj,id_eq,Bk];rw [<-U.out];unfold AV;congr 1;rw [V.out];congr 1;rw [<-ah.out,hq];simp;omega
     )
     obtain⟨wz,am,O,J,a3⟩:=Ae w6 #[.int .i64 (Aa c.states n),.int .i64 (x)] 40;have W:=hide (Ch (l:=[Aa c.states n,x]) J (by simp));have Z:=hide (M.out.trans (O.mono M.out.size));clear J a3 O;refine Reg.wI [19] [20,21] rfl fun Qf C=>?_;go_wp2_with fail;first|refine C _ _ ⟨rfl,?_⟩|refine⟨rfl,?_⟩|refine C _ _ ⟨by simp [Reg.fineT,Reg.intOp,Region.wanted,yielded,Reg.intFine,Reg.isInt,Act.eval],?_⟩
     (try clear C);refine Reg.aI 20 [21] [] rfl fun Qf C=>?_;simp only [gT,gS,gZ];go_wp2_with (go_at_call 89;refine(Ci (l:=[Aa c.states n,x]) W.out).mono ?_;rintro e w' ⟨rfl,rfl⟩;rw [a2.out]);first|refine C _ _ ⟨Reg.nm,?_⟩|refine⟨Reg.nm,?_⟩
     (try clear C);refine Reg.wI [21] [] rfl fun Qf C=>?_;go_wp2_with fail;first|refine C _ _ ⟨rfl,?_⟩|refine⟨rfl,?_⟩|refine C _ _ ⟨by simp [Reg.fineT,Reg.intOp,Region.wanted,yielded,Reg.intFine,Reg.isInt,Act.eval],?_⟩
     (try clear C);first|refine Reg.restI_end ?_|skip
     go_wp2_with fail;exact⟨⟨k+1,by go_num,by omega,Z.out,aj.out⟩,by simp [intOf];omega⟩
    ·have ak:(G != 0)=true:=by simp [F]
     have al:=hide (show Aj (AV n) l=G from by rw [Ct (AV n) ag.out hE.out (by rw [U.out];exact F),U.out]);clear F;go_wp2_with fail;refine Reg.cI [0,1,0,7,0,16,48,112,255,511,1023,2047,4095,8191,16383,32767,65535,131071,262143,524287,1048575,2097151] [0,1,2,4,5,6,7,3,8,9,10,11,12,13,14,15,16,17,18,19,20,21] ?_;refine Reg.wI [0,1,2,4,5,6,7] [3,8,9,10,11,12,13,14,15,16,17,18,19,20,21] rfl fun Qf C=>?_;go_wp2_with fail;first|refine C _ _ ⟨rfl,?_⟩|refine⟨rfl,?_⟩|refine C _ _ ⟨by simp [Reg.fineT,Reg.intOp,Region.wanted,yielded,Reg.intFine,Reg.isInt,Act.eval],?_⟩
     (try clear C);refine Reg.aI 3 [8,9,10,11,12,13,14,15,16,17,18,19,20,21] [5] rfl fun Qf C=>?_;simp only [gT,gS,gZ];go_wp2_with (go_at_call 88;refine Calls.ret (a9.out _ I.out) ?_;rintro v w6 ⟨rfl,E⟩);first|refine C _ _ ⟨Reg.same_below (E) [5] rfl,?_⟩|refine⟨Reg.same_below (E) [5] rfl,?_⟩
     (try clear C);have ai:=(ae.out.below ((Ap w5).trans E)).cell;have M:=hide (I.out.trans (E.mono I.out.size));clear E;refine Reg.wI [8,9,10,11,12,13,14,15,16,17] [18,19,20,21] rfl fun Qf C=>?_;go_wp2_with fail;first|refine C _ _ ⟨rfl,?_⟩|refine⟨rfl,?_⟩|refine C _ _ ⟨by simp [Reg.fineT,Reg.intOp,Region.wanted,yielded,Reg.intFine,Reg.isInt,Act.eval],?_⟩
     (try clear C);refine Reg.aI 18 [19,20,21] [] rfl fun Qf C=>?_;simp only [gT,gS,gZ];go_wp2_with (go_at_call 90;refine Calls.ret (DX _ _ _) ?_;rintro r w' ⟨⟨x,rfl,V⟩,rfl⟩);first|refine C _ _ ⟨Reg.nm,?_⟩|refine⟨Reg.nm,?_⟩
     (try clear C);have a2:=hide (show Aj id [Aa c.states n,x]=G from by
      simp only [Aj,id_eq,Bk];rw [<-U.out];unfold AV;congr 1;rw [V.out];congr 1;rw [<-ah.out,hq];simp;omega
     )
     obtain⟨wz,am,O,J,a3⟩:=Ae w6 #[.int .i64 (Aa c.states n),.int .i64 (x)] 40;have W:=hide (Ch (l:=[Aa c.states n,x]) J (by simp));have Z:=hide (M.out.trans (O.mono M.out.size));clear J a3 O;refine Reg.wI [19] [20,21] rfl fun Qf C=>?_;go_wp2_with fail;first|refine C _ _ ⟨rfl,?_⟩|refine⟨rfl,?_⟩|refine C _ _ ⟨by simp [Reg.fineT,Reg.intOp,Region.wanted,yielded,Reg.intFine,Reg.isInt,Act.eval],?_⟩
     (try clear C);refine Reg.aI 20 [21] [] rfl fun Qf C=>?_;simp only [gT,gS,gZ];go_wp2_with (go_at_call 89;refine(Ci (l:=[Aa c.states n,x]) W.out).mono ?_;rintro e w' ⟨rfl,rfl⟩;rw [a2.out]);first|refine C _ _ ⟨Reg.nm,?_⟩|refine⟨Reg.nm,?_⟩
     (try clear C);refine Reg.wI [21] [] rfl fun Qf C=>?_;go_wp2_with fail;first|refine C _ _ ⟨rfl,?_⟩|refine⟨rfl,?_⟩|refine C _ _ ⟨by simp [Reg.fineT,Reg.intOp,Region.wanted,yielded,Reg.intFine,Reg.isInt,Act.eval],?_⟩
     (try clear C);first|refine Reg.restI_end ?_|skip
     go_wp2_with fail;go_ret;exact⟨by rw [al.out];rfl,Z.out⟩
   ·have hq:((ns:Int)==0)=false:=af;clear af;by_cases F:G=0
    ·have ak:(G != 0)=false:=by simp [F]
     have aj:=hide (show Aj (AV n) (l.take (k+1))=0 from by rw [CD (AV n) ag.out hE.out,U.out,F]);clear F;go_wp2_with fail;refine Reg.cI [0,1,0,7,0,16,48,112,255,511,1023,2047,4095,8191,16383,32767,65535,131071,262143,524287,1048575,2097151] [0,1,2,4,5,6,7,3,8,9,10,11,12,13,14,15,16,17,18,19,20,21] ?_;refine Reg.wI [0,1,2,4,5,6,7] [3,8,9,10,11,12,13,14,15,16,17,18,19,20,21] rfl fun Qf C=>?_;go_wp2_with fail;first|refine C _ _ ⟨rfl,?_⟩|refine⟨rfl,?_⟩|refine C _ _ ⟨by simp [Reg.fineT,Reg.intOp,Region.wanted,yielded,Reg.intFine,Reg.isInt,Act.eval],?_⟩
     (try clear C);refine Reg.aI 3 [8,9,10,11,12,13,14,15,16,17,18,19,20,21] [5] rfl fun Qf C=>?_;simp only [gT,gS,gZ];go_wp2_with (go_at_call 88;refine Calls.ret (a9.out _ I.out) ?_;rintro v w6 ⟨rfl,E⟩);first|refine C _ _ ⟨Reg.same_below (E) [5] rfl,?_⟩|refine⟨Reg.same_below (E) [5] rfl,?_⟩
     (try clear C);have ai:=(ae.out.below ((Ap w5).trans E)).cell;have M:=hide (I.out.trans (E.mono I.out.size));clear E;refine Reg.wI [8,9,10,11,12,13,14,15,16,17] [18,19,20,21] rfl fun Qf C=>?_;go_wp2_with fail;first|refine C _ _ ⟨rfl,?_⟩|refine⟨rfl,?_⟩|refine C _ _ ⟨by simp [Reg.fineT,Reg.intOp,Region.wanted,yielded,Reg.intFine,Reg.isInt,Act.eval],?_⟩
     (try clear C);refine Reg.aI 18 [19,20,21] [] rfl fun Qf C=>?_;simp only [gT,gS,gZ];go_wp2_with (go_at_call 90;refine Calls.ret (DX _ _ _) ?_;rintro r w' ⟨⟨x,rfl,V⟩,rfl⟩);first|refine C _ _ ⟨Reg.nm,?_⟩|refine⟨Reg.nm,?_⟩
     (try clear C);have a2:=hide (show Aj id [Aa c.states n,x]=G from by
      simp only [Aj,id_eq,Bk];rw [<-U.out];unfold AV;congr 1;rw [V.out];congr 1;rw [<-ah.out,hq];rw [decide_eq_false (show ¬c.least<1 by omega),show decide (3<c.least)= !decide (c.least<=3) from by by_cases h3:c.least<=3 <;> simp [h3] <;> omega,decide_eq_true (show 1<=c.least by omega)];simp
     )
     obtain⟨wz,am,O,J,a3⟩:=Ae w6 #[.int .i64 (Aa c.states n),.int .i64 (x)] 40;have W:=hide (Ch (l:=[Aa c.states n,x]) J (by simp));have Z:=hide (M.out.trans (O.mono M.out.size));clear J a3 O;refine Reg.wI [19] [20,21] rfl fun Qf C=>?_;go_wp2_with fail;first|refine C _ _ ⟨rfl,?_⟩|refine⟨rfl,?_⟩|refine C _ _ ⟨by simp [Reg.fineT,Reg.intOp,Region.wanted,yielded,Reg.intFine,Reg.isInt,Act.eval],?_⟩
     (try clear C);refine Reg.aI 20 [21] [] rfl fun Qf C=>?_;simp only [gT,gS,gZ];go_wp2_with (go_at_call 89;refine(Ci (l:=[Aa c.states n,x]) W.out).mono ?_;rintro e w' ⟨rfl,rfl⟩;rw [a2.out]);first|refine C _ _ ⟨Reg.nm,?_⟩|refine⟨Reg.nm,?_⟩
     (try clear C);refine Reg.wI [21] [] rfl fun Qf C=>?_;go_wp2_with fail;first|refine C _ _ ⟨rfl,?_⟩|refine⟨rfl,?_⟩|refine C _ _ ⟨by simp [Reg.fineT,Reg.intOp,Region.wanted,yielded,Reg.intFine,Reg.isInt,Act.eval],?_⟩
     (try clear C);first|refine Reg.restI_end ?_|skip
     go_wp2_with fail;exact⟨⟨k+1,by go_num,by omega,Z.out,aj.out⟩,by simp [intOf];omega⟩
    ·have ak:(G != 0)=true:=by simp [F]
     have al:=hide (show Aj (AV n) l=G from by rw [Ct (AV n) ag.out hE.out (by rw [U.out];exact F),U.out]);clear F;go_wp2_with fail;refine Reg.cI [0,1,0,7,0,16,48,112,255,511,1023,2047,4095,8191,16383,32767,65535,131071,262143,524287,1048575,2097151] [0,1,2,4,5,6,7,3,8,9,10,11,12,13,14,15,16,17,18,19,20,21] ?_;refine Reg.wI [0,1,2,4,5,6,7] [3,8,9,10,11,12,13,14,15,16,17,18,19,20,21] rfl fun Qf C=>?_;go_wp2_with fail;first|refine C _ _ ⟨rfl,?_⟩|refine⟨rfl,?_⟩|refine C _ _ ⟨by simp [Reg.fineT,Reg.intOp,Region.wanted,yielded,Reg.intFine,Reg.isInt,Act.eval],?_⟩
     (try clear C);refine Reg.aI 3 [8,9,10,11,12,13,14,15,16,17,18,19,20,21] [5] rfl fun Qf C=>?_;simp only [gT,gS,gZ];go_wp2_with (go_at_call 88;refine Calls.ret (a9.out _ I.out) ?_;rintro v w6 ⟨rfl,E⟩);first|refine C _ _ ⟨Reg.same_below (E) [5] rfl,?_⟩|refine⟨Reg.same_below (E) [5] rfl,?_⟩
     (try clear C);have ai:=(ae.out.below ((Ap w5).trans E)).cell;have M:=hide (I.out.trans (E.mono I.out.size));clear E;refine Reg.wI [8,9,10,11,12,13,14,15,16,17] [18,19,20,21] rfl fun Qf C=>?_;go_wp2_with fail;first|refine C _ _ ⟨rfl,?_⟩|refine⟨rfl,?_⟩|refine C _ _ ⟨by simp [Reg.fineT,Reg.intOp,Region.wanted,yielded,Reg.intFine,Reg.isInt,Act.eval],?_⟩
     (try clear C);refine Reg.aI 18 [19,20,21] [] rfl fun Qf C=>?_;simp only [gT,gS,gZ];go_wp2_with (go_at_call 90;refine Calls.ret (DX _ _ _) ?_;rintro r w' ⟨⟨x,rfl,V⟩,rfl⟩);first|refine C _ _ ⟨Reg.nm,?_⟩|refine⟨Reg.nm,?_⟩
     (try clear C);have a2:=hide (show Aj id [Aa c.states n,x]=G from by
      simp only [Aj,id_eq,Bk];rw [<-U.out];unfold AV;congr 1;rw [V.out];congr 1;rw [<-ah.out,hq];rw [decide_eq_false (show ¬c.least<1 by omega),show decide (3<c.least)= !decide (c.least<=3) from by by_cases h3:c.least<=3 <;> simp [h3] <;> omega,decide_eq_true (show 1<=c.least by omega)];simp
     )
     obtain⟨wz,am,O,J,a3⟩:=Ae w6 #[.int .i64 (Aa c.states n),.int .i64 (x)] 40;have W:=hide (Ch (l:=[Aa c.states n,x]) J (by simp));have Z:=hide (M.out.trans (O.mono M.out.size));clear J a3 O;refine Reg.wI [19] [20,21] rfl fun Qf C=>?_;go_wp2_with fail;first|refine C _ _ ⟨rfl,?_⟩|refine⟨rfl,?_⟩|refine C _ _ ⟨by simp [Reg.fineT,Reg.intOp,Region.wanted,yielded,Reg.intFine,Reg.isInt,Act.eval],?_⟩
     (try clear C);refine Reg.aI 20 [21] [] rfl fun Qf C=>?_;simp only [gT,gS,gZ];go_wp2_with (go_at_call 89;refine(Ci (l:=[Aa c.states n,x]) W.out).mono ?_;rintro e w' ⟨rfl,rfl⟩;rw [a2.out]);first|refine C _ _ ⟨Reg.nm,?_⟩|refine⟨Reg.nm,?_⟩
     (try clear C);refine Reg.wI [21] [] rfl fun Qf C=>?_;go_wp2_with fail;first|refine C _ _ ⟨rfl,?_⟩|refine⟨rfl,?_⟩|refine C _ _ ⟨by simp [Reg.fineT,Reg.intOp,Region.wanted,yielded,Reg.intFine,Reg.isInt,Act.eval],?_⟩
     (try clear C);first|refine Reg.restI_end ?_|skip
     go_wp2_with fail;go_ret;exact⟨by rw [al.out];rfl,Z.out⟩
theorem L6 {w:World} {cs:List Value} {p:Am} {A:Option Addr} {cc:Nat} {l:List Int} (h:At w w.heap.size cs p) (M:Sl w w.heap.size 1 Ai A l):
  Calls Tryz.prog 92 #[.agg cs.toArray,.slice A l.length cc] w (Ret fun v w'=>v=.int .i64 (BA p.topo p.states.length l)/\Below w.heap.size w w'):=by
 obtain⟨A1,c1,A2,c2,A3,c3,A4,c4,A5,c5,A6,c6,A7,c7,aB,aT,az,aA,aU,aV,aW,aX,aY,aZ,b0,h1,F,h3,h4,h5,h6,h7,au⟩:=h.cells;have ax:=h1.1;have aS:=M.1;clear h h1 F h3 h4 h5 h6 h7 au;generalize cs.toArray=pc at*;obtain⟨ns,ab⟩:∃n,n=p.states.length:=⟨_,rfl⟩;obtain⟨kt,a9⟩:∃n,n=p.topo:=⟨_,rfl⟩;rw [<-ab] at aA ax ⊢;rw [<-a9] at az ⊢;clear ab a9 aB;obtain⟨V,b5,G,Z,av⟩:=Ae w pc 27;have aR:=Z.cell;have J:=hide G;have a5:=hide (G.trans ((Ap V).mono G.size));have O:=hide (M.keep (w':=V) (B':=w.heap.size) (fun _ hp=>G.cell hp) (Nat.le_refl _));clear Z av G M;by_cases h0:l.length=0
 ·have E:=hide (show BA kt ns l=0 by
   have:l=[]:=List.length_eq_zero_iff.1 h0;subst this;simp [BA,Ad,orE,Aj])
  have hq:((l.length:Int)==0)=true:=by simp [h0]
  generalize l.length=n at*;clear h0;go_enter Tryz.func92,Tryz.ntmps92;go_wp2_with fail;go_ret;exact⟨by rw [E.out];rfl,J.out⟩
 have aa:l.isEmpty=false:=by rw [Bv];exact decide_eq_false h0
 have U:=hide aa;clear aa;have hq:((l.length:Int)==0)=false:=by simp [h0]
 clear h0;by_cases ht:kt=1
 ·have E:=hide (show BA kt ns l=6 by
   unfold BA;rw [U.out,ht];rfl)
  have aC:(kt==1)=true:=by simp [ht]
  clear ht;generalize l.length=n at*;go_enter Tryz.func92,Tryz.ntmps92;go_wp2_with fail;go_ret;exact⟨by rw [E.out];rfl,J.out⟩
 have aC:(kt==1)=false:=by simp [ht]
 have ae:=hide ht;clear ht;by_cases F:l.length=2
 case neg=>
  have E:=hide (show BA kt ns l=1 by
   unfold BA;rw [U.out,decide_eq_false ae.out,decide_eq_false F];rfl)
  have b4:((l.length:Int) != 2)=true:=by
   have:((l.length:Int)==2)=false:=by
    simp;omega
   simp [bne,this]
  clear F;generalize l.length=n at*;go_enter Tryz.func92,Tryz.ntmps92;go_wp2_with fail;go_ret;exact⟨by rw [E.out];rfl,J.out⟩
 obtain⟨a,b,rfl⟩:∃a b,l=[a,b]:=by
  match l,F with
  | [a,b],_=>exact⟨a,b,rfl⟩
 obtain⟨bb,off,a',hA,aP,ha,a7⟩:=O.out.at (k:=0) (by simp);obtain⟨aL,b7,b',W,aQ,hb,a8⟩:=O.out.at (k:=1) (by simp);subst hA;have I:=Option.some.inj W;injection I with I e2 _
 subst I e2;obtain rfl:a=a':=by simpa using ha
 obtain rfl:b=b':=by simpa using hb
 have d0:=a7 0 (by omega);have d1:=a8 0 (by omega);simp only [Nat.add_zero,Nat.zero_mul,Nat.one_mul,Ai] at d0 d1;have E:=hide (show BA kt ns [a,b]=Aj id [AD a (ns:Int),AD b (ns:Int)] by
  unfold BA;rw [decide_eq_false ae.out];simp [Aj,Ad,orE,AD])
 clear a7 a8 W F ha hb O U;simp only [List.length_cons,List.length_nil] at hq ⊢;go_enter Tryz.func92,Tryz.ntmps92;go_wp2_with fail;refine Reg.cI [0,1,3,0,8,24,63,0,128,384,0,1024,3072,8191,16383,32767,65535] [0,1,2,3,4,5,7,8,9,10,11,12,6,13,14,15,16] ?_;refine Reg.wI [0,1,2,3,4,5,7,8,9,10,11,12] [6,13,14,15,16] rfl fun Qf C=>?_;go_wp2_with fail;first|refine C _ _ ⟨rfl,?_⟩|refine⟨rfl,?_⟩|refine C _ _ ⟨by simp [Reg.fineT,Reg.intOp,Region.wanted,yielded,Reg.intFine,Reg.isInt,Act.eval],?_⟩
 (try clear C);refine Reg.aI 6 [13,14,15,16] [9,11] rfl fun Qf C=>?_;simp only [gT,gS,gZ];go_wp2_with (go_at_call 145;refine(Cu _ _ _).mono ?_;rintro e w' ⟨rfl,rfl⟩);first|refine C _ _ ⟨Reg.same_below (Below.refl _ _) [9,11] rfl,?_⟩|refine⟨Reg.same_below (Below.refl _ _) [9,11] rfl,?_⟩
 (try clear C);refine Reg.aI 13 [14,15,16] [] rfl fun Qf C=>?_;simp only [gT,gS,gZ];go_wp2_with (go_at_call 145;refine(Cu _ _ _).mono ?_;rintro e w' ⟨rfl,rfl⟩);first|refine C _ _ ⟨Reg.nm,?_⟩|refine⟨Reg.nm,?_⟩
 (try clear C);obtain⟨wz,b6,a6,a2,aw⟩:=Ae V.drew #[.int .i64 (AD a (ns:Int)),.int .i64 (AD b (ns:Int))] 40;have aq:=hide (Ch (l:=[AD a (ns:Int),AD b (ns:Int)]) a2 (by simp));have ar:=hide (a5.out.trans (a6.mono a5.out.size));clear a2 aw a6;refine Reg.wI [14] [15,16] rfl fun Qf C=>?_;go_wp2_with fail;first|refine C _ _ ⟨rfl,?_⟩|refine⟨rfl,?_⟩|refine C _ _ ⟨by simp [Reg.fineT,Reg.intOp,Region.wanted,yielded,Reg.intFine,Reg.isInt,Act.eval],?_⟩
 (try clear C);refine Reg.aI 15 [16] [] rfl fun Qf C=>?_;simp only [gT,gS,gZ];go_wp2_with (go_at_call 89;refine(Ci (l:=[AD a (ns:Int),AD b (ns:Int)]) aq.out).mono ?_;rintro e w' ⟨rfl,rfl⟩);first|refine C _ _ ⟨Reg.nm,?_⟩|refine⟨Reg.nm,?_⟩
 (try clear C);refine Reg.wI [16] [] rfl fun Qf C=>?_;go_wp2_with fail;first|refine C _ _ ⟨rfl,?_⟩|refine⟨rfl,?_⟩|refine C _ _ ⟨by simp [Reg.fineT,Reg.intOp,Region.wanted,yielded,Reg.intFine,Reg.isInt,Act.eval],?_⟩
 (try clear C);first|refine Reg.restI_end ?_|skip
 go_wp2_with fail;go_ret;exact⟨by rw [E.out];rfl,ar.out⟩
end Go.Proofs.YtjejejmeddkciaaGreatDoor.K
namespace Go.Proofs.YtjejejmeddkciaaGreatDoor.K
open Go.RowKit
attribute [-go_sem] loadCellsFrom storeCells
theorem AW.cells {w:World} {B:Nat} {cs:List Value} {r:Az} (h:AW w B cs r):∃C c1 E c2 F c3 G O I U J V A7 c7 M W,
  (cs.toArray.size=18/\cs.toArray[0]?=some (.string r.name)/\cs.toArray[1]?=some (.int .i64 r.kind)/\cs.toArray[2]?=some (.int .i64 r.fr)/\cs.toArray[3]?=some (.int .i64 r.to)/\cs.toArray[4]?=some (.int .i64 r.pf)/\cs.toArray[5]?=some (.int .i64 r.pt)/\cs.toArray[6]?=some (.slice C r.resp.length c1)/\
   cs.toArray[7]?=some (.slice E r.guards.length c2)/\cs.toArray[8]?=some (.slice F r.ex.length c3)/\cs.toArray[9]?=some (.slice G r.fa.length O)/\cs.toArray[10]?=some (.int .i64 r.rd)/\cs.toArray[11]?=some (.int .i64 r.wr)/\cs.toArray[12]?=some (.slice I r.send.length U)/\
   cs.toArray[13]?=some (.int .i64 r.at_)/\cs.toArray[14]?=some (.slice J r.left.length V)/\cs.toArray[15]?=some (.slice A7 r.right.length c7)/\cs.toArray[16]?=some (.slice M r.parent.length W)/\cs.toArray[17]?=some (.int .i64 r.dir))/\
  (Sl w B 1 Ai C r.resp/\Sl w B 6 CS E r.guards/\Sl w B 1 Ai F r.ex/\Sl w B 1 Ai G r.fa/\Sl w B 1 Ai I r.send/\Sl w B 1 Ai J r.left/\Sl w B 1 Ai A7 r.right/\Sl w B 1 Ai M r.parent):=by
 obtain⟨C,c1,E,c2,F,c3,G,O,I,U,J,V,A7,c7,M,W,rfl,h1⟩:=h;exact⟨C,c1,E,c2,F,c3,G,O,I,U,J,V,A7,c7,M,W,⟨rfl,rfl,rfl,rfl,rfl,rfl,rfl,rfl,rfl,rfl,rfl,rfl,rfl,rfl,rfl,rfl,rfl,rfl,rfl⟩,h1⟩
def unV (k1 k2 k3 k4 k5 t4:Bool) (ng ne nf nd nl nt np nr:Nat) (rd wr pf pt at_ dir:Int):Bool:=
 (!k1&&(decide (0<ng)||decide (0<ne)||decide (0<nf)||decide (0<nd)))||
 ((!k1&&!k2&&!k3)&&(!decide (rd= -1)||!decide (wr= -1)))||
 ((!k2&&!k5)&&(!decide (pf=0)||!decide (pt=0)))||
 (!k3&&decide (0<nr))||(!k5&&!decide (dir=0))||
 (!k4&&(!decide (at_=0)||decide (0<nl)||decide (0<nt)))||
 (decide (0<np)&&!(k4&&t4))
theorem Rd {A:Type} (l:List A):(!l.isEmpty)=decide (0<l.length):=by cases l <;> simp
theorem FC (topo:Int) (r:Az):B9 topo r=unV (decide (r.kind=1)) (decide (r.kind=2)) (decide (r.kind=3)) (decide (r.kind=4)) (decide (r.kind=5)) (decide (topo=4)) r.guards.length r.ex.length r.fa.length r.send.length r.left.length r.right.length r.parent.length r.resp.length r.rd r.wr r.pf r.pt r.at_ r.dir:=by
 unfold B9 unV;simp only [Rd]
theorem EU {w:World} {B:Nat} {cs:List Value} {p:Am} (h:At w B cs p):∃C c1 E c2 F c3 G M I O J U A7 c7,
  cs.toArray.size=10/\cs.toArray[0]?=some (.string p.name)/\cs.toArray[1]?=some (.int .i64 p.topo)/\cs.toArray[2]?=some (.slice C p.states.length c1)/\cs.toArray[3]?=some (.slice E p.messages.length c2)/\
  cs.toArray[4]?=some (.slice F p.values.length c3)/\cs.toArray[5]?=some (.int .i64 p.fault)/\cs.toArray[6]?=some (.slice G p.res.length M)/\cs.toArray[7]?=some (.slice I p.initial.length O)/\cs.toArray[8]?=some (.slice J p.leader.length U)/\cs.toArray[9]?=some (.slice A7 p.rules.length c7):=by
 obtain⟨C,c1,E,c2,F,c3,G,M,I,O,J,U,A7,c7,rfl,_⟩:=h;exact⟨C,c1,E,c2,F,c3,G,M,I,O,J,U,A7,c7,rfl,rfl,rfl,rfl,rfl,rfl,rfl,rfl,rfl,rfl,rfl⟩
theorem TP {w:World} {cs ds:List Value} {p:Am} {r:Az} (h:At w w.heap.size cs p) (h':AW w w.heap.size ds r) (hs:r.Small) (E:Hid (r.kind=1)):
  Calls Tryz.prog 188 #[.agg cs.toArray,.agg ds.toArray] w (Ret fun v w'=>v=.bool (B9 p.topo r)/\Below w.heap.size w w'):=by
 obtain⟨A1,c1,A2,c2,A3,c3,A4,c4,A5,c5,A6,c6,A7,c7,aL,aK,ad,-⟩:=EU h;obtain⟨E1,f1,E2,f2,E3,f3,E4,f4,E5,f5,E6,f6,E7,f7,E8,f8,⟨aP,aM,ag,aN,aO,ap,aq,ar,au,av,aw,ah,ai,aj,ak,al,am,an,ao⟩,-⟩:=h'.cells;obtain⟨aR,aS,aT,aU,aV,aW,aX,aY⟩:=hs;have C:=FC p.topo r;obtain⟨w1,aZ,I,a5,aH⟩:=Ae w cs.toArray 27;obtain⟨w2,b0,J,a6,aJ⟩:=Ae w1 ds.toArray 109;have a8:=hide (I.trans (J.mono I.size));have aE:=hide (a8.out.trans ((Ap w2).mono a8.out.size));have aF:=(a5.below J).cell;have aG:=a6.cell;generalize cs.toArray=pc at*;generalize ds.toArray=rc at*;obtain⟨ng,V⟩:∃n,n=r.guards.length:=⟨_,rfl⟩;rw [<-V] at C;obtain⟨ne,O⟩:∃n,n=r.ex.length:=⟨_,rfl⟩;rw [<-O] at C;obtain⟨nf,U⟩:∃n,n=r.fa.length:=⟨_,rfl⟩;rw [<-U] at C;obtain⟨nd,M⟩:∃n,n=r.send.length:=⟨_,rfl⟩;rw [<-M] at C;obtain⟨nl,W⟩:∃n,n=r.left.length:=⟨_,rfl⟩;rw [<-W] at C;obtain⟨nt,a3⟩:∃n,n=r.right.length:=⟨_,rfl⟩;rw [<-a3] at C;obtain⟨np,Z⟩:∃n,n=r.parent.length:=⟨_,rfl⟩;rw [<-Z] at C;obtain⟨nr,a2⟩:∃n,n=r.resp.length:=⟨_,rfl⟩;rw [<-a2] at C;rw [<-V] at au aS;rw [<-O] at av aT;rw [<-U] at aw aU;rw [<-M] at aj aV;rw [<-W] at al aW;rw [<-a3] at am aX;rw [<-Z] at an aY;rw [<-a2] at ar aR;obtain⟨rd,ax⟩:∃n,n=r.rd:=⟨_,rfl⟩;rw [<-ax] at C ah;obtain⟨wr,az⟩:∃n,n=r.wr:=⟨_,rfl⟩;rw [<-az] at C ai;obtain⟨pf,ae⟩:∃n,n=r.pf:=⟨_,rfl⟩;rw [<-ae] at C ap;obtain⟨pt,af⟩:∃n,n=r.pt:=⟨_,rfl⟩;rw [<-af] at C aq;obtain⟨ta,ay⟩:∃n,n=r.at_:=⟨_,rfl⟩;rw [<-ay] at C ak;obtain⟨di,a9⟩:∃n,n=r.dir:=⟨_,rfl⟩;rw [<-a9] at C ao;obtain⟨kt,ab⟩:∃n,n=p.topo:=⟨_,rfl⟩;rw [<-ab] at C ad ⊢;obtain⟨F,aa⟩:∃n,n=r.kind:=⟨_,rfl⟩;rw [<-aa] at C ag E;have q1:(F==1)=true:=by rw [E.out];rfl
 have q2:(F==2)=false:=by rw [E.out];rfl
 have q3:(F==3)=false:=by rw [E.out];rfl
 have q4:(F==4)=false:=by rw [E.out];rfl
 have q5:(F==5)=false:=by rw [E.out];rfl
 have y1:decide (F=1)=true:=by rw [E.out];rfl
 have y2:decide (F=2)=false:=by rw [E.out];rfl
 have y3:decide (F=3)=false:=by rw [E.out];rfl
 have y4:decide (F=4)=false:=by rw [E.out];rfl
 have y5:decide (F=5)=false:=by rw [E.out];rfl
 rw [y1,y2,y3,y4,y5] at C;have a7:=hide C;clear V O U M W a3 Z a2 ax az ae af ay a9 ab aa C y1 y2 y3 y4 y5 I J a5 a6 aH aJ aL aP aK aM aN aO;go_enter Tryz.func188,Tryz.ntmps188;go_wp2_with fail;refine Reg.cI [0,1,3,0,8,24,0,64,192,0,512,1536,0,4096,12288,7,32831,98815,233471,524287] [0,1,2,3,4,5,6,7,8,9,10,11,12,13,14,15,16,17,18,19] ?_;refine Reg.wI [0,1,2,3,4,5,6,7,8,9,10,11,12,13,14,15,16,17,18,19] [] rfl fun Qf G=>?_;go_wp2_with fail;first|refine G _ _ ⟨rfl,?_⟩|refine⟨rfl,?_⟩|refine G _ _ ⟨by simp [Reg.fineT,Reg.intOp,Region.wanted,yielded,Reg.intFine,Reg.isInt,Act.eval],?_⟩
 (try clear G);first|refine Reg.restI_end ?_|skip
 go_wp2_with fail
 all_goals
  go_ret;refine⟨?_,aE.out⟩;rw [a7.out];refine congrArg Value.bool ?_;clear q1 q2 q3 q4 q5 a7 aF aG aZ b0 h h' ad ag ap aq ar au av aw ah ai aj ak al am an ao;unfold unV
  first
   | (simp_all;done)
   | (simp_all;omega)
   | (by_cases h4:kt=4 <;> simp_all;done)
   | (by_cases h4:kt=4 <;> simp_all <;> omega)
theorem TQ {w:World} {cs ds:List Value} {p:Am} {r:Az} (h:At w w.heap.size cs p) (h':AW w w.heap.size ds r) (hs:r.Small) (E:Hid (r.kind=2)):
  Calls Tryz.prog 188 #[.agg cs.toArray,.agg ds.toArray] w (Ret fun v w'=>v=.bool (B9 p.topo r)/\Below w.heap.size w w'):=by
 obtain⟨A1,c1,A2,c2,A3,c3,A4,c4,A5,c5,A6,c6,A7,c7,aL,aK,ad,-⟩:=EU h;obtain⟨E1,f1,E2,f2,E3,f3,E4,f4,E5,f5,E6,f6,E7,f7,E8,f8,⟨aP,aM,ag,aN,aO,ap,aq,ar,au,av,aw,ah,ai,aj,ak,al,am,an,ao⟩,-⟩:=h'.cells;obtain⟨aR,aS,aT,aU,aV,aW,aX,aY⟩:=hs;have C:=FC p.topo r;obtain⟨w1,aZ,I,a5,aH⟩:=Ae w cs.toArray 27;obtain⟨w2,b0,J,a6,aJ⟩:=Ae w1 ds.toArray 109;have a8:=hide (I.trans (J.mono I.size));have aE:=hide (a8.out.trans ((Ap w2).mono a8.out.size));have aF:=(a5.below J).cell;have aG:=a6.cell;generalize cs.toArray=pc at*;generalize ds.toArray=rc at*;obtain⟨ng,V⟩:∃n,n=r.guards.length:=⟨_,rfl⟩;rw [<-V] at C;obtain⟨ne,O⟩:∃n,n=r.ex.length:=⟨_,rfl⟩;rw [<-O] at C;obtain⟨nf,U⟩:∃n,n=r.fa.length:=⟨_,rfl⟩;rw [<-U] at C;obtain⟨nd,M⟩:∃n,n=r.send.length:=⟨_,rfl⟩;rw [<-M] at C;obtain⟨nl,W⟩:∃n,n=r.left.length:=⟨_,rfl⟩;rw [<-W] at C;obtain⟨nt,a3⟩:∃n,n=r.right.length:=⟨_,rfl⟩;rw [<-a3] at C;obtain⟨np,Z⟩:∃n,n=r.parent.length:=⟨_,rfl⟩;rw [<-Z] at C;obtain⟨nr,a2⟩:∃n,n=r.resp.length:=⟨_,rfl⟩;rw [<-a2] at C;rw [<-V] at au aS;rw [<-O] at av aT;rw [<-U] at aw aU;rw [<-M] at aj aV;rw [<-W] at al aW;rw [<-a3] at am aX;rw [<-Z] at an aY;rw [<-a2] at ar aR;obtain⟨rd,ax⟩:∃n,n=r.rd:=⟨_,rfl⟩;rw [<-ax] at C ah;obtain⟨wr,az⟩:∃n,n=r.wr:=⟨_,rfl⟩;rw [<-az] at C ai;obtain⟨pf,ae⟩:∃n,n=r.pf:=⟨_,rfl⟩;rw [<-ae] at C ap;obtain⟨pt,af⟩:∃n,n=r.pt:=⟨_,rfl⟩;rw [<-af] at C aq;obtain⟨ta,ay⟩:∃n,n=r.at_:=⟨_,rfl⟩;rw [<-ay] at C ak;obtain⟨di,a9⟩:∃n,n=r.dir:=⟨_,rfl⟩;rw [<-a9] at C ao;obtain⟨kt,ab⟩:∃n,n=p.topo:=⟨_,rfl⟩;rw [<-ab] at C ad ⊢;obtain⟨F,aa⟩:∃n,n=r.kind:=⟨_,rfl⟩;rw [<-aa] at C ag E;have q1:(F==1)=false:=by rw [E.out];rfl
 have q2:(F==2)=true:=by rw [E.out];rfl
 have q3:(F==3)=false:=by rw [E.out];rfl
 have q4:(F==4)=false:=by rw [E.out];rfl
 have q5:(F==5)=false:=by rw [E.out];rfl
 have y1:decide (F=1)=false:=by rw [E.out];rfl
 have y2:decide (F=2)=true:=by rw [E.out];rfl
 have y3:decide (F=3)=false:=by rw [E.out];rfl
 have y4:decide (F=4)=false:=by rw [E.out];rfl
 have y5:decide (F=5)=false:=by rw [E.out];rfl
 rw [y1,y2,y3,y4,y5] at C;have a7:=hide C;clear V O U M W a3 Z a2 ax az ae af ay a9 ab aa C y1 y2 y3 y4 y5 I J a5 a6 aH aJ aL aP aK aM aN aO;go_enter Tryz.func188,Tryz.ntmps188;go_wp2_with fail;refine Reg.cI [0,1,3,0,8,24,0,64,192,0,512,1536,0,4096,12288,7,32831,98815,233471,524287] [0,1,2,3,4,5,6,7,8,9,10,11,12,13,14,15,16,17,18,19] ?_;refine Reg.wI [0,1,2,3,4,5,6,7,8,9,10,11,12,13,14,15,16,17,18,19] [] rfl fun Qf G=>?_;go_wp2_with fail;first|refine G _ _ ⟨rfl,?_⟩|refine⟨rfl,?_⟩|refine G _ _ ⟨by simp [Reg.fineT,Reg.intOp,Region.wanted,yielded,Reg.intFine,Reg.isInt,Act.eval],?_⟩
 (try clear G);first|refine Reg.restI_end ?_|skip
 go_wp2_with fail
 all_goals
  go_ret;refine⟨?_,aE.out⟩;rw [a7.out];refine congrArg Value.bool ?_;clear q1 q2 q3 q4 q5 a7 aF aG aZ b0 h h' ad ag ap aq ar au av aw ah ai aj ak al am an ao;unfold unV
  first
   | (simp_all;done)
   | (simp_all;omega)
   | (by_cases h4:kt=4 <;> simp_all;done)
   | (by_cases h4:kt=4 <;> simp_all <;> omega)
theorem TS {w:World} {cs ds:List Value} {p:Am} {r:Az} (h:At w w.heap.size cs p) (h':AW w w.heap.size ds r) (hs:r.Small) (E:Hid (r.kind=3)):
  Calls Tryz.prog 188 #[.agg cs.toArray,.agg ds.toArray] w (Ret fun v w'=>v=.bool (B9 p.topo r)/\Below w.heap.size w w'):=by
 obtain⟨A1,c1,A2,c2,A3,c3,A4,c4,A5,c5,A6,c6,A7,c7,aL,aK,ad,-⟩:=EU h;obtain⟨E1,f1,E2,f2,E3,f3,E4,f4,E5,f5,E6,f6,E7,f7,E8,f8,⟨aP,aM,ag,aN,aO,ap,aq,ar,au,av,aw,ah,ai,aj,ak,al,am,an,ao⟩,-⟩:=h'.cells;obtain⟨aR,aS,aT,aU,aV,aW,aX,aY⟩:=hs;have C:=FC p.topo r;obtain⟨w1,aZ,I,a5,aH⟩:=Ae w cs.toArray 27;obtain⟨w2,b0,J,a6,aJ⟩:=Ae w1 ds.toArray 109;have a8:=hide (I.trans (J.mono I.size));have aE:=hide (a8.out.trans ((Ap w2).mono a8.out.size));have aF:=(a5.below J).cell;have aG:=a6.cell;generalize cs.toArray=pc at*;generalize ds.toArray=rc at*;obtain⟨ng,V⟩:∃n,n=r.guards.length:=⟨_,rfl⟩;rw [<-V] at C;obtain⟨ne,O⟩:∃n,n=r.ex.length:=⟨_,rfl⟩;rw [<-O] at C;obtain⟨nf,U⟩:∃n,n=r.fa.length:=⟨_,rfl⟩;rw [<-U] at C;obtain⟨nd,M⟩:∃n,n=r.send.length:=⟨_,rfl⟩;rw [<-M] at C;obtain⟨nl,W⟩:∃n,n=r.left.length:=⟨_,rfl⟩;rw [<-W] at C;obtain⟨nt,a3⟩:∃n,n=r.right.length:=⟨_,rfl⟩;rw [<-a3] at C;obtain⟨np,Z⟩:∃n,n=r.parent.length:=⟨_,rfl⟩;rw [<-Z] at C;obtain⟨nr,a2⟩:∃n,n=r.resp.length:=⟨_,rfl⟩;rw [<-a2] at C;rw [<-V] at au aS;rw [<-O] at av aT;rw [<-U] at aw aU;rw [<-M] at aj aV;rw [<-W] at al aW;rw [<-a3] at am aX;rw [<-Z] at an aY;rw [<-a2] at ar aR;obtain⟨rd,ax⟩:∃n,n=r.rd:=⟨_,rfl⟩;rw [<-ax] at C ah;obtain⟨wr,az⟩:∃n,n=r.wr:=⟨_,rfl⟩;rw [<-az] at C ai;obtain⟨pf,ae⟩:∃n,n=r.pf:=⟨_,rfl⟩;rw [<-ae] at C ap;obtain⟨pt,af⟩:∃n,n=r.pt:=⟨_,rfl⟩;rw [<-af] at C aq;obtain⟨ta,ay⟩:∃n,n=r.at_:=⟨_,rfl⟩;rw [<-ay] at C ak;obtain⟨di,a9⟩:∃n,n=r.dir:=⟨_,rfl⟩;rw [<-a9] at C ao;obtain⟨kt,ab⟩:∃n,n=p.topo:=⟨_,rfl⟩;rw [<-ab] at C ad ⊢;obtain⟨F,aa⟩:∃n,n=r.kind:=⟨_,rfl⟩;rw [<-aa] at C ag E;have q1:(F==1)=false:=by rw [E.out];rfl
 have q2:(F==2)=false:=by rw [E.out];rfl
 have q3:(F==3)=true:=by rw [E.out];rfl
 have q4:(F==4)=false:=by rw [E.out];rfl
 have q5:(F==5)=false:=by rw [E.out];rfl
 have y1:decide (F=1)=false:=by rw [E.out];rfl
 have y2:decide (F=2)=false:=by rw [E.out];rfl
 have y3:decide (F=3)=true:=by rw [E.out];rfl
 have y4:decide (F=4)=false:=by rw [E.out];rfl
 have y5:decide (F=5)=false:=by rw [E.out];rfl
 rw [y1,y2,y3,y4,y5] at C;have a7:=hide C;clear V O U M W a3 Z a2 ax az ae af ay a9 ab aa C y1 y2 y3 y4 y5 I J a5 a6 aH aJ aL aP aK aM aN aO;go_enter Tryz.func188,Tryz.ntmps188;go_wp2_with fail;refine Reg.cI [0,1,3,0,8,24,0,64,192,0,512,1536,0,4096,12288,7,32831,98815,233471,524287] [0,1,2,3,4,5,6,7,8,9,10,11,12,13,14,15,16,17,18,19] ?_;refine Reg.wI [0,1,2,3,4,5,6,7,8,9,10,11,12,13,14,15,16,17,18,19] [] rfl fun Qf G=>?_;go_wp2_with fail;first|refine G _ _ ⟨rfl,?_⟩|refine⟨rfl,?_⟩|refine G _ _ ⟨by simp [Reg.fineT,Reg.intOp,Region.wanted,yielded,Reg.intFine,Reg.isInt,Act.eval],?_⟩
 (try clear G);first|refine Reg.restI_end ?_|skip
 go_wp2_with fail
 all_goals
  go_ret;refine⟨?_,aE.out⟩;rw [a7.out];refine congrArg Value.bool ?_;clear q1 q2 q3 q4 q5 a7 aF aG aZ b0 h h' ad ag ap aq ar au av aw ah ai aj ak al am an ao;unfold unV
  first
   | (simp_all;done)
   | (simp_all;omega)
   | (by_cases h4:kt=4 <;> simp_all;done)
   | (by_cases h4:kt=4 <;> simp_all <;> omega)
theorem TT {w:World} {cs ds:List Value} {p:Am} {r:Az} (h:At w w.heap.size cs p) (h':AW w w.heap.size ds r) (hs:r.Small) (E:Hid (r.kind=4)):
  Calls Tryz.prog 188 #[.agg cs.toArray,.agg ds.toArray] w (Ret fun v w'=>v=.bool (B9 p.topo r)/\Below w.heap.size w w'):=by
 obtain⟨A1,c1,A2,c2,A3,c3,A4,c4,A5,c5,A6,c6,A7,c7,aL,aK,ad,-⟩:=EU h;obtain⟨E1,f1,E2,f2,E3,f3,E4,f4,E5,f5,E6,f6,E7,f7,E8,f8,⟨aP,aM,ag,aN,aO,ap,aq,ar,au,av,aw,ah,ai,aj,ak,al,am,an,ao⟩,-⟩:=h'.cells;obtain⟨aR,aS,aT,aU,aV,aW,aX,aY⟩:=hs;have C:=FC p.topo r;obtain⟨w1,aZ,I,a5,aH⟩:=Ae w cs.toArray 27;obtain⟨w2,b0,J,a6,aJ⟩:=Ae w1 ds.toArray 109;have a8:=hide (I.trans (J.mono I.size));have aE:=hide (a8.out.trans ((Ap w2).mono a8.out.size));have aF:=(a5.below J).cell;have aG:=a6.cell;generalize cs.toArray=pc at*;generalize ds.toArray=rc at*;obtain⟨ng,V⟩:∃n,n=r.guards.length:=⟨_,rfl⟩;rw [<-V] at C;obtain⟨ne,O⟩:∃n,n=r.ex.length:=⟨_,rfl⟩;rw [<-O] at C;obtain⟨nf,U⟩:∃n,n=r.fa.length:=⟨_,rfl⟩;rw [<-U] at C;obtain⟨nd,M⟩:∃n,n=r.send.length:=⟨_,rfl⟩;rw [<-M] at C;obtain⟨nl,W⟩:∃n,n=r.left.length:=⟨_,rfl⟩;rw [<-W] at C;obtain⟨nt,a3⟩:∃n,n=r.right.length:=⟨_,rfl⟩;rw [<-a3] at C;obtain⟨np,Z⟩:∃n,n=r.parent.length:=⟨_,rfl⟩;rw [<-Z] at C;obtain⟨nr,a2⟩:∃n,n=r.resp.length:=⟨_,rfl⟩;rw [<-a2] at C;rw [<-V] at au aS;rw [<-O] at av aT;rw [<-U] at aw aU;rw [<-M] at aj aV;rw [<-W] at al aW;rw [<-a3] at am aX;rw [<-Z] at an aY;rw [<-a2] at ar aR;obtain⟨rd,ax⟩:∃n,n=r.rd:=⟨_,rfl⟩;rw [<-ax] at C ah;obtain⟨wr,az⟩:∃n,n=r.wr:=⟨_,rfl⟩;rw [<-az] at C ai;obtain⟨pf,ae⟩:∃n,n=r.pf:=⟨_,rfl⟩;rw [<-ae] at C ap;obtain⟨pt,af⟩:∃n,n=r.pt:=⟨_,rfl⟩;rw [<-af] at C aq;obtain⟨ta,ay⟩:∃n,n=r.at_:=⟨_,rfl⟩;rw [<-ay] at C ak;obtain⟨di,a9⟩:∃n,n=r.dir:=⟨_,rfl⟩;rw [<-a9] at C ao;obtain⟨kt,ab⟩:∃n,n=p.topo:=⟨_,rfl⟩;rw [<-ab] at C ad ⊢;obtain⟨F,aa⟩:∃n,n=r.kind:=⟨_,rfl⟩;rw [<-aa] at C ag E;have q1:(F==1)=false:=by rw [E.out];rfl
 have q2:(F==2)=false:=by rw [E.out];rfl
 have q3:(F==3)=false:=by rw [E.out];rfl
 have q4:(F==4)=true:=by rw [E.out];rfl
 have q5:(F==5)=false:=by rw [E.out];rfl
 have y1:decide (F=1)=false:=by rw [E.out];rfl
 have y2:decide (F=2)=false:=by rw [E.out];rfl
 have y3:decide (F=3)=false:=by rw [E.out];rfl
 have y4:decide (F=4)=true:=by rw [E.out];rfl
 have y5:decide (F=5)=false:=by rw [E.out];rfl
 rw [y1,y2,y3,y4,y5] at C;have a7:=hide C;clear V O U M W a3 Z a2 ax az ae af ay a9 ab aa C y1 y2 y3 y4 y5 I J a5 a6 aH aJ aL aP aK aM aN aO;go_enter Tryz.func188,Tryz.ntmps188;go_wp2_with fail;refine Reg.cI [0,1,3,0,8,24,0,64,192,0,512,1536,0,4096,12288,7,32831,98815,233471,524287] [0,1,2,3,4,5,6,7,8,9,10,11,12,13,14,15,16,17,18,19] ?_;refine Reg.wI [0,1,2,3,4,5,6,7,8,9,10,11,12,13,14,15,16,17,18,19] [] rfl fun Qf G=>?_;go_wp2_with fail;first|refine G _ _ ⟨rfl,?_⟩|refine⟨rfl,?_⟩|refine G _ _ ⟨by simp [Reg.fineT,Reg.intOp,Region.wanted,yielded,Reg.intFine,Reg.isInt,Act.eval],?_⟩
 (try clear G);first|refine Reg.restI_end ?_|skip
 go_wp2_with fail
 all_goals
  go_ret;refine⟨?_,aE.out⟩;rw [a7.out];refine congrArg Value.bool ?_;clear q1 q2 q3 q4 q5 a7 aF aG aZ b0 h h' ad ag ap aq ar au av aw ah ai aj ak al am an ao;unfold unV
  first
   | (simp_all;done)
   | (simp_all;omega)
   | (by_cases h4:kt=4 <;> simp_all;done)
   | (by_cases h4:kt=4 <;> simp_all <;> omega)
theorem TU {w:World} {cs ds:List Value} {p:Am} {r:Az} (h:At w w.heap.size cs p) (h':AW w w.heap.size ds r) (hs:r.Small) (E:Hid (r.kind=5)):
  Calls Tryz.prog 188 #[.agg cs.toArray,.agg ds.toArray] w (Ret fun v w'=>v=.bool (B9 p.topo r)/\Below w.heap.size w w'):=by
 obtain⟨A1,c1,A2,c2,A3,c3,A4,c4,A5,c5,A6,c6,A7,c7,aL,aK,ad,-⟩:=EU h;obtain⟨E1,f1,E2,f2,E3,f3,E4,f4,E5,f5,E6,f6,E7,f7,E8,f8,⟨aP,aM,ag,aN,aO,ap,aq,ar,au,av,aw,ah,ai,aj,ak,al,am,an,ao⟩,-⟩:=h'.cells;obtain⟨aR,aS,aT,aU,aV,aW,aX,aY⟩:=hs;have C:=FC p.topo r;obtain⟨w1,aZ,I,a5,aH⟩:=Ae w cs.toArray 27;obtain⟨w2,b0,J,a6,aJ⟩:=Ae w1 ds.toArray 109;have a8:=hide (I.trans (J.mono I.size));have aE:=hide (a8.out.trans ((Ap w2).mono a8.out.size));have aF:=(a5.below J).cell;have aG:=a6.cell;generalize cs.toArray=pc at*;generalize ds.toArray=rc at*;obtain⟨ng,V⟩:∃n,n=r.guards.length:=⟨_,rfl⟩;rw [<-V] at C;obtain⟨ne,O⟩:∃n,n=r.ex.length:=⟨_,rfl⟩;rw [<-O] at C;obtain⟨nf,U⟩:∃n,n=r.fa.length:=⟨_,rfl⟩;rw [<-U] at C;obtain⟨nd,M⟩:∃n,n=r.send.length:=⟨_,rfl⟩;rw [<-M] at C;obtain⟨nl,W⟩:∃n,n=r.left.length:=⟨_,rfl⟩;rw [<-W] at C;obtain⟨nt,a3⟩:∃n,n=r.right.length:=⟨_,rfl⟩;rw [<-a3] at C;obtain⟨np,Z⟩:∃n,n=r.parent.length:=⟨_,rfl⟩;rw [<-Z] at C;obtain⟨nr,a2⟩:∃n,n=r.resp.length:=⟨_,rfl⟩;rw [<-a2] at C;rw [<-V] at au aS;rw [<-O] at av aT;rw [<-U] at aw aU;rw [<-M] at aj aV;rw [<-W] at al aW;rw [<-a3] at am aX;rw [<-Z] at an aY;rw [<-a2] at ar aR;obtain⟨rd,ax⟩:∃n,n=r.rd:=⟨_,rfl⟩;rw [<-ax] at C ah;obtain⟨wr,az⟩:∃n,n=r.wr:=⟨_,rfl⟩;rw [<-az] at C ai;obtain⟨pf,ae⟩:∃n,n=r.pf:=⟨_,rfl⟩;rw [<-ae] at C ap;obtain⟨pt,af⟩:∃n,n=r.pt:=⟨_,rfl⟩;rw [<-af] at C aq;obtain⟨ta,ay⟩:∃n,n=r.at_:=⟨_,rfl⟩;rw [<-ay] at C ak;obtain⟨di,a9⟩:∃n,n=r.dir:=⟨_,rfl⟩;rw [<-a9] at C ao;obtain⟨kt,ab⟩:∃n,n=p.topo:=⟨_,rfl⟩;rw [<-ab] at C ad ⊢;obtain⟨F,aa⟩:∃n,n=r.kind:=⟨_,rfl⟩;rw [<-aa] at C ag E;have q1:(F==1)=false:=by rw [E.out];rfl
 have q2:(F==2)=false:=by rw [E.out];rfl
 have q3:(F==3)=false:=by rw [E.out];rfl
 have q4:(F==4)=false:=by rw [E.out];rfl
 have q5:(F==5)=true:=by rw [E.out];rfl
 have y1:decide (F=1)=false:=by rw [E.out];rfl
 have y2:decide (F=2)=false:=by rw [E.out];rfl
 have y3:decide (F=3)=false:=by rw [E.out];rfl
 have y4:decide (F=4)=false:=by rw [E.out];rfl
 have y5:decide (F=5)=true:=by rw [E.out];rfl
 rw [y1,y2,y3,y4,y5] at C;have a7:=hide C;clear V O U M W a3 Z a2 ax az ae af ay a9 ab aa C y1 y2 y3 y4 y5 I J a5 a6 aH aJ aL aP aK aM aN aO;go_enter Tryz.func188,Tryz.ntmps188;go_wp2_with fail;refine Reg.cI [0,1,3,0,8,24,0,64,192,0,512,1536,0,4096,12288,7,32831,98815,233471,524287] [0,1,2,3,4,5,6,7,8,9,10,11,12,13,14,15,16,17,18,19] ?_;refine Reg.wI [0,1,2,3,4,5,6,7,8,9,10,11,12,13,14,15,16,17,18,19] [] rfl fun Qf G=>?_;go_wp2_with fail;first|refine G _ _ ⟨rfl,?_⟩|refine⟨rfl,?_⟩|refine G _ _ ⟨by simp [Reg.fineT,Reg.intOp,Region.wanted,yielded,Reg.intFine,Reg.isInt,Act.eval],?_⟩
 (try clear G);first|refine Reg.restI_end ?_|skip
 go_wp2_with fail
 all_goals
  go_ret;refine⟨?_,aE.out⟩;rw [a7.out];refine congrArg Value.bool ?_;clear q1 q2 q3 q4 q5 a7 aF aG aZ b0 h h' ad ag ap aq ar au av aw ah ai aj ak al am an ao;unfold unV
  first
   | (simp_all;done)
   | (simp_all;omega)
   | (by_cases h4:kt=4 <;> simp_all;done)
   | (by_cases h4:kt=4 <;> simp_all <;> omega)
theorem TO {w:World} {cs ds:List Value} {p:Am} {r:Az} (h:At w w.heap.size cs p) (h':AW w w.heap.size ds r) (hs:r.Small) (E:Hid (r.kind≠1/\r.kind≠2/\r.kind≠3/\r.kind≠4/\r.kind≠5)):
  Calls Tryz.prog 188 #[.agg cs.toArray,.agg ds.toArray] w (Ret fun v w'=>v=.bool (B9 p.topo r)/\Below w.heap.size w w'):=by
 obtain⟨A1,c1,A2,c2,A3,c3,A4,c4,A5,c5,A6,c6,A7,c7,aL,aK,ad,-⟩:=EU h;obtain⟨E1,f1,E2,f2,E3,f3,E4,f4,E5,f5,E6,f6,E7,f7,E8,f8,⟨aP,aM,ag,aN,aO,ap,aq,ar,au,av,aw,ah,ai,aj,ak,al,am,an,ao⟩,-⟩:=h'.cells;obtain⟨aR,aS,aT,aU,aV,aW,aX,aY⟩:=hs;have C:=FC p.topo r;obtain⟨w1,aZ,I,a5,aH⟩:=Ae w cs.toArray 27;obtain⟨w2,b0,J,a6,aJ⟩:=Ae w1 ds.toArray 109;have a8:=hide (I.trans (J.mono I.size));have aE:=hide (a8.out.trans ((Ap w2).mono a8.out.size));have aF:=(a5.below J).cell;have aG:=a6.cell;generalize cs.toArray=pc at*;generalize ds.toArray=rc at*;obtain⟨ng,V⟩:∃n,n=r.guards.length:=⟨_,rfl⟩;rw [<-V] at C;obtain⟨ne,O⟩:∃n,n=r.ex.length:=⟨_,rfl⟩;rw [<-O] at C;obtain⟨nf,U⟩:∃n,n=r.fa.length:=⟨_,rfl⟩;rw [<-U] at C;obtain⟨nd,M⟩:∃n,n=r.send.length:=⟨_,rfl⟩;rw [<-M] at C;obtain⟨nl,W⟩:∃n,n=r.left.length:=⟨_,rfl⟩;rw [<-W] at C;obtain⟨nt,a3⟩:∃n,n=r.right.length:=⟨_,rfl⟩;rw [<-a3] at C;obtain⟨np,Z⟩:∃n,n=r.parent.length:=⟨_,rfl⟩;rw [<-Z] at C;obtain⟨nr,a2⟩:∃n,n=r.resp.length:=⟨_,rfl⟩;rw [<-a2] at C;rw [<-V] at au aS;rw [<-O] at av aT;rw [<-U] at aw aU;rw [<-M] at aj aV;rw [<-W] at al aW;rw [<-a3] at am aX;rw [<-Z] at an aY;rw [<-a2] at ar aR;obtain⟨rd,ax⟩:∃n,n=r.rd:=⟨_,rfl⟩;rw [<-ax] at C ah;obtain⟨wr,az⟩:∃n,n=r.wr:=⟨_,rfl⟩;rw [<-az] at C ai;obtain⟨pf,ae⟩:∃n,n=r.pf:=⟨_,rfl⟩;rw [<-ae] at C ap;obtain⟨pt,af⟩:∃n,n=r.pt:=⟨_,rfl⟩;rw [<-af] at C aq;obtain⟨ta,ay⟩:∃n,n=r.at_:=⟨_,rfl⟩;rw [<-ay] at C ak;obtain⟨di,a9⟩:∃n,n=r.dir:=⟨_,rfl⟩;rw [<-a9] at C ao;obtain⟨kt,ab⟩:∃n,n=p.topo:=⟨_,rfl⟩;rw [<-ab] at C ad ⊢;obtain⟨F,aa⟩:∃n,n=r.kind:=⟨_,rfl⟩;rw [<-aa] at C ag E;have q1:(F==1)=false:=by have:=E.out;simp;omega
 have q2:(F==2)=false:=by have:=E.out;simp;omega
 have q3:(F==3)=false:=by have:=E.out;simp;omega
 have q4:(F==4)=false:=by have:=E.out;simp;omega
 have q5:(F==5)=false:=by have:=E.out;simp;omega
 have y1:decide (F=1)=false:=by have:=E.out;simp;omega
 have y2:decide (F=2)=false:=by have:=E.out;simp;omega
 have y3:decide (F=3)=false:=by have:=E.out;simp;omega
 have y4:decide (F=4)=false:=by have:=E.out;simp;omega
 have y5:decide (F=5)=false:=by have:=E.out;simp;omega
 rw [y1,y2,y3,y4,y5] at C;have a7:=hide C;clear V O U M W a3 Z a2 ax az ae af ay a9 ab aa C y1 y2 y3 y4 y5 I J a5 a6 aH aJ aL aP aK aM aN aO;go_enter Tryz.func188,Tryz.ntmps188;go_wp2_with fail;refine Reg.cI [0,1,3,0,8,24,0,64,192,0,512,1536,0,4096,12288,7,32831,98815,233471,524287] [0,1,2,3,4,5,6,7,8,9,10,11,12,13,14,15,16,17,18,19] ?_;refine Reg.wI [0,1,2,3,4,5,6,7,8,9,10,11,12,13,14,15,16,17,18,19] [] rfl fun Qf G=>?_;go_wp2_with fail;first|refine G _ _ ⟨rfl,?_⟩|refine⟨rfl,?_⟩|refine G _ _ ⟨by simp [Reg.fineT,Reg.intOp,Region.wanted,yielded,Reg.intFine,Reg.isInt,Act.eval],?_⟩
 (try clear G);first|refine Reg.restI_end ?_|skip
 go_wp2_with fail
 all_goals
  go_ret;refine⟨?_,aE.out⟩;rw [a7.out];refine congrArg Value.bool ?_;clear q1 q2 q3 q4 q5 a7 aF aG aZ b0 h h' ad ag ap aq ar au av aw ah ai aj ak al am an ao;unfold unV
  first
   | (simp_all;done)
   | (simp_all;omega)
   | (by_cases h4:kt=4 <;> simp_all;done)
   | (by_cases h4:kt=4 <;> simp_all <;> omega)
theorem FD {w:World} {cs ds:List Value} {p:Am} {r:Az} (h:At w w.heap.size cs p) (C:AW w w.heap.size ds r) (E:r.Small):
  Calls Tryz.prog 188 #[.agg cs.toArray,.agg ds.toArray] w (Ret fun v w'=>v=.bool (B9 p.topo r)/\Below w.heap.size w w'):=by
 by_cases F:r.kind=1
 ·exact TP h C E F
 by_cases G:r.kind=2
 ·exact TQ h C E G
 by_cases I:r.kind=3
 ·exact TS h C E I
 by_cases J:r.kind=4
 ·exact TT h C E J
 by_cases M:r.kind=5
 ·exact TU h C E M
 exact TO h C E ⟨F,G,I,J,M⟩
end Go.Proofs.YtjejejmeddkciaaGreatDoor.K
