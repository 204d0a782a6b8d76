/-
  Part AA of a proof.
-/
import Derived.Test.YtjejejmeddkciaaGreatDoorProg
import Derived.Shelf.Strings.Fields
import Derived.Lib.AppendIntMem
import Derived.Laws.RangeAny
import Derived.Test.YtjejejmeddkciaaGreatDoorPA
import Derived.Test.YtjejejmeddkciaaGreatDoorCA
set_option maxHeartbeats 16000000
set_option maxRecDepth 100000
set_option linter.unusedVariables false
set_option linter.unusedSimpArgs false
namespace Go.Proofs
open Go.Shelf
def Tryz.lays157_ren:Go.Shelf.Ren:=⟨fun|157=>179|229=>194|199=>195|261=>200|311=>205|312=>206|n=>n,fun|9=>9|31=>22|3=>3|5=>5|4=>4|119=>273|0=>0|40=>275|152=>282|21=>21|154=>284|51=>248|141=>286|196=>294|193=>291|198=>297|49=>295|194=>292|201=>300|226=>304|46=>199|227=>305|n=>n,fun|0=>0|6=>1|n=>n⟩
theorem Tryz.lays157:Go.Proofs.Lays.n157 Tryz.prog Tryz.lays157_ren:={
 mixed:=by kernel_rfl
 f157:=Tryz.func179.trans (congrArg some (by kernel_rfl))
 f199:=Tryz.func195.trans (congrArg some (by kernel_rfl))
 f229:=Tryz.func194.trans (congrArg some (by kernel_rfl))
 f261:=Tryz.func200.trans (congrArg some (by kernel_rfl))
 f311:=Tryz.func205.trans (congrArg some (by kernel_rfl))
 f312:=Tryz.func206.trans (congrArg some (by kernel_rfl))
 t0:=Tryz.underlying0
 a0:=Tryz.isAgg0
 z0:=Tryz.sizeOf0
 v0:=Tryz.zeroValue0
 t3:=Tryz.underlying3
 a3:=Tryz.isAgg3
 z3:=Tryz.sizeOf3
 v3:=Tryz.zeroValue3
 t4:=Tryz.underlying4
 a4:=Tryz.isAgg4
 z4:=Tryz.sizeOf4
 v4:=Tryz.zeroValue4
 t5:=Tryz.underlying5
 a5:=Tryz.isAgg5
 z5:=Tryz.sizeOf5
 v5:=Tryz.zeroValue5
 t9:=Tryz.underlying9
 a9:=Tryz.isAgg9
 z9:=Tryz.sizeOf9
 v9:=Tryz.zeroValue9
 t21:=Tryz.underlying21
 a21:=Tryz.isAgg21
 z21:=Tryz.sizeOf21
 v21:=Tryz.zeroValue21
 t31:=Tryz.underlying22
 a31:=Tryz.isAgg22
 z31:=Tryz.sizeOf22
 v31:=Tryz.zeroValue22
 t40:=Tryz.underlying275
 a40:=Tryz.isAgg275
 z40:=Tryz.sizeOf275
 v40:=Tryz.zeroValue275
 t46:=Tryz.underlying199
 a46:=Tryz.isAgg199
 z46:=Tryz.sizeOf199
 v46:=Tryz.zeroValue199
 t49:=Tryz.underlying295
 a49:=Tryz.isAgg295
 z49:=Tryz.sizeOf295
 v49:=Tryz.zeroValue295
 t51:=Tryz.underlying248
 a51:=Tryz.isAgg248
 z51:=Tryz.sizeOf248
 v51:=Tryz.zeroValue248
 t119:=Tryz.underlying273
 a119:=Tryz.isAgg273
 z119:=Tryz.sizeOf273
 t141:=Tryz.underlying286
 a141:=Tryz.isAgg286
 z141:=Tryz.sizeOf286
 v141:=Tryz.zeroValue286
 t152:=Tryz.underlying282
 a152:=Tryz.isAgg282
 z152:=Tryz.sizeOf282
 v152:=Tryz.zeroValue282
 t154:=Tryz.underlying284
 a154:=Tryz.isAgg284
 z154:=Tryz.sizeOf284
 v154:=Tryz.zeroValue284
 t193:=Tryz.underlying291
 a193:=Tryz.isAgg291
 z193:=Tryz.sizeOf291
 v193:=Tryz.zeroValue291
 t194:=Tryz.underlying292
 a194:=Tryz.isAgg292
 z194:=Tryz.sizeOf292
 v194:=Tryz.zeroValue292
 t196:=Tryz.underlying294
 a196:=Tryz.isAgg294
 z196:=Tryz.sizeOf294
 v196:=Tryz.zeroValue294
 t198:=Tryz.underlying297
 a198:=Tryz.isAgg297
 z198:=Tryz.sizeOf297
 v198:=Tryz.zeroValue297
 t201:=Tryz.underlying300
 a201:=Tryz.isAgg300
 z201:=Tryz.sizeOf300
 v201:=Tryz.zeroValue300
 t226:=Tryz.underlying304
 a226:=Tryz.isAgg304
 z226:=Tryz.sizeOf304
 v226:=Tryz.zeroValue304
 t227:=Tryz.underlying305
 a227:=Tryz.isAgg305
 z227:=Tryz.sizeOf305
 v227:=Tryz.zeroValue305
 g0:=by kernel_rfl
 g6:=by kernel_rfl }
theorem Tryz.hi157:(Tryz.prog.info? (Tryz.lays157_ren.t 9)).map (fun i=>(i.zero,i.size,i.bytes))=some (some (.string ByteArray.empty),1,16):=by kernel_rfl
theorem Tryz.hg157:Tryz.prog.globalNamed "strings.asciiSpace" =some (Tryz.lays157_ren.g 0):=by kernel_rfl
end Go.Proofs
namespace Go.Proofs.YtjejejmeddkciaaGreatDoor.K
open Go.RowKit
def H8:List (List UInt8):=[
 [112,114,111,116,111,99,111,108],
 [116,111,112,111,108,111,103,121],
 [115,116,97,116,101,115],
 [109,101,115,115,97,103,101,115],
 [118,97,108,117,101,115],
 [102,97,117,108,116,115],
 [114,101,115,105,108,105,101,110,99,101],
 [105,110,105,116,105,97,108],
 [108,101,97,100,101,114],
 [114,117,108,101],
 [108,111,99,97,108],
 [112,97,105,114],
 [98,114,111,97,100,99,97,115,116],
 [110,101,105,103,104,98,111,114],
 [112,97,115,115],
 [119,104,101,110],
 [101,120,105,115,116,115],
 [102,111,114,97,108,108],
 [114,101,97,100],
 [119,114,105,116,101],
 [115,101,110,100],
 [97,108,108],
 [97,116],
 [102,105,114,115,116],
 [108,97,115,116],
 [108,101,102,116],
 [114,105,103,104,116],
 [112,97,114,101,110,116],
 [99,104,105,108,100],
 [112,114,111,112,101,114,116,121],
 [110,101,118,101,114],
 [101,118,101,110,116,117,97,108,108,121],
 [115,116,97,114,116],
 [99,111,117,110,116],
 [97,100,106,97,99,101,110,116],
 [103,111,97,108],
 [99,108,105,113,117,101],
 [108,105,110,101],
 [114,105,110,103],
 [116,114,101,101],
 [99,114,97,115,104],
 [111,109,105,115,115,105,111,110],
 [97,114,98,105,116,114,97,114,121]]
def Dt:List ByteArray:=H8.map fun l=>⟨l.toArray⟩
theorem H9:Dt.length=43:=rfl
def nameOK (s:ByteArray):Bool:=F3 s.data.toList&&!decide (s∈Dt)
def SpOK (w:World):Prop:=Lib.TabIs Tryz.prog w "strings.asciiSpace" .u8 Lib.asciiSpaceTab
theorem SpOK.below {w w':World} (h:SpOK w) (C:Below w.heap.size w w'):SpOK w':=(Lib.tabBelow_of_tabIs h) w' C
theorem PV (s0:ByteArray) (G:Lib.fields s0.data.toList=H8) (E:s0.data.toList.all (fun b=>decide (b.toNat<128))=true) (I:s0.size<4294967281) (w:World) (C:SpOK w):
  Calls Tryz.prog 179 #[.string s0] w fun e w'=>e=.returned (.slice (some ⟨w.heap.size,0,none⟩) 43 43)/\w'=w.alloc (.cells (Dt.map Value.string).toArray 9):=by
 have h:=Any.strings_Fields Tryz.lays157 Tryz.hi157 Tryz.hg157 s0 w I (fun j b F=>by
  have:=List.all_eq_true.1 E b (List.mem_of_getElem? F);exact of_decide_eq_true this) C
 refine h.mono ?_;rintro e w' ⟨rfl,rfl⟩;rw [G];exact⟨rfl,by rw [show Dt.map Value.string=H8.map fun l=>Value.string ⟨l.toArray⟩ from List.map_map ..];rfl⟩
theorem KI (w:World):Sl (w.alloc (.cells (Dt.map Value.string).toArray 9)) (w.alloc (.cells (Dt.map Value.string).toArray 9)).heap.size 1 BE (some ⟨w.heap.size,0,none⟩) Dt:=by
 have h:Blk (w.alloc (.cells (Dt.map Value.string).toArray 9)) w.heap.size 9 (Dt.map Value.string).toArray:=Blk.new w 9 _;refine⟨by rw [H9];decide,fun _=>⟨w.heap.size,0,rfl,h.lt,fun k d C j F=>?_⟩⟩;have E:j=0:=by omega
 subst E;rw [h.cell];simp [C,BE]
theorem Qy (s:ByteArray) (w:World) (F:SpOK w):Calls Tryz.prog 144 #[.string s] w (Ret fun r w'=>r=.bool (decide (s∈Dt))/\Below w.heap.size w w'):=by
 obtain⟨C,h⟩:∃C,w.alloc (.cells (Dt.map Value.string).toArray 9)=C:=⟨_,rfl⟩;have hS:=hide (KI w);rw [h] at hS;have E:Below w.heap.size w C:=by rw [<-h];exact(Below.refl _ _).alloc (Nat.le_refl _) _
 have I:=hide E;have G:=hide h;clear E h;go_enter Tryz.func144,Tryz.ntmps144
 go_wp2_with (first
  | (go_at_call 179;refine(PV _ (by kernel_rfl) (by kernel_rfl) (by decide+kernel) w F).mono ?_;rintro e w' ⟨rfl,rfl⟩;rw [G.out])
  | (go_at_call 169;rw [<-H9];refine(Je hS.out).mono ?_;rintro e w' ⟨rfl,rfl⟩))
 go_ret;exact⟨rfl,I.out⟩
end Go.Proofs.YtjejejmeddkciaaGreatDoor.K
namespace Go.Proofs.YtjejejmeddkciaaGreatDoor.K
open Go.RowKit
theorem R6 (w:World):Calls Tryz.prog 167 #[] w fun e w'=>e=.returned (.slice (some ⟨w.heap.size,0,none⟩) 43 43)/\w'=w.alloc (.cells (Dt.map Value.string).toArray 9):=by
 go_enter Tryz.func167,Tryz.ntmps167;go_wp2;go_ret;exact⟨rfl,rfl⟩
theorem HK {s:ByteArray} (h:s.size=0\/12<s.size):nameOK s=false:=by
 have E:s.data.toList.length=s.size:=(Lib.size_eq s).symm;unfold nameOK;cases C:s.data.toList with
 | nil=>rfl
 | cons c l=>
  rw [C,List.length_cons] at E;have:decide (l.length<12)=false:=decide_eq_false (by omega);simp [F3,this]
theorem EL {s:ByteArray} {c:UInt8} (h:s.data.toList[0]?=some c) (E:DB c=false):nameOK s=false:=by
 unfold nameOK;cases C:s.data.toList with
 | nil=>rfl
 | cons d l=>
  rw [C] at h;have:d=c:=by simpa using h
  subst this;simp [F3,E]
theorem EK {s:ByteArray} {k:Nat} {c:UInt8} (h:s.data.toList[k]?=some c) (C:nmB c=false):nameOK s=false:=by
 have G:DB c=false:=by
  unfold nmB at C;simp only [Bool.or_eq_false_iff] at C;exact C.1.1
 cases k with
 | zero=>exact EL h G
 | succ k=>
  unfold nameOK;cases F:s.data.toList with
  | nil=>rfl
  | cons d l=>
   rw [F] at h;have E:l[k]?=some c:=by simpa using h
   have:l.all nmB=false:=by
    rw [List.all_eq_false];exact⟨c,List.mem_of_getElem? E,by simp [C]⟩
   simp [F3,this]
theorem J5 {s:ByteArray} {c:UInt8} (h0:s.data.toList[0]?=some c) (G:DB c=true) (I:s.size<=12) (h:s.data.toList.all nmB=true):nameOK s= !decide (s∈Dt):=by
 have E:s.data.toList.length=s.size:=(Lib.size_eq s).symm;unfold nameOK;cases C:s.data.toList with
 | nil=>rw [C] at h0;cases h0
 | cons d l=>
  rw [C] at h0 h E;have:d=c:=by simpa using h0
  subst this;rw [List.length_cons] at E;rw [List.all_cons,Bool.and_eq_true] at h;have F:decide (l.length<12)=true:=decide_eq_true (by omega);simp [F3,F,G,h.2]
theorem EO {c:UInt8} (h1:c.toNat<97\/122<c.toNat) (h:c.toNat<48\/57<c.toNat) (C:c.toNat≠95):nmB c=false:=by
 unfold nmB DB Hk;rw [Bool.eq_false_iff];simp;omega
theorem EP {c:UInt8} (h:(97<=c.toNat/\c.toNat<=122)\/(48<=c.toNat/\c.toNat<=57)\/c.toNat=95):nmB c=true:=by
 unfold nmB DB Hk;simp;omega
theorem Fk {c:UInt8} (h1:c.toNat<97\/122<c.toNat):DB c=false:=by
 unfold DB;rw [Bool.eq_false_iff];simp;omega
theorem JW {c:UInt8} (h:97<=c.toNat/\c.toNat<=122):DB c=true:=by
 unfold DB;simp;omega
theorem Cm (s:ByteArray) (w:World) (hs:s.size<=9223372036854775807):Calls Tryz.prog 136 #[.string s] w (Ret fun r w'=>r=.bool (nameOK s)/\Below w.heap.size w w'):=by
 by_cases h0:s.size=0\/12<s.size
 ·have h:=hide (HK h0);have E:=hide (show inC (s.size:Int) 1 12=false by simp [inC];omega);clear h0;go_enter Tryz.func136,Tryz.ntmps136;go_wp2_with (go_at_call 138;refine(Aq _ _ _ _).mono ?_;rintro e w' ⟨rfl,rfl⟩;rw [E.out]);go_ret;exact⟨by rw [h.out];rfl,Below.refl _ _⟩
 ·have h1:0<s.size:=by omega
  have W:s.size<=12:=by omega
  have E:=hide (show inC (s.size:Int) 1 12=true by simp [inC];omega);clear h0;obtain⟨c,hc⟩:∃c:UInt8,s[0]=c:=⟨_,rfl⟩;have J:=hide (show s.data.toList[0]?=some c by rw [<-hc];exact Lib.data_getElem? s 0 h1);by_cases a6:c.toNat<97
  ·have h:=hide (EL J.out (Fk (.inl a6)));go_enter Tryz.func136,Tryz.ntmps136;go_wp2_with (go_at_call 138;refine(Aq _ _ _ _).mono ?_;rintro e w' ⟨rfl,rfl⟩;rw [E.out]);go_ret;exact⟨by rw [h.out];rfl,Below.refl _ _⟩
  by_cases a5:122<c.toNat
  ·have h:=hide (EL J.out (Fk (.inr a5)));go_enter Tryz.func136,Tryz.ntmps136;go_wp2_with (go_at_call 138;refine(Aq _ _ _ _).mono ?_;rintro e w' ⟨rfl,rfl⟩;rw [E.out]);go_ret;exact⟨by rw [h.out];rfl,Below.refl _ _⟩
  have a7:=hide (JW (c:=c) ⟨by omega,by omega⟩);obtain⟨O,G⟩:∃O,w.alloc (.cells (Dt.map Value.string).toArray 9)=O:=⟨_,rfl⟩;have hS:=hide (KI w);rw [G] at hS;have V:Below w.heap.size w O:=by rw [<-G];exact(Below.refl _ _).alloc (Nat.le_refl _) _
  have a3:=hide V;have hW:=hide G;clear V G;go_enter Tryz.func136,Tryz.ntmps136;go_wp2_with (go_at_call 138;refine(Aq _ _ _ _).mono ?_;rintro e w' ⟨rfl,rfl⟩;rw [E.out]);go_loopw [3] (fun M wr=>∃(k:Nat),M=.int .i64 (k:Int)/\k<=s.size/\w=wr/\Hid ((s.data.toList.take k).all nmB=true)) (fun M _=>s.size - (intOf M).toNat)
  case atStart=>exact⟨0,rfl,Nat.zero_le _,(by first|rfl|trivial),by show _=_;simp⟩
  case round=>
   obtain⟨k,rfl,hk,rfl,F⟩:=hrel;by_cases a8:k<s.size
   case neg=>
    have e:k=s.size:=by omega
    have I:=F.out;rw [e,List.take_of_length_le (by rw [<-Lib.size_eq];exact Nat.le_refl _)] at I;have Z:=hide I;clear I e;have h:=hide (J5 J.out a7.out W Z.out)
    go_wp2_with (first
     | (go_at_call 167;refine(R6 _).mono ?_;rintro e w' ⟨rfl,rfl⟩;rw [hW.out])
     | (go_at_call 162;rw [<-H9];refine(Ht hS.out).mono ?_;rintro e w' ⟨rfl,rfl⟩))
    go_ret;exact⟨by rw [h.out];rfl,a3.out⟩
   obtain⟨x,hx⟩:∃x:UInt8,s[k]=x:=⟨_,rfl⟩;have C:=hide (show s.data.toList[k]?=some x by rw [<-hx];exact Lib.data_getElem? s k a8);by_cases q1:(x.toNat:Int)<48
   ·have U:((x.toNat:Int) != 95)=true:=by simp;omega
    have h:=hide (EK C.out (EO (by omega) (by omega) (by omega)));go_wp2_with fail;go_ret;exact⟨by rw [h.out];rfl,Below.refl _ _⟩
   by_cases q2:(x.toNat:Int)<=57
   ·have h:=hide (Cq (p:=nmB) C.out F.out (EP (by omega)));go_wp2_with fail;exact⟨⟨k+1,by go_num,by omega,(by first|rfl|trivial),h.out⟩,by simp [intOf];omega⟩
   by_cases q3:(x.toNat:Int)<97
   ·by_cases q4:(x.toNat:Int)=95
    ·have h:=hide (Cq (p:=nmB) C.out F.out (EP (by omega)));go_wp2_with fail;exact⟨⟨k+1,by go_num,by omega,(by first|rfl|trivial),h.out⟩,by simp [intOf];omega⟩
    ·have U:((x.toNat:Int) != 95)=true:=by simp;omega
     have h:=hide (EK C.out (EO (by omega) (by omega) (by omega)));go_wp2_with fail;go_ret;exact⟨by rw [h.out];rfl,Below.refl _ _⟩
   by_cases q5:(x.toNat:Int)<=122
   ·have h:=hide (Cq (p:=nmB) C.out F.out (EP (by omega)));go_wp2_with fail;exact⟨⟨k+1,by go_num,by omega,(by first|rfl|trivial),h.out⟩,by simp [intOf];omega⟩
   ·have U:((x.toNat:Int) != 95)=true:=by simp;omega
    have h:=hide (EK C.out (EO (by omega) (by omega) (by omega)));go_wp2_with fail;go_ret;exact⟨by rw [h.out];rfl,Below.refl _ _⟩
end Go.Proofs.YtjejejmeddkciaaGreatDoor.K
namespace Go.Proofs.YtjejejmeddkciaaGreatDoor.K
open Go.RowKit
theorem Qz (w:World) (s:ByteArray) (k:Nat):Below w.heap.size w (w.iter s k):=(Below.refl _ _).alloc (Nat.le_refl _) _
theorem S7 {s:ByteArray} (h:s.size=0):s=⟨#[]⟩:=by
 obtain⟨d⟩:=s;have:d.size=0:=h;rw [Array.size_eq_zero_iff.1 this]
theorem Da (s:ByteArray) (w:World) (hs:s.size<=9223372036854775807) (hT:SpOK w):Calls Tryz.prog 87 #[.string s] w (Ret fun r w'=>r=.bool (nameOK s)/\Below w.heap.size w w'):=by
 have ab:=hide hT;clear hT;by_cases h0:s.size=0
 ·have C:=hide (HK (.inl h0));have a2:s.toList=[]:=by rw [ByteArray.toList_eq,S7 h0]
  have hq:s.toList.isEmpty=true:=by rw [a2];rfl
  go_enter Tryz.func87,Tryz.ntmps87;go_wp2_with fail;go_ret;exact⟨by rw [C.out];rfl,Below.refl _ _⟩
 have a2:¬s.toList=[]:=fun e=>h0 (by
  rw [ByteArray.toList_eq] at e;have:=Lib.size_eq s;rw [e] at this;exact this)
 have hq:s.toList.isEmpty=false:=by
  cases h:s.toList
  ·exact absurd h a2
  ·rfl
 by_cases a8:12<s.size
 ·have C:=hide (HK (.inr a8));go_enter Tryz.func87,Tryz.ntmps87;go_wp2_with fail;go_ret;exact⟨by rw [C.out];rfl,Below.refl _ _⟩
 have h1:0<s.size:=by omega
 have a9:=hide (show s.size<=12 by omega);go_enter Tryz.func87,Tryz.ntmps87;go_wp2_with fail;go_loopw [] (fun wr=>∃(k:Nat),wr=w.iter s k/\k<=s.size/\Hid ((s.data.toList.take k).all nmB=true)/\Hid (0<k->∃c,s.data.toList[0]?=some c/\DB c=true)) (fun w'=>s.size - w'.iterPos w.heap.size)
 case atStart=>exact⟨0,rfl,Nat.zero_le _,by show _=_;simp,fun h=>absurd h (by omega)⟩
 case round=>
  obtain⟨k,rfl,hk,G,M⟩:=hrel;by_cases I:k<s.size
  case neg=>
   have a7:∀ty,(Instr.next (.pointer (some ⟨w.heap.size,0,none⟩)) true ty).run Tryz.prog (w.iter s k)=_:=fun ty=>run_next_end w s k ty I;have e:k=s.size:=by omega
   have V:=G.out;rw [e,List.take_of_length_le (by rw [<-Lib.size_eq];exact Nat.le_refl _)] at V;obtain⟨c,a5,a6⟩:=M.out (by omega);have C:=hide (J5 a5 a6 a9.out V);clear V e a5 a6;have W:=hide (Qz w s k);have aa:=hide (ab.out.below W.out);have ah:=W.out.size;go_wp2_with fail;refine Calls.ret (Qy s _ aa.out) ?_;rintro r w2 ⟨rfl,a4⟩;have ae:=hide a4;clear a4;go_wp2_with fail;go_ret;exact⟨by rw [C.out];rfl,W.out.trans (ae.out.mono ah)⟩
  obtain⟨x,O⟩:∃x:UInt8,s[k]=x:=⟨_,rfl⟩;have E:=hide (show s.data.toList[k]?=some x by rw [<-O];exact Lib.data_getElem? s k I);by_cases ha:x.toNat<128
  ·have a7:∀ty,(Instr.next (.pointer (some ⟨w.heap.size,0,none⟩)) true ty).run Tryz.prog (w.iter s k)=.ok (.tuple #[.bool true,.int .i64 k,.int .i32 x.toNat]) (w.iter s (k+1)):=fun ty=>by
    rw [run_next_ascii w s k ty I (by rw [O];exact ha),O]
   by_cases Z:k=0
   ·have af:((k:Int)==0)=true:=by simp;omega
    have J:=hide (show s.data.toList[0]?=some x by rw [<-Z];exact E.out);clear Z;by_cases q1:(x.toNat:Int)<48
    ·have C:=hide (EL J.out (Fk (by omega)));go_wp2_with fail;go_ret;exact⟨by rw [C.out];rfl,(Below.refl _ _).alloc (Nat.le_refl _) _⟩
    by_cases q2:(x.toNat:Int)<=57
    ·have C:=hide (EL J.out (Fk (by omega)));go_wp2_with fail;go_ret;exact⟨by rw [C.out];rfl,(Below.refl _ _).alloc (Nat.le_refl _) _⟩
    by_cases q3:(x.toNat:Int)<97
    ·have C:=hide (EL J.out (Fk (by omega)));go_wp2_with fail;go_ret;exact⟨by rw [C.out];rfl,(Below.refl _ _).alloc (Nat.le_refl _) _⟩
    by_cases q5:(x.toNat:Int)<=122
    ·have C:=hide (Cq (p:=nmB) E.out G.out (EP (by omega)));have F:=hide (fun _:0<k+1=>(⟨x,J.out,JW ⟨by omega,by omega⟩⟩:∃c,s.data.toList[0]?=some c/\DB c=true));go_wp2_with fail
     go_roundw
     case rel=>exact⟨k+1,rfl,by omega,C.out,F.out⟩
     case measure=>simp;omega
    ·have C:=hide (EL J.out (Fk (by omega)));go_wp2_with fail;go_ret;exact⟨by rw [C.out];rfl,(Below.refl _ _).alloc (Nat.le_refl _) _⟩
   ·have af:((k:Int)==0)=false:=by simp;omega
    by_cases q1:(x.toNat:Int)<48
    ·have C:=hide (EK E.out (EO (by omega) (by omega) (by omega)));have U:((x.toNat:Int) != 95)=true:=by simp;omega
     go_wp2_with fail;go_ret;exact⟨by rw [C.out];rfl,(Below.refl _ _).alloc (Nat.le_refl _) _⟩
    by_cases q2:(x.toNat:Int)<=57
    ·have C:=hide (Cq (p:=nmB) E.out G.out (EP (by omega)));have F:=hide (fun _:0<k+1=>M.out (by omega));go_wp2_with fail
     go_roundw
     case rel=>exact⟨k+1,rfl,by omega,C.out,F.out⟩
     case measure=>simp;omega
    by_cases q3:(x.toNat:Int)<97
    ·by_cases q4:(x.toNat:Int)=95
     ·have C:=hide (Cq (p:=nmB) E.out G.out (EP (by omega)));have F:=hide (fun _:0<k+1=>M.out (by omega));go_wp2_with fail
      go_roundw
      case rel=>exact⟨k+1,rfl,by omega,C.out,F.out⟩
      case measure=>simp;omega
     ·have C:=hide (EK E.out (EO (by omega) (by omega) (by omega)));have U:((x.toNat:Int) != 95)=true:=by simp;omega
      go_wp2_with fail;go_ret;exact⟨by rw [C.out];rfl,(Below.refl _ _).alloc (Nat.le_refl _) _⟩
    by_cases q5:(x.toNat:Int)<=122
    ·have C:=hide (Cq (p:=nmB) E.out G.out (EP (by omega)));have F:=hide (fun _:0<k+1=>M.out (by omega));go_wp2_with fail
     go_roundw
     case rel=>exact⟨k+1,rfl,by omega,C.out,F.out⟩
     case measure=>simp;omega
    ·have C:=hide (EK E.out (EO (by omega) (by omega) (by omega)));have U:((x.toNat:Int) != 95)=true:=by simp;omega
     go_wp2_with fail;go_ret;exact⟨by rw [C.out];rfl,(Below.refl _ _).alloc (Nat.le_refl _) _⟩
  ·have hd:=decode_high s k I (by rw [O];omega);have ap:=decode_le s k;have a7:∀ty,(Instr.next (.pointer (some ⟨w.heap.size,0,none⟩)) true ty).run Tryz.prog (w.iter s k)=_:=fun ty=>run_next_any w s k ty I;have C:=hide (EK E.out (EO (by omega) (by omega) (by omega)));generalize Utf8.decode s k=rn at*;obtain⟨r,n⟩:=rn;dsimp only at*;have U:((r:Int) != 95)=true:=by simp;omega
   have g1:¬(r:Int)<=122:=by omega
   have g2:¬(r:Int)<=57:=by omega
   have g3:¬(r:Int)<48:=by omega
   cases Z:((k:Int)==0)
   all_goals
    go_wp2_with fail;go_ret;exact⟨by rw [C.out];rfl,(Below.refl _ _).alloc (Nat.le_refl _) _⟩
end Go.Proofs.YtjejejmeddkciaaGreatDoor.K
namespace Go.Proofs.YtjejejmeddkciaaGreatDoor.K
open Go.RowKit
theorem FE {w:World} {cs:List Value} {p:Am} {v:Int} (h:At w w.heap.size cs p):Calls Tryz.prog 176 #[.agg cs.toArray,.int .i64 v] w (Ret fun r w'=>r=.int .i64 (Bn v p.values.length)/\Below w.heap.size w w'):=by
 obtain⟨I,c1,J,c2,M,c3,O,W,U,Z,V,c6,A7,c7,rfl,-,-,F,-,-,-,-⟩:=h;have hn:=F.1;obtain⟨w1,a7,G,a3,a5⟩:=Ae w #[.string p.name,.int .i64 p.topo,.slice I p.states.length c1,.slice J p.messages.length c2,.slice M p.values.length c3,.int .i64 p.fault,.slice O p.res.length W,.slice U p.initial.length Z,.slice V p.leader.length c6,.slice A7 p.rules.length c7] 27;have a4:=a3.cell;have E:=hide G;clear G F;have key:∀b:Bool,b= !AO v p.values.length->Ad b 5=Bn v p.values.length:=fun b C=>by rw [C];rfl
 by_cases q1:v< -1
 ·have C:=hide (key true (by simp [AO];omega));clear key;go_enter Tryz.func176,Tryz.ntmps176;go_wp2_with (go_at_call 90;refine(Ce _ _ _).mono ?_;rintro e w' ⟨rfl,rfl⟩;rw [C.out]);go_ret;exact⟨rfl,E.out⟩
 by_cases q2:(p.values.length:Int)<=v
 ·have C:=hide (key true (by simp [AO];omega));clear key;go_enter Tryz.func176,Tryz.ntmps176;go_wp2_with (go_at_call 90;refine(Ce _ _ _).mono ?_;rintro e w' ⟨rfl,rfl⟩;rw [C.out]);go_ret;exact⟨rfl,E.out⟩
 ·have C:=hide (key false (by simp [AO];omega));clear key;go_enter Tryz.func176,Tryz.ntmps176;go_wp2_with (go_at_call 90;refine(Ce _ _ _).mono ?_;rintro e w' ⟨rfl,rfl⟩;rw [C.out]);go_ret;exact⟨rfl,E.out⟩
theorem R7 {w:World} {B c:Nat} {A:Option Addr} {l:List Int} {n:Int} (h:Sl w B 1 Ai A l):Calls Tryz.prog 177 #[.slice A l.length c,.int .i64 n] w fun r w'=>r=.returned (.int .i64 (C8 n l))/\w=w':=by
 have hH:=hide h;have hn:=h.1;clear h;by_cases C:(l.length:Int)=n
 case neg=>
  have hq:((l.length:Int) != n)=true:=by simp;exact C
  have hz:=hide (show C8 n l=1 by unfold C8;rw [if_pos C]);go_enter Tryz.func177,Tryz.ntmps177;go_wp2_with fail;go_ret;exact⟨by rw [hz.out];rfl,rfl⟩
 have hq:((l.length:Int) != n)=false:=by simp;exact C
 have W:=hide (show C8 n l=Aj (fun x=>Ad (!inE x n) 5) l by unfold C8;rw [if_neg (by omega)]);have ab:=hide C;clear C;go_enter Tryz.func177,Tryz.ntmps177;go_wp2_with fail;go_loopw [14] (fun M wr=>∃(k:Nat),M=.int .i64 (k:Int)/\k<=l.length/\w=wr/\Hid (Aj (fun x=>Ad (!inE x n) 5) (l.take k)=0)) (fun M _=>l.length - (intOf M).toNat)
 case atStart=>exact⟨0,rfl,Nat.zero_le _,(by first|rfl|trivial),rfl⟩
 case round=>
  obtain⟨k,rfl,hk,rfl,F⟩:=hrel;by_cases a6:k<l.length
  ·obtain⟨b,off,e,hA,a9,U,O⟩:=hH.out.at a6;have Z:=O 0 (by omega);simp only [Nat.add_zero,Nat.mul_one,Ai] at Z;have V:=hide U;subst hA;clear O U;cases E:inE e n
   ·have I:=hide (show AD e n=5 by unfold AD;rw [E];rfl);have hZ:=hide (Ct (fun x=>Ad (!inE x n) 5) V.out F.out (show Ad (!inE e n) 5≠0 by rw [E];decide));have J:=hide (show Ad (!inE e n) 5=5 by rw [E];rfl);go_wp2_with (go_at_call 145;refine(Cu _ _ _).mono ?_;rintro r w' ⟨rfl,rfl⟩;rw [I.out]);go_ret;exact⟨by rw [W.out,hZ.out,J.out];rfl,rfl⟩
   ·have I:=hide (show AD e n=0 by unfold AD;rw [E];rfl);have J:=hide (show Ad (!inE e n) 5=0 by rw [E];rfl);go_wp2_with (go_at_call 145;refine(Cu _ _ _).mono ?_;rintro r w' ⟨rfl,rfl⟩;rw [I.out]);refine⟨⟨k+1,by go_num,by omega,(by first|rfl|trivial),?_⟩,by simp [intOf];omega⟩;show _=_
    rw [CD _ V.out F.out];exact J.out
  ·have e:k=l.length:=by omega
   have G:=F.out;rw [e,List.take_length] at G;have a3:=hide G;clear G e;go_wp2_with fail;go_ret;exact⟨by rw [W.out,a3.out];rfl,rfl⟩
end Go.Proofs.YtjejejmeddkciaaGreatDoor.K
