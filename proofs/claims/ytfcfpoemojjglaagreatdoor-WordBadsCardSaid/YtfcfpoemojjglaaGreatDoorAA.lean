/-
  Part AA of a proof.
-/
import Derived.Test.YtfcfpoemojjglaaGreatDoorProg
import Derived.Shelf.Strings.Fields
import Derived.Lib.AppendIntMem
import Derived.Laws.RangeAny
import Derived.Test.YtfcfpoemojjglaaGreatDoorPA
import Derived.Test.YtfcfpoemojjglaaGreatDoorCA
set_option maxHeartbeats 16000000
set_option maxRecDepth 100000
set_option linter.unusedVariables false
set_option linter.unusedSimpArgs false
namespace Go.Proofs
open Go.Shelf
def Tryz.lays157_ren:Go.Shelf.Ren:=⟨fun | 157=>214 | 229=>228 | 199=>229 | 261=>233 | 311=>238 | 312=>239 | n=>n,fun | 9=>9 | 31=>22 | 3=>3 | 5=>5 | 4=>4 | 119=>283 | 0=>0 | 40=>285 | 152=>291 | 21=>21 | 154=>293 | 51=>245 | 141=>295 | 196=>303 | 193=>300 | 198=>306 | 49=>304 | 194=>301 | 201=>309 | 226=>313 | 46=>196 | 227=>314 | n=>n,fun | 0=>0 | 6=>1 | n=>n⟩
theorem Tryz.lays157:Go.Proofs.Lays.n157 Tryz.prog Tryz.lays157_ren:={
 mixed:=by kernel_rfl
 f157:=Tryz.func214.trans (congrArg some (by kernel_rfl))
 f199:=Tryz.func229.trans (congrArg some (by kernel_rfl))
 f229:=Tryz.func228.trans (congrArg some (by kernel_rfl))
 f261:=Tryz.func233.trans (congrArg some (by kernel_rfl))
 f311:=Tryz.func238.trans (congrArg some (by kernel_rfl))
 f312:=Tryz.func239.trans (congrArg some (by kernel_rfl))
 t0:=Tryz.underlying0
 a0:=Tryz.isAgg0
 z0:=Tryz.sizeOf0
 v0:=Tryz.zeroValue0
 t3:=Tryz.underlying3
 a3:=Tryz.isAgg3
 z3:=Tryz.sizeOf3
 v3:=Tryz.zeroValue3
 t4:=Tryz.underlying4
 a4:=Tryz.isAgg4
 z4:=Tryz.sizeOf4
 v4:=Tryz.zeroValue4
 t5:=Tryz.underlying5
 a5:=Tryz.isAgg5
 z5:=Tryz.sizeOf5
 v5:=Tryz.zeroValue5
 t9:=Tryz.underlying9
 a9:=Tryz.isAgg9
 z9:=Tryz.sizeOf9
 v9:=Tryz.zeroValue9
 t21:=Tryz.underlying21
 a21:=Tryz.isAgg21
 z21:=Tryz.sizeOf21
 v21:=Tryz.zeroValue21
 t31:=Tryz.underlying22
 a31:=Tryz.isAgg22
 z31:=Tryz.sizeOf22
 v31:=Tryz.zeroValue22
 t40:=Tryz.underlying285
 a40:=Tryz.isAgg285
 z40:=Tryz.sizeOf285
 v40:=Tryz.zeroValue285
 t46:=Tryz.underlying196
 a46:=Tryz.isAgg196
 z46:=Tryz.sizeOf196
 v46:=Tryz.zeroValue196
 t49:=Tryz.underlying304
 a49:=Tryz.isAgg304
 z49:=Tryz.sizeOf304
 v49:=Tryz.zeroValue304
 t51:=Tryz.underlying245
 a51:=Tryz.isAgg245
 z51:=Tryz.sizeOf245
 v51:=Tryz.zeroValue245
 t119:=Tryz.underlying283
 a119:=Tryz.isAgg283
 z119:=Tryz.sizeOf283
 t141:=Tryz.underlying295
 a141:=Tryz.isAgg295
 z141:=Tryz.sizeOf295
 v141:=Tryz.zeroValue295
 t152:=Tryz.underlying291
 a152:=Tryz.isAgg291
 z152:=Tryz.sizeOf291
 v152:=Tryz.zeroValue291
 t154:=Tryz.underlying293
 a154:=Tryz.isAgg293
 z154:=Tryz.sizeOf293
 v154:=Tryz.zeroValue293
 t193:=Tryz.underlying300
 a193:=Tryz.isAgg300
 z193:=Tryz.sizeOf300
 v193:=Tryz.zeroValue300
 t194:=Tryz.underlying301
 a194:=Tryz.isAgg301
 z194:=Tryz.sizeOf301
 v194:=Tryz.zeroValue301
 t196:=Tryz.underlying303
 a196:=Tryz.isAgg303
 z196:=Tryz.sizeOf303
 v196:=Tryz.zeroValue303
 t198:=Tryz.underlying306
 a198:=Tryz.isAgg306
 z198:=Tryz.sizeOf306
 v198:=Tryz.zeroValue306
 t201:=Tryz.underlying309
 a201:=Tryz.isAgg309
 z201:=Tryz.sizeOf309
 v201:=Tryz.zeroValue309
 t226:=Tryz.underlying313
 a226:=Tryz.isAgg313
 z226:=Tryz.sizeOf313
 v226:=Tryz.zeroValue313
 t227:=Tryz.underlying314
 a227:=Tryz.isAgg314
 z227:=Tryz.sizeOf314
 v227:=Tryz.zeroValue314
 g0:=by kernel_rfl
 g6:=by kernel_rfl }
theorem Tryz.hi157:(Tryz.prog.info? (Tryz.lays157_ren.t 9)).map (fun i=>(i.zero,i.size,i.bytes))=some (some (.string ByteArray.empty),1,16):=by kernel_rfl
theorem Tryz.hg157:Tryz.prog.globalNamed "strings.asciiSpace" =some (Tryz.lays157_ren.g 0):=by kernel_rfl
end Go.Proofs
namespace Go.Proofs.YtfcfpoemojjglaaGreatDoor.K
open Go.RowKit
def H8:List (List UInt8):=[
 [112,114,111,116,111,99,111,108],
 [116,111,112,111,108,111,103,121],
 [115,116,97,116,101,115],
 [109,101,115,115,97,103,101,115],
 [118,97,108,117,101,115],
 [102,97,117,108,116,115],
 [114,101,115,105,108,105,101,110,99,101],
 [105,110,105,116,105,97,108],
 [108,101,97,100,101,114],
 [114,117,108,101],
 [108,111,99,97,108],
 [112,97,105,114],
 [98,114,111,97,100,99,97,115,116],
 [110,101,105,103,104,98,111,114],
 [112,97,115,115],
 [119,104,101,110],
 [101,120,105,115,116,115],
 [102,111,114,97,108,108],
 [114,101,97,100],
 [119,114,105,116,101],
 [115,101,110,100],
 [97,108,108],
 [97,116],
 [102,105,114,115,116],
 [108,97,115,116],
 [108,101,102,116],
 [114,105,103,104,116],
 [112,97,114,101,110,116],
 [99,104,105,108,100],
 [112,114,111,112,101,114,116,121],
 [110,101,118,101,114],
 [101,118,101,110,116,117,97,108,108,121],
 [115,116,97,114,116],
 [99,111,117,110,116],
 [97,100,106,97,99,101,110,116],
 [103,111,97,108],
 [99,108,105,113,117,101],
 [108,105,110,101],
 [114,105,110,103],
 [116,114,101,101],
 [99,114,97,115,104],
 [111,109,105,115,115,105,111,110],
 [97,114,98,105,116,114,97,114,121]]
def Dt:List ByteArray:=H8.map fun l=>⟨l.toArray⟩
theorem H9:Dt.length=43:=rfl
def nameOK (s:ByteArray):Bool:=F3 s.data.toList&&!decide (s∈Dt)
def SpOK (w:World):Prop:=Lib.TabIs Tryz.prog w "strings.asciiSpace" .u8 Lib.asciiSpaceTab
theorem SpOK.below {w w':World} (h:SpOK w) (d:Below w.heap.size w w'):SpOK w':=(Lib.tabBelow_of_tabIs h) w' d
theorem PV (s0:ByteArray) (E:Lib.fields s0.data.toList=H8) (y:s0.data.toList.all (fun b=>decide (b.toNat<128))=true) (G:s0.size<4294967281) (w:World) (d:SpOK w):
  Calls Tryz.prog 214 #[.string s0] w fun e w'=>e=.returned (.slice (some ⟨w.heap.size,0,none⟩) 43 43)/\w'=w.alloc (.cells (Dt.map Value.string).toArray 9):=by
 have h:=Any.strings_Fields Tryz.lays157 Tryz.hi157 Tryz.hg157 s0 w G (fun j b C=>by
  have:=List.all_eq_true.1 y b (List.mem_of_getElem? C);exact of_decide_eq_true this) d
 refine h.mono ?_;rintro e w' ⟨rfl,rfl⟩;rw [E];exact⟨rfl,by rw [show Dt.map Value.string=H8.map fun l=>Value.string ⟨l.toArray⟩ from List.map_map ..]; rfl⟩
theorem KI (w:World):Sl (w.alloc (.cells (Dt.map Value.string).toArray 9)) (w.alloc (.cells (Dt.map Value.string).toArray 9)).heap.size 1 BE (some ⟨w.heap.size,0,none⟩) Dt:=by
 have h:Blk (w.alloc (.cells (Dt.map Value.string).toArray 9)) w.heap.size 9 (Dt.map Value.string).toArray:=Blk.new w 9 _;refine⟨by rw [H9]; decide,fun _=>⟨w.heap.size,0,rfl,h.lt,fun k d l j C=>?_⟩⟩;have y:j=0:=by omega
 subst y;rw [h.cell];simp [l,BE]
theorem Qy (s:ByteArray) (w:World) (j:SpOK w):Calls Tryz.prog 172 #[.string s] w (Ret fun r w'=>r=.bool (decide (s∈Dt))/\Below w.heap.size w w'):=by
 obtain⟨w1,d⟩:∃w1,w.alloc (.cells (Dt.map Value.string).toArray 9)=w1:=⟨_,rfl⟩;have hS:=hide (KI w);rw [d] at hS;have h:Below w.heap.size w w1:=by rw [<-d]; exact(Below.refl _ _).alloc (Nat.le_refl _) _
 have y:=hide h;have l:=hide d;clear h d;go_enter Tryz.func172,Tryz.ntmps172
 go_wp2_with (first
  | (go_at_call 214; refine(PV _ (by kernel_rfl) (by kernel_rfl) (by decide+kernel) w j).mono ?_; rintro e w' ⟨rfl,rfl⟩; rw [l.out])
  | (go_at_call 204; rw [<-H9]; refine(Je hS.out).mono ?_; rintro e w' ⟨rfl,rfl⟩))
 go_ret;exact⟨rfl,y.out⟩
end Go.Proofs.YtfcfpoemojjglaaGreatDoor.K
namespace Go.Proofs.YtfcfpoemojjglaaGreatDoor.K
open Go.RowKit
theorem R6 (w:World):Calls Tryz.prog 140 #[] w fun e w'=>e=.returned (.slice (some ⟨w.heap.size,0,none⟩) 43 43)/\w'=w.alloc (.cells (Dt.map Value.string).toArray 9):=by
 go_enter Tryz.func140,Tryz.ntmps140;go_wp2;go_ret;exact⟨rfl,rfl⟩
theorem HK {s:ByteArray} (h:s.size=0\/12<s.size):nameOK s=false:=by
 have j:s.data.toList.length=s.size:=(Lib.size_eq s).symm;unfold nameOK;cases d:s.data.toList with
 | nil=>rfl
 | cons c l=>
  rw [d,List.length_cons] at j;have:decide (l.length<12)=false:=decide_eq_false (by omega);simp [F3,this]
theorem EL {s:ByteArray} {c:UInt8} (h:s.data.toList[0]?=some c) (y:DB c=false):nameOK s=false:=by
 unfold nameOK;cases j:s.data.toList with
 | nil=>rfl
 | cons d l=>
  rw [j] at h;have:d=c:=by simpa using h
  subst this;simp [F3,y]
theorem EK {s:ByteArray} {k:Nat} {c:UInt8} (h:s.data.toList[k]?=some c) (j:nmB c=false):nameOK s=false:=by
 have E:DB c=false:=by
  unfold nmB at j;simp only [Bool.or_eq_false_iff] at j;exact j.1.1
 cases k with
 | zero=>exact EL h E
 | succ k=>
  unfold nameOK;cases C:s.data.toList with
  | nil=>rfl
  | cons d l=>
   rw [C] at h;have y:l[k]?=some c:=by simpa using h
   have:l.all nmB=false:=by
    rw [List.all_eq_false];exact⟨c,List.mem_of_getElem? y,by simp [j]⟩
   simp [F3,this]
theorem J5 {s:ByteArray} {c:UInt8} (h:s.data.toList[0]?=some c) (G:DB c=true) (I:s.size<=12) (j:s.data.toList.all nmB=true):nameOK s= !decide (s∈Dt):=by
 have C:s.data.toList.length=s.size:=(Lib.size_eq s).symm;unfold nameOK;cases y:s.data.toList with
 | nil=>rw [y] at h; cases h
 | cons d l=>
  rw [y] at h j C;have:d=c:=by simpa using h
  subst this;rw [List.length_cons] at C;rw [List.all_cons,Bool.and_eq_true] at j;have E:decide (l.length<12)=true:=decide_eq_true (by omega);simp [F3,E,G,j.2]
theorem EO {c:UInt8} (d:c.toNat<97\/122<c.toNat) (h:c.toNat<48\/57<c.toNat) (j:c.toNat≠95):nmB c=false:=by
 unfold nmB DB Hk;rw [Bool.eq_false_iff];simp;omega
theorem EP {c:UInt8} (h:(97<=c.toNat/\c.toNat<=122)\/(48<=c.toNat/\c.toNat<=57)\/c.toNat=95):nmB c=true:=by
 unfold nmB DB Hk;simp;omega
theorem Fk {c:UInt8} (d:c.toNat<97\/122<c.toNat):DB c=false:=by
 unfold DB;rw [Bool.eq_false_iff];simp;omega
theorem JW {c:UInt8} (h:97<=c.toNat/\c.toNat<=122):DB c=true:=by
 unfold DB;simp;omega
theorem Cm (s:ByteArray) (w:World) (hs:s.size<=9223372036854775807):Calls Tryz.prog 96 #[.string s] w (Ret fun r w'=>r=.bool (nameOK s)/\Below w.heap.size w w'):=by
 by_cases C:s.size=0\/12<s.size
 ·have d:=hide (HK C);have j:=hide (show inC (s.size:Int) 1 12=false by simp [inC]; omega);clear C;go_enter Tryz.func96,Tryz.ntmps96;go_wp2_with (go_at_call 98; refine(Aq _ _ _ _).mono ?_; rintro e w' ⟨rfl,rfl⟩; rw [j.out]);go_ret;exact⟨by rw [d.out]; rfl,Below.refl _ _⟩
 ·have O:0<s.size:=by omega
  have U:s.size<=12:=by omega
  have j:=hide (show inC (s.size:Int) 1 12=true by simp [inC]; omega);clear C;obtain⟨c,hc⟩:∃c:UInt8,s[0]=c:=⟨_,rfl⟩;have G:=hide (show s.data.toList[0]?=some c by rw [<-hc]; exact Lib.data_getElem? s 0 O);by_cases a4:c.toNat<97
  ·have d:=hide (EL G.out (Fk (.inl a4)));go_enter Tryz.func96,Tryz.ntmps96;go_wp2_with (go_at_call 98; refine(Aq _ _ _ _).mono ?_; rintro e w' ⟨rfl,rfl⟩; rw [j.out]);go_ret;exact⟨by rw [d.out]; rfl,Below.refl _ _⟩
  by_cases a3:122<c.toNat
  ·have d:=hide (EL G.out (Fk (.inr a3)));go_enter Tryz.func96,Tryz.ntmps96;go_wp2_with (go_at_call 98; refine(Aq _ _ _ _).mono ?_; rintro e w' ⟨rfl,rfl⟩; rw [j.out]);go_ret;exact⟨by rw [d.out]; rfl,Below.refl _ _⟩
  have a5:=hide (JW (c:=c) ⟨by omega,by omega⟩);obtain⟨w1,y⟩:∃w1,w.alloc (.cells (Dt.map Value.string).toArray 9)=w1:=⟨_,rfl⟩;have hS:=hide (KI w);rw [y] at hS;have M:Below w.heap.size w w1:=by rw [<-y]; exact(Below.refl _ _).alloc (Nat.le_refl _) _
  have Z:=hide M;have W:=hide y;clear M y;go_enter Tryz.func96,Tryz.ntmps96;go_wp2_with (go_at_call 98; refine(Aq _ _ _ _).mono ?_; rintro e w' ⟨rfl,rfl⟩; rw [j.out]);go_loopw [3] (fun I wr=>∃(k:Nat),I=.int .i64 (k:Int)/\k<=s.size/\w=wr/\Hid ((s.data.toList.take k).all nmB=true)) (fun I _=>s.size - (intOf I).toNat)
  case atStart=>exact⟨0,rfl,Nat.zero_le _,(by first | rfl | trivial),by show _=_; simp⟩
  case round=>
   obtain⟨k,rfl,hk,rfl,l⟩:=hrel;by_cases a6:k<s.size
   case neg=>
    have e:k=s.size:=by omega
    have E:=l.out;rw [e,List.take_of_length_le (by rw [<-Lib.size_eq]; exact Nat.le_refl _)] at E;have V:=hide E;clear E e;have d:=hide (J5 G.out a5.out U V.out)
    go_wp2_with (first
     | (go_at_call 140; refine(R6 _).mono ?_; rintro e w' ⟨rfl,rfl⟩; rw [W.out])
     | (go_at_call 136; rw [<-H9]; refine(Ht hS.out).mono ?_; rintro e w' ⟨rfl,rfl⟩))
    go_ret;exact⟨by rw [d.out]; rfl,Z.out⟩
   obtain⟨x,hx⟩:∃x:UInt8,s[k]=x:=⟨_,rfl⟩;have h:=hide (show s.data.toList[k]?=some x by rw [<-hx]; exact Lib.data_getElem? s k a6);by_cases q1:(x.toNat:Int)<48
   ·have J:((x.toNat:Int) != 95)=true:=by simp; omega
    have d:=hide (EK h.out (EO (by omega) (by omega) (by omega)));go_wp2_with fail;go_ret;exact⟨by rw [d.out]; rfl,Below.refl _ _⟩
   by_cases q2:(x.toNat:Int)<=57
   ·have d:=hide (Cq (p:=nmB) h.out l.out (EP (by omega)));go_wp2_with fail;exact⟨⟨k+1,by go_num,by omega,(by first | rfl | trivial),d.out⟩,by simp [intOf]; omega⟩
   by_cases q3:(x.toNat:Int)<97
   ·by_cases q4:(x.toNat:Int)=95
    ·have d:=hide (Cq (p:=nmB) h.out l.out (EP (by omega)));go_wp2_with fail;exact⟨⟨k+1,by go_num,by omega,(by first | rfl | trivial),d.out⟩,by simp [intOf]; omega⟩
    ·have J:((x.toNat:Int) != 95)=true:=by simp; omega
     have d:=hide (EK h.out (EO (by omega) (by omega) (by omega)));go_wp2_with fail;go_ret;exact⟨by rw [d.out]; rfl,Below.refl _ _⟩
   by_cases q5:(x.toNat:Int)<=122
   ·have d:=hide (Cq (p:=nmB) h.out l.out (EP (by omega)));go_wp2_with fail;exact⟨⟨k+1,by go_num,by omega,(by first | rfl | trivial),d.out⟩,by simp [intOf]; omega⟩
   ·have J:((x.toNat:Int) != 95)=true:=by simp; omega
    have d:=hide (EK h.out (EO (by omega) (by omega) (by omega)));go_wp2_with fail;go_ret;exact⟨by rw [d.out]; rfl,Below.refl _ _⟩
end Go.Proofs.YtfcfpoemojjglaaGreatDoor.K
namespace Go.Proofs.YtfcfpoemojjglaaGreatDoor.K
open Go.RowKit
theorem Qz (w:World) (s:ByteArray) (k:Nat):Below w.heap.size w (w.iter s k):=(Below.refl _ _).alloc (Nat.le_refl _) _
theorem S7 {s:ByteArray} (h:s.size=0):s=⟨#[]⟩:=by
 obtain⟨d⟩:=s;have:d.size=0:=h;rw [Array.size_eq_zero_iff.1 this]
theorem Da (s:ByteArray) (w:World) (hs:s.size<=9223372036854775807) (Z:SpOK w):Calls Tryz.prog 118 #[.string s] w (Ret fun r w'=>r=.bool (nameOK s)/\Below w.heap.size w w'):=by
 have a9:=hide Z;clear Z;by_cases M:s.size=0
 ·have d:=hide (HK (.inl M));have W:s.toList=[]:=by rw [ByteArray.toList_eq,S7 M]
  have hq:s.toList.isEmpty=true:=by rw [W]; rfl
  go_enter Tryz.func118,Tryz.ntmps118;go_wp2_with fail;go_ret;exact⟨by rw [d.out]; rfl,Below.refl _ _⟩
 have W:¬s.toList=[]:=fun e=>M (by
  rw [ByteArray.toList_eq] at e;have:=Lib.size_eq s;rw [e] at this;exact this)
 have hq:s.toList.isEmpty=false:=by
  cases h:s.toList
  ·exact absurd h W
  ·rfl
 by_cases a6:12<s.size
 ·have d:=hide (HK (.inr a6));go_enter Tryz.func118,Tryz.ntmps118;go_wp2_with fail;go_ret;exact⟨by rw [d.out]; rfl,Below.refl _ _⟩
 have h1:0<s.size:=by omega
 have a7:=hide (show s.size<=12 by omega);go_enter Tryz.func118,Tryz.ntmps118;go_wp2_with fail;go_loopw [] (fun wr=>∃(k:Nat),wr=w.iter s k/\k<=s.size/\Hid ((s.data.toList.take k).all nmB=true)/\Hid (0<k->∃c,s.data.toList[0]?=some c/\DB c=true)) (fun w'=>s.size - w'.iterPos w.heap.size)
 case atStart=>exact⟨0,rfl,Nat.zero_le _,by show _=_; simp,fun h=>absurd h (by omega)⟩
 case round=>
  obtain⟨k,rfl,hk,y,G⟩:=hrel;by_cases C:k<s.size
  case neg=>
   have a5:∀ty,(Instr.next (.pointer (some ⟨w.heap.size,0,none⟩)) true ty).run Tryz.prog (w.iter s k)=_:=fun ty=>run_next_end w s k ty C;have e:k=s.size:=by omega
   have O:=y.out;rw [e,List.take_of_length_le (by rw [<-Lib.size_eq]; exact Nat.le_refl _)] at O;obtain⟨c,a3,a4⟩:=G.out (by omega);have d:=hide (J5 a3 a4 a7.out O);clear O e a3 a4;have U:=hide (Qz w s k);have a8:=hide (a9.out.below U.out);have af:=U.out.size;go_wp2_with fail;refine Calls.ret (Qy s _ a8.out) ?_;rintro r w2 ⟨rfl,a2⟩;have ab:=hide a2;clear a2;go_wp2_with fail;go_ret;exact⟨by rw [d.out]; rfl,U.out.trans (ab.out.mono af)⟩
  obtain⟨x,I⟩:∃x:UInt8,s[k]=x:=⟨_,rfl⟩;have j:=hide (show s.data.toList[k]?=some x by rw [<-I]; exact Lib.data_getElem? s k C);by_cases ha:x.toNat<128
  ·have a5:∀ty,(Instr.next (.pointer (some ⟨w.heap.size,0,none⟩)) true ty).run Tryz.prog (w.iter s k)=.ok (.tuple #[.bool true,.int .i64 k,.int .i32 x.toNat]) (w.iter s (k+1)):=fun ty=>by
    rw [run_next_ascii w s k ty C (by rw [I]; exact ha),I]
   by_cases V:k=0
   ·have ad:((k:Int)==0)=true:=by simp; omega
    have E:=hide (show s.data.toList[0]?=some x by rw [<-V]; exact j.out);clear V;by_cases q1:(x.toNat:Int)<48
    ·have d:=hide (EL E.out (Fk (by omega)));go_wp2_with fail;go_ret;exact⟨by rw [d.out]; rfl,(Below.refl _ _).alloc (Nat.le_refl _) _⟩
    by_cases q2:(x.toNat:Int)<=57
    ·have d:=hide (EL E.out (Fk (by omega)));go_wp2_with fail;go_ret;exact⟨by rw [d.out]; rfl,(Below.refl _ _).alloc (Nat.le_refl _) _⟩
    by_cases q3:(x.toNat:Int)<97
    ·have d:=hide (EL E.out (Fk (by omega)));go_wp2_with fail;go_ret;exact⟨by rw [d.out]; rfl,(Below.refl _ _).alloc (Nat.le_refl _) _⟩
    by_cases q5:(x.toNat:Int)<=122
    ·have d:=hide (Cq (p:=nmB) j.out y.out (EP (by omega)));have l:=hide (fun _:0<k+1=>(⟨x,E.out,JW ⟨by omega,by omega⟩⟩:∃c,s.data.toList[0]?=some c/\DB c=true));go_wp2_with fail
     go_roundw
     case rel=>exact⟨k+1,rfl,by omega,d.out,l.out⟩
     case measure=>simp; omega
    ·have d:=hide (EL E.out (Fk (by omega)));go_wp2_with fail;go_ret;exact⟨by rw [d.out]; rfl,(Below.refl _ _).alloc (Nat.le_refl _) _⟩
   ·have ad:((k:Int)==0)=false:=by simp; omega
    by_cases q1:(x.toNat:Int)<48
    ·have d:=hide (EK j.out (EO (by omega) (by omega) (by omega)));have J:((x.toNat:Int) != 95)=true:=by simp; omega
     go_wp2_with fail;go_ret;exact⟨by rw [d.out]; rfl,(Below.refl _ _).alloc (Nat.le_refl _) _⟩
    by_cases q2:(x.toNat:Int)<=57
    ·have d:=hide (Cq (p:=nmB) j.out y.out (EP (by omega)));have l:=hide (fun _:0<k+1=>G.out (by omega));go_wp2_with fail
     go_roundw
     case rel=>exact⟨k+1,rfl,by omega,d.out,l.out⟩
     case measure=>simp; omega
    by_cases q3:(x.toNat:Int)<97
    ·by_cases q4:(x.toNat:Int)=95
     ·have d:=hide (Cq (p:=nmB) j.out y.out (EP (by omega)));have l:=hide (fun _:0<k+1=>G.out (by omega));go_wp2_with fail
      go_roundw
      case rel=>exact⟨k+1,rfl,by omega,d.out,l.out⟩
      case measure=>simp; omega
     ·have d:=hide (EK j.out (EO (by omega) (by omega) (by omega)));have J:((x.toNat:Int) != 95)=true:=by simp; omega
      go_wp2_with fail;go_ret;exact⟨by rw [d.out]; rfl,(Below.refl _ _).alloc (Nat.le_refl _) _⟩
    by_cases q5:(x.toNat:Int)<=122
    ·have d:=hide (Cq (p:=nmB) j.out y.out (EP (by omega)));have l:=hide (fun _:0<k+1=>G.out (by omega));go_wp2_with fail
     go_roundw
     case rel=>exact⟨k+1,rfl,by omega,d.out,l.out⟩
     case measure=>simp; omega
    ·have d:=hide (EK j.out (EO (by omega) (by omega) (by omega)));have J:((x.toNat:Int) != 95)=true:=by simp; omega
     go_wp2_with fail;go_ret;exact⟨by rw [d.out]; rfl,(Below.refl _ _).alloc (Nat.le_refl _) _⟩
  ·have hd:=decode_high s k C (by rw [I]; omega);have an:=decode_le s k;have a5:∀ty,(Instr.next (.pointer (some ⟨w.heap.size,0,none⟩)) true ty).run Tryz.prog (w.iter s k)=_:=fun ty=>run_next_any w s k ty C;have d:=hide (EK j.out (EO (by omega) (by omega) (by omega)));generalize Utf8.decode s k=rn at*;obtain⟨r,n⟩:=rn;dsimp only at*;have J:((r:Int) != 95)=true:=by simp; omega
   have g1:¬(r:Int)<=122:=by omega
   have g2:¬(r:Int)<=57:=by omega
   have g3:¬(r:Int)<48:=by omega
   cases V:((k:Int)==0)
   all_goals
    go_wp2_with fail;go_ret;exact⟨by rw [d.out]; rfl,(Below.refl _ _).alloc (Nat.le_refl _) _⟩
end Go.Proofs.YtfcfpoemojjglaaGreatDoor.K
namespace Go.Proofs.YtfcfpoemojjglaaGreatDoor.K
open Go.RowKit
theorem FE {w:World} {cs:List Value} {p:Am} {v:Int} (h:At w w.heap.size cs p):Calls Tryz.prog 211 #[.agg cs.toArray,.int .i64 v] w (Ret fun r w'=>r=.int .i64 (Bn v p.values.length)/\Below w.heap.size w w'):=by
 obtain⟨A1,c1,A2,c2,A3,c3,C,c4,E,J,G,M,I,O,rfl,-,-,l,-,-,-,-⟩:=h;have Z:=l.1;obtain⟨w1,a2,y,U,W⟩:=Ae w #[.string p.name,.int .i64 p.topo,.slice A1 p.states.length c1,.slice A2 p.messages.length c2,.slice A3 p.values.length c3,.int .i64 p.fault,.slice C p.res.length c4,.slice E p.initial.length J,.slice G p.leader.length M,.slice I p.rules.length O] 27;have V:=U.cell;have j:=hide y;clear y l;have key:∀b:Bool,b= !AO v p.values.length->Ad b 5=Bn v p.values.length:=fun b d=>by rw [d]; rfl
 by_cases q1:v< -1
 ·have d:=hide (key true (by simp [AO]; omega));clear key;go_enter Tryz.func211,Tryz.ntmps211;go_wp2_with (go_at_call 121; refine(Ce _ _ _).mono ?_; rintro e w' ⟨rfl,rfl⟩; rw [d.out]);go_ret;exact⟨rfl,j.out⟩
 by_cases q2:(p.values.length:Int)<=v
 ·have d:=hide (key true (by simp [AO]; omega));clear key;go_enter Tryz.func211,Tryz.ntmps211;go_wp2_with (go_at_call 121; refine(Ce _ _ _).mono ?_; rintro e w' ⟨rfl,rfl⟩; rw [d.out]);go_ret;exact⟨rfl,j.out⟩
 ·have d:=hide (key false (by simp [AO]; omega));clear key;go_enter Tryz.func211,Tryz.ntmps211;go_wp2_with (go_at_call 121; refine(Ce _ _ _).mono ?_; rintro e w' ⟨rfl,rfl⟩; rw [d.out]);go_ret;exact⟨rfl,j.out⟩
theorem R7 {w:World} {B c:Nat} {A:Option Addr} {l:List Int} {n:Int} (h:Sl w B 1 Ai A l):Calls Tryz.prog 212 #[.slice A l.length c,.int .i64 n] w fun r w'=>r=.returned (.int .i64 (C8 n l))/\w=w':=by
 have Z:=hide h;have hn:=h.1;clear h;by_cases d:(l.length:Int)=n
 case neg=>
  have hq:((l.length:Int) != n)=true:=by simp; exact d
  have hz:=hide (show C8 n l=1 by unfold C8; rw [if_pos d]);go_enter Tryz.func212,Tryz.ntmps212;go_wp2_with fail;go_ret;exact⟨by rw [hz.out]; rfl,rfl⟩
 have hq:((l.length:Int) != n)=false:=by simp; exact d
 have O:=hide (show C8 n l=Aj (fun x=>Ad (!inE x n) 5) l by unfold C8; rw [if_neg (by omega)]);have a8:=hide d;clear d;go_enter Tryz.func212,Tryz.ntmps212;go_wp2_with fail;go_loopw [14] (fun I wr=>∃(k:Nat),I=.int .i64 (k:Int)/\k<=l.length/\w=wr/\Hid (Aj (fun x=>Ad (!inE x n) 5) (l.take k)=0)) (fun I _=>l.length - (intOf I).toNat)
 case atStart=>exact⟨0,rfl,Nat.zero_le _,(by first | rfl | trivial),rfl⟩
 case round=>
  obtain⟨k,rfl,hk,rfl,y⟩:=hrel;by_cases a3:k<l.length
  ·obtain⟨b,aa,e,V,a6,he,J⟩:=Z.out.at a3;have U:=J 0 (by omega);simp only [Nat.add_zero,Nat.mul_one,Ai] at U;have M:=hide he;subst V;clear J he;cases j:inE e n
   ·have E:=hide (show AD e n=5 by unfold AD; rw [j]; rfl);have hZ:=hide (Ct (fun x=>Ad (!inE x n) 5) M.out y.out (show Ad (!inE e n) 5≠0 by rw [j]; decide));have G:=hide (show Ad (!inE e n) 5=5 by rw [j]; rfl);go_wp2_with (go_at_call 173; refine(Cu _ _ _).mono ?_; rintro r w' ⟨rfl,rfl⟩; rw [E.out]);go_ret;exact⟨by rw [O.out,hZ.out,G.out]; rfl,rfl⟩
   ·have E:=hide (show AD e n=0 by unfold AD; rw [j]; rfl);have G:=hide (show Ad (!inE e n) 5=0 by rw [j]; rfl);go_wp2_with (go_at_call 173; refine(Cu _ _ _).mono ?_; rintro r w' ⟨rfl,rfl⟩; rw [E.out]);refine⟨⟨k+1,by go_num,by omega,(by first | rfl | trivial),?_⟩,by simp [intOf]; omega⟩;show _=_
    rw [CD _ M.out y.out];exact G.out
  ·have e:k=l.length:=by omega
   have C:=y.out;rw [e,List.take_length] at C;have W:=hide C;clear C e;go_wp2_with fail;go_ret;exact⟨by rw [O.out,W.out]; rfl,rfl⟩
end Go.Proofs.YtfcfpoemojjglaaGreatDoor.K
