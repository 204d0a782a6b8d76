/-
  Part AA of a proof.
-/
import Derived.Test.YtlakpndhhelliaaGreatDoorProg
import Derived.Shelf.Strings.Fields
import Derived.Lib.AppendIntMem
import Derived.Laws.RangeAny
import Derived.Test.YtlakpndhhelliaaGreatDoorPA
import Derived.Test.YtlakpndhhelliaaGreatDoorCA
set_option maxHeartbeats 16000000
set_option maxRecDepth 100000
set_option linter.unusedVariables false
set_option linter.unusedSimpArgs false
namespace Go.Proofs
open Go.Shelf
def Tryz.lays157_ren:Go.Shelf.Ren:=⟨fun | 157=>80 | 229=>95 | 199=>96 | 261=>111 | 311=>120 | 312=>121 | n=>n,fun | 9=>9 | 31=>22 | 3=>3 | 5=>5 | 4=>4 | 119=>154 | 0=>0 | 40=>156 | 152=>170 | 21=>21 | 154=>172 | 51=>167 | 141=>174 | 196=>187 | 193=>184 | 198=>190 | 49=>188 | 194=>185 | 201=>193 | 226=>201 | 46=>149 | 227=>202 | n=>n,fun | 0=>0 | 6=>1 | n=>n⟩
theorem Tryz.lays157:Go.Proofs.Lays.n157 Tryz.prog Tryz.lays157_ren:={
 mixed:=by kernel_rfl
 f157:=Tryz.func80.trans (congrArg some (by kernel_rfl))
 f199:=Tryz.func96.trans (congrArg some (by kernel_rfl))
 f229:=Tryz.func95.trans (congrArg some (by kernel_rfl))
 f261:=Tryz.func111.trans (congrArg some (by kernel_rfl))
 f311:=Tryz.func120.trans (congrArg some (by kernel_rfl))
 f312:=Tryz.func121.trans (congrArg some (by kernel_rfl))
 t0:=Tryz.underlying0
 a0:=Tryz.isAgg0
 z0:=Tryz.sizeOf0
 v0:=Tryz.zeroValue0
 t3:=Tryz.underlying3
 a3:=Tryz.isAgg3
 z3:=Tryz.sizeOf3
 v3:=Tryz.zeroValue3
 t4:=Tryz.underlying4
 a4:=Tryz.isAgg4
 z4:=Tryz.sizeOf4
 v4:=Tryz.zeroValue4
 t5:=Tryz.underlying5
 a5:=Tryz.isAgg5
 z5:=Tryz.sizeOf5
 v5:=Tryz.zeroValue5
 t9:=Tryz.underlying9
 a9:=Tryz.isAgg9
 z9:=Tryz.sizeOf9
 v9:=Tryz.zeroValue9
 t21:=Tryz.underlying21
 a21:=Tryz.isAgg21
 z21:=Tryz.sizeOf21
 v21:=Tryz.zeroValue21
 t31:=Tryz.underlying22
 a31:=Tryz.isAgg22
 z31:=Tryz.sizeOf22
 v31:=Tryz.zeroValue22
 t40:=Tryz.underlying156
 a40:=Tryz.isAgg156
 z40:=Tryz.sizeOf156
 v40:=Tryz.zeroValue156
 t46:=Tryz.underlying149
 a46:=Tryz.isAgg149
 z46:=Tryz.sizeOf149
 v46:=Tryz.zeroValue149
 t49:=Tryz.underlying188
 a49:=Tryz.isAgg188
 z49:=Tryz.sizeOf188
 v49:=Tryz.zeroValue188
 t51:=Tryz.underlying167
 a51:=Tryz.isAgg167
 z51:=Tryz.sizeOf167
 v51:=Tryz.zeroValue167
 t119:=Tryz.underlying154
 a119:=Tryz.isAgg154
 z119:=Tryz.sizeOf154
 t141:=Tryz.underlying174
 a141:=Tryz.isAgg174
 z141:=Tryz.sizeOf174
 v141:=Tryz.zeroValue174
 t152:=Tryz.underlying170
 a152:=Tryz.isAgg170
 z152:=Tryz.sizeOf170
 v152:=Tryz.zeroValue170
 t154:=Tryz.underlying172
 a154:=Tryz.isAgg172
 z154:=Tryz.sizeOf172
 v154:=Tryz.zeroValue172
 t193:=Tryz.underlying184
 a193:=Tryz.isAgg184
 z193:=Tryz.sizeOf184
 v193:=Tryz.zeroValue184
 t194:=Tryz.underlying185
 a194:=Tryz.isAgg185
 z194:=Tryz.sizeOf185
 v194:=Tryz.zeroValue185
 t196:=Tryz.underlying187
 a196:=Tryz.isAgg187
 z196:=Tryz.sizeOf187
 v196:=Tryz.zeroValue187
 t198:=Tryz.underlying190
 a198:=Tryz.isAgg190
 z198:=Tryz.sizeOf190
 v198:=Tryz.zeroValue190
 t201:=Tryz.underlying193
 a201:=Tryz.isAgg193
 z201:=Tryz.sizeOf193
 v201:=Tryz.zeroValue193
 t226:=Tryz.underlying201
 a226:=Tryz.isAgg201
 z226:=Tryz.sizeOf201
 v226:=Tryz.zeroValue201
 t227:=Tryz.underlying202
 a227:=Tryz.isAgg202
 z227:=Tryz.sizeOf202
 v227:=Tryz.zeroValue202
 g0:=by kernel_rfl
 g6:=by kernel_rfl }
theorem Tryz.hi157:(Tryz.prog.info? (Tryz.lays157_ren.t 9)).map (fun i=>(i.zero,i.size,i.bytes))=some (some (.string ByteArray.empty),1,16):=by kernel_rfl
theorem Tryz.hg157:Tryz.prog.globalNamed "strings.asciiSpace" =some (Tryz.lays157_ren.g 0):=by kernel_rfl
end Go.Proofs
namespace Go.Proofs.YtlakpndhhelliaaGreatDoor.K
open Go.RowKit
def Gy:List (List UInt8):=[
 [112,114,111,116,111,99,111,108],
 [116,111,112,111,108,111,103,121],
 [115,116,97,116,101,115],
 [109,101,115,115,97,103,101,115],
 [118,97,108,117,101,115],
 [102,97,117,108,116,115],
 [114,101,115,105,108,105,101,110,99,101],
 [105,110,105,116,105,97,108],
 [108,101,97,100,101,114],
 [114,117,108,101],
 [108,111,99,97,108],
 [112,97,105,114],
 [98,114,111,97,100,99,97,115,116],
 [110,101,105,103,104,98,111,114],
 [112,97,115,115],
 [119,104,101,110],
 [101,120,105,115,116,115],
 [102,111,114,97,108,108],
 [114,101,97,100],
 [119,114,105,116,101],
 [115,101,110,100],
 [97,108,108],
 [97,116],
 [102,105,114,115,116],
 [108,97,115,116],
 [108,101,102,116],
 [114,105,103,104,116],
 [112,97,114,101,110,116],
 [99,104,105,108,100],
 [112,114,111,112,101,114,116,121],
 [110,101,118,101,114],
 [101,118,101,110,116,117,97,108,108,121],
 [115,116,97,114,116],
 [99,111,117,110,116],
 [97,100,106,97,99,101,110,116],
 [103,111,97,108],
 [99,108,105,113,117,101],
 [108,105,110,101],
 [114,105,110,103],
 [116,114,101,101],
 [99,114,97,115,104],
 [111,109,105,115,115,105,111,110],
 [97,114,98,105,116,114,97,114,121]]
def C5:List ByteArray:=Gy.map fun l=>⟨l.toArray⟩
theorem Gk:C5.length=43:=rfl
def Ab (s:ByteArray):Bool:=Fh s.data.toList&&!decide (s∈C5)
def AL (w:World):Prop:=Lib.TabIs Tryz.prog w "strings.asciiSpace" .u8 Lib.asciiSpaceTab
theorem AL.below {w w':World} (h:AL w) (f:Below w.heap.size w w'):AL w':=(Lib.tabBelow_of_tabIs h) w' f
theorem MV (s0:ByteArray) (f:Lib.fields s0.data.toList=Gy) (y:s0.data.toList.all (fun b=>decide (b.toNat<128))=true) (z:s0.size<4294967281) (w:World) (C:AL w):
  Calls Tryz.prog 80 #[.string s0] w fun e w'=>e=.returned (.slice (some ⟨w.heap.size,0,none⟩) 43 43)∧w'=w.alloc (.cells (C5.map Value.string).toArray 9):=by
 have h:=Any.strings_Fields Tryz.lays157 Tryz.hi157 Tryz.hg157 s0 w z (fun j b E=>by
  have:=List.all_eq_true.1 y b (List.mem_of_getElem? E)
  exact of_decide_eq_true this) C
 refine h.mono ?_
 rintro e w' ⟨rfl,rfl⟩
 rw [f]
 exact⟨rfl,by rw [show C5.map Value.string=Gy.map fun l=>Value.string ⟨l.toArray⟩ from List.map_map ..]; rfl⟩
theorem Iw (w:World):Sl (w.alloc (.cells (C5.map Value.string).toArray 9)) (w.alloc (.cells (C5.map Value.string).toArray 9)).heap.size 1 Bx (some ⟨w.heap.size,0,none⟩) C5:=by
 have f:Blk (w.alloc (.cells (C5.map Value.string).toArray 9)) w.heap.size 9 (C5.map Value.string).toArray:=Blk.new w 9 _
 refine⟨by rw [Gk]; decide,fun _=>⟨w.heap.size,0,rfl,f.lt,fun k d hd j y=>?_⟩⟩
 have h:j=0:=by omega
 subst h
 rw [f.cell]
 simp [hd,Bx]
theorem Qz (s:ByteArray) (w:World) (y:AL w):Calls Tryz.prog 50 #[.string s] w (Ret fun r w'=>r=.bool (decide (s∈C5))∧Below w.heap.size w w'):=by
 obtain⟨w1,f⟩:∃w1,w.alloc (.cells (C5.map Value.string).toArray 9)=w1:=⟨_,rfl⟩
 have hS:=hide (Iw w)
 rw [f] at hS
 have h:Below w.heap.size w w1:=by rw [←f]; exact(Below.refl _ _).alloc (Nat.le_refl _) _
 have z:=hide h
 have C:=hide f
 clear h f
 go_enter Tryz.func50,Tryz.ntmps50
 go_wp2_with (first
  | (go_at_call 80; refine(MV _ (by kernel_rfl) (by kernel_rfl) (by decide+kernel) w y).mono ?_; rintro e w' ⟨rfl,rfl⟩; rw [C.out])
  | (go_at_call 70; rw [←Gk]; refine(IH hS.out).mono ?_; rintro e w' ⟨rfl,rfl⟩))
 go_ret
 exact⟨rfl,z.out⟩
end Go.Proofs.YtlakpndhhelliaaGreatDoor.K
namespace Go.Proofs.YtlakpndhhelliaaGreatDoor.K
open Go.RowKit
theorem Og (w:World):Calls Tryz.prog 57 #[] w fun e w'=>e=.returned (.slice (some ⟨w.heap.size,0,none⟩) 43 43)∧w'=w.alloc (.cells (C5.map Value.string).toArray 9):=by
 go_enter Tryz.func57,Tryz.ntmps57
 go_wp2
 go_ret
 exact⟨rfl,rfl⟩
theorem G6 {s:ByteArray} (h:s.size=0∨12<s.size):Ab s=false:=by
 have f:s.data.toList.length=s.size:=(Lib.size_eq s).symm
 unfold Ab
 cases y:s.data.toList with
 | nil=>rfl
 | cons c l=>
  rw [y,List.length_cons] at f
  have:decide (l.length<12)=false:=decide_eq_false (by omega)
  simp [Fh,this]
theorem Ea {s:ByteArray} {c:UInt8} (h:s.data.toList[0]?=some c) (f:Da c=false):Ab s=false:=by
 unfold Ab
 cases y:s.data.toList with
 | nil=>rfl
 | cons d l=>
  rw [y] at h
  have:d=c:=by simpa using h
  subst this
  simp [Fh,f]
theorem Ep {s:ByteArray} {k:Nat} {c:UInt8} (h:s.data.toList[k]?=some c) (f:nmB c=false):Ab s=false:=by
 have y:Da c=false:=by
  unfold nmB at f
  simp only [Bool.or_eq_false_iff] at f
  exact f.1.1
 cases k with
 | zero=>exact Ea h y
 | succ k=>
  unfold Ab
  cases z:s.data.toList with
  | nil=>rfl
  | cons d l=>
   rw [z] at h
   have C:l[k]?=some c:=by simpa using h
   have:l.all nmB=false:=by
    rw [List.all_eq_false]
    exact⟨c,List.mem_of_getElem? C,by simp [f]⟩
   simp [Fh,this]
theorem IU {s:ByteArray} {c:UInt8} (f:s.data.toList[0]?=some c) (C:Da c=true) (F:s.size≤12) (h:s.data.toList.all nmB=true):Ab s= !decide (s∈C5):=by
 have y:s.data.toList.length=s.size:=(Lib.size_eq s).symm
 unfold Ab
 cases z:s.data.toList with
 | nil=>rw [z] at f; cases f
 | cons d l=>
  rw [z] at f h y
  have:d=c:=by simpa using f
  subst this
  rw [List.length_cons] at y
  rw [List.all_cons,Bool.and_eq_true] at h
  have E:decide (l.length<12)=true:=decide_eq_true (by omega)
  simp [Fh,E,C,h.2]
theorem Ee {c:UInt8} (f:c.toNat<97∨122<c.toNat) (h:c.toNat<48∨57<c.toNat) (y:c.toNat≠95):nmB c=false:=by
 unfold nmB Da GH
 rw [Bool.eq_false_iff]
 simp
 omega
theorem D5 {c:UInt8} (h:(97≤c.toNat∧c.toNat≤122)∨(48≤c.toNat∧c.toNat≤57)∨c.toNat=95):nmB c=true:=by
 unfold nmB Da GH
 simp
 omega
theorem EO {c:UInt8} (f:c.toNat<97∨122<c.toNat):Da c=false:=by
 unfold Da
 rw [Bool.eq_false_iff]
 simp
 omega
theorem IX {c:UInt8} (h:97≤c.toNat∧c.toNat≤122):Da c=true:=by
 unfold Da
 simp
 omega
theorem BK (s:ByteArray) (w:World) (hs:s.size≤9223372036854775807):Calls Tryz.prog 32 #[.string s] w (Ret fun r w'=>r=.bool (Ab s)∧Below w.heap.size w w'):=by
 by_cases E:s.size=0∨12<s.size
 ·have f:=hide (G6 E)
  have y:=hide (show inC (s.size:Int) 1 12=false by simp [inC]; omega)
  clear E
  go_enter Tryz.func32,Tryz.ntmps32
  go_wp2_with (go_at_call 35; refine(Al _ _ _ _).mono ?_; rintro e w' ⟨rfl,rfl⟩; rw [y.out])
  go_ret
  exact⟨by rw [f.out]; rfl,Below.refl _ _⟩
 ·have O:0<s.size:=by omega
  have U:s.size≤12:=by omega
  have y:=hide (show inC (s.size:Int) 1 12=true by simp [inC]; omega)
  clear E
  obtain⟨c,V⟩:∃c:UInt8,s[0]=c:=⟨_,rfl⟩
  have F:=hide (show s.data.toList[0]?=some c by rw [←V]; exact Lib.data_getElem? s 0 O)
  by_cases W:c.toNat<97
  ·have f:=hide (Ea F.out (EO (.inl W)))
   go_enter Tryz.func32,Tryz.ntmps32
   go_wp2_with (go_at_call 35; refine(Al _ _ _ _).mono ?_; rintro e w' ⟨rfl,rfl⟩; rw [y.out])
   go_ret
   exact⟨by rw [f.out]; rfl,Below.refl _ _⟩
  by_cases Z:122<c.toNat
  ·have f:=hide (Ea F.out (EO (.inr Z)))
   go_enter Tryz.func32,Tryz.ntmps32
   go_wp2_with (go_at_call 35; refine(Al _ _ _ _).mono ?_; rintro e w' ⟨rfl,rfl⟩; rw [y.out])
   go_ret
   exact⟨by rw [f.out]; rfl,Below.refl _ _⟩
  have a2:=hide (IX (c:=c) ⟨by omega,by omega⟩)
  obtain⟨w1,z⟩:∃w1,w.alloc (.cells (C5.map Value.string).toArray 9)=w1:=⟨_,rfl⟩
  have hS:=hide (Iw w)
  rw [z] at hS
  have J:Below w.heap.size w w1:=by rw [←z]; exact(Below.refl _ _).alloc (Nat.le_refl _) _
  have a3:=hide J
  have hW:=hide z
  clear J z
  go_enter Tryz.func32,Tryz.ntmps32
  go_wp2_with (go_at_call 35; refine(Al _ _ _ _).mono ?_; rintro e w' ⟨rfl,rfl⟩; rw [y.out])
  go_loopw [3] (fun G wr=>∃(k:Nat),G=.int .i64 (k:Int)∧k≤s.size∧w=wr∧Hid ((s.data.toList.take k).all nmB=true)) (fun G _=>s.size - (intOf G).toNat)
  case atStart=>exact⟨0,rfl,Nat.zero_le _,(by first | rfl | trivial),by show _=_; simp⟩
  case round=>
   obtain⟨k,rfl,hk,rfl,C⟩:=hrel
   by_cases a5:k<s.size
   case neg=>
    have e:k=s.size:=by omega
    have I:=C.out
    rw [e,List.take_of_length_le (by rw [←Lib.size_eq]; exact Nat.le_refl _)] at I
    have a6:=hide I
    clear I e
    have f:=hide (IU F.out a2.out U a6.out)
    go_wp2_with (first
     | (go_at_call 57; refine(Og _).mono ?_; rintro e w' ⟨rfl,rfl⟩; rw [hW.out])
     | (go_at_call 53; rw [←Gk]; refine(GY hS.out).mono ?_; rintro e w' ⟨rfl,rfl⟩))
    go_ret
    exact⟨by rw [f.out]; rfl,a3.out⟩
   obtain⟨x,hx⟩:∃x:UInt8,s[k]=x:=⟨_,rfl⟩
   have h:=hide (show s.data.toList[k]?=some x by rw [←hx]; exact Lib.data_getElem? s k a5)
   by_cases q1:(x.toNat:Int)<48
   ·have M:((x.toNat:Int) != 95)=true:=by simp; omega
    have f:=hide (Ep h.out (Ee (by omega) (by omega) (by omega)))
    go_wp2_with fail
    go_ret
    exact⟨by rw [f.out]; rfl,Below.refl _ _⟩
   by_cases q2:(x.toNat:Int)≤57
   ·have f:=hide (BP (p:=nmB) h.out C.out (D5 (by omega)))
    go_wp2_with fail
    exact⟨⟨k+1,by go_num,by omega,(by first | rfl | trivial),f.out⟩,by simp [intOf]; omega⟩
   by_cases q3:(x.toNat:Int)<97
   ·by_cases q4:(x.toNat:Int)=95
    ·have f:=hide (BP (p:=nmB) h.out C.out (D5 (by omega)))
     go_wp2_with fail
     exact⟨⟨k+1,by go_num,by omega,(by first | rfl | trivial),f.out⟩,by simp [intOf]; omega⟩
    ·have M:((x.toNat:Int) != 95)=true:=by simp; omega
     have f:=hide (Ep h.out (Ee (by omega) (by omega) (by omega)))
     go_wp2_with fail
     go_ret
     exact⟨by rw [f.out]; rfl,Below.refl _ _⟩
   by_cases q5:(x.toNat:Int)≤122
   ·have f:=hide (BP (p:=nmB) h.out C.out (D5 (by omega)))
    go_wp2_with fail
    exact⟨⟨k+1,by go_num,by omega,(by first | rfl | trivial),f.out⟩,by simp [intOf]; omega⟩
   ·have M:((x.toNat:Int) != 95)=true:=by simp; omega
    have f:=hide (Ep h.out (Ee (by omega) (by omega) (by omega)))
    go_wp2_with fail
    go_ret
    exact⟨by rw [f.out]; rfl,Below.refl _ _⟩
end Go.Proofs.YtlakpndhhelliaaGreatDoor.K
namespace Go.Proofs.YtlakpndhhelliaaGreatDoor.K
open Go.RowKit
theorem Mr (w:World) (s:ByteArray) (k:Nat):Below w.heap.size w (w.iter s k):=(Below.refl _ _).alloc (Nat.le_refl _) _
theorem Kk {s:ByteArray} (h:s.size=0):s=⟨#[]⟩:=by
 obtain⟨d⟩:=s
 have:d.size=0:=h
 rw [Array.size_eq_zero_iff.1 this]
theorem CG (s:ByteArray) (w:World) (hs:s.size≤9223372036854775807) (Z:AL w):Calls Tryz.prog 23 #[.string s] w (Ret fun r w'=>r=.bool (Ab s)∧Below w.heap.size w w'):=by
 have a6:=hide Z
 clear Z
 by_cases J:s.size=0
 ·have f:=hide (G6 (.inl J))
  have M:s.toList=[]:=by rw [ByteArray.toList_eq,Kk J]
  have hq:s.toList.isEmpty=true:=by rw [M]; rfl
  go_enter Tryz.func23,Tryz.ntmps23
  go_wp2_with fail
  go_ret
  exact⟨by rw [f.out]; rfl,Below.refl _ _⟩
 have M:¬s.toList=[]:=fun e=>J (by
  rw [ByteArray.toList_eq] at e
  have:=Lib.size_eq s
  rw [e] at this
  exact this)
 have hq:s.toList.isEmpty=false:=by
  cases h:s.toList
  ·exact absurd h M
  ·rfl
 by_cases a8:12<s.size
 ·have f:=hide (G6 (.inr a8))
  go_enter Tryz.func23,Tryz.ntmps23
  go_wp2_with fail
  go_ret
  exact⟨by rw [f.out]; rfl,Below.refl _ _⟩
 have h1:0<s.size:=by omega
 have a9:=hide (show s.size≤12 by omega)
 go_enter Tryz.func23,Tryz.ntmps23
 go_wp2_with fail
 go_loopw [] (fun wr=>∃(k:Nat),wr=w.iter s k∧k≤s.size∧Hid ((s.data.toList.take k).all nmB=true)∧Hid (0<k→∃c,s.data.toList[0]?=some c∧Da c=true)) (fun w'=>s.size - w'.iterPos w.heap.size)
 case atStart=>exact⟨0,rfl,Nat.zero_le _,by show _=_; simp,fun h=>absurd h (by omega)⟩
 case round=>
  obtain⟨k,rfl,hk,C,G⟩:=hrel
  by_cases E:k<s.size
  case neg=>
   have a2:∀ty,(Instr.next (.pointer (some ⟨w.heap.size,0,none⟩)) true ty).run Tryz.prog (w.iter s k)=_:=fun ty=>run_next_end w s k ty E
   have e:k=s.size:=by omega
   have O:=C.out
   rw [e,List.take_of_length_le (by rw [←Lib.size_eq]; exact Nat.le_refl _)] at O
   obtain⟨c,a3,a4⟩:=G.out (by omega)
   have f:=hide (IU a3 a4 a9.out O)
   clear O e a3 a4
   have U:=hide (Mr w s k)
   have aa:=hide (a6.out.below U.out)
   have ab:=U.out.size
   go_wp2_with fail
   refine Calls.ret (Qz s _ aa.out) ?_
   rintro r w2 ⟨rfl,a5⟩
   have ad:=hide a5
   clear a5
   go_wp2_with fail
   go_ret
   exact⟨by rw [f.out]; rfl,U.out.trans (ad.out.mono ab)⟩
  obtain⟨x,I⟩:∃x:UInt8,s[k]=x:=⟨_,rfl⟩
  have y:=hide (show s.data.toList[k]?=some x by rw [←I]; exact Lib.data_getElem? s k E)
  by_cases ha:x.toNat<128
  ·have a2:∀ty,(Instr.next (.pointer (some ⟨w.heap.size,0,none⟩)) true ty).run Tryz.prog (w.iter s k)=.ok (.tuple #[.bool true,.int .i64 k,.int .i32 x.toNat]) (w.iter s (k+1)):=fun ty=>by
    rw [run_next_ascii w s k ty E (by rw [I]; exact ha),I]
   by_cases V:k=0
   ·have af:((k:Int)==0)=true:=by simp; omega
    have F:=hide (show s.data.toList[0]?=some x by rw [←V]; exact y.out)
    clear V
    by_cases q1:(x.toNat:Int)<48
    ·have f:=hide (Ea F.out (EO (by omega)))
     go_wp2_with fail
     go_ret
     exact⟨by rw [f.out]; rfl,(Below.refl _ _).alloc (Nat.le_refl _) _⟩
    by_cases q2:(x.toNat:Int)≤57
    ·have f:=hide (Ea F.out (EO (by omega)))
     go_wp2_with fail
     go_ret
     exact⟨by rw [f.out]; rfl,(Below.refl _ _).alloc (Nat.le_refl _) _⟩
    by_cases q3:(x.toNat:Int)<97
    ·have f:=hide (Ea F.out (EO (by omega)))
     go_wp2_with fail
     go_ret
     exact⟨by rw [f.out]; rfl,(Below.refl _ _).alloc (Nat.le_refl _) _⟩
    by_cases q5:(x.toNat:Int)≤122
    ·have f:=hide (BP (p:=nmB) y.out C.out (D5 (by omega)))
     have z:=hide (fun _:0<k+1=>(⟨x,F.out,IX ⟨by omega,by omega⟩⟩:∃c,s.data.toList[0]?=some c∧Da c=true))
     go_wp2_with fail
     go_roundw
     case rel=>exact⟨k+1,rfl,by omega,f.out,z.out⟩
     case measure=>simp; omega
    ·have f:=hide (Ea F.out (EO (by omega)))
     go_wp2_with fail
     go_ret
     exact⟨by rw [f.out]; rfl,(Below.refl _ _).alloc (Nat.le_refl _) _⟩
   ·have af:((k:Int)==0)=false:=by simp; omega
    by_cases q1:(x.toNat:Int)<48
    ·have f:=hide (Ep y.out (Ee (by omega) (by omega) (by omega)))
     have W:((x.toNat:Int) != 95)=true:=by simp; omega
     go_wp2_with fail
     go_ret
     exact⟨by rw [f.out]; rfl,(Below.refl _ _).alloc (Nat.le_refl _) _⟩
    by_cases q2:(x.toNat:Int)≤57
    ·have f:=hide (BP (p:=nmB) y.out C.out (D5 (by omega)))
     have z:=hide (fun _:0<k+1=>G.out (by omega))
     go_wp2_with fail
     go_roundw
     case rel=>exact⟨k+1,rfl,by omega,f.out,z.out⟩
     case measure=>simp; omega
    by_cases q3:(x.toNat:Int)<97
    ·by_cases q4:(x.toNat:Int)=95
     ·have f:=hide (BP (p:=nmB) y.out C.out (D5 (by omega)))
      have z:=hide (fun _:0<k+1=>G.out (by omega))
      go_wp2_with fail
      go_roundw
      case rel=>exact⟨k+1,rfl,by omega,f.out,z.out⟩
      case measure=>simp; omega
     ·have f:=hide (Ep y.out (Ee (by omega) (by omega) (by omega)))
      have W:((x.toNat:Int) != 95)=true:=by simp; omega
      go_wp2_with fail
      go_ret
      exact⟨by rw [f.out]; rfl,(Below.refl _ _).alloc (Nat.le_refl _) _⟩
    by_cases q5:(x.toNat:Int)≤122
    ·have f:=hide (BP (p:=nmB) y.out C.out (D5 (by omega)))
     have z:=hide (fun _:0<k+1=>G.out (by omega))
     go_wp2_with fail
     go_roundw
     case rel=>exact⟨k+1,rfl,by omega,f.out,z.out⟩
     case measure=>simp; omega
    ·have f:=hide (Ep y.out (Ee (by omega) (by omega) (by omega)))
     have W:((x.toNat:Int) != 95)=true:=by simp; omega
     go_wp2_with fail
     go_ret
     exact⟨by rw [f.out]; rfl,(Below.refl _ _).alloc (Nat.le_refl _) _⟩
  ·have hd:=decode_high s k E (by rw [I]; omega)
   have an:=decode_le s k
   have a2:∀ty,(Instr.next (.pointer (some ⟨w.heap.size,0,none⟩)) true ty).run Tryz.prog (w.iter s k)=_:=fun ty=>run_next_any w s k ty E
   have f:=hide (Ep y.out (Ee (by omega) (by omega) (by omega)))
   generalize Utf8.decode s k=rn at*
   obtain⟨r,n⟩:=rn
   dsimp only at*
   have W:((r:Int) != 95)=true:=by simp; omega
   have g1:¬(r:Int)≤122:=by omega
   have g2:¬(r:Int)≤57:=by omega
   have g3:¬(r:Int)<48:=by omega
   cases V:((k:Int)==0)
   all_goals
    go_wp2_with fail
    go_ret
    exact⟨by rw [f.out]; rfl,(Below.refl _ _).alloc (Nat.le_refl _) _⟩
end Go.Proofs.YtlakpndhhelliaaGreatDoor.K
namespace Go.Proofs.YtlakpndhhelliaaGreatDoor.K
open Go.RowKit
theorem EA {w:World} {cs:List Value} {p:Ao} {v:Int} (h:Ax w w.heap.size cs p):Calls Tryz.prog 77 #[.agg cs.toArray,.int .i64 v] w (Ret fun r w'=>r=.int .i64 (Bi v p.values.length)∧Below w.heap.size w w'):=by
 obtain⟨E,F,G,c2,I,J,M,O,U,V,W,Z,A7,c7,rfl,-,-,z,-,-,-,-⟩:=h
 have hn:=z.1
 obtain⟨w1,a6,C,a4,a7⟩:=Ag w #[.string p.name,.int .i64 p.topo,.slice E p.states.length F,.slice G p.messages.length c2,.slice I p.values.length J,.int .i64 p.fault,.slice M p.res.length O,.slice U p.initial.length V,.slice W p.leader.length Z,.slice A7 p.rules.length c7] 27
 have a8:=a4.cell
 have y:=hide C
 clear C z
 have key:∀b:Bool,b= !AF v p.values.length→Ac b 5=Bi v p.values.length:=fun b f=>by rw [f]; rfl
 by_cases q1:v< -1
 ·have f:=hide (key true (by simp [AF]; omega))
  clear key
  go_enter Tryz.func77,Tryz.ntmps77
  go_wp2_with (go_at_call 27; refine(BZ _ _ _).mono ?_; rintro e w' ⟨rfl,rfl⟩; rw [f.out])
  go_ret
  exact⟨rfl,y.out⟩
 by_cases q2:(p.values.length:Int)≤v
 ·have f:=hide (key true (by simp [AF]; omega))
  clear key
  go_enter Tryz.func77,Tryz.ntmps77
  go_wp2_with (go_at_call 27; refine(BZ _ _ _).mono ?_; rintro e w' ⟨rfl,rfl⟩; rw [f.out])
  go_ret
  exact⟨rfl,y.out⟩
 ·have f:=hide (key false (by simp [AF]; omega))
  clear key
  go_enter Tryz.func77,Tryz.ntmps77
  go_wp2_with (go_at_call 27; refine(BZ _ _ _).mono ?_; rintro e w' ⟨rfl,rfl⟩; rw [f.out])
  go_ret
  exact⟨rfl,y.out⟩
theorem QZ {w:World} {B c:Nat} {A:Option Addr} {l:List Int} {n:Int} (h:Sl w B 1 Ai A l):Calls Tryz.prog 78 #[.slice A l.length c,.int .i64 n] w fun r w'=>r=.returned (.int .i64 (CL n l))∧w=w':=by
 have U:=hide h
 have hn:=h.1
 clear h
 by_cases f:(l.length:Int)=n
 case neg=>
  have V:((l.length:Int) != n)=true:=by simp; exact f
  have W:=hide (show CL n l=1 by unfold CL; rw [if_pos f])
  go_enter Tryz.func78,Tryz.ntmps78
  go_wp2_with fail
  go_ret
  exact⟨by rw [W.out]; rfl,rfl⟩
 have V:((l.length:Int) != n)=false:=by simp; exact f
 have I:=hide (show CL n l=Ah (fun x=>Ac (!inE x n) 5) l by unfold CL; rw [if_neg (by omega)])
 have a7:=hide f
 clear f
 go_enter Tryz.func78,Tryz.ntmps78
 go_wp2_with fail
 go_loopw [14] (fun z wr=>∃(k:Nat),z=.int .i64 (k:Int)∧k≤l.length∧w=wr∧Hid (Ah (fun x=>Ac (!inE x n) 5) (l.take k)=0)) (fun z _=>l.length - (intOf z).toNat)
 case atStart=>exact⟨0,rfl,Nat.zero_le _,(by first | rfl | trivial),rfl⟩
 case round=>
  obtain⟨k,rfl,hk,rfl,C⟩:=hrel
  by_cases Z:k<l.length
  ·obtain⟨b,a8,e,hA,a9,J,M⟩:=U.out.at Z
   have d0:=M 0 (by omega)
   simp only [Nat.add_zero,Nat.mul_one,Ai] at d0
   have O:=hide J
   subst hA
   clear M J
   cases y:inE e n
   ·have E:=hide (show Aw e n=5 by unfold Aw; rw [y]; rfl)
    have hZ:=hide (Cd (fun x=>Ac (!inE x n) 5) O.out C.out (show Ac (!inE e n) 5≠0 by rw [y]; decide))
    have F:=hide (show Ac (!inE e n) 5=5 by rw [y]; rfl)
    go_wp2_with (go_at_call 52; refine(Cl _ _ _).mono ?_; rintro r w' ⟨rfl,rfl⟩; rw [E.out])
    go_ret
    exact⟨by rw [I.out,hZ.out,F.out]; rfl,rfl⟩
   ·have E:=hide (show Aw e n=0 by unfold Aw; rw [y]; rfl)
    have F:=hide (show Ac (!inE e n) 5=0 by rw [y]; rfl)
    go_wp2_with (go_at_call 52; refine(Cl _ _ _).mono ?_; rintro r w' ⟨rfl,rfl⟩; rw [E.out])
    refine⟨⟨k+1,by go_num,by omega,(by first | rfl | trivial),?_⟩,by simp [intOf]; omega⟩
    show _=_
    rw [Cq _ O.out C.out]
    exact F.out
  ·have e:k=l.length:=by omega
   have G:=C.out
   rw [e,List.take_length] at G
   have a5:=hide G
   clear G e
   go_wp2_with fail
   go_ret
   exact⟨by rw [I.out,a5.out]; rfl,rfl⟩
end Go.Proofs.YtlakpndhhelliaaGreatDoor.K
