/-
  Part PS of a proof.
-/
import Derived.Shelf.LaysM
import Derived.Shelf.Strings.Builder1
import Derived.Shelf.Strconv.Itoa3
import Derived.Shelf.Sort.Plain
import Derived.Ground.NamesProg
import Derived.Ground.Names2Prog
import Derived.Shelf.Slices.Clone
import Derived.Shelf.Slices.CompactI
import Derived.Test.YtfcfpoemojjglaaGreatDoorProg
import Derived.Shelf.Slices.In.SortNone
import Derived.Lib.RowBridge
import Derived.Lib.AppendIntMem
import Derived.Test.YtfcfpoemojjglaaGreatDoorPA
import Derived.Test.YtfcfpoemojjglaaGreatDoorPC
set_option maxHeartbeats 16000000
set_option maxRecDepth 100000
set_option linter.unusedVariables false
set_option linter.unusedSimpArgs false
namespace Go.Proofs
open Go.Shelf
def Tryz.lays169_ren:Go.Shelf.Ren:=⟨fun | 169=>202 | n=>n,fun | 70=>253 | 9=>9 | 0=>0 | 72=>256 | 37=>254 | 127=>278 | 3=>3 | 5=>5 | n=>n,fun | n=>n⟩
theorem Tryz.lays169:Go.Proofs.Lays.n169 Tryz.prog Tryz.lays169_ren:={
 mixed:=by kernel_rfl
 f169:=Tryz.func202.trans (congrArg some (by kernel_rfl))
 t0:=Tryz.underlying0
 a0:=Tryz.isAgg0
 z0:=Tryz.sizeOf0
 v0:=Tryz.zeroValue0
 t3:=Tryz.underlying3
 a3:=Tryz.isAgg3
 z3:=Tryz.sizeOf3
 v3:=Tryz.zeroValue3
 t9:=Tryz.underlying9
 a9:=Tryz.isAgg9
 z9:=Tryz.sizeOf9
 v9:=Tryz.zeroValue9
 t37:=Tryz.underlying254
 a37:=Tryz.isAgg254
 z37:=Tryz.sizeOf254
 v37:=Tryz.zeroValue254
 t70:=Tryz.underlying253
 a70:=Tryz.isAgg253
 z70:=Tryz.sizeOf253
 v70:=Tryz.zeroValue253
 t72:=Tryz.underlying256
 a72:=Tryz.isAgg256
 z72:=Tryz.sizeOf256
 v72:=Tryz.zeroValue256
 t127:=Tryz.underlying278
 a127:=Tryz.isAgg278
 z127:=Tryz.sizeOf278
 v127:=Tryz.zeroValue278 }
theorem Tryz.Builder_Extra_169:Builder.Extra Tryz.prog Tryz.lays169_ren:={
 sizeBuilder:=by kernel_rfl
 liesBuilder:=by kernel_rfl
 t5:=Tryz.underlying5
 a5:=Tryz.isAgg5
 z5:=Tryz.sizeOf5
 v5:=Tryz.zeroValue5
 infoByte:=by kernel_rfl
 cellsByte:=by kernel_rfl
 sizeByte:=by kernel_rfl
 neB5:=by decide }
open Go.RowKit in
theorem Tryz.Builder_String_any (B b:Nat) (l:List UInt8) (w:World) (h:Lib.IsBuilder 256 5 B b (Lib.byteCells l) w) (d:B<=w.heap.size):
  Calls Tryz.prog 202 #[.pointer (some ⟨b,0,none⟩)] w fun e w'=>e=.returned (.string ⟨l.toArray⟩)/\Below B w w':=Any.Builder_String_any Tryz.lays169 Tryz.Builder_Extra_169 B b l w h d
def Tryz.laysM171_ren:Go.Shelf.Ren:=⟨fun | 171=>200 | 243=>223 | 246=>232 | 283=>234 | 284=>235 | 285=>236 | 286=>237 | 129=>190 | 317=>240 | 318=>241 | 319=>242 | 320=>243 | 337=>244 | 338=>245 | n=>n,fun | 3=>3 | 9=>9 | 2=>2 | 4=>4 | 171=>296 | 0=>0 | 53=>247 | 37=>254 | 5=>5 | 173=>298 | 212=>311 | 51=>245 | 20=>20 | 213=>312 | 46=>196 | 232=>315 | 233=>316 | n=>n,fun | 17=>2 | 18=>3 | 19=>4 | n=>n⟩
theorem Tryz.laysM171:Go.Proofs.LaysM.n171 Tryz.prog Tryz.laysM171_ren:={
 mixed:=by kernel_rfl
 f129:=Tryz.func190.trans (congrArg some (by kernel_rfl))
 f171:=Tryz.func200.trans (congrArg some (by kernel_rfl))
 f243:=Tryz.func223.trans (congrArg some (by kernel_rfl))
 f246:=Tryz.func232.trans (congrArg some (by kernel_rfl))
 f283:=Tryz.func234.trans (congrArg some (by kernel_rfl))
 f284:=Tryz.func235.trans (congrArg some (by kernel_rfl))
 f285:=Tryz.func236.trans (congrArg some (by kernel_rfl))
 f286:=Tryz.func237.trans (congrArg some (by kernel_rfl))
 f317:=Tryz.func240.trans (congrArg some (by kernel_rfl))
 f318:=Tryz.func241.trans (congrArg some (by kernel_rfl))
 f319:=Tryz.func242.trans (congrArg some (by kernel_rfl))
 f320:=Tryz.func243.trans (congrArg some (by kernel_rfl))
 f337:=Tryz.func244.trans (congrArg some (by kernel_rfl))
 f338:=Tryz.func245.trans (congrArg some (by kernel_rfl))
 t0:=Tryz.underlying0
 a0:=Tryz.isAgg0
 z0:=Tryz.sizeOf0
 v0:=Tryz.zeroValue0
 t2:=Tryz.underlying2
 a2:=Tryz.isAgg2
 z2:=Tryz.sizeOf2
 v2:=Tryz.zeroValue2
 t3:=Tryz.underlying3
 a3:=Tryz.isAgg3
 z3:=Tryz.sizeOf3
 v3:=Tryz.zeroValue3
 t4:=Tryz.underlying4
 a4:=Tryz.isAgg4
 z4:=Tryz.sizeOf4
 v4:=Tryz.zeroValue4
 t5:=Tryz.underlying5
 a5:=Tryz.isAgg5
 z5:=Tryz.sizeOf5
 v5:=Tryz.zeroValue5
 t9:=Tryz.underlying9
 a9:=Tryz.isAgg9
 z9:=Tryz.sizeOf9
 v9:=Tryz.zeroValue9
 t20:=Tryz.underlying20
 a20:=Tryz.isAgg20
 z20:=Tryz.sizeOf20
 v20:=Tryz.zeroValue20
 t37:=Tryz.underlying254
 a37:=Tryz.isAgg254
 z37:=Tryz.sizeOf254
 v37:=Tryz.zeroValue254
 t46:=Tryz.underlying196
 a46:=Tryz.isAgg196
 z46:=Tryz.sizeOf196
 v46:=Tryz.zeroValue196
 t51:=Tryz.underlying245
 a51:=Tryz.isAgg245
 z51:=Tryz.sizeOf245
 v51:=Tryz.zeroValue245
 t53:=Tryz.underlying247
 a53:=Tryz.isAgg247
 z53:=Tryz.sizeOf247
 v53:=Tryz.zeroValue247
 t171:=Tryz.underlying296
 a171:=Tryz.isAgg296
 z171:=Tryz.sizeOf296
 v171:=Tryz.zeroValue296
 t173:=Tryz.underlying298
 a173:=Tryz.isAgg298
 z173:=Tryz.sizeOf298
 v173:=Tryz.zeroValue298
 t212:=Tryz.underlying311
 a212:=Tryz.isAgg311
 z212:=Tryz.sizeOf311
 v212:=Tryz.zeroValue311
 t213:=Tryz.underlying312
 a213:=Tryz.isAgg312
 z213:=Tryz.sizeOf312
 t232:=Tryz.underlying315
 a232:=Tryz.isAgg315
 z232:=Tryz.sizeOf315
 v232:=Tryz.zeroValue315
 t233:=Tryz.underlying316
 a233:=Tryz.isAgg316
 z233:=Tryz.sizeOf316
 v233:=Tryz.zeroValue316
 g17:=by kernel_rfl
 g18:=by kernel_rfl
 g19:=by kernel_rfl
 i0:=by kernel_rfl
 i2:=by kernel_rfl
 i3:=by kernel_rfl
 i4:=by kernel_rfl
 i5:=by kernel_rfl
 i9:=by kernel_rfl
 i20:=by kernel_rfl
 i37:=by kernel_rfl
 i46:=by kernel_rfl
 i51:=by kernel_rfl
 i53:=by kernel_rfl
 i171:=by kernel_rfl
 i173:=by kernel_rfl
 i212:=by kernel_rfl
 i232:=by kernel_rfl
 i233:=by kernel_rfl
 m17:=by kernel_rfl
 m18:=by kernel_rfl
 m19:=by kernel_rfl }
open Go.RowKit Go.Sort Go.Lib in
theorem Tryz.strconv_Itoa (n:Int) (d:-9223372036854775808<=n) (h:n<=9223372036854775807) (w:World) (j:Lib.TabIs Tryz.prog w "internal/strconv.uint64pow10" .u64 Lib.pow10Tab):
  Calls Tryz.prog 200 #[.int .i64 n] w fun e w'=>e=.returned (.string ⟨(Lib.itoa n).toArray⟩)/\∃k os,w'=grow (w.drewN k) os:=Any.strconv_Itoa Tryz.laysM171 n d h w j
def Tryz.lays189_ren:Go.Shelf.Ren:=⟨fun | 189=>88 | 125=>131 | 257=>130 | 128=>189 | 129=>190 | 294=>180 | 295=>181 | 296=>182 | 297=>183 | 298=>184 | 299=>185 | 216=>186 | 300=>187 | 301=>188 | 328=>215 | 329=>216 | 330=>217 | 331=>218 | 332=>219 | 215=>220 | 343=>230 | n=>n,fun | 28=>24 | 3=>3 | 46=>196 | 0=>0 | 51=>245 | 53=>247 | 4=>4 | 183=>238 | 182=>237 | 131=>182 | 5=>5 | 9=>9 | 218=>271 | 222=>275 | 228=>286 | 229=>192 | n=>n,fun | n=>n⟩
theorem Tryz.lays189:Go.Proofs.Lays.n189 Tryz.prog Tryz.lays189_ren:={
 mixed:=by kernel_rfl
 f125:=Tryz.func131.trans (congrArg some (by kernel_rfl))
 f128:=Tryz.func189.trans (congrArg some (by kernel_rfl))
 f129:=Tryz.func190.trans (congrArg some (by kernel_rfl))
 f189:=Tryz.func88.trans (congrArg some (by kernel_rfl))
 f215:=Tryz.func220.trans (congrArg some (by kernel_rfl))
 f216:=Tryz.func186.trans (congrArg some (by kernel_rfl))
 f257:=Tryz.func130.trans (congrArg some (by kernel_rfl))
 f294:=Tryz.func180.trans (congrArg some (by kernel_rfl))
 f295:=Tryz.func181.trans (congrArg some (by kernel_rfl))
 f296:=Tryz.func182.trans (congrArg some (by kernel_rfl))
 f297:=Tryz.func183.trans (congrArg some (by kernel_rfl))
 f298:=Tryz.func184.trans (congrArg some (by kernel_rfl))
 f299:=Tryz.func185.trans (congrArg some (by kernel_rfl))
 f300:=Tryz.func187.trans (congrArg some (by kernel_rfl))
 f301:=Tryz.func188.trans (congrArg some (by kernel_rfl))
 f328:=Tryz.func215.trans (congrArg some (by kernel_rfl))
 f329:=Tryz.func216.trans (congrArg some (by kernel_rfl))
 f330:=Tryz.func217.trans (congrArg some (by kernel_rfl))
 f331:=Tryz.func218.trans (congrArg some (by kernel_rfl))
 f332:=Tryz.func219.trans (congrArg some (by kernel_rfl))
 f343:=Tryz.func230.trans (congrArg some (by kernel_rfl))
 t0:=Tryz.underlying0
 a0:=Tryz.isAgg0
 z0:=Tryz.sizeOf0
 v0:=Tryz.zeroValue0
 t3:=Tryz.underlying3
 a3:=Tryz.isAgg3
 z3:=Tryz.sizeOf3
 v3:=Tryz.zeroValue3
 t4:=Tryz.underlying4
 a4:=Tryz.isAgg4
 z4:=Tryz.sizeOf4
 v4:=Tryz.zeroValue4
 t5:=Tryz.underlying5
 a5:=Tryz.isAgg5
 z5:=Tryz.sizeOf5
 v5:=Tryz.zeroValue5
 t9:=Tryz.underlying9
 a9:=Tryz.isAgg9
 z9:=Tryz.sizeOf9
 v9:=Tryz.zeroValue9
 t28:=Tryz.underlying24
 a28:=Tryz.isAgg24
 z28:=Tryz.sizeOf24
 v28:=Tryz.zeroValue24
 t46:=Tryz.underlying196
 a46:=Tryz.isAgg196
 z46:=Tryz.sizeOf196
 v46:=Tryz.zeroValue196
 t51:=Tryz.underlying245
 a51:=Tryz.isAgg245
 z51:=Tryz.sizeOf245
 v51:=Tryz.zeroValue245
 t53:=Tryz.underlying247
 a53:=Tryz.isAgg247
 z53:=Tryz.sizeOf247
 v53:=Tryz.zeroValue247
 t131:=Tryz.underlying182
 a131:=Tryz.isAgg182
 z131:=Tryz.sizeOf182
 v131:=Tryz.zeroValue182
 t182:=Tryz.underlying237
 a182:=Tryz.isAgg237
 z182:=Tryz.sizeOf237
 v182:=Tryz.zeroValue237
 t183:=Tryz.underlying238
 a183:=Tryz.isAgg238
 z183:=Tryz.sizeOf238
 v183:=Tryz.zeroValue238
 t218:=Tryz.underlying271
 a218:=Tryz.isAgg271
 z218:=Tryz.sizeOf271
 v218:=Tryz.zeroValue271
 t222:=Tryz.underlying275
 a222:=Tryz.isAgg275
 z222:=Tryz.sizeOf275
 v222:=Tryz.zeroValue275
 t228:=Tryz.underlying286
 a228:=Tryz.isAgg286
 z228:=Tryz.sizeOf286
 v228:=Tryz.zeroValue286
 t229:=Tryz.underlying192
 a229:=Tryz.isAgg192
 z229:=Tryz.sizeOf192
 v229:=Tryz.zeroValue192 }
open Go.Sort Go.RowKit in
theorem Tryz.slices_Sort_int (blk h j:Nat) (d:List Int) (w:World) (l:Holds (Value.int .i64) w blk h d.toArray) (C:blk<w.heap.size) (E:d.length<4611686018427387904):
  Calls Tryz.prog 88 #[.slice (some ⟨blk,h,none⟩) d.length j] w fun e w'=>
   e=.returned (.tuple #[])/\∃n os,w'=grow (putRow (Value.int .i64) (Sort.ahead w n) blk h (d.mergeSort fun x y=>decide (x<=y)).toArray) os:=Any.slices_Sort_int Tryz.lays189 blk h j d w l C E
def Tryz.laysNm215_ren:Go.Shelf.Ren:=⟨fun | 15=>87 | n=>n,fun | 22=>24 | 3=>3 | 4=>4 | n=>n,fun | n=>n⟩
theorem Tryz.laysNm215:Go.Proofs.Lays2.n15 Tryz.prog Tryz.laysNm215_ren:={
 mixed:=by kernel_rfl
 f15:=Tryz.func87.trans (congrArg some (by kernel_rfl))
 t3:=Tryz.underlying3
 a3:=Tryz.isAgg3
 z3:=Tryz.sizeOf3
 v3:=Tryz.zeroValue3
 t4:=Tryz.underlying4
 a4:=Tryz.isAgg4
 z4:=Tryz.sizeOf4
 v4:=Tryz.zeroValue4
 t22:=Tryz.underlying24
 a22:=Tryz.isAgg24
 z22:=Tryz.sizeOf24
 v22:=Tryz.zeroValue24
 i3:=by kernel_rfl }
open Go.RowKit Go.Lib in
theorem Tryz.slices_Clone_int (b h n c:Nat) (d:List Int) (w:World) (E:n<=d.length) (y:n*8<=140737488355328) (C:∀j,j<d.length->w.cell? ⟨b,h+j,none⟩=some (.int .i64 (d.getD j 0))):
  Calls Tryz.prog 87 #[.slice (some ⟨b,h,none⟩) n c] w fun e w'=>∃l,e=.returned l/\w'.ownsRow w.heap.size 3 1 l n ((d.take n).map (Value.int .i64))/\l≠.slice none 0 0/\Below w.heap.size w w':=Any.slices_Clone_int Tryz.laysNm215 b h n c d w E y C
open Go.RowKit Go.Lib in
theorem Tryz.slices_Clone_int_nil (n c:Nat) (w:World):
  Calls Tryz.prog 87 #[.slice none n c] w fun e w'=>e=.returned (.slice none 0 0)/\w'=w:=Any.slices_Clone_int_nil Tryz.laysNm215 n c w
def Tryz.laysNm220_ren:Go.Shelf.Ren:=⟨fun | 20=>89 | n=>n,fun | 22=>24 | 3=>3 | 4=>4 | 0=>0 | n=>n,fun | n=>n⟩
theorem Tryz.laysNm220:Go.Proofs.Lays2.n20 Tryz.prog Tryz.laysNm220_ren:={
 mixed:=by kernel_rfl
 f20:=Tryz.func89.trans (congrArg some (by kernel_rfl))
 t0:=Tryz.underlying0
 a0:=Tryz.isAgg0
 z0:=Tryz.sizeOf0
 v0:=Tryz.zeroValue0
 t3:=Tryz.underlying3
 a3:=Tryz.isAgg3
 z3:=Tryz.sizeOf3
 v3:=Tryz.zeroValue3
 t4:=Tryz.underlying4
 a4:=Tryz.isAgg4
 z4:=Tryz.sizeOf4
 v4:=Tryz.zeroValue4
 t22:=Tryz.underlying24
 a22:=Tryz.isAgg24
 z22:=Tryz.sizeOf24
 v22:=Tryz.zeroValue24
 i3:=by kernel_rfl }
open Go.RowKit Go.Lib Go.Sort in
theorem Tryz.slices_Compact_int (blk h j:Nat) (d:List Int) (w:World) (l:Holds (Value.int .i64) w blk h d.toArray) (C:d.length<=9223372036854775807) (y:d.length<=j):
  Calls Tryz.prog 89 #[.slice (some ⟨blk,h,none⟩) d.length j] w fun e w'=>e=.returned (.slice (some ⟨blk,h,none⟩) (Lib.compact d).length j)/\∃q,w'=putRow (Value.int .i64) (Sort.ahead w q) blk h (Lib.compact d++List.replicate (d.length - (Lib.compact d).length) 0).toArray:=Any.slices_Compact_int Tryz.laysNm220 blk h j d w l C y
open Go.RowKit Go.Lib Go.Sort in
theorem Tryz.slices_Compact_int_empty (a:Option Addr) (d:Nat) (w:World):
  Calls Tryz.prog 89 #[.slice a 0 d] w fun e w'=>e=.returned (.slice a 0 d)/\w'=w:=Any.slices_Compact_int_empty Tryz.laysNm220 a d w
def Tryz.lays166_ren:Go.Shelf.Ren:=⟨fun | 166=>199 | 240=>222 | 276=>231 | n=>n,fun | 0=>0 | 3=>3 | 4=>4 | 5=>5 | 9=>9 | 20=>20 | 37=>254 | 70=>253 | 72=>256 | 75=>258 | 80=>263 | 164=>288 | n=>n,fun | n=>n⟩
theorem Tryz.lays166:Go.Proofs.Lays.n166 Tryz.prog Tryz.lays166_ren:={
 mixed:=by kernel_rfl
 f166:=Tryz.func199.trans (congrArg some (by kernel_rfl))
 f240:=Tryz.func222.trans (congrArg some (by kernel_rfl))
 f276:=Tryz.func231.trans (congrArg some (by kernel_rfl))
 t0:=Tryz.underlying0
 a0:=Tryz.isAgg0
 z0:=Tryz.sizeOf0
 v0:=Tryz.zeroValue0
 t3:=Tryz.underlying3
 a3:=Tryz.isAgg3
 z3:=Tryz.sizeOf3
 v3:=Tryz.zeroValue3
 t4:=Tryz.underlying4
 a4:=Tryz.isAgg4
 z4:=Tryz.sizeOf4
 v4:=Tryz.zeroValue4
 t9:=Tryz.underlying9
 a9:=Tryz.isAgg9
 z9:=Tryz.sizeOf9
 v9:=Tryz.zeroValue9
 t20:=Tryz.underlying20
 a20:=Tryz.isAgg20
 z20:=Tryz.sizeOf20
 v20:=Tryz.zeroValue20
 t37:=Tryz.underlying254
 a37:=Tryz.isAgg254
 z37:=Tryz.sizeOf254
 v37:=Tryz.zeroValue254
 t70:=Tryz.underlying253
 a70:=Tryz.isAgg253
 z70:=Tryz.sizeOf253
 v70:=Tryz.zeroValue253
 t72:=Tryz.underlying256
 a72:=Tryz.isAgg256
 z72:=Tryz.sizeOf256
 v72:=Tryz.zeroValue256
 t75:=Tryz.underlying258
 a75:=Tryz.isAgg258
 z75:=Tryz.sizeOf258
 v75:=Tryz.zeroValue258
 t164:=Tryz.underlying288
 a164:=Tryz.isAgg288
 z164:=Tryz.sizeOf288
 v164:=Tryz.zeroValue288 }
theorem Tryz.Builder_Extra_166:Builder.Extra Tryz.prog Tryz.lays166_ren:={
 sizeBuilder:=by kernel_rfl
 liesBuilder:=by kernel_rfl
 t5:=Tryz.underlying5
 a5:=Tryz.isAgg5
 z5:=Tryz.sizeOf5
 v5:=Tryz.zeroValue5
 infoByte:=by kernel_rfl
 cellsByte:=by kernel_rfl
 sizeByte:=by kernel_rfl
 neB5:=by decide }
def Tryz.lays167_ren:Go.Shelf.Ren:=⟨fun | 167=>201 | 240=>222 | 276=>231 | n=>n,fun | 0=>0 | 3=>3 | 4=>4 | 5=>5 | 9=>9 | 20=>20 | 37=>254 | 70=>253 | 72=>256 | 75=>258 | 80=>263 | 164=>288 | n=>n,fun | n=>n⟩
theorem Tryz.lays167:Go.Proofs.Lays.n167 Tryz.prog Tryz.lays167_ren:={
 mixed:=by kernel_rfl
 f167:=Tryz.func201.trans (congrArg some (by kernel_rfl))
 f240:=Tryz.func222.trans (congrArg some (by kernel_rfl))
 f276:=Tryz.func231.trans (congrArg some (by kernel_rfl))
 t0:=Tryz.underlying0
 a0:=Tryz.isAgg0
 z0:=Tryz.sizeOf0
 v0:=Tryz.zeroValue0
 t4:=Tryz.underlying4
 a4:=Tryz.isAgg4
 z4:=Tryz.sizeOf4
 v4:=Tryz.zeroValue4
 t5:=Tryz.underlying5
 a5:=Tryz.isAgg5
 z5:=Tryz.sizeOf5
 v5:=Tryz.zeroValue5
 t9:=Tryz.underlying9
 a9:=Tryz.isAgg9
 z9:=Tryz.sizeOf9
 v9:=Tryz.zeroValue9
 t20:=Tryz.underlying20
 a20:=Tryz.isAgg20
 z20:=Tryz.sizeOf20
 v20:=Tryz.zeroValue20
 t37:=Tryz.underlying254
 a37:=Tryz.isAgg254
 z37:=Tryz.sizeOf254
 v37:=Tryz.zeroValue254
 t70:=Tryz.underlying253
 a70:=Tryz.isAgg253
 z70:=Tryz.sizeOf253
 v70:=Tryz.zeroValue253
 t72:=Tryz.underlying256
 a72:=Tryz.isAgg256
 z72:=Tryz.sizeOf256
 v72:=Tryz.zeroValue256
 t75:=Tryz.underlying258
 a75:=Tryz.isAgg258
 z75:=Tryz.sizeOf258
 v75:=Tryz.zeroValue258
 t164:=Tryz.underlying288
 a164:=Tryz.isAgg288
 z164:=Tryz.sizeOf288
 v164:=Tryz.zeroValue288 }
theorem Tryz.Builder_Extra_167:Builder.Extra Tryz.prog Tryz.lays167_ren:={
 sizeBuilder:=by kernel_rfl
 liesBuilder:=by kernel_rfl
 t5:=Tryz.underlying5
 a5:=Tryz.isAgg5
 z5:=Tryz.sizeOf5
 v5:=Tryz.zeroValue5
 infoByte:=by kernel_rfl
 cellsByte:=by kernel_rfl
 sizeByte:=by kernel_rfl
 neB5:=by decide }
open Go.RowKit in
theorem Tryz.Builder_WriteByte (B b:Nat) (d:List Value) (c:Int) (w:World) (h:Lib.IsBuilder 256 5 B b d w) (l:d.length+1<=140737488355328) (j:B<=w.heap.size):
  Calls Tryz.prog 201 #[.pointer (some ⟨b,0,none⟩),.int .u8 c] w fun e w'=>e=.returned .nilIface/\(Lib.BuilderAt 256 5 B b (.pointer (some ⟨b,0,none⟩)) (d++[.int .u8 c]) w'/\Below B w w'):=Any.Builder_WriteByte Tryz.lays167 Tryz.Builder_Extra_167 B b d c w h l j
open Go.RowKit in
theorem Tryz.Builder_WriteString (B b:Nat) (d:List Value) (s:ByteArray) (w:World) (h:Lib.IsBuilder 256 5 B b d w) (l:d.length+s.size<=140737488355328) (j:B<=w.heap.size):
  Calls Tryz.prog 199 #[.pointer (some ⟨b,0,none⟩),.string s] w fun e w'=>e=.returned (.tuple #[.int .i64 s.size,.nilIface])/\(Lib.BuilderAt 256 5 B b (.pointer (some ⟨b,0,none⟩)) (d++Lib.strCells s) w'/\Below B w w'):=Any.Builder_WriteString Tryz.lays166 Tryz.Builder_Extra_166 B b d s w h l j
end Go.Proofs
namespace Go.Proofs.YtfcfpoemojjglaaGreatDoor
open Go.RowKit Go.Sort
set_option maxHeartbeats 16000000
set_option maxRecDepth 100000
def CL (l:List Int):List Int:=Lib.compact (l.mergeSort fun x y=>decide (x<=y))
theorem Jc (d:Array Int) (I:∀i j,i<=j->j<d.size->d[i]!<=d[j]!):∀m,m<=d.size->Asc (Lib.compactUpTo d m)/\∀x,x∈Lib.compactUpTo d m↔∃j,j<m/\d[j]! =x:=by
 intro m
 induction m with
 | zero=>exact fun _=>⟨List.Pairwise.nil,fun _=>⟨fun h=>by simp [Lib.compactUpTo] at h,fun⟨j,C,_⟩=>by omega⟩⟩
 | succ m ih=>
  intro U;obtain⟨G,E⟩:=ih (by omega);rw [Lib.compactUpTo_succ];cases l:Lib.keeps d m
  ·simp only [Bool.false_eq_true,if_false,List.append_nil];refine⟨G,fun x=>(E x).trans ⟨fun⟨j,C,e⟩=>⟨j,by omega,e⟩,fun⟨j,C,e⟩=>?_⟩⟩;rcases Nat.lt_or_ge j m with h | h
   ·exact⟨j,h,e⟩
   ·obtain rfl:j=m:=by omega
    simp [Lib.keeps] at l;exact⟨j - 1,by omega,by rw [<-l.2]; exact e⟩
  ·simp only [if_true];refine⟨List.pairwise_append.2 ⟨G,by simp,fun x J y M=>?_⟩,fun x=>?_⟩
   ·rw [List.mem_singleton.1 M];obtain⟨j,C,e⟩:=(E x).1 J;have a1:=I j (m - 1) (by omega) (by omega);have O:=I (m - 1) m (by omega) (by omega);simp [Lib.keeps] at l;rcases l with l | l
    ·omega
    ·have:d[m]!≠d[m - 1]!:=l;omega
   ·rw [List.mem_append,List.mem_singleton,E x];constructor
    ·rintro(⟨j,C,e⟩ | rfl)
     ·exact⟨j,by omega,e⟩
     ·exact⟨m,by omega,rfl⟩
    ·rintro⟨j,C,e⟩;rcases Nat.lt_or_ge j m with h | h
     ·exact .inl ⟨j,h,e⟩
     ·obtain rfl:j=m:=by omega
      exact .inr e.symm
theorem Tc (l:List Int):(l.mergeSort fun x y=>decide (x<=y)).Pairwise (·<=·):=by
 have:=List.pairwise_mergeSort (le:=fun x y:Int=>decide (x<=y)) (fun a b c d j=>by simp at*; omega) (fun a b=>by simp; omega) l;exact this.imp fun h=>by simpa using h
theorem Lo (l:List Int) (i j:Nat) (E:i<=j) (d:j<((l.mergeSort fun x y=>decide (x<=y)).toArray).size):(l.mergeSort fun x y=>decide (x<=y)).toArray[i]!<=(l.mergeSort fun x y=>decide (x<=y)).toArray[j]!:=by
 have h:=Tc l;generalize l.mergeSort (fun x y=>decide (x<=y))=s at*;simp only [List.size_toArray] at d;rcases Nat.lt_or_ge i j with C | C
 ·have:=List.pairwise_iff_getElem.1 h i j (by omega) d C;simpa [d,show i<s.length from by omega] using this
 ·obtain rfl:i=j:=by omega
  exact Int.le_refl _
theorem Mf (l:List Int):Asc (CL l):=(Jc _ (Lo l) _ (by simp)).1
theorem J3 {l:List Int} {x:Int}:x∈CL l↔x∈l:=by
 have h:=(Jc _ (Lo l) ((l.mergeSort fun x y=>decide (x<=y)).length) (by simp)).2 x;unfold CL Lib.compact;rw [h];have C:x∈(l.mergeSort fun x y=>decide (x<=y))↔x∈l:=(List.mergeSort_perm l _).mem_iff;rw [<-C];generalize l.mergeSort (fun x y=>decide (x<=y))=s;constructor
 ·rintro⟨j,d,rfl⟩;simp [d]
 ·intro E;obtain⟨j,d,rfl⟩:=List.getElem_of_mem E;exact⟨j,d,by simp [d]⟩
theorem Ta (l:List Int):(CL l).length<=l.length:=by
 have:=Go.Lib.compact_length_le (l.mergeSort fun x y=>decide (x<=y))
 rwa [List.length_mergeSort] at this
theorem Ip {l:List Int} {m:List Bool} (h:∀x,x∈l↔∃q:Nat,x=(q:Int)/\m[q]?=some true):CL l=AJ m:=
 IU (Mf l) (Me m) fun x=>(J3.trans (h x)).trans Ee.symm
theorem Tb:CL []=[]:=List.eq_nil_iff_forall_not_mem.2 fun _ d=>absurd (J3.1 d) List.not_mem_nil
theorem Kf {w:World} {base size n m:Nat} {e:TypeId} {g j:Nat} {xs:List Value} (h:w.ownsRow base e size (.slice (some ⟨g,0,none⟩) n j) n xs) (O:m<=n):
  w.ownsRow base e size (.slice (some ⟨g,0,none⟩) m j) m (xs.take (m*size)):=by
 obtain⟨M,l⟩:=h;have U:m*size<=n*size:=Nat.mul_le_mul_right _ O;refine⟨by rw [List.length_take,M]; omega,?_⟩;rcases l with⟨C,_⟩ | ⟨Z,W,y,d,E,J,hc,l,V,ht⟩
 ·cases C
 ·injection d with d _ G
  injection d with d
  injection d with I
  subst I G;refine .inr ⟨g,j,y,rfl,E,J,by omega,l,V,?_⟩;rw [<-ht,List.take_take,Nat.min_eq_left U]
theorem Kb {w:World} {base n g I:Nat} {e:TypeId} {l:List Int} (h:w.ownsRow base e 1 (.slice (some ⟨g,0,none⟩) n I) n (l.map (Value.int .i64))):Holds (Value.int .i64) w g 0 l.toArray:=by
 have Z:l.length=n:=by simpa using h.1
 rcases h.2 with⟨d,_⟩ | ⟨U,O,E,y,V,G,W,hx,hs,ht⟩
 ·cases d
 ·injection y with y _ J
  injection y with y
  injection y with M
  subst M J;intro j C;simp only [List.size_toArray] at C;refine⟨?_,Blk.frozen (t:=e) (cs:=E) G _⟩;rw [cell_of_row w g _ E e (0,0) G,Nat.zero_add];have d:(l.map (Value.int .i64))[j]?=some (.int .i64 l[j]):=AX (List.getElem?_eq_getElem C);rw [<-ht,List.getElem?_take] at d;split at d
  ·rw [show l.toArray[j]! =l[j] from by simp [C]];simpa using d
  ·cases d
theorem HR {w:World} {base n g C k:Nat} {e:TypeId} {xs:List Value} (h:w.ownsRow base e 1 (.slice (some ⟨g,0,none⟩) n C) n xs) (d:List Int) (V:d.length=n) (os:Array Obj):
  (grow (putRow (Value.int .i64) (Sort.ahead w k) g 0 d.toArray) os).ownsRow base e 1 (.slice (some ⟨g,0,none⟩) n C) n (d.map (Value.int .i64))/\Ac w (grow (putRow (Value.int .i64) (Sort.ahead w k) g 0 d.toArray) os) (fun b=>b=g):=by
 rcases h.2 with⟨M,_⟩ | ⟨g',a6,E,y,l,I,O,hx,hs,ht⟩
 ·cases M
 ·injection y with y _ U
  injection y with y
  injection y with W
  subst W U;have Z:=(Array.getElem?_eq_some_iff.1 I).1;have G:∀b,b<w.heap.size->(grow (putRow (Value.int .i64) (Sort.ahead w k) g 0 d.toArray) os).heap[b]?=if g=b then (w.heap[b]?).map (onCells (putCells (Value.int .i64) 0 d.toArray)) else w.heap[b]?:=fun b l=>by
   unfold grow putRow mapBlock Sort.ahead;rw [Array.getElem?_append_left (by simpa using l),Array.getElem?_modify]
  refine⟨⟨by simp [V],.inr ⟨g,C,putCells (Value.int .i64) 0 d.toArray E,rfl,l,?_,O,hx,?_,?_⟩⟩,rfl,rfl,rfl,?_,fun b l hn=>?_⟩
  ·rw [G g Z,if_pos rfl,I];rfl
  ·unfold putCells;rw [Array.size_mapIdx];exact hs
  ·apply List.ext_getElem?;intro j;rw [List.getElem?_take];by_cases hj:j<n
   ·rw [if_pos (by omega)];have a2:j<E.size:=by omega
    have J:j<d.length:=by omega
    rw [AX (List.getElem?_eq_getElem J)];unfold putCells;rw [Array.getElem?_toList,Array.getElem?_mapIdx,Array.getElem?_eq_getElem a2];simp [J]
   ·rw [if_neg (by omega),List.getElem?_eq_none (by simp; omega)]
  ·simp [grow,putRow,mapBlock,Sort.ahead]
  ·rw [G b l,if_neg fun e=>hn e.symm]
theorem M2 {w:World} {base n g d k q:Nat} {l:List Int} {os:Array Obj} (h:w.ownsRow base 3 1 (.slice (some ⟨g,0,none⟩) n d) n (l.map (Value.int .i64))) (J:base<=w.heap.size):
  (putRow (Value.int .i64) (Sort.ahead (grow (putRow (Value.int .i64) (Sort.ahead w k) g 0 (l.mergeSort fun x y=>decide (x<=y)).toArray) os) q) g 0 (Lib.compact (l.mergeSort fun x y=>decide (x<=y))++List.replicate ((l.mergeSort fun x y=>decide (x<=y)).length - (Lib.compact (l.mergeSort fun x y=>decide (x<=y))).length) 0).toArray).ownsRow base 3 1 (.slice (some ⟨g,0,none⟩) (CL l).length d) (CL l).length ((CL l).map (Value.int .i64))/\
  Below base w (putRow (Value.int .i64) (Sort.ahead (grow (putRow (Value.int .i64) (Sort.ahead w k) g 0 (l.mergeSort fun x y=>decide (x<=y)).toArray) os) q) g 0 (Lib.compact (l.mergeSort fun x y=>decide (x<=y))++List.replicate ((l.mergeSort fun x y=>decide (x<=y)).length - (Lib.compact (l.mergeSort fun x y=>decide (x<=y))).length) 0).toArray):=by
 have E:l.length=n:=by simpa using h.1
 have I:=Bb h (k:=g) rfl;have M:(l.mergeSort fun x y=>decide (x<=y)).length=n:=by rw [List.length_mergeSort,E]
 have O:=Go.Lib.compact_length_le (l.mergeSort fun x y=>decide (x<=y));obtain⟨G,k1⟩:=HR (k:=k) h _ M os;obtain⟨j,k2⟩:=HR (k:=q) G (Lib.compact (l.mergeSort fun x y=>decide (x<=y))++List.replicate ((l.mergeSort fun x y=>decide (x<=y)).length - (Lib.compact (l.mergeSort fun x y=>decide (x<=y))).length) 0) (by rw [List.length_append,List.length_replicate]; omega) #[];rw [grow_empty] at j k2;have C:=Kf j (m:=(CL l).length) (by rw [<-E]; exact Ta l);refine⟨?_,(k1.trans k2 fun _ _ e=>e).below J fun b I e=>by omega⟩;rw [Nat.mul_one,List.map_append,List.take_append_of_le_length (by simp [CL]),List.take_of_length_le (by simp [CL])] at C;exact C
theorem Td (A:Option Addr) (c:Nat) (w:World):
  Calls Tryz.prog 42 #[.slice A 0 c] w (Ret fun r w'=>w'.ownsRow w.heap.size 3 1 r 0 []/\Below w.heap.size w w'):=by
 cases A with
 | none=>
  go_enter Tryz.func42,Tryz.ntmps42
  go_wp2_with (first
   | (go_at_call 87; refine(Tryz.slices_Clone_int_nil 0 c w).mono ?_; rintro e w' ⟨rfl,rfl⟩)
   | (go_at_call 88; refine(Any.slices_Sort_int_none Tryz.lays189 none 0 w').mono ?_; rintro e w2 ⟨rfl,rfl⟩)
   | (go_at_call 89; refine(Tryz.slices_Compact_int_empty none 0 _).mono ?_; rintro e j ⟨rfl,rfl⟩))
  go_ret;exact⟨Cb,Below.refl _ _⟩
 | some a=>
  go_enter Tryz.func42,Tryz.ntmps42
  go_wp2_with (first
   | (go_at_call 87; refine(Any.slices_Clone_int_zero Tryz.laysNm215 a c w).mono ?_; rintro e w1 ⟨l,rfl,d,-,h⟩; obtain⟨A1,c1,rfl⟩:=AH d)
   | (go_at_call 88; refine(Any.slices_Sort_int_none Tryz.lays189 A1 c1 w1).mono ?_; rintro e w2 ⟨rfl,rfl⟩)
   | (go_at_call 89; refine(Tryz.slices_Compact_int_empty A1 c1 _).mono ?_; rintro e j ⟨rfl,rfl⟩))
  go_ret;exact⟨d,h⟩
theorem GY {w:World} {B:Nat} {A:Option Addr} {c:Nat} {l:List Int} (h:Sl w B 1 Ai A l) (hl:l.length<=4000000):
  Calls Tryz.prog 42 #[.slice A l.length c] w (Ret fun r w'=>w'.ownsRow w.heap.size 3 1 r (CL l).length ((CL l).map (Value.int .i64))/\Below w.heap.size w w'):=by
 by_cases U:l=[]
 ·subst U;rw [Tb];exact Td A c w
 ·obtain⟨b,a8,rfl,af,hc⟩:=h.2 U;have a3:∀j,j<l.length->w.cell? ⟨b,a8+j,none⟩=some (.int .i64 (l.getD j 0)):=fun j hj=>by
   have:=hc j _ (List.getElem?_eq_getElem hj) 0 (by omega);rw [getD_some (List.getElem?_eq_getElem hj)];simpa [Ai] using this
  have ai:l.length≠0:=fun e=>U (List.length_eq_zero_iff.1 e);obtain⟨n,E⟩:∃n,n=l.length:=⟨_,rfl⟩;obtain⟨m,a6⟩:∃m,m=(l.mergeSort fun x y=>decide (x<=y)).length:=⟨_,rfl⟩;have ah:m=n:=by rw [a6,E,List.length_mergeSort]
  have d:=hide E;rw [<-E];clear E a6;go_enter Tryz.func42,Tryz.ntmps42;go_wp2_with fail;refine(Tryz.slices_Clone_int b a8 n c l w (Nat.le_of_eq d.out) (by have:=d.out; omega) a3).mono ?_;rintro e w1 ⟨v',rfl,G,a7,J⟩;rw [List.take_of_length_le (Nat.le_of_eq d.out.symm)] at G;obtain⟨g,C,rfl,a4⟩:∃g C,v'=.slice (some ⟨g,0,none⟩) n C/\g<w1.heap.size/\n<=C:=by
   rcases G.2 with⟨rfl,_⟩ | ⟨g,C,ae,rfl,J,hh,a9,_⟩
   ·exact absurd rfl a7
   ·exact⟨g,C,rfl,(Array.getElem?_eq_some_iff.1 hh).1,a9⟩
  have I:=hide G;have W:=hide J;have Z:=hide a4;clear G J a7 a4 a3 hc;go_wp2_with fail;have V:=Tryz.slices_Sort_int g 0 C l w1 (Kb I.out) Z.out.1 (by omega);rw [<-d.out] at V;refine V.mono ?_;rintro e w2 ⟨rfl,k,os,rfl⟩;clear V;go_wp2_with fail;have ab:=(HR (k:=k) I.out (l.mergeSort fun x y=>decide (x<=y)) (by rw [List.length_mergeSort]; exact d.out.symm) os).1;have M:=Tryz.slices_Compact_int g 0 C (l.mergeSort fun x y=>decide (x<=y)) _ (Kb ab) (by rw [List.length_mergeSort]; omega) (by rw [List.length_mergeSort,<-d.out]; exact Z.out.2);rw [List.length_mergeSort,<-d.out] at M;refine M.mono ?_;rintro e w3 ⟨rfl,q,rfl⟩;clear M;have O:=M2 (k:=k) (q:=q) (os:=os) I.out W.out.size;rw [List.length_mergeSort,<-d.out] at O;go_wp2_with fail;go_ret;exact⟨O.1,W.out.trans O.2⟩
end Go.Proofs.YtfcfpoemojjglaaGreatDoor
namespace Go.Proofs.YtfcfpoemojjglaaGreatDoor
open Go.RowKit
set_option maxHeartbeats 16000000
set_option maxRecDepth 100000
theorem IK {w:World} {g n c3:Nat} {A3:Option Addr} {acc:List Bool} {v0 v1 v2:Value} {q:Nat} {b:Bool} (E:Blk w g 88 #[v0,v1,v2,.slice A3 n c3]) (h:Sl w w.heap.size 1 DH A3 acc) (M:n=acc.length) (j:acc[q]?=some b):
  Calls Tryz.prog 90 #[.int .i64 (q:Int),.pointer (some ⟨g,0,none⟩)] w fun e w'=>e=.returned (.bool b)/\w=w':=by
 have U:=E.cell;have C:=AP j;have J:=h.1;obtain⟨bl,Z,d,rfl,O,y,l⟩:=h.at C;have I:d=b:=Option.some.inj (y.symm.trans j);subst I;have G:=l 0 (by omega);simp only [Nat.mul_one,Nat.add_zero,DH] at G;have V:q<n:=by omega
 have W:n<=9223372036854775807:=by omega
 clear M j y l h C J;go_enter Tryz.func90,Tryz.ntmps90;go_wp2_with fail;go_ret;exact⟨rfl,rfl⟩
theorem P6 {w:World} {B g n c3 c:Nat} {A A3:Option Addr} {acc:List Bool} {v0 v1 v2:Value} {l:List Int} (Z:Blk w g 88 #[v0,v1,v2,.slice A3 n c3]) (V:Sl w w.heap.size 1 DH A3 acc) (hn:n=acc.length) (h:Sl w B 1 Ai A l) (a5:∀x∈l,inN n x=true):
  Calls Tryz.prog 107 #[.slice A l.length c,.func (.func 90) #[] #[.pointer (some ⟨g,0,none⟩)]] w fun e w'=>e=.returned (.int .i64 (if l.any (fun x=>acc.getD x.toNat false) then ((l.findIdx fun x=>acc.getD x.toNat false:Nat):Int) else -1))/\w=w':=by
 have hm:=h.1;have a2:=hide Z;have W:=hide V;have I:=hide hn;have hI:=hide a5;have ak:=GT;obtain⟨p,J⟩:∃p:Int->Bool,p=fun x=>acc.getD x.toNat false:=⟨_,rfl⟩;rw [<-J];have ag:=hide J;obtain⟨R,E⟩:∃R:Int,Hid ((if l.any p then ((l.findIdx p:Nat):Int) else -1)=R):=⟨_,rfl⟩;rw [E.out];clear Z V hn a5 J;go_enter Tryz.func107,Tryz.ntmps107;go_wp2_with fail
 go_loop [8] (fun O=>∃(k:Nat),O=.int .i64 (k:Int)/\k<=l.length/\Hid ((l.take k).any p=false)) (fun O=>l.length - (intOf O).toNat)
 case atStart=>exact⟨0,rfl,Nat.zero_le _,rfl⟩
 case round=>
  obtain⟨k,rfl,hk,C⟩:=hrel;by_cases a6:k<l.length
  ·obtain⟨b,al,x,rfl,ah,hx,hc⟩:=h.at a6;have ae:=hc 0 (by omega);simp only [Nat.mul_one,Nat.add_zero,Ai] at ae;have d:=hide hx;clear hx hc;obtain⟨q,rfl,hq⟩:=CT (hI.out x (List.mem_of_getElem? d.out));simp only [Int.toNat_natCast] at hq;obtain⟨U,G⟩:=An (l:=acc) (i:=q) (by rw [<-I.out]; exact hq);have a3:=hide G;have M:Hid (p (q:Int)=U):=by show _=_; rw [ag.out]; exact getD_some G
   clear G;cases U
   ·have aa:Hid ((l.take (k+1)).any p=false):=by show _=_; rw [B5 d.out,List.any_append,C.out]; simp [M.out]
    go_wp2_with (go_at_call 90; refine(IK a2.out W.out I.out a3.out).mono ?_; rintro e w' ⟨rfl,rfl⟩);exact⟨⟨k+1,by go_num,by omega,aa⟩,by simp [intOf]; omega⟩
   ·have y:Hid (l.any p=true):=List.any_eq_true.2 ⟨_,List.mem_of_getElem? d.out,M.out⟩;have hF:Hid (l.findIdx p=k):=by
     show _=_
     rw [List.findIdx_eq a6];refine⟨?_,fun j hj=>?_⟩
     ·have:=(List.getElem?_eq_some_iff.1 d.out).2;rw [this]; exact M.out
     ·have:=List.any_eq_false.1 C.out l[j] (List.mem_of_getElem? (i:=j) (by rw [List.getElem?_take,if_pos hj,List.getElem?_eq_getElem]));simpa using this
    go_wp2_with (go_at_call 90; refine(IK a2.out W.out I.out a3.out).mono ?_; rintro e w' ⟨rfl,rfl⟩);go_ret;exact⟨by rw [<-E.out,y.out,hF.out]; rfl,rfl⟩
  ·have y:Hid (l.any p=false):=by show _=_; rw [<-C.out,List.take_of_length_le (by omega)]
   go_wp2_with fail;go_ret;exact⟨by rw [<-E.out,y.out]; rfl,rfl⟩
theorem M6 {w:World} {B g n c3 c:Nat} {A A3:Option Addr} {acc:List Bool} {v0 v1 v2:Value} {l:List Int} (y:Blk w g 88 #[v0,v1,v2,.slice A3 n c3]) (j:Sl w w.heap.size 1 DH A3 acc) (E:n=acc.length) (h:Sl w B 1 Ai A l) (C:∀x∈l,inN n x=true):
  Calls Tryz.prog 61 #[.slice A l.length c,.func (.func 90) #[] #[.pointer (some ⟨g,0,none⟩)]] w fun e w'=>e=.returned (.bool (l.any (fun x=>acc.getD x.toNat false)))/\w=w':=by
 have d:=P6 (c:=c) y j E h C;clear y j C E;obtain⟨r,G⟩:∃r,(l.any (fun x=>acc.getD x.toNat false))=r:=⟨_,rfl⟩;rw [G] at d ⊢;cases r
 all_goals
  simp only [Bool.false_eq_true,if_false,if_true] at d;clear G;go_enter Tryz.func61,Tryz.ntmps61;go_wp2_with (go_at_call 107; refine d.mono ?_; rintro e w' ⟨rfl,rfl⟩);go_ret;exact⟨by simp,rfl⟩
theorem IM {w:World} {v:Value} {a:NF} {B c:Nat} {A:Option Addr} {l:List Int} (h:Cn w w.heap.size v a) (C:a.acc.length=a.n) (V:Sl w B 1 Ai A l) (Z:B<=w.heap.size) (E:∀x∈l,inN a.n x=true):
  Calls Tryz.prog 44 #[v,.slice A l.length c] w (Ret fun r w'=>r=.bool (l.any (fun x=>a.acc.getD x.toNat false))/\Below w.heap.size w w'):=by
 obtain⟨A1,c1,A2,c2,A3,c3,rfl,G,I,j,J⟩:=h;have a2:=GT;obtain⟨w1,a4,d,y,U⟩:=Ae w #[.int .i64 (a.L:Int),.slice A1 a.nx.length c1,.slice A2 a.start.length c2,.slice A3 a.acc.length c3] 88;have W:=d.size;have O:=M6 (c:=c) y ((j.below d).mono W) rfl ((V.keep (w':=w1) (fun p hp=>d.cell (by omega)) (Nat.le_refl _))) (by rw [C]; exact E);have M:=hide d;clear G I j J y U d C E;go_enter Tryz.func44,Tryz.ntmps44;go_wp2_with (go_at_call 61; refine O.mono ?_; rintro e w' ⟨rfl,rfl⟩);go_ret;exact⟨rfl,M.out⟩
theorem Ik {m:List Bool} {n:Nat} (j:m.length=n):∀x∈AJ m,inN n x=true:=fun x h=>by
 obtain⟨q,rfl,d⟩:=Ee.1 h;have:=AP d;rw [D3]; omega
end Go.Proofs.YtfcfpoemojjglaaGreatDoor
namespace Go.Proofs.YtfcfpoemojjglaaGreatDoor
open Go.RowKit
set_option maxHeartbeats 16000000
set_option maxRecDepth 100000
section
variable {P:Program} {w:World}
theorem Ig {t e size:Nat} (R:Dd P t e size) (ty:TypeId) {base:Nat} {v:Value} {n:Nat} {xs:List Value} (l:w.ownsRow base e size v n xs) (A:Option Addr) (c:Nat):
  (Builtin.append_ #[t,t] ty #[v,.slice A 0 c]).run P w=.ok v w:=by
 have ht:=R.ht;obtain⟨i,z,bytes,h,J,I,G,M,E⟩:=R.info;have d:∀(a:Addr),Sem.run P (loadCells a 0) w=.ok #[] w:=fun _=>rfl;rcases l.2 with⟨rfl,rfl⟩ | ⟨g,y,C,rfl,_,_,j,_⟩
 ·cases A <;> simp [Builtin.append_,run_underlying ht,sizeOf,typeInfo,h,Builtin.lenOf,Builtin.firstCells,d]
 ·cases A <;> simp [Builtin.append_,run_underlying ht,sizeOf,typeInfo,h,Builtin.lenOf,Builtin.firstCells,j,storeCells,d]
end
section
variable {P:Program} {ops:Array Oper} {rest:List Oper} {o:Oper} {a:Act} {Q:Exit->Act->World->Prop} {w:World}
theorem Ei {t e:Nat} {B:Nat} {D:Type} {enc:D->Nat->Value} (R:Dd P t e 1) (O:o.guard=none) (s x:Operand)
  (U:o.op=.call { callee:=.builtin .append,args:=#[s,x],argTypes:=#[t,t] })
  (base:Nat) (v:Value) (n:Nat) (xs:List Value) (V:a.eval s=v) (E:w.ownsRow base e 1 v n xs)
  {A:Option Addr} {l:List D} {c:Nat} (hS:Sl w B 1 enc A l) (G:a.eval x=.slice A l.length c) (h1:∀d,(enc d 0).oneCell'=true)
  (hn:n+l.length<=4000000) (a8:base<=w.heap.size)
  (h:∀M w',w'.ownsRow base e 1 M (n+l.length) (xs++l.map (enc · 0))->Ac w w' (fun k=>v.ownBlock=some k)->BJ w v M->wpList P ops Q rest (a.put o.dst M) w'):
  wpList P ops Q (o::rest) a w:=by
 by_cases C:l.length=0
 ·have hl:l=[]:=List.length_eq_zero_iff.1 C;subst hl;have hr:=Ig (P:=P) R o.type E A c;refine wpList_plain O fun K hK=>?_;unfold Oper.wp execOp;rw [List.length_nil] at G;simp only [U,resolve,invoke,builtin,Sem.run_bind,Sem.run_pure,Result.andThen_ok,List.map_toArray,List.map_cons,List.map_nil,V,G,hr];exact hK _ _ (h v w (by simpa using E) (Ac.refl _ _) (BJ.refl _ _))
 ·obtain⟨b,J,d0,hA,hb,am,hc⟩:=hS.at (k:=0) (by omega);obtain⟨b',o',W,ak,a7⟩:=hS.2 (by intro e; rw [e] at C; exact C rfl);subst hA;refine G9 R O s x U base v n xs V E ⟨b,J,none⟩ l.length c (l.map (enc · 0)) G (by simp) ?_ ?_ (by omega) hn a8 ?_
  ·intro j u y;rw [List.getElem?_map] at y;cases I:l[j]? with
   | none=>rw [I] at y; cases y
   | some d=>
    rw [I] at y;have y:=Option.some.inj y;subst y;have e:=Option.some.inj W;injection e with Z e2 _
    subst Z e2;have:=a7 j d I 0 (by omega);have a6:(⟨b,J,none⟩:Addr).add j=⟨b,J+j*1+0,none⟩:=by unfold Addr.add; split <;> simp_all
    rw [a6];exact this
  ·intro u y;obtain⟨d,_,rfl⟩:=List.mem_map.1 y;exact h1 d
  ·intro g ah w' ae hk ab _;exact h _ w' ae hk ab
end
def NF.cat (a:NF) (l:List Int) (x:Nat):List Int:=l.flatMap fun s=>a.to s.toNat x
theorem NF.cat_take {a:NF} {l:List Int} {x k:Nat} {s:Int} (h:l[k]?=some s):a.cat (l.take (k+1)) x=a.cat (l.take k) x++a.to s.toNat x:=by
 unfold NF.cat;rw [B5 h,List.flatMap_append];simp
theorem NF.cat_len {a:NF} {l:List Int} {x k:Nat}:(a.cat (l.take k) x).length<=(a.cat l x).length:=by
 unfold NF.cat;have:=congrArg (fun l=>(l.flatMap fun s:Int=>a.to s.toNat x).length) (List.take_append_drop k l);simp only [List.flatMap_append,List.length_append] at this;omega
theorem NF.to_at {w:World} {B:Nat} {a:NF} {A1:Option Addr} (h:VSl R2 w B A1 a.nx) (a2:a.OK) {s x:Nat} (hs:s<a.n) (hx:x<a.L):
  ∃b j A c b2 y d C,A1=some ⟨b,j,none⟩/\b<B/\w.cell? ⟨b,j+s,none⟩=some (.slice A a.L c)/\A=some ⟨b2,y,none⟩/\b2<B/\w.cell? ⟨b2,y+x,none⟩=some (.slice d (a.to s x).length C)/\Sl w B 1 Ai d (a.to s x):=by
 obtain⟨r,E⟩:=An (l:=a.nx) (i:=s) hs;obtain⟨b,j,v,U,V,W,A,c,rfl,Z⟩:=h.at E;have a3:=a2.row r (List.mem_of_getElem? E);obtain⟨l,G⟩:=An (l:=r) (i:=x) (by omega);obtain⟨b2,y,v2,I,J,M,d,C,rfl,O⟩:=Z.at G;have:a.to s x=l:=by unfold NF.to; rw [getD_some E,getD_some G]
 rw [this];exact⟨b,j,A,c,b2,y,d,C,U,V,by rw [W,a3],I,J,M,O⟩
theorem NF.cat_set {a:NF} (I:a.OK) {m:List Bool} (V:m.length=a.n) {x:Nat} (W:x<a.L):CL (a.cat (AJ m) x)=AJ (a.after m x):=by
 refine Ip fun y=>?_;unfold NF.cat;rw [List.mem_flatMap];constructor
 ·rintro⟨s,O,C⟩;obtain⟨q,rfl,J⟩:=Ee.1 O;have M:q<a.n:=by rw [<-V]; exact AP J
  simp only [Int.toNat_natCast] at C;obtain⟨r,j⟩:=An (l:=a.nx) (i:=q) M;obtain⟨l,G⟩:=An (l:=r) (i:=x) (by rw [I.row r (List.mem_of_getElem? j)]; exact W);have e:a.to q x=l:=by unfold NF.to; rw [getD_some j,getD_some G]
  obtain⟨z,rfl,d⟩:=CT (I.to r (List.mem_of_getElem? j) l (List.mem_of_getElem? G) y (by rw [<-e]; exact C));simp only [Int.toNat_natCast] at d;refine⟨z,rfl,?_⟩;obtain⟨b,h⟩:=An (l:=a.after m x) (i:=z) (by rw [a.after_len]; exact d);have:=(NF.after_get (m:=m) (x:=x) d).2 ⟨q,M,getD_some J,C⟩;rw [getD_some h] at this;rw [h,this]
 ·rintro⟨z,rfl,d⟩;have Z:z<a.n:=by have:=AP d; rwa [a.after_len] at this
  obtain⟨s,O,E,U⟩:=(NF.after_get (m:=m) (x:=x) Z).1 (getD_some d);obtain⟨b,h⟩:=An (l:=m) (i:=s) (by omega);rw [getD_some h] at E;subst E;exact⟨(s:Int),Ee.2 ⟨s,rfl,h⟩,by simpa using U⟩
theorem Iq {w:World} {v:Value} {a:NF} {B c x:Nat} {A:Option Addr} {m:List Bool} (h:Cn w w.heap.size v a) (a2:a.OK) (hm:m.length=a.n) (W:Sl w B 1 Ai A (AJ m)) (hB:B<=w.heap.size) (hx:x<a.L) (ae:(a.cat (AJ m) x).length<=4000000):
  Calls Tryz.prog 43 #[v,.slice A (AJ m).length c,.int .i64 (x:Int)] w (Ret fun r w'=>w'.ownsRow w.heap.size 3 1 r (AJ (a.after m x)).length ((AJ (a.after m x)).map (Value.int .i64))/\Below w.heap.size w w'):=by
 obtain⟨A1,c1,A2,c2,A3,c3,rfl,h1,h2,h3,h4⟩:=h;obtain⟨w1,aN,ab,a8,ba⟩:=Ae w #[.int .i64 (a.L:Int),.slice A1 a.nx.length c1,.slice A2 a.start.length c2,.slice A3 a.acc.length c3] 88;have aL:=ab.size;have aA:=hide (Ik hm);have az:=hide (NF.cat_set a2 hm hx);have a7:=hide h1;have aH:=hide a2;have al:=hide hx;have aD:=W.1;obtain⟨l,Z⟩:∃l,l=AJ m:=⟨_,rfl⟩;have ag:=hide Z;rw [<-Z] at W ae aD ⊢;clear h2 h3 h4 a2 Z h1;have J:=hide a8;obtain⟨n,G⟩:∃n,n=a.nx.length:=⟨_,rfl⟩;have aG:=hide G;rw [<-G] at aN J ⊢;have be:n<=9223372036854775807:=by rw [G]; exact a7.out.1
 clear G a8;go_enter Tryz.func43,Tryz.ntmps43;go_wp2_with fail;go_loopw [7,12] (fun vv ii wr=>∃(k y:Nat),ii=.int .i64 (k:Int)/\k<=l.length/\Below w1.heap.size w1 wr/\Hid (y=(a.cat (l.take k) x).length/\wr.ownsRow w1.heap.size 3 1 vv y ((a.cat (l.take k) x).map (Value.int .i64)))) (fun _ ii _=>l.length - (intOf ii).toNat)
 case atStart=>exact⟨0,0,rfl,Nat.zero_le _,Below.refl _ _,rfl,Cb⟩
 case round=>
  obtain⟨k,y,rfl,hk,C,j⟩:=hrel;have V:=ab.trans (C.mono aL);by_cases aE:k<l.length
  ·obtain⟨b,bh,s,rfl,b7,I,hc⟩:=W.at aE;have ax:=(V.cell (by show b<_; omega)).trans (hc 0 (by omega));simp only [Nat.mul_one,Nat.add_zero,Ai] at ax;obtain⟨q,rfl,hq⟩:=CT (aA.out s (by rw [<-ag.out]; exact List.mem_of_getElem? I));simp only [Int.toNat_natCast] at hq;obtain⟨bA,oA,A',cA,b2,o2,aR,aV,rfl,g1,g2,rfl,g3,g4,g5⟩:=NF.to_at (a7.out.keep (@R2.keep) (fun p hp=>V.cell hp) (Nat.le_refl _)) aH.out hq al.out;have b8:=(J.out.at J.out.lt C).cell;have E:=hide (NF.cat_take (a:=a) (x:=x) I);simp only [Int.toNat_natCast] at E;have aC:=hide (NF.cat_len (a:=a) (l:=l) (x:=x) (k:=k+1));have bf:q<n:=by rw [aG.out]; exact hq
   have hS:=hide g5;have b5:=hide I;obtain⟨Av,cv,rfl⟩:=AH j.out.2;obtain⟨tl,a4⟩:∃tl,tl=(a.to q x).length:=⟨_,rfl⟩;have aM:=hide a4;rw [<-a4] at g4;have aO:=al.out;obtain⟨L,O⟩:∃L,L=a.L:=⟨_,rfl⟩;rw [<-O] at g2 aO;have b4:=hide O;clear I hc g5 a4 O;have aw:=hide (show y+(a.to q x).length<=4000000 from by have e1:=j.out.1; have e2:=aC.out; rw [E.out,List.length_append] at e2; omega);have U:=j;clear j;go_wp2_with (at_builtin; refine Ei C9 rfl _ _ rfl w1.heap.size _ y _ rfl U.out.2 hS.out (by rw [<-aM.out]; rfl) (fun d=>rfl) aw.out C.size ?_; intro v2 w2 aJ aB bd);refine⟨⟨k+1,y+(a.to q x).length,by go_num,by omega,C.trans (aB.below C.size fun b hb e=>by have:=Bb U.out.2 e; omega),?_,?_⟩,by simp [intOf]; omega⟩
   ·rw [E.out,List.length_append,<-U.out.1]
   ·rw [E.out,List.map_append]; exact aJ
  ·have a9:=j.out;rw [List.take_of_length_le (by omega)] at a9;obtain⟨aF,aj⟩:=a9;have M:=hide V;obtain⟨A7,c7,e7,aa⟩:=B8 aj aF.symm (Nat.le_refl _) (by omega);subst e7;have au:=hide aa;have ay:=hide ae;clear aj j aa;go_wp2_with (go_at_call 42; refine Calls.ret (GY au.out ay.out) ?_; rintro v w9 ⟨ai,av⟩);have af:=az.out;rw [<-ag.out] at af;go_ret;rw [af] at ai;exact⟨DC ai M.out.size,M.out.trans (av.mono M.out.size)⟩
end Go.Proofs.YtfcfpoemojjglaaGreatDoor
namespace Go.Proofs.YtfcfpoemojjglaaGreatDoor
open Go.RowKit
set_option maxHeartbeats 16000000
set_option maxRecDepth 100000
def Ff (l:List UInt8):Nat:=l.foldl (fun v b=>10*v+(b.toNat - 48)) 0
theorem Ji (l:List UInt8) (b:UInt8):Ff (l++[b])=10*Ff l+(b.toNat - 48):=by simp [Ff]
theorem Hm {d:Nat} (h:d<10):(UInt8.ofNat (48+d)).toNat=48+d:=by
 rw [UInt8.toNat_ofNat'];omega
theorem Jh (u:Nat):Ff (Lib.decDigits u)=u:=by
 induction u using Nat.strongRecOn with
 | _ u ih=>
  rw [Lib.decDigits];split
  ·next h=>
   have:=Ji [] (UInt8.ofNat (48+u));rw [List.nil_append] at this;rw [this,Hm h];simp [Ff]
  ·next h=>
   rw [Ji,ih (u / 10) (by omega),Hm (by omega)];omega
theorem Jk (u:Nat):(32:UInt8)∉Lib.decDigits u:=by
 induction u using Nat.strongRecOn with
 | _ u ih=>
  rw [Lib.decDigits];have key:∀d,d<10->(32:UInt8)≠UInt8.ofNat (48+d):=fun d l e=>by
   have:=congrArg UInt8.toNat e;rw [Hm l] at this;have y:(32:UInt8).toNat=32:=rfl;omega
  split
  ·next h=>simpa using key u h
  ·next h=>
   rw [List.mem_append,List.mem_singleton];rintro(j | j)
   ·exact ih (u / 10) (by omega) j
   ·exact key (u % 10) (by omega) j
theorem Tg {a b r s:List UInt8} (j:(32:UInt8)∉a) (l:(32:UInt8)∉b) (h:a++32::r=b++32::s):a=b/\r=s:=by
 induction a generalizing b with
 | nil=>
  cases b with
  | nil=>simpa using h
  | cons y b=>
   simp at h;exact absurd (List.mem_cons.2 (.inl h.1)) l
 | cons x a ih=>
  cases b with
  | nil=>
   simp at h;exact absurd (List.mem_cons.2 (.inl h.1.symm)) j
  | cons y b=>
   simp only [List.cons_append,List.cons.injEq] at h;obtain⟨C,E⟩:=ih (fun d=>j (List.mem_cons_of_mem _ d)) (fun d=>l (List.mem_cons_of_mem _ d)) h.2;exact⟨by rw [h.1,C],E⟩
def Cw (l:List Nat):List UInt8:=l.flatMap fun x=>Lib.decDigits x++[32]
theorem FU (x:Nat) (l:List Nat):Cw (x::l)=Lib.decDigits x++32::Cw l:=by simp [Cw]
theorem JM:∀{l k:List Nat},Cw l=Cw k->l=k
 | [],[],_=>rfl
 | [],y::k,h=>by rw [FU] at h; simp [Cw] at h
 | x::l,[],h=>by rw [FU] at h; simp [Cw] at h
 | x::l,y::k,h=>by
  rw [FU,FU] at h;obtain⟨d,j⟩:=Tg (Jk x) (Jk y) h;have:=congrArg Ff d;rw [Jh,Jh] at this;rw [this,JM j]
theorem QJ {l:List Nat} {k x:Nat} (h:l[k]?=some x):Cw (l.take (k+1))=Cw (l.take k)++(Lib.decDigits x++[32]):=by
 unfold Cw;rw [B5 h,List.flatMap_append];simp
theorem Jj:∀(k u:Nat),u<10 ^ (k+1)->(Lib.decDigits u).length<=k+1
 | 0,u,h=>by rw [Lib.decDigits,dif_pos (by simpa using h)]; simp
 | k+1,u,h=>by
  rw [Lib.decDigits];split
  ·simp
  ·rw [List.length_append];have:=Jj k (u / 10) (by rw [Nat.pow_succ] at h; omega);simp;omega
theorem QI {l:List Nat} (h:∀x∈l,x<1000000000):(Cw l).length<=l.length*10:=by
 induction l with
 | nil=>simp [Cw]
 | cons x l ih=>
  rw [FU];have j:=Jj 8 x (h x List.mem_cons_self);have C:=ih fun y d=>h y (List.mem_cons_of_mem _ d);simp;omega
def BV (w:World):Prop:=Lib.TabIs Tryz.prog w "internal/strconv.uint64pow10" .u64 Lib.pow10Tab
theorem BV.below {w w':World} (h:BV w) (d:Below w.heap.size w w'):BV w':=(Lib.tabBelow_of_tabIs h) w' d
theorem Qw {T e:TypeId} {B b:Nat} {d:List Value} {w w':World} (h:Lib.IsBuilder T e B b d w) (l:Below w.heap.size w w'):Lib.IsBuilder T e B b d w':=by
 have key:∀p,Lib.BuilderAt T e B b p d w->Lib.BuilderAt T e B b p d w':=by
  rintro p ⟨y,v,j,C,E⟩;exact⟨y,v,by rw [l.block b (Array.getElem?_eq_some_iff.1 j).1]; exact j,Bt C l,E⟩
 exact h.elim (fun x=>.inl (key _ x)) (fun x=>.inr (key _ x))
theorem JN {w:World} {B c:Nat} {A:Option Addr} {l:List Nat} (h:Sl w B 1 Ai A (Ak l)) (hB:B<=w.heap.size) (hs:∀x∈l,x<1000000000) (hl:l.length<=4000000) (hT:BV w):
  Calls Tryz.prog 164 #[.slice A (Ak l).length c] w (Ret fun r w'=>r=.string ⟨(Cw l).toArray⟩/\Below w.heap.size w w'):=by
 obtain⟨w1,aG,a7,a2,ar⟩:=Ae w #[.pointer none,.slice none 0 0] 256;have aC:=a7.size;have a9:Lib.IsBuilder 256 5 w.heap.size w.heap.size (Lib.byteCells (Cw (l.take 0))) w1:=.inl ⟨Nat.le_refl _,.slice none 0 0,a2,Cb,by simp [Value.ownBlock]⟩;have ao:=hide a9;have aj:=hide hT;have ag:=hide hs;have ab:(Ak l).length=l.length:=by simp [Ak]
 obtain⟨n,V⟩:∃n,n=l.length:=⟨_,rfl⟩;rw [ab,<-V];have W:=hide V;have aB:n<=4000000:=by omega
 clear a9 hT hs a2 ar V hl ab;go_enter Tryz.func164,Tryz.ntmps164;go_wp2_with fail;go_loopw [8] (fun Z wr=>∃(k:Nat),Z=.int .i64 (k:Int)/\k<=n/\Hid (Lib.IsBuilder 256 5 w.heap.size w.heap.size (Lib.byteCells (Cw (l.take k))) wr)/\Below w.heap.size w wr) (fun Z _=>n - (intOf Z).toNat)
 case atStart=>exact⟨0,rfl,Nat.zero_le _,ao,a7⟩
 case round=>
  obtain⟨k,rfl,hk,M,j⟩:=hrel;by_cases ae:k<n
  ·obtain⟨x,E⟩:=An (l:=l) (i:=k) (by rw [<-W.out]; exact ae);obtain⟨b,aK,d,rfl,az,J,hc⟩:=h.at (k:=k) (by simp [Ak]; rw [<-W.out]; exact ae);have aq:d=(x:Int):=by
    unfold Ak at J;rw [AX E] at J;exact(Option.some.inj J).symm
   subst aq;have ap:=(j.cell (by show b<_; omega)).trans (hc 0 (by omega));simp only [Nat.mul_one,Nat.add_zero,Ai] at ap;have hX:=hide E;have aH:=ag.out x (List.mem_of_getElem? E);have U:=hide (QJ E);have ad:=hide (Nat.le_trans (QI (l:=l.take (k+1)) fun y hy=>ag.out y (List.mem_of_mem_take hy)) (Nat.mul_le_mul_right 10 (List.length_take_le _ _)));have ak:=hide (aj.out.below j);have a3:=hide j;have aF:=j.size;clear E hc J j;go_wp2_with fail;refine(Tryz.strconv_Itoa (x:Int) (by omega) (by omega) wr ak.out).mono ?_;rintro e w2 ⟨rfl,kk,os,ah⟩;have O:Below wr.heap.size wr w2:=by
    subst ah;refine⟨rfl,rfl,rfl,by simp [Go.Sort.grow],fun b hb=>?_⟩;unfold Go.Sort.grow;rw [Array.getElem?_append_left (by simpa using hb)];rfl
   rw [Lib.itoa_nonneg];have C:=Qw M.out O;have aD:=O.size;clear ah;go_wp2_with fail;refine(Tryz.Builder_WriteString w.heap.size w.heap.size _ ⟨(Lib.decDigits x).toArray⟩ w2 C ?_ (by omega)).mono ?_
   ·have G:=ad.out;rw [U.out,List.length_append,List.length_append] at G;rw [Lib.byteCells_length];show _+(Lib.decDigits x).toArray.size<=_
    simp only [List.size_toArray];omega
   rintro e w3 ⟨rfl,I,a8⟩;rw [Lib.strCells_toArray,<-Lib.byteCells_append] at I;have aE:=a8.size;go_wp2_with fail;refine(Tryz.Builder_WriteByte w.heap.size w.heap.size _ 32 w3 (.inr I) ?_ (by omega)).mono ?_
   ·have G:=ad.out;rw [U.out,List.length_append,List.length_append] at G;rw [Lib.byteCells_length,List.length_append];simp at G;omega
   rintro e w4 ⟨rfl,a5,am⟩;go_wp2_with fail;refine⟨⟨k+1,by go_num,by omega,?_,((a3.out.trans (O.mono a3.out.size)).trans a8).trans am⟩,by simp [intOf]; omega⟩;show Lib.IsBuilder _ _ _ _ _ _
   rw [U.out];refine .inr ?_;have ai:Lib.byteCells (Cw (l.take k)++Lib.decDigits x)++[Value.int .u8 32]=Lib.byteCells (Cw (l.take k)++(Lib.decDigits x++[32])):=by
    rw [<-List.append_assoc,Lib.byteCells_append _ [32]];rfl
   rw [ai] at a5;exact a5
  ·have C:=M.out;rw [List.take_of_length_le (by rw [<-W.out]; omega)] at C;have I:=hide C;have a4:=hide j;clear C M j;go_wp2_with (go_at_call 202; refine(Tryz.Builder_String_any w.heap.size w.heap.size (Cw l) wr I.out a4.out.size).mono ?_; rintro e w5 ⟨rfl,an⟩);go_ret;exact⟨rfl,a4.out.trans an⟩
end Go.Proofs.YtfcfpoemojjglaaGreatDoor
