/-
  Part PS of a proof.
-/
import Derived.Shelf.LaysM
import Derived.Shelf.Strings.Builder1
import Derived.Shelf.Strconv.Itoa3
import Derived.Shelf.Sort.Plain
import Derived.Ground.NamesProg
import Derived.Ground.Names2Prog
import Derived.Shelf.Slices.Clone
import Derived.Shelf.Slices.CompactI
import Derived.Test.YtfcfpoemojjglaaGreatDoorProg
import Derived.Shelf.Slices.In.SortNone
import Derived.Lib.RowBridge
import Derived.Lib.AppendIntMem
import Derived.Test.YtfcfpoemojjglaaGreatDoorPA
import Derived.Test.YtfcfpoemojjglaaGreatDoorPC
set_option maxHeartbeats 16000000
set_option maxRecDepth 100000
set_option linter.unusedVariables false
set_option linter.unusedSimpArgs false
namespace Go.Proofs
open Go.Shelf
def Tryz.lays169_ren:Go.Shelf.Ren:=⟨fun | 169=>202 | n=>n,fun | 70=>253 | 9=>9 | 0=>0 | 72=>256 | 37=>254 | 127=>278 | 3=>3 | 5=>5 | n=>n,fun | n=>n⟩
theorem Tryz.lays169:Go.Proofs.Lays.n169 Tryz.prog Tryz.lays169_ren:={
 mixed:=by kernel_rfl
 f169:=Tryz.func202.trans (congrArg some (by kernel_rfl))
 t0:=Tryz.underlying0
 a0:=Tryz.isAgg0
 z0:=Tryz.sizeOf0
 v0:=Tryz.zeroValue0
 t3:=Tryz.underlying3
 a3:=Tryz.isAgg3
 z3:=Tryz.sizeOf3
 v3:=Tryz.zeroValue3
 t9:=Tryz.underlying9
 a9:=Tryz.isAgg9
 z9:=Tryz.sizeOf9
 v9:=Tryz.zeroValue9
 t37:=Tryz.underlying254
 a37:=Tryz.isAgg254
 z37:=Tryz.sizeOf254
 v37:=Tryz.zeroValue254
 t70:=Tryz.underlying253
 a70:=Tryz.isAgg253
 z70:=Tryz.sizeOf253
 v70:=Tryz.zeroValue253
 t72:=Tryz.underlying256
 a72:=Tryz.isAgg256
 z72:=Tryz.sizeOf256
 v72:=Tryz.zeroValue256
 t127:=Tryz.underlying278
 a127:=Tryz.isAgg278
 z127:=Tryz.sizeOf278
 v127:=Tryz.zeroValue278 }
theorem Tryz.Builder_Extra_169:Builder.Extra Tryz.prog Tryz.lays169_ren:={
 sizeBuilder:=by kernel_rfl
 liesBuilder:=by kernel_rfl
 t5:=Tryz.underlying5
 a5:=Tryz.isAgg5
 z5:=Tryz.sizeOf5
 v5:=Tryz.zeroValue5
 infoByte:=by kernel_rfl
 cellsByte:=by kernel_rfl
 sizeByte:=by kernel_rfl
 neB5:=by decide }
open Go.RowKit in
theorem Tryz.Builder_String_any (B b:Nat) (l:List UInt8) (w:World) (h:Lib.IsBuilder 256 5 B b (Lib.byteCells l) w) (x:B≤w.heap.size):
  Calls Tryz.prog 202 #[.pointer (some ⟨b,0,none⟩)] w fun e w'=>e=.returned (.string ⟨l.toArray⟩)∧Below B w w':=Any.Builder_String_any Tryz.lays169 Tryz.Builder_Extra_169 B b l w h x
def Tryz.laysM171_ren:Go.Shelf.Ren:=⟨fun | 171=>200 | 243=>223 | 246=>232 | 283=>234 | 284=>235 | 285=>236 | 286=>237 | 129=>190 | 317=>240 | 318=>241 | 319=>242 | 320=>243 | 337=>244 | 338=>245 | n=>n,fun | 3=>3 | 9=>9 | 2=>2 | 4=>4 | 171=>296 | 0=>0 | 53=>247 | 37=>254 | 5=>5 | 173=>298 | 212=>311 | 51=>245 | 20=>20 | 213=>312 | 46=>196 | 232=>315 | 233=>316 | n=>n,fun | 17=>2 | 18=>3 | 19=>4 | n=>n⟩
theorem Tryz.laysM171:Go.Proofs.LaysM.n171 Tryz.prog Tryz.laysM171_ren:={
 mixed:=by kernel_rfl
 f129:=Tryz.func190.trans (congrArg some (by kernel_rfl))
 f171:=Tryz.func200.trans (congrArg some (by kernel_rfl))
 f243:=Tryz.func223.trans (congrArg some (by kernel_rfl))
 f246:=Tryz.func232.trans (congrArg some (by kernel_rfl))
 f283:=Tryz.func234.trans (congrArg some (by kernel_rfl))
 f284:=Tryz.func235.trans (congrArg some (by kernel_rfl))
 f285:=Tryz.func236.trans (congrArg some (by kernel_rfl))
 f286:=Tryz.func237.trans (congrArg some (by kernel_rfl))
 f317:=Tryz.func240.trans (congrArg some (by kernel_rfl))
 f318:=Tryz.func241.trans (congrArg some (by kernel_rfl))
 f319:=Tryz.func242.trans (congrArg some (by kernel_rfl))
 f320:=Tryz.func243.trans (congrArg some (by kernel_rfl))
 f337:=Tryz.func244.trans (congrArg some (by kernel_rfl))
 f338:=Tryz.func245.trans (congrArg some (by kernel_rfl))
 t0:=Tryz.underlying0
 a0:=Tryz.isAgg0
 z0:=Tryz.sizeOf0
 v0:=Tryz.zeroValue0
 t2:=Tryz.underlying2
 a2:=Tryz.isAgg2
 z2:=Tryz.sizeOf2
 v2:=Tryz.zeroValue2
 t3:=Tryz.underlying3
 a3:=Tryz.isAgg3
 z3:=Tryz.sizeOf3
 v3:=Tryz.zeroValue3
 t4:=Tryz.underlying4
 a4:=Tryz.isAgg4
 z4:=Tryz.sizeOf4
 v4:=Tryz.zeroValue4
 t5:=Tryz.underlying5
 a5:=Tryz.isAgg5
 z5:=Tryz.sizeOf5
 v5:=Tryz.zeroValue5
 t9:=Tryz.underlying9
 a9:=Tryz.isAgg9
 z9:=Tryz.sizeOf9
 v9:=Tryz.zeroValue9
 t20:=Tryz.underlying20
 a20:=Tryz.isAgg20
 z20:=Tryz.sizeOf20
 v20:=Tryz.zeroValue20
 t37:=Tryz.underlying254
 a37:=Tryz.isAgg254
 z37:=Tryz.sizeOf254
 v37:=Tryz.zeroValue254
 t46:=Tryz.underlying196
 a46:=Tryz.isAgg196
 z46:=Tryz.sizeOf196
 v46:=Tryz.zeroValue196
 t51:=Tryz.underlying245
 a51:=Tryz.isAgg245
 z51:=Tryz.sizeOf245
 v51:=Tryz.zeroValue245
 t53:=Tryz.underlying247
 a53:=Tryz.isAgg247
 z53:=Tryz.sizeOf247
 v53:=Tryz.zeroValue247
 t171:=Tryz.underlying296
 a171:=Tryz.isAgg296
 z171:=Tryz.sizeOf296
 v171:=Tryz.zeroValue296
 t173:=Tryz.underlying298
 a173:=Tryz.isAgg298
 z173:=Tryz.sizeOf298
 v173:=Tryz.zeroValue298
 t212:=Tryz.underlying311
 a212:=Tryz.isAgg311
 z212:=Tryz.sizeOf311
 v212:=Tryz.zeroValue311
 t213:=Tryz.underlying312
 a213:=Tryz.isAgg312
 z213:=Tryz.sizeOf312
 t232:=Tryz.underlying315
 a232:=Tryz.isAgg315
 z232:=Tryz.sizeOf315
 v232:=Tryz.zeroValue315
 t233:=Tryz.underlying316
 a233:=Tryz.isAgg316
 z233:=Tryz.sizeOf316
 v233:=Tryz.zeroValue316
 g17:=by kernel_rfl
 g18:=by kernel_rfl
 g19:=by kernel_rfl
 i0:=by kernel_rfl
 i2:=by kernel_rfl
 i3:=by kernel_rfl
 i4:=by kernel_rfl
 i5:=by kernel_rfl
 i9:=by kernel_rfl
 i20:=by kernel_rfl
 i37:=by kernel_rfl
 i46:=by kernel_rfl
 i51:=by kernel_rfl
 i53:=by kernel_rfl
 i171:=by kernel_rfl
 i173:=by kernel_rfl
 i212:=by kernel_rfl
 i232:=by kernel_rfl
 i233:=by kernel_rfl
 m17:=by kernel_rfl
 m18:=by kernel_rfl
 m19:=by kernel_rfl }
open Go.RowKit Go.Sort Go.Lib in
theorem Tryz.strconv_Itoa (n:Int) (h0:-9223372036854775808≤n) (h1:n≤9223372036854775807) (w:World) (h:Lib.TabIs Tryz.prog w "internal/strconv.uint64pow10" .u64 Lib.pow10Tab):
  Calls Tryz.prog 200 #[.int .i64 n] w fun e w'=>e=.returned (.string ⟨(Lib.itoa n).toArray⟩)∧∃k os,w'=grow (w.drewN k) os:=Any.strconv_Itoa Tryz.laysM171 n h0 h1 w h
def Tryz.lays189_ren:Go.Shelf.Ren:=⟨fun | 189=>88 | 125=>131 | 257=>130 | 128=>189 | 129=>190 | 294=>180 | 295=>181 | 296=>182 | 297=>183 | 298=>184 | 299=>185 | 216=>186 | 300=>187 | 301=>188 | 328=>215 | 329=>216 | 330=>217 | 331=>218 | 332=>219 | 215=>220 | 343=>230 | n=>n,fun | 28=>24 | 3=>3 | 46=>196 | 0=>0 | 51=>245 | 53=>247 | 4=>4 | 183=>238 | 182=>237 | 131=>182 | 5=>5 | 9=>9 | 218=>271 | 222=>275 | 228=>286 | 229=>192 | n=>n,fun | n=>n⟩
theorem Tryz.lays189:Go.Proofs.Lays.n189 Tryz.prog Tryz.lays189_ren:={
 mixed:=by kernel_rfl
 f125:=Tryz.func131.trans (congrArg some (by kernel_rfl))
 f128:=Tryz.func189.trans (congrArg some (by kernel_rfl))
 f129:=Tryz.func190.trans (congrArg some (by kernel_rfl))
 f189:=Tryz.func88.trans (congrArg some (by kernel_rfl))
 f215:=Tryz.func220.trans (congrArg some (by kernel_rfl))
 f216:=Tryz.func186.trans (congrArg some (by kernel_rfl))
 f257:=Tryz.func130.trans (congrArg some (by kernel_rfl))
 f294:=Tryz.func180.trans (congrArg some (by kernel_rfl))
 f295:=Tryz.func181.trans (congrArg some (by kernel_rfl))
 f296:=Tryz.func182.trans (congrArg some (by kernel_rfl))
 f297:=Tryz.func183.trans (congrArg some (by kernel_rfl))
 f298:=Tryz.func184.trans (congrArg some (by kernel_rfl))
 f299:=Tryz.func185.trans (congrArg some (by kernel_rfl))
 f300:=Tryz.func187.trans (congrArg some (by kernel_rfl))
 f301:=Tryz.func188.trans (congrArg some (by kernel_rfl))
 f328:=Tryz.func215.trans (congrArg some (by kernel_rfl))
 f329:=Tryz.func216.trans (congrArg some (by kernel_rfl))
 f330:=Tryz.func217.trans (congrArg some (by kernel_rfl))
 f331:=Tryz.func218.trans (congrArg some (by kernel_rfl))
 f332:=Tryz.func219.trans (congrArg some (by kernel_rfl))
 f343:=Tryz.func230.trans (congrArg some (by kernel_rfl))
 t0:=Tryz.underlying0
 a0:=Tryz.isAgg0
 z0:=Tryz.sizeOf0
 v0:=Tryz.zeroValue0
 t3:=Tryz.underlying3
 a3:=Tryz.isAgg3
 z3:=Tryz.sizeOf3
 v3:=Tryz.zeroValue3
 t4:=Tryz.underlying4
 a4:=Tryz.isAgg4
 z4:=Tryz.sizeOf4
 v4:=Tryz.zeroValue4
 t5:=Tryz.underlying5
 a5:=Tryz.isAgg5
 z5:=Tryz.sizeOf5
 v5:=Tryz.zeroValue5
 t9:=Tryz.underlying9
 a9:=Tryz.isAgg9
 z9:=Tryz.sizeOf9
 v9:=Tryz.zeroValue9
 t28:=Tryz.underlying24
 a28:=Tryz.isAgg24
 z28:=Tryz.sizeOf24
 v28:=Tryz.zeroValue24
 t46:=Tryz.underlying196
 a46:=Tryz.isAgg196
 z46:=Tryz.sizeOf196
 v46:=Tryz.zeroValue196
 t51:=Tryz.underlying245
 a51:=Tryz.isAgg245
 z51:=Tryz.sizeOf245
 v51:=Tryz.zeroValue245
 t53:=Tryz.underlying247
 a53:=Tryz.isAgg247
 z53:=Tryz.sizeOf247
 v53:=Tryz.zeroValue247
 t131:=Tryz.underlying182
 a131:=Tryz.isAgg182
 z131:=Tryz.sizeOf182
 v131:=Tryz.zeroValue182
 t182:=Tryz.underlying237
 a182:=Tryz.isAgg237
 z182:=Tryz.sizeOf237
 v182:=Tryz.zeroValue237
 t183:=Tryz.underlying238
 a183:=Tryz.isAgg238
 z183:=Tryz.sizeOf238
 v183:=Tryz.zeroValue238
 t218:=Tryz.underlying271
 a218:=Tryz.isAgg271
 z218:=Tryz.sizeOf271
 v218:=Tryz.zeroValue271
 t222:=Tryz.underlying275
 a222:=Tryz.isAgg275
 z222:=Tryz.sizeOf275
 v222:=Tryz.zeroValue275
 t228:=Tryz.underlying286
 a228:=Tryz.isAgg286
 z228:=Tryz.sizeOf286
 v228:=Tryz.zeroValue286
 t229:=Tryz.underlying192
 a229:=Tryz.isAgg192
 z229:=Tryz.sizeOf192
 v229:=Tryz.zeroValue192 }
open Go.Sort Go.RowKit in
theorem Tryz.slices_Sort_int (blk off cap:Nat) (zs:List Int) (w:World) (h:Holds (Value.int .i64) w blk off zs.toArray) (C:blk<w.heap.size) (E:zs.length<4611686018427387904):
  Calls Tryz.prog 88 #[.slice (some ⟨blk,off,none⟩) zs.length cap] w fun e w'=>
   e=.returned (.tuple #[])∧∃n os,w'=grow (putRow (Value.int .i64) (Sort.ahead w n) blk off (zs.mergeSort fun x y=>decide (x≤y)).toArray) os:=Any.slices_Sort_int Tryz.lays189 blk off cap zs w h C E
def Tryz.laysNm215_ren:Go.Shelf.Ren:=⟨fun | 15=>87 | n=>n,fun | 22=>24 | 3=>3 | 4=>4 | n=>n,fun | n=>n⟩
theorem Tryz.laysNm215:Go.Proofs.Lays2.n15 Tryz.prog Tryz.laysNm215_ren:={
 mixed:=by kernel_rfl
 f15:=Tryz.func87.trans (congrArg some (by kernel_rfl))
 t3:=Tryz.underlying3
 a3:=Tryz.isAgg3
 z3:=Tryz.sizeOf3
 v3:=Tryz.zeroValue3
 t4:=Tryz.underlying4
 a4:=Tryz.isAgg4
 z4:=Tryz.sizeOf4
 v4:=Tryz.zeroValue4
 t22:=Tryz.underlying24
 a22:=Tryz.isAgg24
 z22:=Tryz.sizeOf24
 v22:=Tryz.zeroValue24
 i3:=by kernel_rfl }
open Go.RowKit Go.Lib in
theorem Tryz.slices_Clone_int (b off n c:Nat) (zs:List Int) (w:World) (C:n≤zs.length) (x:n*8≤140737488355328) (y:∀j,j<zs.length→w.cell? ⟨b,off+j,none⟩=some (.int .i64 (zs.getD j 0))):
  Calls Tryz.prog 87 #[.slice (some ⟨b,off,none⟩) n c] w fun e w'=>∃h,e=.returned h∧w'.ownsRow w.heap.size 3 1 h n ((zs.take n).map (Value.int .i64))∧h≠.slice none 0 0∧Below w.heap.size w w':=Any.slices_Clone_int Tryz.laysNm215 b off n c zs w C x y
open Go.RowKit Go.Lib in
theorem Tryz.slices_Clone_int_nil (n c:Nat) (w:World):
  Calls Tryz.prog 87 #[.slice none n c] w fun e w'=>e=.returned (.slice none 0 0)∧w'=w:=Any.slices_Clone_int_nil Tryz.laysNm215 n c w
def Tryz.laysNm220_ren:Go.Shelf.Ren:=⟨fun | 20=>89 | n=>n,fun | 22=>24 | 3=>3 | 4=>4 | 0=>0 | n=>n,fun | n=>n⟩
theorem Tryz.laysNm220:Go.Proofs.Lays2.n20 Tryz.prog Tryz.laysNm220_ren:={
 mixed:=by kernel_rfl
 f20:=Tryz.func89.trans (congrArg some (by kernel_rfl))
 t0:=Tryz.underlying0
 a0:=Tryz.isAgg0
 z0:=Tryz.sizeOf0
 v0:=Tryz.zeroValue0
 t3:=Tryz.underlying3
 a3:=Tryz.isAgg3
 z3:=Tryz.sizeOf3
 v3:=Tryz.zeroValue3
 t4:=Tryz.underlying4
 a4:=Tryz.isAgg4
 z4:=Tryz.sizeOf4
 v4:=Tryz.zeroValue4
 t22:=Tryz.underlying24
 a22:=Tryz.isAgg24
 z22:=Tryz.sizeOf24
 v22:=Tryz.zeroValue24
 i3:=by kernel_rfl }
open Go.RowKit Go.Lib Go.Sort in
theorem Tryz.slices_Compact_int (blk off cap:Nat) (zs:List Int) (w:World) (h:Holds (Value.int .i64) w blk off zs.toArray) (y:zs.length≤9223372036854775807) (x:zs.length≤cap):
  Calls Tryz.prog 89 #[.slice (some ⟨blk,off,none⟩) zs.length cap] w fun e w'=>e=.returned (.slice (some ⟨blk,off,none⟩) (Lib.compact zs).length cap)∧∃q,w'=putRow (Value.int .i64) (Sort.ahead w q) blk off (Lib.compact zs++List.replicate (zs.length - (Lib.compact zs).length) 0).toArray:=Any.slices_Compact_int Tryz.laysNm220 blk off cap zs w h y x
open Go.RowKit Go.Lib Go.Sort in
theorem Tryz.slices_Compact_int_empty (a:Option Addr) (cap:Nat) (w:World):
  Calls Tryz.prog 89 #[.slice a 0 cap] w fun e w'=>e=.returned (.slice a 0 cap)∧w'=w:=Any.slices_Compact_int_empty Tryz.laysNm220 a cap w
def Tryz.lays166_ren:Go.Shelf.Ren:=⟨fun | 166=>199 | 240=>222 | 276=>231 | n=>n,fun | 0=>0 | 3=>3 | 4=>4 | 5=>5 | 9=>9 | 20=>20 | 37=>254 | 70=>253 | 72=>256 | 75=>258 | 80=>263 | 164=>288 | n=>n,fun | n=>n⟩
theorem Tryz.lays166:Go.Proofs.Lays.n166 Tryz.prog Tryz.lays166_ren:={
 mixed:=by kernel_rfl
 f166:=Tryz.func199.trans (congrArg some (by kernel_rfl))
 f240:=Tryz.func222.trans (congrArg some (by kernel_rfl))
 f276:=Tryz.func231.trans (congrArg some (by kernel_rfl))
 t0:=Tryz.underlying0
 a0:=Tryz.isAgg0
 z0:=Tryz.sizeOf0
 v0:=Tryz.zeroValue0
 t3:=Tryz.underlying3
 a3:=Tryz.isAgg3
 z3:=Tryz.sizeOf3
 v3:=Tryz.zeroValue3
 t4:=Tryz.underlying4
 a4:=Tryz.isAgg4
 z4:=Tryz.sizeOf4
 v4:=Tryz.zeroValue4
 t9:=Tryz.underlying9
 a9:=Tryz.isAgg9
 z9:=Tryz.sizeOf9
 v9:=Tryz.zeroValue9
 t20:=Tryz.underlying20
 a20:=Tryz.isAgg20
 z20:=Tryz.sizeOf20
 v20:=Tryz.zeroValue20
 t37:=Tryz.underlying254
 a37:=Tryz.isAgg254
 z37:=Tryz.sizeOf254
 v37:=Tryz.zeroValue254
 t70:=Tryz.underlying253
 a70:=Tryz.isAgg253
 z70:=Tryz.sizeOf253
 v70:=Tryz.zeroValue253
 t72:=Tryz.underlying256
 a72:=Tryz.isAgg256
 z72:=Tryz.sizeOf256
 v72:=Tryz.zeroValue256
 t75:=Tryz.underlying258
 a75:=Tryz.isAgg258
 z75:=Tryz.sizeOf258
 v75:=Tryz.zeroValue258
 t164:=Tryz.underlying288
 a164:=Tryz.isAgg288
 z164:=Tryz.sizeOf288
 v164:=Tryz.zeroValue288 }
theorem Tryz.Builder_Extra_166:Builder.Extra Tryz.prog Tryz.lays166_ren:={
 sizeBuilder:=by kernel_rfl
 liesBuilder:=by kernel_rfl
 t5:=Tryz.underlying5
 a5:=Tryz.isAgg5
 z5:=Tryz.sizeOf5
 v5:=Tryz.zeroValue5
 infoByte:=by kernel_rfl
 cellsByte:=by kernel_rfl
 sizeByte:=by kernel_rfl
 neB5:=by decide }
def Tryz.lays167_ren:Go.Shelf.Ren:=⟨fun | 167=>201 | 240=>222 | 276=>231 | n=>n,fun | 0=>0 | 3=>3 | 4=>4 | 5=>5 | 9=>9 | 20=>20 | 37=>254 | 70=>253 | 72=>256 | 75=>258 | 80=>263 | 164=>288 | n=>n,fun | n=>n⟩
theorem Tryz.lays167:Go.Proofs.Lays.n167 Tryz.prog Tryz.lays167_ren:={
 mixed:=by kernel_rfl
 f167:=Tryz.func201.trans (congrArg some (by kernel_rfl))
 f240:=Tryz.func222.trans (congrArg some (by kernel_rfl))
 f276:=Tryz.func231.trans (congrArg some (by kernel_rfl))
 t0:=Tryz.underlying0
 a0:=Tryz.isAgg0
 z0:=Tryz.sizeOf0
 v0:=Tryz.zeroValue0
 t4:=Tryz.underlying4
 a4:=Tryz.isAgg4
 z4:=Tryz.sizeOf4
 v4:=Tryz.zeroValue4
 t5:=Tryz.underlying5
 a5:=Tryz.isAgg5
 z5:=Tryz.sizeOf5
 v5:=Tryz.zeroValue5
 t9:=Tryz.underlying9
 a9:=Tryz.isAgg9
 z9:=Tryz.sizeOf9
 v9:=Tryz.zeroValue9
 t20:=Tryz.underlying20
 a20:=Tryz.isAgg20
 z20:=Tryz.sizeOf20
 v20:=Tryz.zeroValue20
 t37:=Tryz.underlying254
 a37:=Tryz.isAgg254
 z37:=Tryz.sizeOf254
 v37:=Tryz.zeroValue254
 t70:=Tryz.underlying253
 a70:=Tryz.isAgg253
 z70:=Tryz.sizeOf253
 v70:=Tryz.zeroValue253
 t72:=Tryz.underlying256
 a72:=Tryz.isAgg256
 z72:=Tryz.sizeOf256
 v72:=Tryz.zeroValue256
 t75:=Tryz.underlying258
 a75:=Tryz.isAgg258
 z75:=Tryz.sizeOf258
 v75:=Tryz.zeroValue258
 t164:=Tryz.underlying288
 a164:=Tryz.isAgg288
 z164:=Tryz.sizeOf288
 v164:=Tryz.zeroValue288 }
theorem Tryz.Builder_Extra_167:Builder.Extra Tryz.prog Tryz.lays167_ren:={
 sizeBuilder:=by kernel_rfl
 liesBuilder:=by kernel_rfl
 t5:=Tryz.underlying5
 a5:=Tryz.isAgg5
 z5:=Tryz.sizeOf5
 v5:=Tryz.zeroValue5
 infoByte:=by kernel_rfl
 cellsByte:=by kernel_rfl
 sizeByte:=by kernel_rfl
 neB5:=by decide }
open Go.RowKit in
theorem Tryz.Builder_WriteByte (B b:Nat) (x:List Value) (c:Int) (w:World) (h:Lib.IsBuilder 256 5 B b x w) (C:x.length+1≤140737488355328) (y:B≤w.heap.size):
  Calls Tryz.prog 201 #[.pointer (some ⟨b,0,none⟩),.int .u8 c] w fun e w'=>e=.returned .nilIface∧(Lib.BuilderAt 256 5 B b (.pointer (some ⟨b,0,none⟩)) (x++[.int .u8 c]) w'∧Below B w w'):=Any.Builder_WriteByte Tryz.lays167 Tryz.Builder_Extra_167 B b x c w h C y
open Go.RowKit in
theorem Tryz.Builder_WriteString (B b:Nat) (x:List Value) (s:ByteArray) (w:World) (h:Lib.IsBuilder 256 5 B b x w) (C:x.length+s.size≤140737488355328) (y:B≤w.heap.size):
  Calls Tryz.prog 199 #[.pointer (some ⟨b,0,none⟩),.string s] w fun e w'=>e=.returned (.tuple #[.int .i64 s.size,.nilIface])∧(Lib.BuilderAt 256 5 B b (.pointer (some ⟨b,0,none⟩)) (x++Lib.strCells s) w'∧Below B w w'):=Any.Builder_WriteString Tryz.lays166 Tryz.Builder_Extra_166 B b x s w h C y
end Go.Proofs
namespace Go.Proofs.YtfcfpoemojjglaaGreatDoor
open Go.RowKit Go.Sort
set_option maxHeartbeats 16000000
set_option maxRecDepth 100000
def CL (l:List Int):List Int:=Lib.compact (l.mergeSort fun x y=>decide (x≤y))
theorem Jc (d:Array Int) (hd:∀i j,i≤j→j<d.size→d[i]!≤d[j]!):∀m,m≤d.size→Asc (Lib.compactUpTo d m)∧∀x,x∈Lib.compactUpTo d m↔∃j,j<m∧d[j]! =x:=by
 intro m
 induction m with
 | zero=>exact fun _=>⟨List.Pairwise.nil,fun _=>⟨fun h=>by simp [Lib.compactUpTo] at h,fun⟨j,C,_⟩=>by omega⟩⟩
 | succ m ih=>
  intro J
  obtain⟨h1,E⟩:=ih (by omega)
  rw [Lib.compactUpTo_succ]
  cases hk:Lib.keeps d m
  ·simp only [Bool.false_eq_true,if_false,List.append_nil]
   refine⟨h1,fun x=>(E x).trans ⟨fun⟨j,C,e⟩=>⟨j,by omega,e⟩,fun⟨j,C,e⟩=>?_⟩⟩
   rcases Nat.lt_or_ge j m with h | h
   ·exact⟨j,h,e⟩
   ·obtain rfl:j=m:=by omega
    simp [Lib.keeps] at hk
    exact⟨j - 1,by omega,by rw [←hk.2]; exact e⟩
  ·simp only [if_true]
   refine⟨List.pairwise_append.2 ⟨h1,by simp,fun x F y G=>?_⟩,fun x=>?_⟩
   ·rw [List.mem_singleton.1 G]
    obtain⟨j,C,e⟩:=(E x).1 F
    have a1:=hd j (m - 1) (by omega) (by omega)
    have I:=hd (m - 1) m (by omega) (by omega)
    simp [Lib.keeps] at hk
    rcases hk with hk | hk
    ·omega
    ·have:d[m]!≠d[m - 1]!:=hk
     omega
   ·rw [List.mem_append,List.mem_singleton,E x]
    constructor
    ·rintro(⟨j,C,e⟩ | rfl)
     ·exact⟨j,by omega,e⟩
     ·exact⟨m,by omega,rfl⟩
    ·rintro⟨j,C,e⟩
     rcases Nat.lt_or_ge j m with h | h
     ·exact .inl ⟨j,h,e⟩
     ·obtain rfl:j=m:=by omega
      exact .inr e.symm
theorem Tc (l:List Int):(l.mergeSort fun x y=>decide (x≤y)).Pairwise (·≤·):=by
 have:=List.pairwise_mergeSort (le:=fun x y:Int=>decide (x≤y)) (fun a b c h1 C=>by simp at*; omega) (fun a b=>by simp; omega) l
 exact this.imp fun h=>by simpa using h
theorem Lo (l:List Int) (i j:Nat) (E:i≤j) (C:j<((l.mergeSort fun x y=>decide (x≤y)).toArray).size):(l.mergeSort fun x y=>decide (x≤y)).toArray[i]!≤(l.mergeSort fun x y=>decide (x≤y)).toArray[j]!:=by
 have h:=Tc l
 generalize l.mergeSort (fun x y=>decide (x≤y))=s at*
 simp only [List.size_toArray] at C
 rcases Nat.lt_or_ge i j with h1 | h1
 ·have:=List.pairwise_iff_getElem.1 h i j (by omega) C h1
  simpa [C,show i<s.length from by omega] using this
 ·obtain rfl:i=j:=by omega
  exact Int.le_refl _
theorem Mf (l:List Int):Asc (CL l):=(Jc _ (Lo l) _ (by simp)).1
theorem J3 {l:List Int} {x:Int}:x∈CL l↔x∈l:=by
 have h:=(Jc _ (Lo l) ((l.mergeSort fun x y=>decide (x≤y)).length) (by simp)).2 x
 unfold CL Lib.compact
 rw [h]
 have E:x∈(l.mergeSort fun x y=>decide (x≤y))↔x∈l:=(List.mergeSort_perm l _).mem_iff
 rw [←E]
 generalize l.mergeSort (fun x y=>decide (x≤y))=s
 constructor
 ·rintro⟨j,C,rfl⟩
  simp [C]
 ·intro F
  obtain⟨j,C,rfl⟩:=List.getElem_of_mem F
  exact⟨j,C,by simp [C]⟩
theorem Ta (l:List Int):(CL l).length≤l.length:=by
 have:=Go.Lib.compact_length_le (l.mergeSort fun x y=>decide (x≤y))
 rwa [List.length_mergeSort] at this
theorem Ip {l:List Int} {m:List Bool} (h:∀x,x∈l↔∃q:Nat,x=(q:Int)∧m[q]?=some true):CL l=AJ m:=
 IU (Mf l) (Me m) fun x=>(J3.trans (h x)).trans Ee.symm
theorem Tb:CL []=[]:=List.eq_nil_iff_forall_not_mem.2 fun _ h=>absurd (J3.1 h) List.not_mem_nil
theorem Kf {w:World} {base size n m:Nat} {e:TypeId} {g cap:Nat} {xs:List Value} (h:w.ownsRow base e size (.slice (some ⟨g,0,none⟩) n cap) n xs) (M:m≤n):
  w.ownsRow base e size (.slice (some ⟨g,0,none⟩) m cap) m (xs.take (m*size)):=by
 obtain⟨J,y⟩:=h
 have O:m*size≤n*size:=Nat.mul_le_mul_right _ M
 refine⟨by rw [List.length_take,J]; omega,?_⟩
 rcases y with⟨h1,_⟩ | ⟨W,V,C,x,E,I,Z,y,U,ht⟩
 ·cases h1
 ·injection x with x _ F
  injection x with x
  injection x with G
  subst G F
  refine .inr ⟨g,cap,C,rfl,E,I,by omega,y,U,?_⟩
  rw [←ht,List.take_take,Nat.min_eq_left O]
theorem Kb {w:World} {base n g cap:Nat} {e:TypeId} {l:List Int} (h:w.ownsRow base e 1 (.slice (some ⟨g,0,none⟩) n cap) n (l.map (Value.int .i64))):Holds (Value.int .i64) w g 0 l.toArray:=by
 have U:l.length=n:=by simpa using h.1
 rcases h.2 with⟨h1,_⟩ | ⟨J,I,C,x,M,E,O,W,V,ht⟩
 ·cases h1
 ·injection x with x _ F
  injection x with x
  injection x with G
  subst G F
  intro j y
  simp only [List.size_toArray] at y
  refine⟨?_,Blk.frozen (t:=e) (cs:=C) E _⟩
  rw [cell_of_row w g _ C e (0,0) E,Nat.zero_add]
  have h1:(l.map (Value.int .i64))[j]?=some (.int .i64 l[j]):=AX (List.getElem?_eq_getElem y)
  rw [←ht,List.getElem?_take] at h1
  split at h1
  ·rw [show l.toArray[j]! =l[j] from by simp [y]]
   simpa using h1
  ·cases h1
theorem HR {w:World} {base n g cap k:Nat} {e:TypeId} {xs:List Value} (h:w.ownsRow base e 1 (.slice (some ⟨g,0,none⟩) n cap) n xs) (d:List Int) (hd:d.length=n) (os:Array Obj):
  (grow (putRow (Value.int .i64) (Sort.ahead w k) g 0 d.toArray) os).ownsRow base e 1 (.slice (some ⟨g,0,none⟩) n cap) n (d.map (Value.int .i64))∧Ac w (grow (putRow (Value.int .i64) (Sort.ahead w k) g 0 d.toArray) os) (fun b=>b=g):=by
 rcases h.2 with⟨h1,_⟩ | ⟨g',a2,C,y,x,F,I,Z,W,ht⟩
 ·cases h1
 ·injection y with y _ J
  injection y with y
  injection y with M
  subst M J
  have O:=(Array.getElem?_eq_some_iff.1 F).1
  have E:∀b,b<w.heap.size→(grow (putRow (Value.int .i64) (Sort.ahead w k) g 0 d.toArray) os).heap[b]?=if g=b then (w.heap[b]?).map (onCells (putCells (Value.int .i64) 0 d.toArray)) else w.heap[b]?:=fun b x=>by
   unfold grow putRow mapBlock Sort.ahead
   rw [Array.getElem?_append_left (by simpa using x),Array.getElem?_modify]
  refine⟨⟨by simp [hd],.inr ⟨g,cap,putCells (Value.int .i64) 0 d.toArray C,rfl,x,?_,I,Z,?_,?_⟩⟩,rfl,rfl,rfl,?_,fun b x V=>?_⟩
  ·rw [E g O,if_pos rfl,F]
   rfl
  ·unfold putCells
   rw [Array.size_mapIdx]
   exact W
  ·apply List.ext_getElem?
   intro j
   rw [List.getElem?_take]
   by_cases hj:j<n
   ·rw [if_pos (by omega)]
    have U:j<C.size:=by omega
    have G:j<d.length:=by omega
    rw [AX (List.getElem?_eq_getElem G)]
    unfold putCells
    rw [Array.getElem?_toList,Array.getElem?_mapIdx,Array.getElem?_eq_getElem U]
    simp [G]
   ·rw [if_neg (by omega),List.getElem?_eq_none (by simp; omega)]
  ·simp [grow,putRow,mapBlock,Sort.ahead]
  ·rw [E b x,if_neg fun e=>V e.symm]
theorem M2 {w:World} {base n g cap k q:Nat} {l:List Int} {os:Array Obj} (h:w.ownsRow base 3 1 (.slice (some ⟨g,0,none⟩) n cap) n (l.map (Value.int .i64))) (I:base≤w.heap.size):
  (putRow (Value.int .i64) (Sort.ahead (grow (putRow (Value.int .i64) (Sort.ahead w k) g 0 (l.mergeSort fun x y=>decide (x≤y)).toArray) os) q) g 0 (Lib.compact (l.mergeSort fun x y=>decide (x≤y))++List.replicate ((l.mergeSort fun x y=>decide (x≤y)).length - (Lib.compact (l.mergeSort fun x y=>decide (x≤y))).length) 0).toArray).ownsRow base 3 1 (.slice (some ⟨g,0,none⟩) (CL l).length cap) (CL l).length ((CL l).map (Value.int .i64))∧
  Below base w (putRow (Value.int .i64) (Sort.ahead (grow (putRow (Value.int .i64) (Sort.ahead w k) g 0 (l.mergeSort fun x y=>decide (x≤y)).toArray) os) q) g 0 (Lib.compact (l.mergeSort fun x y=>decide (x≤y))++List.replicate ((l.mergeSort fun x y=>decide (x≤y)).length - (Lib.compact (l.mergeSort fun x y=>decide (x≤y))).length) 0).toArray):=by
 have F:l.length=n:=by simpa using h.1
 have G:=Bb h (k:=g) rfl
 have J:(l.mergeSort fun x y=>decide (x≤y)).length=n:=by rw [List.length_mergeSort,F]
 have M:=Go.Lib.compact_length_le (l.mergeSort fun x y=>decide (x≤y))
 obtain⟨h1,k1⟩:=HR (k:=k) h _ J os
 obtain⟨C,k2⟩:=HR (k:=q) h1 (Lib.compact (l.mergeSort fun x y=>decide (x≤y))++List.replicate ((l.mergeSort fun x y=>decide (x≤y)).length - (Lib.compact (l.mergeSort fun x y=>decide (x≤y))).length) 0) (by rw [List.length_append,List.length_replicate]; omega) #[]
 rw [grow_empty] at C k2
 have E:=Kf C (m:=(CL l).length) (by rw [←F]; exact Ta l)
 refine⟨?_,(k1.trans k2 fun _ _ e=>e).below I fun b G e=>by omega⟩
 rw [Nat.mul_one,List.map_append,List.take_append_of_le_length (by simp [CL]),List.take_of_length_le (by simp [CL])] at E
 exact E
theorem Td (A:Option Addr) (c:Nat) (w:World):
  Calls Tryz.prog 42 #[.slice A 0 c] w (Ret fun r w'=>w'.ownsRow w.heap.size 3 1 r 0 []∧Below w.heap.size w w'):=by
 cases A with
 | none=>
  go_enter Tryz.func42,Tryz.ntmps42
  go_wp2_with (first
   | (go_at_call 87; refine(Tryz.slices_Clone_int_nil 0 c w).mono ?_; rintro e w' ⟨rfl,rfl⟩)
   | (go_at_call 88; refine(Any.slices_Sort_int_none Tryz.lays189 none 0 w').mono ?_; rintro e C ⟨rfl,rfl⟩)
   | (go_at_call 89; refine(Tryz.slices_Compact_int_empty none 0 _).mono ?_; rintro e E ⟨rfl,rfl⟩))
  go_ret
  exact⟨Cb,Below.refl _ _⟩
 | some a=>
  go_enter Tryz.func42,Tryz.ntmps42
  go_wp2_with (first
   | (go_at_call 87; refine(Any.slices_Clone_int_zero Tryz.laysNm215 a c w).mono ?_; rintro e y ⟨F,rfl,h,-,x⟩; obtain⟨A1,c1,rfl⟩:=AH h)
   | (go_at_call 88; refine(Any.slices_Sort_int_none Tryz.lays189 A1 c1 y).mono ?_; rintro e C ⟨rfl,rfl⟩)
   | (go_at_call 89; refine(Tryz.slices_Compact_int_empty A1 c1 _).mono ?_; rintro e E ⟨rfl,rfl⟩))
  go_ret
  exact⟨h,x⟩
theorem GY {w:World} {B:Nat} {A:Option Addr} {c:Nat} {l:List Int} (h:Sl w B 1 Ai A l) (hl:l.length≤4000000):
  Calls Tryz.prog 42 #[.slice A l.length c] w (Ret fun r w'=>w'.ownsRow w.heap.size 3 1 r (CL l).length ((CL l).map (Value.int .i64))∧Below w.heap.size w w'):=by
 by_cases O:l=[]
 ·subst O
  rw [Tb]
  exact Td A c w
 ·obtain⟨b,off,rfl,ad,Z⟩:=h.2 O
  have a2:∀j,j<l.length→w.cell? ⟨b,off+j,none⟩=some (.int .i64 (l.getD j 0)):=fun j hj=>by
   have:=Z j _ (List.getElem?_eq_getElem hj) 0 (by omega)
   rw [getD_some (List.getElem?_eq_getElem hj)]
   simpa [Ai] using this
  have ag:l.length≠0:=fun e=>O (List.length_eq_zero_iff.1 e)
  obtain⟨n,E⟩:∃n,n=l.length:=⟨_,rfl⟩
  obtain⟨m,a5⟩:∃m,m=(l.mergeSort fun x y=>decide (x≤y)).length:=⟨_,rfl⟩
  have af:m=n:=by rw [a5,E,List.length_mergeSort]
  have C:=hide E
  rw [←E]
  clear E a5
  go_enter Tryz.func42,Tryz.ntmps42
  go_wp2_with fail
  refine(Tryz.slices_Clone_int b off n c l w (Nat.le_of_eq C.out) (by have:=C.out; omega) a2).mono ?_
  rintro e w1 ⟨v',rfl,F,a6,I⟩
  rw [List.take_of_length_le (Nat.le_of_eq C.out.symm)] at F
  obtain⟨g,cap,rfl,a3⟩:∃g cap,v'=.slice (some ⟨g,0,none⟩) n cap∧g<w1.heap.size∧n≤cap:=by
   rcases F.2 with⟨rfl,_⟩ | ⟨g,cap,ac,rfl,I,hh,a8,_⟩
   ·exact absurd rfl a6
   ·exact⟨g,cap,rfl,(Array.getElem?_eq_some_iff.1 hh).1,a8⟩
  have G:=hide F
  have V:=hide I
  have W:=hide a3
  clear F I a6 a3 a2 Z
  go_wp2_with fail
  have U:=Tryz.slices_Sort_int g 0 cap l w1 (Kb G.out) W.out.1 (by omega)
  rw [←C.out] at U
  refine U.mono ?_
  rintro e w2 ⟨rfl,k,os,rfl⟩
  clear U
  go_wp2_with fail
  have aa:=(HR (k:=k) G.out (l.mergeSort fun x y=>decide (x≤y)) (by rw [List.length_mergeSort]; exact C.out.symm) os).1
  have J:=Tryz.slices_Compact_int g 0 cap (l.mergeSort fun x y=>decide (x≤y)) _ (Kb aa) (by rw [List.length_mergeSort]; omega) (by rw [List.length_mergeSort,←C.out]; exact W.out.2)
  rw [List.length_mergeSort,←C.out] at J
  refine J.mono ?_
  rintro e w3 ⟨rfl,q,rfl⟩
  clear J
  have M:=M2 (k:=k) (q:=q) (os:=os) G.out V.out.size
  rw [List.length_mergeSort,←C.out] at M
  go_wp2_with fail
  go_ret
  exact⟨M.1,V.out.trans M.2⟩
end Go.Proofs.YtfcfpoemojjglaaGreatDoor
namespace Go.Proofs.YtfcfpoemojjglaaGreatDoor
open Go.RowKit
set_option maxHeartbeats 16000000
set_option maxRecDepth 100000
theorem IK {w:World} {g n c3:Nat} {A3:Option Addr} {acc:List Bool} {M O U:Value} {q:Nat} {b:Bool} (E:Blk w g 88 #[M,O,U,.slice A3 n c3]) (h:Sl w w.heap.size 1 DH A3 acc) (J:n=acc.length) (x:acc[q]?=some b):
  Calls Tryz.prog 90 #[.int .i64 (q:Int),.pointer (some ⟨g,0,none⟩)] w fun e w'=>e=.returned (.bool b)∧w=w':=by
 have Z:=E.cell
 have C:=AP x
 have I:=h.1
 obtain⟨V,off,d,rfl,W,hd,y⟩:=h.at C
 have G:d=b:=Option.some.inj (hd.symm.trans x)
 subst G
 have F:=y 0 (by omega)
 simp only [Nat.mul_one,Nat.add_zero,DH] at F
 have a2:q<n:=by omega
 have a3:n≤9223372036854775807:=by omega
 clear J x hd y h C I
 go_enter Tryz.func90,Tryz.ntmps90
 go_wp2_with fail
 go_ret
 exact⟨rfl,rfl⟩
theorem P6 {w:World} {B g n c3 c:Nat} {A A3:Option Addr} {acc:List Bool} {v0 v1 v2:Value} {l:List Int} (Z:Blk w g 88 #[v0,v1,v2,.slice A3 n c3]) (V:Sl w w.heap.size 1 DH A3 acc) (hn:n=acc.length) (h:Sl w B 1 Ai A l) (a5:∀x∈l,inN n x=true):
  Calls Tryz.prog 107 #[.slice A l.length c,.func (.func 90) #[] #[.pointer (some ⟨g,0,none⟩)]] w fun e w'=>e=.returned (.int .i64 (if l.any (fun x=>acc.getD x.toNat false) then ((l.findIdx fun x=>acc.getD x.toNat false:Nat):Int) else -1))∧w=w':=by
 have hm:=h.1
 have a2:=hide Z
 have W:=hide V
 have I:=hide hn
 have hI:=hide a5
 have al:=GT
 obtain⟨p,J⟩:∃p:Int→Bool,p=fun x=>acc.getD x.toNat false:=⟨_,rfl⟩
 rw [←J]
 have af:=hide J
 obtain⟨R,F⟩:∃R:Int,Hid ((if l.any p then ((l.findIdx p:Nat):Int) else -1)=R):=⟨_,rfl⟩
 rw [F.out]
 clear Z V hn a5 J
 go_enter Tryz.func107,Tryz.ntmps107
 go_wp2_with fail
 go_loop [8] (fun O=>∃(k:Nat),O=.int .i64 (k:Int)∧k≤l.length∧Hid ((l.take k).any p=false)) (fun O=>l.length - (intOf O).toNat)
 case atStart=>exact⟨0,rfl,Nat.zero_le _,rfl⟩
 case round=>
  obtain⟨k,rfl,hk,E⟩:=hrel
  by_cases a6:k<l.length
  ·obtain⟨b,off,x,rfl,aj,hx,hc⟩:=h.at a6
   have ad:=hc 0 (by omega)
   simp only [Nat.mul_one,Nat.add_zero,Ai] at ad
   have y:=hide hx
   clear hx hc
   obtain⟨q,rfl,hq⟩:=CT (hI.out x (List.mem_of_getElem? y.out))
   simp only [Int.toNat_natCast] at hq
   obtain⟨U,G⟩:=An (l:=acc) (i:=q) (by rw [←I.out]; exact hq)
   have a3:=hide G
   have M:Hid (p (q:Int)=U):=by show _=_; rw [af.out]; exact getD_some G
   clear G
   cases U
   ·have aa:Hid ((l.take (k+1)).any p=false):=by show _=_; rw [B5 y.out,List.any_append,E.out]; simp [M.out]
    go_wp2_with (go_at_call 90; refine(IK a2.out W.out I.out a3.out).mono ?_; rintro e w' ⟨rfl,rfl⟩)
    exact⟨⟨k+1,by go_num,by omega,aa⟩,by simp [intOf]; omega⟩
   ·have C:Hid (l.any p=true):=List.any_eq_true.2 ⟨_,List.mem_of_getElem? y.out,M.out⟩
    have hF:Hid (l.findIdx p=k):=by
     show _=_
     rw [List.findIdx_eq a6]
     refine⟨?_,fun j hj=>?_⟩
     ·have:=(List.getElem?_eq_some_iff.1 y.out).2
      rw [this]; exact M.out
     ·have:=List.any_eq_false.1 E.out l[j] (List.mem_of_getElem? (i:=j) (by rw [List.getElem?_take,if_pos hj,List.getElem?_eq_getElem]))
      simpa using this
    go_wp2_with (go_at_call 90; refine(IK a2.out W.out I.out a3.out).mono ?_; rintro e w' ⟨rfl,rfl⟩)
    go_ret
    exact⟨by rw [←F.out,C.out,hF.out]; rfl,rfl⟩
  ·have C:Hid (l.any p=false):=by show _=_; rw [←E.out,List.take_of_length_le (by omega)]
   go_wp2_with fail
   go_ret
   exact⟨by rw [←F.out,C.out]; rfl,rfl⟩
theorem M6 {w:World} {B g n c3 c:Nat} {A A3:Option Addr} {acc:List Bool} {J M O:Value} {l:List Int} (E:Blk w g 88 #[J,M,O,.slice A3 n c3]) (C:Sl w w.heap.size 1 DH A3 acc) (G:n=acc.length) (h:Sl w B 1 Ai A l) (F:∀x∈l,inN n x=true):
  Calls Tryz.prog 61 #[.slice A l.length c,.func (.func 90) #[] #[.pointer (some ⟨g,0,none⟩)]] w fun e w'=>e=.returned (.bool (l.any (fun x=>acc.getD x.toNat false)))∧w=w':=by
 have y:=P6 (c:=c) E C G h F
 clear E C F G
 obtain⟨r,I⟩:∃r,(l.any (fun x=>acc.getD x.toNat false))=r:=⟨_,rfl⟩
 rw [I] at y ⊢
 cases r
 all_goals
  simp only [Bool.false_eq_true,if_false,if_true] at y
  clear I
  go_enter Tryz.func61,Tryz.ntmps61
  go_wp2_with (go_at_call 107; refine y.mono ?_; rintro e w' ⟨rfl,rfl⟩)
  go_ret
  exact⟨by simp,rfl⟩
theorem IM {w:World} {v:Value} {a:NF} {B c:Nat} {A:Option Addr} {l:List Int} (h:Cn w w.heap.size v a) (F:a.acc.length=a.n) (V:Sl w B 1 Ai A l) (hB:B≤w.heap.size) (G:∀x∈l,inN a.n x=true):
  Calls Tryz.prog 44 #[v,.slice A l.length c] w (Ret fun r w'=>r=.bool (l.any (fun x=>a.acc.getD x.toNat false))∧Below w.heap.size w w'):=by
 obtain⟨A1,c1,A2,c2,A3,c3,rfl,h1,I,C,J⟩:=h
 have a3:=GT
 obtain⟨Z,a5,y,E,U⟩:=Ae w #[.int .i64 (a.L:Int),.slice A1 a.nx.length c1,.slice A2 a.start.length c2,.slice A3 a.acc.length c3] 88
 have W:=y.size
 have O:=M6 (c:=c) E ((C.below y).mono W) rfl ((V.keep (w':=Z) (fun p hp=>y.cell (by omega)) (Nat.le_refl _))) (by rw [F]; exact G)
 have M:=hide y
 clear h1 I C J E U y F G
 go_enter Tryz.func44,Tryz.ntmps44
 go_wp2_with (go_at_call 61; refine O.mono ?_; rintro e w' ⟨rfl,rfl⟩)
 go_ret
 exact⟨rfl,M.out⟩
theorem Ik {m:List Bool} {n:Nat} (C:m.length=n):∀x∈AJ m,inN n x=true:=fun x y=>by
 obtain⟨q,rfl,h⟩:=Ee.1 y
 have:=AP h
 rw [D3]; omega
end Go.Proofs.YtfcfpoemojjglaaGreatDoor
namespace Go.Proofs.YtfcfpoemojjglaaGreatDoor
open Go.RowKit
set_option maxHeartbeats 16000000
set_option maxRecDepth 100000
section
variable {P:Program} {w:World}
theorem Ig {t e size:Nat} (R:Dd P t e size) (ty:TypeId) {base:Nat} {v:Value} {n:Nat} {xs:List Value} (C:w.ownsRow base e size v n xs) (A:Option Addr) (c:Nat):
  (Builtin.append_ #[t,t] ty #[v,.slice A 0 c]).run P w=.ok v w:=by
 have ht:=R.ht
 obtain⟨i,z,bytes,x,J,I,G,M,F⟩:=R.info
 have h:∀(a:Addr),Sem.run P (loadCells a 0) w=.ok #[] w:=fun _=>rfl
 rcases C.2 with⟨rfl,rfl⟩ | ⟨g,cap,E,rfl,_,_,y,_⟩
 ·cases A <;> simp [Builtin.append_,run_underlying ht,sizeOf,typeInfo,x,Builtin.lenOf,Builtin.firstCells,h]
 ·cases A <;> simp [Builtin.append_,run_underlying ht,sizeOf,typeInfo,x,Builtin.lenOf,Builtin.firstCells,y,storeCells,h]
end
section
variable {P:Program} {ops:Array Oper} {rest:List Oper} {o:Oper} {a:Act} {Q:Exit→Act→World→Prop} {w:World}
theorem Ei {t e:Nat} {B:Nat} {D:Type} {enc:D→Nat→Value} (R:Dd P t e 1) (I:o.guard=none) (s x:Operand)
  (ho:o.op=.call { callee:=.builtin .append,args:=#[s,x],argTypes:=#[t,t] })
  (base:Nat) (v:Value) (n:Nat) (xs:List Value) (J:a.eval s=v) (C:w.ownsRow base e 1 v n xs)
  {A:Option Addr} {l:List D} {c:Nat} (hS:Sl w B 1 enc A l) (E:a.eval x=.slice A l.length c) (h1:∀d,(enc d 0).oneCell'=true)
  (hn:n+l.length≤4000000) (a3:base≤w.heap.size)
  (h:∀G w',w'.ownsRow base e 1 G (n+l.length) (xs++l.map (enc · 0))→Ac w w' (fun k=>v.ownBlock=some k)→BJ w v G→wpList P ops Q rest (a.put o.dst G) w'):
  wpList P ops Q (o::rest) a w:=by
 by_cases h0:l.length=0
 ·have hl:l=[]:=List.length_eq_zero_iff.1 h0
  subst hl
  have hr:=Ig (P:=P) R o.type C A c
  refine wpList_plain I fun K W=>?_
  unfold Oper.wp execOp
  rw [List.length_nil] at E
  simp only [ho,resolve,invoke,builtin,Sem.run_bind,Sem.run_pure,Result.andThen_ok,List.map_toArray,List.map_cons,List.map_nil,J,E,hr]
  exact W _ _ (h v w (by simpa using C) (Ac.refl _ _) (BJ.refl _ _))
 ·obtain⟨b,off,d0,V,hb,ae,hc⟩:=hS.at (k:=0) (by omega)
  obtain⟨b',o',M,ac,a2⟩:=hS.2 (by intro e; rw [e] at h0; exact h0 rfl)
  subst V
  refine G9 R I s x ho base v n xs J C ⟨b,off,none⟩ l.length c (l.map (enc · 0)) E (by simp) ?_ ?_ (by omega) hn a3 ?_
  ·intro j u y
   rw [List.getElem?_map] at y
   cases F:l[j]? with
   | none=>rw [F] at y; cases y
   | some d=>
    rw [F] at y
    have y:=Option.some.inj y
    subst y
    have e:=Option.some.inj M
    injection e with O U _
    subst O U
    have:=a2 j d F 0 (by omega)
    have Z:(⟨b,off,none⟩:Addr).add j=⟨b,off+j*1+0,none⟩:=by unfold Addr.add; split <;> simp_all
    rw [Z]
    exact this
  ·intro u y
   obtain⟨d,_,rfl⟩:=List.mem_map.1 y
   exact h1 d
  ·intro g cap w' a7 hk a5 _
   exact h _ w' a7 hk a5
end
def NF.cat (a:NF) (l:List Int) (x:Nat):List Int:=l.flatMap fun s=>a.to s.toNat x
theorem NF.cat_take {a:NF} {l:List Int} {x k:Nat} {s:Int} (h:l[k]?=some s):a.cat (l.take (k+1)) x=a.cat (l.take k) x++a.to s.toNat x:=by
 unfold NF.cat
 rw [B5 h,List.flatMap_append]
 simp
theorem NF.cat_len {a:NF} {l:List Int} {x k:Nat}:(a.cat (l.take k) x).length≤(a.cat l x).length:=by
 unfold NF.cat
 have:=congrArg (fun l=>(l.flatMap fun s:Int=>a.to s.toNat x).length) (List.take_append_drop k l)
 simp only [List.flatMap_append,List.length_append] at this
 omega
theorem NF.to_at {w:World} {B:Nat} {a:NF} {A1:Option Addr} (h:VSl R2 w B A1 a.nx) (V:a.OK) {s x:Nat} (Z:s<a.n) (hx:x<a.L):
  ∃b off A c b2 C y c',A1=some ⟨b,off,none⟩∧b<B∧w.cell? ⟨b,off+s,none⟩=some (.slice A a.L c)∧A=some ⟨b2,C,none⟩∧b2<B∧w.cell? ⟨b2,C+x,none⟩=some (.slice y (a.to s x).length c')∧Sl w B 1 Ai y (a.to s x):=by
 obtain⟨r,E⟩:=An (l:=a.nx) (i:=s) Z
 obtain⟨b,off,v,h1,M,O,A,c,rfl,U⟩:=h.at E
 have W:=V.row r (List.mem_of_getElem? E)
 obtain⟨l,F⟩:=An (l:=r) (i:=x) (by omega)
 obtain⟨b2,C,v2,G,I,J,y,c',rfl,e4⟩:=U.at F
 have:a.to s x=l:=by unfold NF.to; rw [getD_some E,getD_some F]
 rw [this]
 exact⟨b,off,A,c,b2,C,y,c',h1,M,by rw [O,W],G,I,J,e4⟩
theorem NF.cat_set {a:NF} (I:a.OK) {m:List Bool} (V:m.length=a.n) {x:Nat} (W:x<a.L):CL (a.cat (AJ m) x)=AJ (a.after m x):=by
 refine Ip fun y=>?_
 unfold NF.cat
 rw [List.mem_flatMap]
 constructor
 ·rintro⟨s,O,F⟩
  obtain⟨q,rfl,J⟩:=Ee.1 O
  have M:q<a.n:=by rw [←V]; exact AP J
  simp only [Int.toNat_natCast] at F
  obtain⟨r,E⟩:=An (l:=a.nx) (i:=q) M
  obtain⟨l,G⟩:=An (l:=r) (i:=x) (by rw [I.row r (List.mem_of_getElem? E)]; exact W)
  have e:a.to q x=l:=by unfold NF.to; rw [getD_some E,getD_some G]
  obtain⟨z,rfl,h⟩:=CT (I.to r (List.mem_of_getElem? E) l (List.mem_of_getElem? G) y (by rw [←e]; exact F))
  simp only [Int.toNat_natCast] at h
  refine⟨z,rfl,?_⟩
  obtain⟨b,C⟩:=An (l:=a.after m x) (i:=z) (by rw [a.after_len]; exact h)
  have:=(NF.after_get (m:=m) (x:=x) h).2 ⟨q,M,getD_some J,F⟩
  rw [getD_some C] at this
  rw [C,this]
 ·rintro⟨z,rfl,h⟩
  have Z:z<a.n:=by have:=AP h; rwa [a.after_len] at this
  obtain⟨s,O,h1,U⟩:=(NF.after_get (m:=m) (x:=x) Z).1 (getD_some h)
  obtain⟨b,C⟩:=An (l:=m) (i:=s) (by omega)
  rw [getD_some C] at h1
  subst h1
  exact⟨(s:Int),Ee.2 ⟨s,rfl,C⟩,by simpa using U⟩
theorem Iq {w:World} {v:Value} {a:NF} {B c x:Nat} {A:Option Addr} {m:List Bool} (h:Cn w w.heap.size v a) (a3:a.OK) (hm:m.length=a.n) (Z:Sl w B 1 Ai A (AJ m)) (hB:B≤w.heap.size) (hx:x<a.L) (ad:(a.cat (AJ m) x).length≤4000000):
  Calls Tryz.prog 43 #[v,.slice A (AJ m).length c,.int .i64 (x:Int)] w (Ret fun r w'=>w'.ownsRow w.heap.size 3 1 r (AJ (a.after m x)).length ((AJ (a.after m x)).map (Value.int .i64))∧Below w.heap.size w w'):=by
 obtain⟨A1,c1,A2,c2,A3,c3,rfl,h1,h2,h3,h4⟩:=h
 obtain⟨J,aL,ab,a8,b6⟩:=Ae w #[.int .i64 (a.L:Int),.slice A1 a.nx.length c1,.slice A2 a.start.length c2,.slice A3 a.acc.length c3] 88
 have aJ:=ab.size
 have ay:=hide (Ik hm)
 have ax:=hide (NF.cat_set a3 hm hx)
 have a7:=hide h1
 have aF:=hide a3
 have ak:=hide hx
 have aB:=Z.1
 obtain⟨l,a2⟩:∃l,l=AJ m:=⟨_,rfl⟩
 have af:=hide a2
 rw [←a2] at Z ad aB ⊢
 clear h2 h3 h4 a3 a2 h1
 have M:=hide a8
 obtain⟨n,G⟩:∃n,n=a.nx.length:=⟨_,rfl⟩
 have aE:=hide G
 rw [←G] at aL M ⊢
 have b8:n≤9223372036854775807:=by rw [G]; exact a7.out.1
 clear G a8
 go_enter Tryz.func43,Tryz.ntmps43
 go_wp2_with fail
 go_loopw [7,12] (fun vv ii wr=>∃(k C:Nat),ii=.int .i64 (k:Int)∧k≤l.length∧Below J.heap.size J wr∧Hid (C=(a.cat (l.take k) x).length∧wr.ownsRow J.heap.size 3 1 vv C ((a.cat (l.take k) x).map (Value.int .i64)))) (fun _ ii _=>l.length - (intOf ii).toNat)
 case atStart=>exact⟨0,0,rfl,Nat.zero_le _,Below.refl _ _,rfl,Cb⟩
 case round=>
  obtain⟨k,C,rfl,hk,E,y⟩:=hrel
  have W:=ab.trans (E.mono aJ)
  by_cases aC:k<l.length
  ·obtain⟨b,off,s,rfl,b4,I,hc⟩:=Z.at aC
   have av:=(W.cell (by show b<_; omega)).trans (hc 0 (by omega))
   simp only [Nat.mul_one,Nat.add_zero,Ai] at av
   obtain⟨q,rfl,hq⟩:=CT (ay.out s (by rw [←af.out]; exact List.mem_of_getElem? I))
   simp only [Int.toNat_natCast] at hq
   obtain⟨bA,oA,A',cA,b2,o2,aP,aS,rfl,g1,g2,rfl,g3,g4,g5⟩:=NF.to_at (a7.out.keep (@R2.keep) (fun p hp=>W.cell hp) (Nat.le_refl _)) aF.out hq ak.out
   have b5:=(M.out.at M.out.lt E).cell
   have F:=hide (NF.cat_take (a:=a) (x:=x) I)
   simp only [Int.toNat_natCast] at F
   have aA:=hide (NF.cat_len (a:=a) (l:=l) (x:=x) (k:=k+1))
   have b9:q<n:=by rw [aE.out]; exact hq
   have hS:=hide g5
   have aZ:=hide I
   obtain⟨Av,cv,rfl⟩:=AH y.out.2
   obtain⟨tl,a5⟩:∃tl,tl=(a.to q x).length:=⟨_,rfl⟩
   have aK:=hide a5
   rw [←a5] at g4
   have aM:=ak.out
   obtain⟨L,U⟩:∃L,L=a.L:=⟨_,rfl⟩
   rw [←U] at g2 aM
   have aY:=hide U
   clear I hc g5 a5 U
   have au:=hide (show C+(a.to q x).length≤4000000 from by have e1:=y.out.1; have e2:=aA.out; rw [F.out,List.length_append] at e2; omega)
   have V:=y
   clear y
   go_wp2_with (at_builtin; refine Ei C9 rfl _ _ rfl J.heap.size _ C _ rfl V.out.2 hS.out (by rw [←aK.out]; rfl) (fun d=>rfl) au.out E.size ?_; intro v2 w2 aG az b7)
   refine⟨⟨k+1,C+(a.to q x).length,by go_num,by omega,E.trans (az.below E.size fun b hb e=>by have:=Bb V.out.2 e; omega),?_,?_⟩,by simp [intOf]; omega⟩
   ·rw [F.out,List.length_append,←V.out.1]
   ·rw [F.out,List.map_append]; exact aG
  ·have a9:=y.out
   rw [List.take_of_length_le (by omega)] at a9
   obtain⟨aD,ai⟩:=a9
   have O:=hide W
   obtain⟨A7,c7,e7,aa⟩:=B8 ai aD.symm (Nat.le_refl _) (by omega)
   subst e7
   have aq:=hide aa
   have aw:=hide ad
   clear ai y aa
   go_wp2_with (go_at_call 42; refine Calls.ret (GY aq.out aw.out) ?_; rintro v w9 ⟨ah,ar⟩)
   have ae:=ax.out
   rw [←af.out] at ae
   go_ret
   rw [ae] at ah
   exact⟨DC ah O.out.size,O.out.trans (ar.mono O.out.size)⟩
end Go.Proofs.YtfcfpoemojjglaaGreatDoor
namespace Go.Proofs.YtfcfpoemojjglaaGreatDoor
open Go.RowKit
set_option maxHeartbeats 16000000
set_option maxRecDepth 100000
def Ff (l:List UInt8):Nat:=l.foldl (fun v b=>10*v+(b.toNat - 48)) 0
theorem Ji (l:List UInt8) (b:UInt8):Ff (l++[b])=10*Ff l+(b.toNat - 48):=by simp [Ff]
theorem Hm {d:Nat} (h:d<10):(UInt8.ofNat (48+d)).toNat=48+d:=by
 rw [UInt8.toNat_ofNat']
 omega
theorem Jh (u:Nat):Ff (Lib.decDigits u)=u:=by
 induction u using Nat.strongRecOn with
 | _ u ih=>
  rw [Lib.decDigits]
  split
  ·next h=>
   have:=Ji [] (UInt8.ofNat (48+u))
   rw [List.nil_append] at this
   rw [this,Hm h]
   simp [Ff]
  ·next h=>
   rw [Ji,ih (u / 10) (by omega),Hm (by omega)]
   omega
theorem Jk (u:Nat):(32:UInt8)∉Lib.decDigits u:=by
 induction u using Nat.strongRecOn with
 | _ u ih=>
  rw [Lib.decDigits]
  have key:∀d,d<10→(32:UInt8)≠UInt8.ofNat (48+d):=fun d hd e=>by
   have:=congrArg UInt8.toNat e
   rw [Hm hd] at this
   have x:(32:UInt8).toNat=32:=rfl
   omega
  split
  ·next h=>simpa using key u h
  ·next h=>
   rw [List.mem_append,List.mem_singleton]
   rintro(h1 | h1)
   ·exact ih (u / 10) (by omega) h1
   ·exact key (u % 10) (by omega) h1
theorem Tg {a b r s:List UInt8} (E:(32:UInt8)∉a) (F:(32:UInt8)∉b) (h:a++32::r=b++32::s):a=b∧r=s:=by
 induction a generalizing b with
 | nil=>
  cases b with
  | nil=>simpa using h
  | cons y b=>
   simp at h
   exact absurd (List.mem_cons.2 (.inl h.1)) F
 | cons x a ih=>
  cases b with
  | nil=>
   simp at h
   exact absurd (List.mem_cons.2 (.inl h.1.symm)) E
  | cons y b=>
   simp only [List.cons_append,List.cons.injEq] at h
   obtain⟨h1,G⟩:=ih (fun C=>E (List.mem_cons_of_mem _ C)) (fun C=>F (List.mem_cons_of_mem _ C)) h.2
   exact⟨by rw [h.1,h1],G⟩
def Cw (l:List Nat):List UInt8:=l.flatMap fun x=>Lib.decDigits x++[32]
theorem FU (x:Nat) (l:List Nat):Cw (x::l)=Lib.decDigits x++32::Cw l:=by simp [Cw]
theorem JM:∀{l k:List Nat},Cw l=Cw k→l=k
 | [],[],_=>rfl
 | [],y::k,h=>by rw [FU] at h; simp [Cw] at h
 | x::l,[],h=>by rw [FU] at h; simp [Cw] at h
 | x::l,y::k,h=>by
  rw [FU,FU] at h
  obtain⟨h1,C⟩:=Tg (Jk x) (Jk y) h
  have:=congrArg Ff h1
  rw [Jh,Jh] at this
  rw [this,JM C]
theorem QJ {l:List Nat} {k x:Nat} (h:l[k]?=some x):Cw (l.take (k+1))=Cw (l.take k)++(Lib.decDigits x++[32]):=by
 unfold Cw
 rw [B5 h,List.flatMap_append]
 simp
theorem Jj:∀(k u:Nat),u<10 ^ (k+1)→(Lib.decDigits u).length≤k+1
 | 0,u,h=>by rw [Lib.decDigits,dif_pos (by simpa using h)]; simp
 | k+1,u,h=>by
  rw [Lib.decDigits]
  split
  ·simp
  ·rw [List.length_append]
   have:=Jj k (u / 10) (by rw [Nat.pow_succ] at h; omega)
   simp
   omega
theorem QI {l:List Nat} (h:∀x∈l,x<1000000000):(Cw l).length≤l.length*10:=by
 induction l with
 | nil=>simp [Cw]
 | cons x l ih=>
  rw [FU]
  have h1:=Jj 8 x (h x List.mem_cons_self)
  have E:=ih fun y C=>h y (List.mem_cons_of_mem _ C)
  simp
  omega
def BV (w:World):Prop:=Lib.TabIs Tryz.prog w "internal/strconv.uint64pow10" .u64 Lib.pow10Tab
theorem BV.below {w w':World} (h:BV w) (x:Below w.heap.size w w'):BV w':=(Lib.tabBelow_of_tabIs h) w' x
theorem Qw {T e:TypeId} {B b:Nat} {y:List Value} {w w':World} (h:Lib.IsBuilder T e B b y w) (E:Below w.heap.size w w'):Lib.IsBuilder T e B b y w':=by
 have key:∀p,Lib.BuilderAt T e B b p y w→Lib.BuilderAt T e B b p y w':=by
  rintro p ⟨h1,v,C,F,G⟩
  exact⟨h1,v,by rw [E.block b (Array.getElem?_eq_some_iff.1 C).1]; exact C,Bt F E,G⟩
 exact h.elim (fun x=>.inl (key _ x)) (fun x=>.inr (key _ x))
theorem JN {w:World} {B c:Nat} {A:Option Addr} {l:List Nat} (h:Sl w B 1 Ai A (Ak l)) (hB:B≤w.heap.size) (hs:∀x∈l,x<1000000000) (hl:l.length≤4000000) (hT:BV w):
  Calls Tryz.prog 164 #[.slice A (Ak l).length c] w (Ret fun r w'=>r=.string ⟨(Cw l).toArray⟩∧Below w.heap.size w w'):=by
 obtain⟨w1,aF,a6,Z,aq⟩:=Ae w #[.pointer none,.slice none 0 0] 256
 have aB:=a6.size
 have a8:Lib.IsBuilder 256 5 w.heap.size w.heap.size (Lib.byteCells (Cw (l.take 0))) w1:=.inl ⟨Nat.le_refl _,.slice none 0 0,Z,Cb,by simp [Value.ownBlock]⟩
 have an:=hide a8
 have ai:=hide hT
 have ae:=hide hs
 have aa:(Ak l).length=l.length:=by simp [Ak]
 obtain⟨n,U⟩:∃n,n=l.length:=⟨_,rfl⟩
 rw [aa,←U]
 have V:=hide U
 have aA:n≤4000000:=by omega
 clear a8 hT hs Z aq U hl aa
 go_enter Tryz.func164,Tryz.ntmps164
 go_wp2_with fail
 go_loopw [8] (fun W wr=>∃(k:Nat),W=.int .i64 (k:Int)∧k≤n∧Hid (Lib.IsBuilder 256 5 w.heap.size w.heap.size (Lib.byteCells (Cw (l.take k))) wr)∧Below w.heap.size w wr) (fun W _=>n - (intOf W).toNat)
 case atStart=>exact⟨0,rfl,Nat.zero_le _,an,a6⟩
 case round=>
  obtain⟨k,rfl,hk,J,C⟩:=hrel
  by_cases ac:k<n
  ·obtain⟨x,F⟩:=An (l:=l) (i:=k) (by rw [←V.out]; exact ac)
   obtain⟨b,off,d,rfl,az,hd,hc⟩:=h.at (k:=k) (by simp [Ak]; rw [←V.out]; exact ac)
   have ap:d=(x:Int):=by
    unfold Ak at hd
    rw [AX F] at hd
    exact(Option.some.inj hd).symm
   subst ap
   have ao:=(C.cell (by show b<_; omega)).trans (hc 0 (by omega))
   simp only [Nat.mul_one,Nat.add_zero,Ai] at ao
   have hX:=hide F
   have aG:=ae.out x (List.mem_of_getElem? F)
   have O:=hide (QJ F)
   have ab:=hide (Nat.le_trans (QI (l:=l.take (k+1)) fun y hy=>ae.out y (List.mem_of_mem_take hy)) (Nat.mul_le_mul_right 10 (List.length_take_le _ _)))
   have aj:=hide (ai.out.below C)
   have a2:=hide C
   have aE:=C.size
   clear F hc hd C
   go_wp2_with fail
   refine(Tryz.strconv_Itoa (x:Int) (by omega) (by omega) wr aj.out).mono ?_
   rintro e w2 ⟨rfl,kk,os,af⟩
   have M:Below wr.heap.size wr w2:=by
    subst af
    refine⟨rfl,rfl,rfl,by simp [Go.Sort.grow],fun b hb=>?_⟩
    unfold Go.Sort.grow
    rw [Array.getElem?_append_left (by simpa using hb)]
    rfl
   rw [Lib.itoa_nonneg]
   have E:=Qw J.out M
   have aC:=M.size
   clear af
   go_wp2_with fail
   refine(Tryz.Builder_WriteString w.heap.size w.heap.size _ ⟨(Lib.decDigits x).toArray⟩ w2 E ?_ (by omega)).mono ?_
   ·have G:=ab.out
    rw [O.out,List.length_append,List.length_append] at G
    rw [Lib.byteCells_length]
    show _+(Lib.decDigits x).toArray.size≤_
    simp only [List.size_toArray]
    omega
   rintro e w3 ⟨rfl,I,a7⟩
   rw [Lib.strCells_toArray,←Lib.byteCells_append] at I
   have aD:=a7.size
   go_wp2_with fail
   refine(Tryz.Builder_WriteByte w.heap.size w.heap.size _ 32 w3 (.inr I) ?_ (by omega)).mono ?_
   ·have G:=ab.out
    rw [O.out,List.length_append,List.length_append] at G
    rw [Lib.byteCells_length,List.length_append]
    simp at G
    omega
   rintro e w4 ⟨rfl,a4,al⟩
   go_wp2_with fail
   refine⟨⟨k+1,by go_num,by omega,?_,((a2.out.trans (M.mono a2.out.size)).trans a7).trans al⟩,by simp [intOf]; omega⟩
   show Lib.IsBuilder _ _ _ _ _ _
   rw [O.out]
   refine .inr ?_
   have ah:Lib.byteCells (Cw (l.take k)++Lib.decDigits x)++[Value.int .u8 32]=Lib.byteCells (Cw (l.take k)++(Lib.decDigits x++[32])):=by
    rw [←List.append_assoc,Lib.byteCells_append _ [32]]
    rfl
   rw [ah] at a4
   exact a4
  ·have E:=J.out
   rw [List.take_of_length_le (by rw [←V.out]; omega)] at E
   have I:=hide E
   have a3:=hide C
   clear E J C
   go_wp2_with (go_at_call 202; refine(Tryz.Builder_String_any w.heap.size w.heap.size (Cw l) wr I.out a3.out.size).mono ?_; rintro e w5 ⟨rfl,am⟩)
   go_ret
   exact⟨rfl,a3.out.trans am⟩
end Go.Proofs.YtfcfpoemojjglaaGreatDoor
