/-
  Part PS of a proof.
-/
import Derived.Shelf.LaysM
import Derived.Shelf.Strings.Builder1
import Derived.Shelf.Strconv.Itoa3
import Derived.Shelf.Sort.Plain
import Derived.Ground.NamesProg
import Derived.Ground.Names2Prog
import Derived.Shelf.Slices.Clone
import Derived.Shelf.Slices.CompactI
import Derived.Test.YtfcfpoemojjglaaGreatDoorProg
import Derived.Shelf.Slices.In.SortNone
import Derived.Lib.RowBridge
import Derived.Lib.AppendIntMem
import Derived.Test.YtfcfpoemojjglaaGreatDoorPA
import Derived.Test.YtfcfpoemojjglaaGreatDoorPD
set_option maxHeartbeats 16000000
set_option maxRecDepth 100000
set_option linter.unusedVariables false
set_option linter.unusedSimpArgs false
namespace Go.Proofs
open Go.Shelf
def Tryz.lays169_ren:Go.Shelf.Ren:=⟨fun | 169=>202 | n=>n,fun | 70=>253 | 9=>9 | 0=>0 | 72=>256 | 37=>254 | 127=>278 | 3=>3 | 5=>5 | n=>n,fun | n=>n⟩
theorem Tryz.lays169:Go.Proofs.Lays.n169 Tryz.prog Tryz.lays169_ren:={
 mixed:=by kernel_rfl
 f169:=Tryz.func202.trans (congrArg some (by kernel_rfl))
 t0:=Tryz.underlying0
 a0:=Tryz.isAgg0
 z0:=Tryz.sizeOf0
 v0:=Tryz.zeroValue0
 t3:=Tryz.underlying3
 a3:=Tryz.isAgg3
 z3:=Tryz.sizeOf3
 v3:=Tryz.zeroValue3
 t9:=Tryz.underlying9
 a9:=Tryz.isAgg9
 z9:=Tryz.sizeOf9
 v9:=Tryz.zeroValue9
 t37:=Tryz.underlying254
 a37:=Tryz.isAgg254
 z37:=Tryz.sizeOf254
 v37:=Tryz.zeroValue254
 t70:=Tryz.underlying253
 a70:=Tryz.isAgg253
 z70:=Tryz.sizeOf253
 v70:=Tryz.zeroValue253
 t72:=Tryz.underlying256
 a72:=Tryz.isAgg256
 z72:=Tryz.sizeOf256
 v72:=Tryz.zeroValue256
 t127:=Tryz.underlying278
 a127:=Tryz.isAgg278
 z127:=Tryz.sizeOf278
 v127:=Tryz.zeroValue278 }
theorem Tryz.Builder_Extra_169:Builder.Extra Tryz.prog Tryz.lays169_ren:={
 sizeBuilder:=by kernel_rfl
 liesBuilder:=by kernel_rfl
 t5:=Tryz.underlying5
 a5:=Tryz.isAgg5
 z5:=Tryz.sizeOf5
 v5:=Tryz.zeroValue5
 infoByte:=by kernel_rfl
 cellsByte:=by kernel_rfl
 sizeByte:=by kernel_rfl
 neB5:=by decide }
open Go.RowKit in
theorem Tryz.Builder_String_any (B b:Nat) (l:List UInt8) (w:World) (h:Lib.IsBuilder 256 5 B b (Lib.byteCells l) w) (y:B≤w.heap.size):
  Calls Tryz.prog 202 #[.pointer (some ⟨b,0,none⟩)] w fun e w'=>e=.returned (.string ⟨l.toArray⟩)∧Below B w w':=Any.Builder_String_any Tryz.lays169 Tryz.Builder_Extra_169 B b l w h y
def Tryz.laysM171_ren:Go.Shelf.Ren:=⟨fun | 171=>200 | 243=>223 | 246=>232 | 283=>234 | 284=>235 | 285=>236 | 286=>237 | 129=>190 | 317=>240 | 318=>241 | 319=>242 | 320=>243 | 337=>244 | 338=>245 | n=>n,fun | 3=>3 | 9=>9 | 2=>2 | 4=>4 | 171=>296 | 0=>0 | 53=>247 | 37=>254 | 5=>5 | 173=>298 | 212=>311 | 51=>245 | 20=>20 | 213=>312 | 46=>196 | 232=>315 | 233=>316 | n=>n,fun | 17=>2 | 18=>3 | 19=>4 | n=>n⟩
theorem Tryz.laysM171:Go.Proofs.LaysM.n171 Tryz.prog Tryz.laysM171_ren:={
 mixed:=by kernel_rfl
 f129:=Tryz.func190.trans (congrArg some (by kernel_rfl))
 f171:=Tryz.func200.trans (congrArg some (by kernel_rfl))
 f243:=Tryz.func223.trans (congrArg some (by kernel_rfl))
 f246:=Tryz.func232.trans (congrArg some (by kernel_rfl))
 f283:=Tryz.func234.trans (congrArg some (by kernel_rfl))
 f284:=Tryz.func235.trans (congrArg some (by kernel_rfl))
 f285:=Tryz.func236.trans (congrArg some (by kernel_rfl))
 f286:=Tryz.func237.trans (congrArg some (by kernel_rfl))
 f317:=Tryz.func240.trans (congrArg some (by kernel_rfl))
 f318:=Tryz.func241.trans (congrArg some (by kernel_rfl))
 f319:=Tryz.func242.trans (congrArg some (by kernel_rfl))
 f320:=Tryz.func243.trans (congrArg some (by kernel_rfl))
 f337:=Tryz.func244.trans (congrArg some (by kernel_rfl))
 f338:=Tryz.func245.trans (congrArg some (by kernel_rfl))
 t0:=Tryz.underlying0
 a0:=Tryz.isAgg0
 z0:=Tryz.sizeOf0
 v0:=Tryz.zeroValue0
 t2:=Tryz.underlying2
 a2:=Tryz.isAgg2
 z2:=Tryz.sizeOf2
 v2:=Tryz.zeroValue2
 t3:=Tryz.underlying3
 a3:=Tryz.isAgg3
 z3:=Tryz.sizeOf3
 v3:=Tryz.zeroValue3
 t4:=Tryz.underlying4
 a4:=Tryz.isAgg4
 z4:=Tryz.sizeOf4
 v4:=Tryz.zeroValue4
 t5:=Tryz.underlying5
 a5:=Tryz.isAgg5
 z5:=Tryz.sizeOf5
 v5:=Tryz.zeroValue5
 t9:=Tryz.underlying9
 a9:=Tryz.isAgg9
 z9:=Tryz.sizeOf9
 v9:=Tryz.zeroValue9
 t20:=Tryz.underlying20
 a20:=Tryz.isAgg20
 z20:=Tryz.sizeOf20
 v20:=Tryz.zeroValue20
 t37:=Tryz.underlying254
 a37:=Tryz.isAgg254
 z37:=Tryz.sizeOf254
 v37:=Tryz.zeroValue254
 t46:=Tryz.underlying196
 a46:=Tryz.isAgg196
 z46:=Tryz.sizeOf196
 v46:=Tryz.zeroValue196
 t51:=Tryz.underlying245
 a51:=Tryz.isAgg245
 z51:=Tryz.sizeOf245
 v51:=Tryz.zeroValue245
 t53:=Tryz.underlying247
 a53:=Tryz.isAgg247
 z53:=Tryz.sizeOf247
 v53:=Tryz.zeroValue247
 t171:=Tryz.underlying296
 a171:=Tryz.isAgg296
 z171:=Tryz.sizeOf296
 v171:=Tryz.zeroValue296
 t173:=Tryz.underlying298
 a173:=Tryz.isAgg298
 z173:=Tryz.sizeOf298
 v173:=Tryz.zeroValue298
 t212:=Tryz.underlying311
 a212:=Tryz.isAgg311
 z212:=Tryz.sizeOf311
 v212:=Tryz.zeroValue311
 t213:=Tryz.underlying312
 a213:=Tryz.isAgg312
 z213:=Tryz.sizeOf312
 t232:=Tryz.underlying315
 a232:=Tryz.isAgg315
 z232:=Tryz.sizeOf315
 v232:=Tryz.zeroValue315
 t233:=Tryz.underlying316
 a233:=Tryz.isAgg316
 z233:=Tryz.sizeOf316
 v233:=Tryz.zeroValue316
 g17:=by kernel_rfl
 g18:=by kernel_rfl
 g19:=by kernel_rfl
 i0:=by kernel_rfl
 i2:=by kernel_rfl
 i3:=by kernel_rfl
 i4:=by kernel_rfl
 i5:=by kernel_rfl
 i9:=by kernel_rfl
 i20:=by kernel_rfl
 i37:=by kernel_rfl
 i46:=by kernel_rfl
 i51:=by kernel_rfl
 i53:=by kernel_rfl
 i171:=by kernel_rfl
 i173:=by kernel_rfl
 i212:=by kernel_rfl
 i232:=by kernel_rfl
 i233:=by kernel_rfl
 m17:=by kernel_rfl
 m18:=by kernel_rfl
 m19:=by kernel_rfl }
open Go.RowKit Go.Sort Go.Lib in
theorem Tryz.strconv_Itoa (n:Int) (h0:-9223372036854775808≤n) (h1:n≤9223372036854775807) (w:World) (h:Lib.TabIs Tryz.prog w "internal/strconv.uint64pow10" .u64 Lib.pow10Tab):
  Calls Tryz.prog 200 #[.int .i64 n] w fun e w'=>e=.returned (.string ⟨(Lib.itoa n).toArray⟩)∧∃k os,w'=grow (w.drewN k) os:=Any.strconv_Itoa Tryz.laysM171 n h0 h1 w h
def Tryz.lays189_ren:Go.Shelf.Ren:=⟨fun | 189=>88 | 125=>131 | 257=>130 | 128=>189 | 129=>190 | 294=>180 | 295=>181 | 296=>182 | 297=>183 | 298=>184 | 299=>185 | 216=>186 | 300=>187 | 301=>188 | 328=>215 | 329=>216 | 330=>217 | 331=>218 | 332=>219 | 215=>220 | 343=>230 | n=>n,fun | 28=>24 | 3=>3 | 46=>196 | 0=>0 | 51=>245 | 53=>247 | 4=>4 | 183=>238 | 182=>237 | 131=>182 | 5=>5 | 9=>9 | 218=>271 | 222=>275 | 228=>286 | 229=>192 | n=>n,fun | n=>n⟩
theorem Tryz.lays189:Go.Proofs.Lays.n189 Tryz.prog Tryz.lays189_ren:={
 mixed:=by kernel_rfl
 f125:=Tryz.func131.trans (congrArg some (by kernel_rfl))
 f128:=Tryz.func189.trans (congrArg some (by kernel_rfl))
 f129:=Tryz.func190.trans (congrArg some (by kernel_rfl))
 f189:=Tryz.func88.trans (congrArg some (by kernel_rfl))
 f215:=Tryz.func220.trans (congrArg some (by kernel_rfl))
 f216:=Tryz.func186.trans (congrArg some (by kernel_rfl))
 f257:=Tryz.func130.trans (congrArg some (by kernel_rfl))
 f294:=Tryz.func180.trans (congrArg some (by kernel_rfl))
 f295:=Tryz.func181.trans (congrArg some (by kernel_rfl))
 f296:=Tryz.func182.trans (congrArg some (by kernel_rfl))
 f297:=Tryz.func183.trans (congrArg some (by kernel_rfl))
 f298:=Tryz.func184.trans (congrArg some (by kernel_rfl))
 f299:=Tryz.func185.trans (congrArg some (by kernel_rfl))
 f300:=Tryz.func187.trans (congrArg some (by kernel_rfl))
 f301:=Tryz.func188.trans (congrArg some (by kernel_rfl))
 f328:=Tryz.func215.trans (congrArg some (by kernel_rfl))
 f329:=Tryz.func216.trans (congrArg some (by kernel_rfl))
 f330:=Tryz.func217.trans (congrArg some (by kernel_rfl))
 f331:=Tryz.func218.trans (congrArg some (by kernel_rfl))
 f332:=Tryz.func219.trans (congrArg some (by kernel_rfl))
 f343:=Tryz.func230.trans (congrArg some (by kernel_rfl))
 t0:=Tryz.underlying0
 a0:=Tryz.isAgg0
 z0:=Tryz.sizeOf0
 v0:=Tryz.zeroValue0
 t3:=Tryz.underlying3
 a3:=Tryz.isAgg3
 z3:=Tryz.sizeOf3
 v3:=Tryz.zeroValue3
 t4:=Tryz.underlying4
 a4:=Tryz.isAgg4
 z4:=Tryz.sizeOf4
 v4:=Tryz.zeroValue4
 t5:=Tryz.underlying5
 a5:=Tryz.isAgg5
 z5:=Tryz.sizeOf5
 v5:=Tryz.zeroValue5
 t9:=Tryz.underlying9
 a9:=Tryz.isAgg9
 z9:=Tryz.sizeOf9
 v9:=Tryz.zeroValue9
 t28:=Tryz.underlying24
 a28:=Tryz.isAgg24
 z28:=Tryz.sizeOf24
 v28:=Tryz.zeroValue24
 t46:=Tryz.underlying196
 a46:=Tryz.isAgg196
 z46:=Tryz.sizeOf196
 v46:=Tryz.zeroValue196
 t51:=Tryz.underlying245
 a51:=Tryz.isAgg245
 z51:=Tryz.sizeOf245
 v51:=Tryz.zeroValue245
 t53:=Tryz.underlying247
 a53:=Tryz.isAgg247
 z53:=Tryz.sizeOf247
 v53:=Tryz.zeroValue247
 t131:=Tryz.underlying182
 a131:=Tryz.isAgg182
 z131:=Tryz.sizeOf182
 v131:=Tryz.zeroValue182
 t182:=Tryz.underlying237
 a182:=Tryz.isAgg237
 z182:=Tryz.sizeOf237
 v182:=Tryz.zeroValue237
 t183:=Tryz.underlying238
 a183:=Tryz.isAgg238
 z183:=Tryz.sizeOf238
 v183:=Tryz.zeroValue238
 t218:=Tryz.underlying271
 a218:=Tryz.isAgg271
 z218:=Tryz.sizeOf271
 v218:=Tryz.zeroValue271
 t222:=Tryz.underlying275
 a222:=Tryz.isAgg275
 z222:=Tryz.sizeOf275
 v222:=Tryz.zeroValue275
 t228:=Tryz.underlying286
 a228:=Tryz.isAgg286
 z228:=Tryz.sizeOf286
 v228:=Tryz.zeroValue286
 t229:=Tryz.underlying192
 a229:=Tryz.isAgg192
 z229:=Tryz.sizeOf192
 v229:=Tryz.zeroValue192 }
open Go.Sort Go.RowKit in
theorem Tryz.slices_Sort_int (blk z C:Nat) (h:List Int) (w:World) (E:Holds (Value.int .i64) w blk z h.toArray) (F:blk<w.heap.size) (G:h.length<4611686018427387904):
  Calls Tryz.prog 88 #[.slice (some ⟨blk,z,none⟩) h.length C] w fun e w'=>
   e=.returned (.tuple #[])∧∃n os,w'=grow (putRow (Value.int .i64) (Sort.ahead w n) blk z (h.mergeSort fun x y=>decide (x≤y)).toArray) os:=Any.slices_Sort_int Tryz.lays189 blk z C h w E F G
def Tryz.laysNm215_ren:Go.Shelf.Ren:=⟨fun | 15=>87 | n=>n,fun | 22=>24 | 3=>3 | 4=>4 | n=>n,fun | n=>n⟩
theorem Tryz.laysNm215:Go.Proofs.Lays2.n15 Tryz.prog Tryz.laysNm215_ren:={
 mixed:=by kernel_rfl
 f15:=Tryz.func87.trans (congrArg some (by kernel_rfl))
 t3:=Tryz.underlying3
 a3:=Tryz.isAgg3
 z3:=Tryz.sizeOf3
 v3:=Tryz.zeroValue3
 t4:=Tryz.underlying4
 a4:=Tryz.isAgg4
 z4:=Tryz.sizeOf4
 v4:=Tryz.zeroValue4
 t22:=Tryz.underlying24
 a22:=Tryz.isAgg24
 z22:=Tryz.sizeOf24
 v22:=Tryz.zeroValue24
 i3:=by kernel_rfl }
open Go.RowKit Go.Lib in
theorem Tryz.slices_Clone_int (b y n c:Nat) (h:List Int) (w:World) (F:n≤h.length) (C:n*8≤140737488355328) (E:∀j,j<h.length→w.cell? ⟨b,y+j,none⟩=some (.int .i64 (h.getD j 0))):
  Calls Tryz.prog 87 #[.slice (some ⟨b,y,none⟩) n c] w fun e w'=>∃z,e=.returned z∧w'.ownsRow w.heap.size 3 1 z n ((h.take n).map (Value.int .i64))∧z≠.slice none 0 0∧Below w.heap.size w w':=Any.slices_Clone_int Tryz.laysNm215 b y n c h w F C E
open Go.RowKit Go.Lib in
theorem Tryz.slices_Clone_int_nil (n c:Nat) (w:World):
  Calls Tryz.prog 87 #[.slice none n c] w fun e w'=>e=.returned (.slice none 0 0)∧w'=w:=Any.slices_Clone_int_nil Tryz.laysNm215 n c w
def Tryz.laysNm220_ren:Go.Shelf.Ren:=⟨fun | 20=>89 | n=>n,fun | 22=>24 | 3=>3 | 4=>4 | 0=>0 | n=>n,fun | n=>n⟩
theorem Tryz.laysNm220:Go.Proofs.Lays2.n20 Tryz.prog Tryz.laysNm220_ren:={
 mixed:=by kernel_rfl
 f20:=Tryz.func89.trans (congrArg some (by kernel_rfl))
 t0:=Tryz.underlying0
 a0:=Tryz.isAgg0
 z0:=Tryz.sizeOf0
 v0:=Tryz.zeroValue0
 t3:=Tryz.underlying3
 a3:=Tryz.isAgg3
 z3:=Tryz.sizeOf3
 v3:=Tryz.zeroValue3
 t4:=Tryz.underlying4
 a4:=Tryz.isAgg4
 z4:=Tryz.sizeOf4
 v4:=Tryz.zeroValue4
 t22:=Tryz.underlying24
 a22:=Tryz.isAgg24
 z22:=Tryz.sizeOf24
 v22:=Tryz.zeroValue24
 i3:=by kernel_rfl }
open Go.RowKit Go.Lib Go.Sort in
theorem Tryz.slices_Compact_int (blk y z:Nat) (h:List Int) (w:World) (C:Holds (Value.int .i64) w blk y h.toArray) (F:h.length≤9223372036854775807) (E:h.length≤z):
  Calls Tryz.prog 89 #[.slice (some ⟨blk,y,none⟩) h.length z] w fun e w'=>e=.returned (.slice (some ⟨blk,y,none⟩) (Lib.compact h).length z)∧∃q,w'=putRow (Value.int .i64) (Sort.ahead w q) blk y (Lib.compact h++List.replicate (h.length - (Lib.compact h).length) 0).toArray:=Any.slices_Compact_int Tryz.laysNm220 blk y z h w C F E
open Go.RowKit Go.Lib Go.Sort in
theorem Tryz.slices_Compact_int_empty (a:Option Addr) (h:Nat) (w:World):
  Calls Tryz.prog 89 #[.slice a 0 h] w fun e w'=>e=.returned (.slice a 0 h)∧w'=w:=Any.slices_Compact_int_empty Tryz.laysNm220 a h w
def Tryz.lays166_ren:Go.Shelf.Ren:=⟨fun | 166=>199 | 240=>222 | 276=>231 | n=>n,fun | 0=>0 | 3=>3 | 4=>4 | 5=>5 | 9=>9 | 20=>20 | 37=>254 | 70=>253 | 72=>256 | 75=>258 | 80=>263 | 164=>288 | n=>n,fun | n=>n⟩
theorem Tryz.lays166:Go.Proofs.Lays.n166 Tryz.prog Tryz.lays166_ren:={
 mixed:=by kernel_rfl
 f166:=Tryz.func199.trans (congrArg some (by kernel_rfl))
 f240:=Tryz.func222.trans (congrArg some (by kernel_rfl))
 f276:=Tryz.func231.trans (congrArg some (by kernel_rfl))
 t0:=Tryz.underlying0
 a0:=Tryz.isAgg0
 z0:=Tryz.sizeOf0
 v0:=Tryz.zeroValue0
 t3:=Tryz.underlying3
 a3:=Tryz.isAgg3
 z3:=Tryz.sizeOf3
 v3:=Tryz.zeroValue3
 t4:=Tryz.underlying4
 a4:=Tryz.isAgg4
 z4:=Tryz.sizeOf4
 v4:=Tryz.zeroValue4
 t9:=Tryz.underlying9
 a9:=Tryz.isAgg9
 z9:=Tryz.sizeOf9
 v9:=Tryz.zeroValue9
 t20:=Tryz.underlying20
 a20:=Tryz.isAgg20
 z20:=Tryz.sizeOf20
 v20:=Tryz.zeroValue20
 t37:=Tryz.underlying254
 a37:=Tryz.isAgg254
 z37:=Tryz.sizeOf254
 v37:=Tryz.zeroValue254
 t70:=Tryz.underlying253
 a70:=Tryz.isAgg253
 z70:=Tryz.sizeOf253
 v70:=Tryz.zeroValue253
 t72:=Tryz.underlying256
 a72:=Tryz.isAgg256
 z72:=Tryz.sizeOf256
 v72:=Tryz.zeroValue256
 t75:=Tryz.underlying258
 a75:=Tryz.isAgg258
 z75:=Tryz.sizeOf258
 v75:=Tryz.zeroValue258
 t164:=Tryz.underlying288
 a164:=Tryz.isAgg288
 z164:=Tryz.sizeOf288
 v164:=Tryz.zeroValue288 }
theorem Tryz.Builder_Extra_166:Builder.Extra Tryz.prog Tryz.lays166_ren:={
 sizeBuilder:=by kernel_rfl
 liesBuilder:=by kernel_rfl
 t5:=Tryz.underlying5
 a5:=Tryz.isAgg5
 z5:=Tryz.sizeOf5
 v5:=Tryz.zeroValue5
 infoByte:=by kernel_rfl
 cellsByte:=by kernel_rfl
 sizeByte:=by kernel_rfl
 neB5:=by decide }
def Tryz.lays167_ren:Go.Shelf.Ren:=⟨fun | 167=>201 | 240=>222 | 276=>231 | n=>n,fun | 0=>0 | 3=>3 | 4=>4 | 5=>5 | 9=>9 | 20=>20 | 37=>254 | 70=>253 | 72=>256 | 75=>258 | 80=>263 | 164=>288 | n=>n,fun | n=>n⟩
theorem Tryz.lays167:Go.Proofs.Lays.n167 Tryz.prog Tryz.lays167_ren:={
 mixed:=by kernel_rfl
 f167:=Tryz.func201.trans (congrArg some (by kernel_rfl))
 f240:=Tryz.func222.trans (congrArg some (by kernel_rfl))
 f276:=Tryz.func231.trans (congrArg some (by kernel_rfl))
 t0:=Tryz.underlying0
 a0:=Tryz.isAgg0
 z0:=Tryz.sizeOf0
 v0:=Tryz.zeroValue0
 t4:=Tryz.underlying4
 a4:=Tryz.isAgg4
 z4:=Tryz.sizeOf4
 v4:=Tryz.zeroValue4
 t5:=Tryz.underlying5
 a5:=Tryz.isAgg5
 z5:=Tryz.sizeOf5
 v5:=Tryz.zeroValue5
 t9:=Tryz.underlying9
 a9:=Tryz.isAgg9
 z9:=Tryz.sizeOf9
 v9:=Tryz.zeroValue9
 t20:=Tryz.underlying20
 a20:=Tryz.isAgg20
 z20:=Tryz.sizeOf20
 v20:=Tryz.zeroValue20
 t37:=Tryz.underlying254
 a37:=Tryz.isAgg254
 z37:=Tryz.sizeOf254
 v37:=Tryz.zeroValue254
 t70:=Tryz.underlying253
 a70:=Tryz.isAgg253
 z70:=Tryz.sizeOf253
 v70:=Tryz.zeroValue253
 t72:=Tryz.underlying256
 a72:=Tryz.isAgg256
 z72:=Tryz.sizeOf256
 v72:=Tryz.zeroValue256
 t75:=Tryz.underlying258
 a75:=Tryz.isAgg258
 z75:=Tryz.sizeOf258
 v75:=Tryz.zeroValue258
 t164:=Tryz.underlying288
 a164:=Tryz.isAgg288
 z164:=Tryz.sizeOf288
 v164:=Tryz.zeroValue288 }
theorem Tryz.Builder_Extra_167:Builder.Extra Tryz.prog Tryz.lays167_ren:={
 sizeBuilder:=by kernel_rfl
 liesBuilder:=by kernel_rfl
 t5:=Tryz.underlying5
 a5:=Tryz.isAgg5
 z5:=Tryz.sizeOf5
 v5:=Tryz.zeroValue5
 infoByte:=by kernel_rfl
 cellsByte:=by kernel_rfl
 sizeByte:=by kernel_rfl
 neB5:=by decide }
open Go.RowKit in
theorem Tryz.Builder_WriteByte (B b:Nat) (y:List Value) (c:Int) (w:World) (h:Lib.IsBuilder 256 5 B b y w) (C:y.length+1≤140737488355328) (z:B≤w.heap.size):
  Calls Tryz.prog 201 #[.pointer (some ⟨b,0,none⟩),.int .u8 c] w fun e w'=>e=.returned .nilIface∧(Lib.BuilderAt 256 5 B b (.pointer (some ⟨b,0,none⟩)) (y++[.int .u8 c]) w'∧Below B w w'):=Any.Builder_WriteByte Tryz.lays167 Tryz.Builder_Extra_167 B b y c w h C z
open Go.RowKit in
theorem Tryz.Builder_WriteString (B b:Nat) (y:List Value) (s:ByteArray) (w:World) (h:Lib.IsBuilder 256 5 B b y w) (C:y.length+s.size≤140737488355328) (z:B≤w.heap.size):
  Calls Tryz.prog 199 #[.pointer (some ⟨b,0,none⟩),.string s] w fun e w'=>e=.returned (.tuple #[.int .i64 s.size,.nilIface])∧(Lib.BuilderAt 256 5 B b (.pointer (some ⟨b,0,none⟩)) (y++Lib.strCells s) w'∧Below B w w'):=Any.Builder_WriteString Tryz.lays166 Tryz.Builder_Extra_166 B b y s w h C z
end Go.Proofs
namespace Go.Proofs.YtfcfpoemojjglaaGreatDoor
open Go.RowKit Go.Sort
set_option maxHeartbeats 16000000
set_option maxRecDepth 100000
def CL (l:List Int):List Int:=Lib.compact (l.mergeSort fun x y=>decide (x≤y))
theorem Jc (d:Array Int) (hd:∀i j,i≤j→j<d.size→d[i]!≤d[j]!):∀m,m≤d.size→Asc (Lib.compactUpTo d m)∧∀x,x∈Lib.compactUpTo d m↔∃j,j<m∧d[j]! =x:=by
 intro m
 induction m with
 | zero=>exact fun _=>⟨List.Pairwise.nil,fun _=>⟨fun h=>by simp [Lib.compactUpTo] at h,fun⟨j,z,_⟩=>by omega⟩⟩
 | succ m ih=>
  intro I
  obtain⟨h1,C⟩:=ih (by omega)
  rw [Lib.compactUpTo_succ]
  cases hk:Lib.keeps d m
  ·simp only [Bool.false_eq_true,if_false,List.append_nil]
   refine⟨h1,fun x=>(C x).trans ⟨fun⟨j,z,e⟩=>⟨j,by omega,e⟩,fun⟨j,z,e⟩=>?_⟩⟩
   rcases Nat.lt_or_ge j m with h | h
   ·exact⟨j,h,e⟩
   ·obtain rfl:j=m:=by omega
    simp [Lib.keeps] at hk
    exact⟨j - 1,by omega,by rw [←hk.2]; exact e⟩
  ·simp only [if_true]
   refine⟨List.pairwise_append.2 ⟨h1,by simp,fun x E y F=>?_⟩,fun x=>?_⟩
   ·rw [List.mem_singleton.1 F]
    obtain⟨j,z,e⟩:=(C x).1 E
    have a1:=hd j (m - 1) (by omega) (by omega)
    have G:=hd (m - 1) m (by omega) (by omega)
    simp [Lib.keeps] at hk
    rcases hk with hk | hk
    ·omega
    ·have:d[m]!≠d[m - 1]!:=hk
     omega
   ·rw [List.mem_append,List.mem_singleton,C x]
    constructor
    ·rintro(⟨j,z,e⟩ | rfl)
     ·exact⟨j,by omega,e⟩
     ·exact⟨m,by omega,rfl⟩
    ·rintro⟨j,z,e⟩
     rcases Nat.lt_or_ge j m with h | h
     ·exact .inl ⟨j,h,e⟩
     ·obtain rfl:j=m:=by omega
      exact .inr e.symm
theorem Tc (l:List Int):(l.mergeSort fun x y=>decide (x≤y)).Pairwise (·≤·):=by
 have:=List.pairwise_mergeSort (le:=fun x y:Int=>decide (x≤y)) (fun a b c h1 z=>by simp at*; omega) (fun a b=>by simp; omega) l
 exact this.imp fun h=>by simpa using h
theorem Lo (l:List Int) (i j:Nat) (C:i≤j) (z:j<((l.mergeSort fun x y=>decide (x≤y)).toArray).size):(l.mergeSort fun x y=>decide (x≤y)).toArray[i]!≤(l.mergeSort fun x y=>decide (x≤y)).toArray[j]!:=by
 have h:=Tc l
 generalize l.mergeSort (fun x y=>decide (x≤y))=s at*
 simp only [List.size_toArray] at z
 rcases Nat.lt_or_ge i j with h1 | h1
 ·have:=List.pairwise_iff_getElem.1 h i j (by omega) z h1
  simpa [z,show i<s.length from by omega] using this
 ·obtain rfl:i=j:=by omega
  exact Int.le_refl _
theorem Mf (l:List Int):Asc (CL l):=(Jc _ (Lo l) _ (by simp)).1
theorem J3 {l:List Int} {x:Int}:x∈CL l↔x∈l:=by
 have h:=(Jc _ (Lo l) ((l.mergeSort fun x y=>decide (x≤y)).length) (by simp)).2 x
 unfold CL Lib.compact
 rw [h]
 have C:x∈(l.mergeSort fun x y=>decide (x≤y))↔x∈l:=(List.mergeSort_perm l _).mem_iff
 rw [←C]
 generalize l.mergeSort (fun x y=>decide (x≤y))=s
 constructor
 ·rintro⟨j,z,rfl⟩
  simp [z]
 ·intro E
  obtain⟨j,z,rfl⟩:=List.getElem_of_mem E
  exact⟨j,z,by simp [z]⟩
theorem Ta (l:List Int):(CL l).length≤l.length:=by
 have:=Go.Lib.compact_length_le (l.mergeSort fun x y=>decide (x≤y))
 rwa [List.length_mergeSort] at this
theorem Ip {l:List Int} {m:List Bool} (h:∀x,x∈l↔∃q:Nat,x=(q:Int)∧m[q]?=some true):CL l=AJ m:=
 IU (Mf l) (Me m) fun x=>(J3.trans (h x)).trans Ee.symm
theorem Tb:CL []=[]:=List.eq_nil_iff_forall_not_mem.2 fun _ h=>absurd (J3.1 h) List.not_mem_nil
theorem Kf {w:World} {base size n m:Nat} {e:TypeId} {g z:Nat} {xs:List Value} (h:w.ownsRow base e size (.slice (some ⟨g,0,none⟩) n z) n xs) (O:m≤n):
  w.ownsRow base e size (.slice (some ⟨g,0,none⟩) m z) m (xs.take (m*size)):=by
 obtain⟨M,C⟩:=h
 have U:m*size≤n*size:=Nat.mul_le_mul_right _ O
 refine⟨by rw [List.length_take,M]; omega,?_⟩
 rcases C with⟨h1,_⟩ | ⟨Z,W,E,y,F,J,hc,C,V,ht⟩
 ·cases h1
 ·injection y with y _ G
  injection y with y
  injection y with I
  subst I G
  refine .inr ⟨g,z,E,rfl,F,J,by omega,C,V,?_⟩
  rw [←ht,List.take_take,Nat.min_eq_left U]
theorem Kb {w:World} {base n g F:Nat} {e:TypeId} {l:List Int} (h:w.ownsRow base e 1 (.slice (some ⟨g,0,none⟩) n F) n (l.map (Value.int .i64))):Holds (Value.int .i64) w g 0 l.toArray:=by
 have V:l.length=n:=by simpa using h.1
 rcases h.2 with⟨h1,_⟩ | ⟨M,J,C,y,O,E,U,Z,W,ht⟩
 ·cases h1
 ·injection y with y _ G
  injection y with y
  injection y with I
  subst I G
  intro j z
  simp only [List.size_toArray] at z
  refine⟨?_,Blk.frozen (t:=e) (cs:=C) E _⟩
  rw [cell_of_row w g _ C e (0,0) E,Nat.zero_add]
  have h1:(l.map (Value.int .i64))[j]?=some (.int .i64 l[j]):=AX (List.getElem?_eq_getElem z)
  rw [←ht,List.getElem?_take] at h1
  split at h1
  ·rw [show l.toArray[j]! =l[j] from by simp [z]]
   simpa using h1
  ·cases h1
theorem HR {w:World} {base n g C k:Nat} {e:TypeId} {xs:List Value} (h:w.ownsRow base e 1 (.slice (some ⟨g,0,none⟩) n C) n xs) (d:List Int) (hd:d.length=n) (os:Array Obj):
  (grow (putRow (Value.int .i64) (Sort.ahead w k) g 0 d.toArray) os).ownsRow base e 1 (.slice (some ⟨g,0,none⟩) n C) n (d.map (Value.int .i64))∧Ac w (grow (putRow (Value.int .i64) (Sort.ahead w k) g 0 d.toArray) os) (fun b=>b=g):=by
 rcases h.2 with⟨h1,_⟩ | ⟨g',a3,E,z,y,G,J,hx,Z,ht⟩
 ·cases h1
 ·injection z with z _ M
  injection z with z
  injection z with O
  subst O M
  have U:=(Array.getElem?_eq_some_iff.1 G).1
  have F:∀b,b<w.heap.size→(grow (putRow (Value.int .i64) (Sort.ahead w k) g 0 d.toArray) os).heap[b]?=if g=b then (w.heap[b]?).map (onCells (putCells (Value.int .i64) 0 d.toArray)) else w.heap[b]?:=fun b y=>by
   unfold grow putRow mapBlock Sort.ahead
   rw [Array.getElem?_append_left (by simpa using y),Array.getElem?_modify]
  refine⟨⟨by simp [hd],.inr ⟨g,C,putCells (Value.int .i64) 0 d.toArray E,rfl,y,?_,J,hx,?_,?_⟩⟩,rfl,rfl,rfl,?_,fun b y W=>?_⟩
  ·rw [F g U,if_pos rfl,G]
   rfl
  ·unfold putCells
   rw [Array.size_mapIdx]
   exact Z
  ·apply List.ext_getElem?
   intro j
   rw [List.getElem?_take]
   by_cases hj:j<n
   ·rw [if_pos (by omega)]
    have V:j<E.size:=by omega
    have I:j<d.length:=by omega
    rw [AX (List.getElem?_eq_getElem I)]
    unfold putCells
    rw [Array.getElem?_toList,Array.getElem?_mapIdx,Array.getElem?_eq_getElem V]
    simp [I]
   ·rw [if_neg (by omega),List.getElem?_eq_none (by simp; omega)]
  ·simp [grow,putRow,mapBlock,Sort.ahead]
  ·rw [F b y,if_neg fun e=>W e.symm]
theorem M2 {w:World} {base n g z k q:Nat} {l:List Int} {os:Array Obj} (h:w.ownsRow base 3 1 (.slice (some ⟨g,0,none⟩) n z) n (l.map (Value.int .i64))) (J:base≤w.heap.size):
  (putRow (Value.int .i64) (Sort.ahead (grow (putRow (Value.int .i64) (Sort.ahead w k) g 0 (l.mergeSort fun x y=>decide (x≤y)).toArray) os) q) g 0 (Lib.compact (l.mergeSort fun x y=>decide (x≤y))++List.replicate ((l.mergeSort fun x y=>decide (x≤y)).length - (Lib.compact (l.mergeSort fun x y=>decide (x≤y))).length) 0).toArray).ownsRow base 3 1 (.slice (some ⟨g,0,none⟩) (CL l).length z) (CL l).length ((CL l).map (Value.int .i64))∧
  Below base w (putRow (Value.int .i64) (Sort.ahead (grow (putRow (Value.int .i64) (Sort.ahead w k) g 0 (l.mergeSort fun x y=>decide (x≤y)).toArray) os) q) g 0 (Lib.compact (l.mergeSort fun x y=>decide (x≤y))++List.replicate ((l.mergeSort fun x y=>decide (x≤y)).length - (Lib.compact (l.mergeSort fun x y=>decide (x≤y))).length) 0).toArray):=by
 have F:l.length=n:=by simpa using h.1
 have I:=Bb h (k:=g) rfl
 have M:(l.mergeSort fun x y=>decide (x≤y)).length=n:=by rw [List.length_mergeSort,F]
 have U:=Go.Lib.compact_length_le (l.mergeSort fun x y=>decide (x≤y))
 obtain⟨h1,O⟩:=HR (k:=k) h _ M os
 obtain⟨C,G⟩:=HR (k:=q) h1 (Lib.compact (l.mergeSort fun x y=>decide (x≤y))++List.replicate ((l.mergeSort fun x y=>decide (x≤y)).length - (Lib.compact (l.mergeSort fun x y=>decide (x≤y))).length) 0) (by rw [List.length_append,List.length_replicate]; omega) #[]
 rw [grow_empty] at C G
 have E:=Kf C (m:=(CL l).length) (by rw [←F]; exact Ta l)
 refine⟨?_,(O.trans G fun _ _ e=>e).below J fun b I e=>by omega⟩
 rw [Nat.mul_one,List.map_append,List.take_append_of_le_length (by simp [CL]),List.take_of_length_le (by simp [CL])] at E
 exact E
theorem Td (A:Option Addr) (c:Nat) (w:World):
  Calls Tryz.prog 42 #[.slice A 0 c] w (Ret fun r w'=>w'.ownsRow w.heap.size 3 1 r 0 []∧Below w.heap.size w w'):=by
 cases A with
 | none=>
  go_enter Tryz.func42,Tryz.ntmps42
  go_wp2_with (first
   | (go_at_call 87; refine(Tryz.slices_Clone_int_nil 0 c w).mono ?_; rintro e w' ⟨rfl,rfl⟩)
   | (go_at_call 88; refine(Any.slices_Sort_int_none Tryz.lays189 none 0 w').mono ?_; rintro e w2 ⟨rfl,rfl⟩)
   | (go_at_call 89; refine(Tryz.slices_Compact_int_empty none 0 _).mono ?_; rintro e E ⟨rfl,rfl⟩))
  go_ret
  exact⟨Cb,Below.refl _ _⟩
 | some a=>
  go_enter Tryz.func42,Tryz.ntmps42
  go_wp2_with (first
   | (go_at_call 87; refine(Any.slices_Clone_int_zero Tryz.laysNm215 a c w).mono ?_; rintro e w1 ⟨F,rfl,z,-,C⟩; obtain⟨h,y,rfl⟩:=AH z)
   | (go_at_call 88; refine(Any.slices_Sort_int_none Tryz.lays189 h y w1).mono ?_; rintro e w2 ⟨rfl,rfl⟩)
   | (go_at_call 89; refine(Tryz.slices_Compact_int_empty h y _).mono ?_; rintro e E ⟨rfl,rfl⟩))
  go_ret
  exact⟨z,C⟩
theorem GY {w:World} {B:Nat} {A:Option Addr} {c:Nat} {l:List Int} (h:Sl w B 1 Ai A l) (hl:l.length≤4000000):
  Calls Tryz.prog 42 #[.slice A l.length c] w (Ret fun r w'=>w'.ownsRow w.heap.size 3 1 r (CL l).length ((CL l).map (Value.int .i64))∧Below w.heap.size w w'):=by
 by_cases O:l=[]
 ·subst O
  rw [Tb]
  exact Td A c w
 ·obtain⟨b,a7,rfl,ae,Z⟩:=h.2 O
  have a2:∀j,j<l.length→w.cell? ⟨b,a7+j,none⟩=some (.int .i64 (l.getD j 0)):=fun j hj=>by
   have:=Z j _ (List.getElem?_eq_getElem hj) 0 (by omega)
   rw [getD_some (List.getElem?_eq_getElem hj)]
   simpa [Ai] using this
  have ah:l.length≠0:=fun e=>O (List.length_eq_zero_iff.1 e)
  obtain⟨n,E⟩:∃n,n=l.length:=⟨_,rfl⟩
  obtain⟨m,a5⟩:∃m,m=(l.mergeSort fun x y=>decide (x≤y)).length:=⟨_,rfl⟩
  have ag:m=n:=by rw [a5,E,List.length_mergeSort]
  have z:=hide E
  rw [←E]
  clear E a5
  go_enter Tryz.func42,Tryz.ntmps42
  go_wp2_with fail
  refine(Tryz.slices_Clone_int b a7 n c l w (Nat.le_of_eq z.out) (by have:=z.out; omega) a2).mono ?_
  rintro e w1 ⟨v',rfl,F,a6,I⟩
  rw [List.take_of_length_le (Nat.le_of_eq z.out.symm)] at F
  obtain⟨g,C,rfl,a3⟩:∃g C,v'=.slice (some ⟨g,0,none⟩) n C∧g<w1.heap.size∧n≤C:=by
   rcases F.2 with⟨rfl,_⟩ | ⟨g,C,ad,rfl,I,hh,a8,_⟩
   ·exact absurd rfl a6
   ·exact⟨g,C,rfl,(Array.getElem?_eq_some_iff.1 hh).1,a8⟩
  have G:=hide F
  have V:=hide I
  have W:=hide a3
  clear F I a6 a3 a2 Z
  go_wp2_with fail
  have U:=Tryz.slices_Sort_int g 0 C l w1 (Kb G.out) W.out.1 (by omega)
  rw [←z.out] at U
  refine U.mono ?_
  rintro e w2 ⟨rfl,k,os,rfl⟩
  clear U
  go_wp2_with fail
  have aa:=(HR (k:=k) G.out (l.mergeSort fun x y=>decide (x≤y)) (by rw [List.length_mergeSort]; exact z.out.symm) os).1
  have J:=Tryz.slices_Compact_int g 0 C (l.mergeSort fun x y=>decide (x≤y)) _ (Kb aa) (by rw [List.length_mergeSort]; omega) (by rw [List.length_mergeSort,←z.out]; exact W.out.2)
  rw [List.length_mergeSort,←z.out] at J
  refine J.mono ?_
  rintro e w3 ⟨rfl,q,rfl⟩
  clear J
  have M:=M2 (k:=k) (q:=q) (os:=os) G.out V.out.size
  rw [List.length_mergeSort,←z.out] at M
  go_wp2_with fail
  go_ret
  exact⟨M.1,V.out.trans M.2⟩
end Go.Proofs.YtfcfpoemojjglaaGreatDoor
namespace Go.Proofs.YtfcfpoemojjglaaGreatDoor
open Go.RowKit
set_option maxHeartbeats 16000000
set_option maxRecDepth 100000
theorem IK {w:World} {g n F:Nat} {z:Option Addr} {acc:List Bool} {v0 v1 v2:Value} {q:Nat} {b:Bool} (G:Blk w g 88 #[v0,v1,v2,.slice z n F]) (h:Sl w w.heap.size 1 DH z acc) (O:n=acc.length) (y:acc[q]?=some b):
  Calls Tryz.prog 90 #[.int .i64 (q:Int),.pointer (some ⟨g,0,none⟩)] w fun e w'=>e=.returned (.bool b)∧w=w':=by
 have W:=G.cell
 have E:=AP y
 have M:=h.1
 obtain⟨U,a3,d,rfl,V,hd,C⟩:=h.at E
 have J:d=b:=Option.some.inj (hd.symm.trans y)
 subst J
 have I:=C 0 (by omega)
 simp only [Nat.mul_one,Nat.add_zero,DH] at I
 have Z:q<n:=by omega
 have a2:n≤9223372036854775807:=by omega
 clear O y hd C h E M
 go_enter Tryz.func90,Tryz.ntmps90
 go_wp2_with fail
 go_ret
 exact⟨rfl,rfl⟩
theorem P6 {w:World} {B g n c3 c:Nat} {A O:Option Addr} {acc:List Bool} {v0 v1 v2:Value} {l:List Int} (Z:Blk w g 88 #[v0,v1,v2,.slice O n c3]) (V:Sl w w.heap.size 1 DH O acc) (hn:n=acc.length) (h:Sl w B 1 Ai A l) (a5:∀x∈l,inN n x=true):
  Calls Tryz.prog 107 #[.slice A l.length c,.func (.func 90) #[] #[.pointer (some ⟨g,0,none⟩)]] w fun e w'=>e=.returned (.int .i64 (if l.any (fun x=>acc.getD x.toNat false) then ((l.findIdx fun x=>acc.getD x.toNat false:Nat):Int) else -1))∧w=w':=by
 have hm:=h.1
 have a2:=hide Z
 have W:=hide V
 have G:=hide hn
 have hI:=hide a5
 have aj:=GT
 obtain⟨p,I⟩:∃p:Int→Bool,p=fun x=>acc.getD x.toNat false:=⟨_,rfl⟩
 rw [←I]
 have ag:=hide I
 obtain⟨R,E⟩:∃R:Int,Hid ((if l.any p then ((l.findIdx p:Nat):Int) else -1)=R):=⟨_,rfl⟩
 rw [E.out]
 clear Z V hn a5 I
 go_enter Tryz.func107,Tryz.ntmps107
 go_wp2_with fail
 go_loop [8] (fun M=>∃(k:Nat),M=.int .i64 (k:Int)∧k≤l.length∧Hid ((l.take k).any p=false)) (fun M=>l.length - (intOf M).toNat)
 case atStart=>exact⟨0,rfl,Nat.zero_le _,rfl⟩
 case round=>
  obtain⟨k,rfl,hk,C⟩:=hrel
  by_cases a6:k<l.length
  ·obtain⟨b,ak,x,rfl,ah,hx,hc⟩:=h.at a6
   have ae:=hc 0 (by omega)
   simp only [Nat.mul_one,Nat.add_zero,Ai] at ae
   have y:=hide hx
   clear hx hc
   obtain⟨q,rfl,hq⟩:=CT (hI.out x (List.mem_of_getElem? y.out))
   simp only [Int.toNat_natCast] at hq
   obtain⟨U,F⟩:=An (l:=acc) (i:=q) (by rw [←G.out]; exact hq)
   have a3:=hide F
   have J:Hid (p (q:Int)=U):=by show _=_; rw [ag.out]; exact getD_some F
   clear F
   cases U
   ·have ab:Hid ((l.take (k+1)).any p=false):=by show _=_; rw [B5 y.out,List.any_append,C.out]; simp [J.out]
    go_wp2_with (go_at_call 90; refine(IK a2.out W.out G.out a3.out).mono ?_; rintro e w' ⟨rfl,rfl⟩)
    exact⟨⟨k+1,by go_num,by omega,ab⟩,by simp [intOf]; omega⟩
   ·have z:Hid (l.any p=true):=List.any_eq_true.2 ⟨_,List.mem_of_getElem? y.out,J.out⟩
    have hF:Hid (l.findIdx p=k):=by
     show _=_
     rw [List.findIdx_eq a6]
     refine⟨?_,fun j hj=>?_⟩
     ·have:=(List.getElem?_eq_some_iff.1 y.out).2
      rw [this]; exact J.out
     ·have:=List.any_eq_false.1 C.out l[j] (List.mem_of_getElem? (i:=j) (by rw [List.getElem?_take,if_pos hj,List.getElem?_eq_getElem]))
      simpa using this
    go_wp2_with (go_at_call 90; refine(IK a2.out W.out G.out a3.out).mono ?_; rintro e w' ⟨rfl,rfl⟩)
    go_ret
    exact⟨by rw [←E.out,z.out,hF.out]; rfl,rfl⟩
  ·have z:Hid (l.any p=false):=by show _=_; rw [←C.out,List.take_of_length_le (by omega)]
   go_wp2_with fail
   go_ret
   exact⟨by rw [←E.out,z.out]; rfl,rfl⟩
theorem M6 {w:World} {B g n J c:Nat} {A z:Option Addr} {acc:List Bool} {v0 v1 v2:Value} {l:List Int} (E:Blk w g 88 #[v0,v1,v2,.slice z n J]) (C:Sl w w.heap.size 1 DH z acc) (G:n=acc.length) (h:Sl w B 1 Ai A l) (F:∀x∈l,inN n x=true):
  Calls Tryz.prog 61 #[.slice A l.length c,.func (.func 90) #[] #[.pointer (some ⟨g,0,none⟩)]] w fun e w'=>e=.returned (.bool (l.any (fun x=>acc.getD x.toNat false)))∧w=w':=by
 have y:=P6 (c:=c) E C G h F
 clear E C F G
 obtain⟨r,I⟩:∃r,(l.any (fun x=>acc.getD x.toNat false))=r:=⟨_,rfl⟩
 rw [I] at y ⊢
 cases r
 all_goals
  simp only [Bool.false_eq_true,if_false,if_true] at y
  clear I
  go_enter Tryz.func61,Tryz.ntmps61
  go_wp2_with (go_at_call 107; refine y.mono ?_; rintro e w' ⟨rfl,rfl⟩)
  go_ret
  exact⟨by simp,rfl⟩
theorem IM {w:World} {v:Value} {a:NF} {B c:Nat} {A:Option Addr} {l:List Int} (h:Cn w w.heap.size v a) (E:a.acc.length=a.n) (hl:Sl w B 1 Ai A l) (hB:B≤w.heap.size) (F:∀x∈l,inN a.n x=true):
  Calls Tryz.prog 44 #[v,.slice A l.length c] w (Ret fun r w'=>r=.bool (l.any (fun x=>a.acc.getD x.toNat false))∧Below w.heap.size w w'):=by
 obtain⟨G,M,I,c2,J,O,rfl,h1,U,z,V⟩:=h
 have a6:=GT
 obtain⟨w1,a8,y,C,a2⟩:=Ae w #[.int .i64 (a.L:Int),.slice G a.nx.length M,.slice I a.start.length c2,.slice J a.acc.length O] 88
 have a4:=y.size
 have Z:=M6 (c:=c) C ((z.below y).mono a4) rfl ((hl.keep (w':=w1) (fun p hp=>y.cell (by omega)) (Nat.le_refl _))) (by rw [E]; exact F)
 have W:=hide y
 clear h1 U z V C a2 y E F
 go_enter Tryz.func44,Tryz.ntmps44
 go_wp2_with (go_at_call 61; refine Z.mono ?_; rintro e w' ⟨rfl,rfl⟩)
 go_ret
 exact⟨rfl,W.out⟩
theorem JD {a:NF} {m:List Bool} (E:m.length=a.n):(AJ m).any (fun x=>a.acc.getD x.toNat false)=a.has m:=by
 rw [Bool.eq_iff_iff,List.any_eq_true,NF.has_iff]
 constructor
 ·rintro⟨x,F,h⟩
  obtain⟨q,rfl,z⟩:=Ee.1 F
  exact⟨q,by rw [←E]; exact AP z,getD_some z,by simpa using h⟩
 ·rintro⟨s,G,h1,C⟩
  obtain⟨b,y⟩:=An (l:=m) (i:=s) (by omega)
  rw [getD_some y] at h1
  subst h1
  exact⟨(s:Int),Ee.2 ⟨s,rfl,y⟩,by simpa using C⟩
theorem Ik {m:List Bool} {n:Nat} (z:m.length=n):∀x∈AJ m,inN n x=true:=fun x y=>by
 obtain⟨q,rfl,h⟩:=Ee.1 y
 have:=AP h
 rw [D3]; omega
theorem Fw (m:List Bool):(AJ m).length≤m.length:=by
 unfold AJ
 rw [List.length_map]
 exact Nat.le_trans (List.length_filter_le _ _) (by simp)
end Go.Proofs.YtfcfpoemojjglaaGreatDoor
namespace Go.Proofs.YtfcfpoemojjglaaGreatDoor
open Go.RowKit
set_option maxHeartbeats 16000000
set_option maxRecDepth 100000
section
variable {P:Program} {w:World}
theorem Ig {t e size:Nat} (R:Dd P t e size) (ty:TypeId) {base:Nat} {v:Value} {n:Nat} {xs:List Value} (E:w.ownsRow base e size v n xs) (A:Option Addr) (c:Nat):
  (Builtin.append_ #[t,t] ty #[v,.slice A 0 c]).run P w=.ok v w:=by
 have ht:=R.ht
 obtain⟨i,z,bytes,y,O,M,J,U,I⟩:=R.info
 have h:∀(a:Addr),Sem.run P (loadCells a 0) w=.ok #[] w:=fun _=>rfl
 rcases E.2 with⟨rfl,rfl⟩ | ⟨g,F,G,rfl,_,_,C,_⟩
 ·cases A <;> simp [Builtin.append_,run_underlying ht,sizeOf,typeInfo,y,Builtin.lenOf,Builtin.firstCells,h]
 ·cases A <;> simp [Builtin.append_,run_underlying ht,sizeOf,typeInfo,y,Builtin.lenOf,Builtin.firstCells,C,storeCells,h]
end
section
variable {P:Program} {ops:Array Oper} {rest:List Oper} {o:Oper} {a:Act} {Q:Exit→Act→World→Prop} {w:World}
theorem Ei {t e:Nat} {B:Nat} {D:Type} {enc:D→Nat→Value} (R:Dd P t e 1) (I:o.guard=none) (s x:Operand)
  (ho:o.op=.call { callee:=.builtin .append,args:=#[s,x],argTypes:=#[t,t] })
  (base:Nat) (v:Value) (n:Nat) (xs:List Value) (J:a.eval s=v) (z:w.ownsRow base e 1 v n xs)
  {A:Option Addr} {l:List D} {c:Nat} (hS:Sl w B 1 enc A l) (C:a.eval x=.slice A l.length c) (h1:∀d,(enc d 0).oneCell'=true)
  (hn:n+l.length≤4000000) (a3:base≤w.heap.size)
  (h:∀G w',w'.ownsRow base e 1 G (n+l.length) (xs++l.map (enc · 0))→Ac w w' (fun k=>v.ownBlock=some k)→BJ w v G→wpList P ops Q rest (a.put o.dst G) w'):
  wpList P ops Q (o::rest) a w:=by
 by_cases h0:l.length=0
 ·have hl:l=[]:=List.length_eq_zero_iff.1 h0
  subst hl
  have hr:=Ig (P:=P) R o.type z A c
  refine wpList_plain I fun K W=>?_
  unfold Oper.wp execOp
  rw [List.length_nil] at C
  simp only [ho,resolve,invoke,builtin,Sem.run_bind,Sem.run_pure,Result.andThen_ok,List.map_toArray,List.map_cons,List.map_nil,J,C,hr]
  exact W _ _ (h v w (by simpa using z) (Ac.refl _ _) (BJ.refl _ _))
 ·obtain⟨b,F,d0,V,hb,ag,hc⟩:=hS.at (k:=0) (by omega)
  obtain⟨b',o',M,ae,a2⟩:=hS.2 (by intro e; rw [e] at h0; exact h0 rfl)
  subst V
  refine G9 R I s x ho base v n xs J z ⟨b,F,none⟩ l.length c (l.map (enc · 0)) C (by simp) ?_ ?_ (by omega) hn a3 ?_
  ·intro j u y
   rw [List.getElem?_map] at y
   cases E:l[j]? with
   | none=>rw [E] at y; cases y
   | some d=>
    rw [E] at y
    have y:=Option.some.inj y
    subst y
    have e:=Option.some.inj M
    injection e with O U _
    subst O U
    have:=a2 j d E 0 (by omega)
    have Z:(⟨b,F,none⟩:Addr).add j=⟨b,F+j*1+0,none⟩:=by unfold Addr.add; split <;> simp_all
    rw [Z]
    exact this
  ·intro u y
   obtain⟨d,_,rfl⟩:=List.mem_map.1 y
   exact h1 d
  ·intro g aa w' a7 hk a5 _
   exact h _ w' a7 hk a5
end
def NF.cat (a:NF) (l:List Int) (x:Nat):List Int:=l.flatMap fun s=>a.to s.toNat x
theorem NF.cat_take {a:NF} {l:List Int} {x k:Nat} {s:Int} (h:l[k]?=some s):a.cat (l.take (k+1)) x=a.cat (l.take k) x++a.to s.toNat x:=by
 unfold NF.cat
 rw [B5 h,List.flatMap_append]
 simp
theorem NF.cat_len {a:NF} {l:List Int} {x k:Nat}:(a.cat (l.take k) x).length≤(a.cat l x).length:=by
 unfold NF.cat
 have:=congrArg (fun l=>(l.flatMap fun s:Int=>a.to s.toNat x).length) (List.take_append_drop k l)
 simp only [List.flatMap_append,List.length_append] at this
 omega
theorem NF.to_at {w:World} {B:Nat} {a:NF} {F:Option Addr} (h:VSl R2 w B F a.nx) (Z:a.OK) {s x:Nat} (hs:s<a.n) (hx:x<a.L):
  ∃b z A c b2 C y c',F=some ⟨b,z,none⟩∧b<B∧w.cell? ⟨b,z+s,none⟩=some (.slice A a.L c)∧A=some ⟨b2,C,none⟩∧b2<B∧w.cell? ⟨b2,C+x,none⟩=some (.slice y (a.to s x).length c')∧Sl w B 1 Ai y (a.to s x):=by
 obtain⟨r,E⟩:=An (l:=a.nx) (i:=s) hs
 obtain⟨b,z,v,h1,U,V,A,c,rfl,W⟩:=h.at E
 have a2:=Z.row r (List.mem_of_getElem? E)
 obtain⟨l,G⟩:=An (l:=r) (i:=x) (by omega)
 obtain⟨b2,C,v2,I,J,M,y,c',rfl,O⟩:=W.at G
 have:a.to s x=l:=by unfold NF.to; rw [getD_some E,getD_some G]
 rw [this]
 exact⟨b,z,A,c,b2,C,y,c',h1,U,by rw [V,a2],I,J,M,O⟩
theorem NF.cat_set {a:NF} (I:a.OK) {m:List Bool} (V:m.length=a.n) {x:Nat} (W:x<a.L):CL (a.cat (AJ m) x)=AJ (a.after m x):=by
 refine Ip fun y=>?_
 unfold NF.cat
 rw [List.mem_flatMap]
 constructor
 ·rintro⟨s,O,F⟩
  obtain⟨q,rfl,J⟩:=Ee.1 O
  have M:q<a.n:=by rw [←V]; exact AP J
  simp only [Int.toNat_natCast] at F
  obtain⟨r,E⟩:=An (l:=a.nx) (i:=q) M
  obtain⟨l,G⟩:=An (l:=r) (i:=x) (by rw [I.row r (List.mem_of_getElem? E)]; exact W)
  have e:a.to q x=l:=by unfold NF.to; rw [getD_some E,getD_some G]
  obtain⟨z,rfl,h⟩:=CT (I.to r (List.mem_of_getElem? E) l (List.mem_of_getElem? G) y (by rw [←e]; exact F))
  simp only [Int.toNat_natCast] at h
  refine⟨z,rfl,?_⟩
  obtain⟨b,C⟩:=An (l:=a.after m x) (i:=z) (by rw [a.after_len]; exact h)
  have:=(NF.after_get (m:=m) (x:=x) h).2 ⟨q,M,getD_some J,F⟩
  rw [getD_some C] at this
  rw [C,this]
 ·rintro⟨z,rfl,h⟩
  have Z:z<a.n:=by have:=AP h; rwa [a.after_len] at this
  obtain⟨s,O,h1,U⟩:=(NF.after_get (m:=m) (x:=x) Z).1 (getD_some h)
  obtain⟨b,C⟩:=An (l:=m) (i:=s) (by omega)
  rw [getD_some C] at h1
  subst h1
  exact⟨(s:Int),Ee.2 ⟨s,rfl,C⟩,by simpa using U⟩
theorem Iq {w:World} {v:Value} {a:NF} {B c x:Nat} {A:Option Addr} {m:List Bool} (h:Cn w w.heap.size v a) (Z:a.OK) (hm:m.length=a.n) (V:Sl w B 1 Ai A (AJ m)) (hB:B≤w.heap.size) (hx:x<a.L) (ab:(a.cat (AJ m) x).length≤4000000):
  Calls Tryz.prog 43 #[v,.slice A (AJ m).length c,.int .i64 (x:Int)] w (Ret fun r w'=>w'.ownsRow w.heap.size 3 1 r (AJ (a.after m x)).length ((AJ (a.after m x)).map (Value.int .i64))∧Below w.heap.size w w'):=by
 obtain⟨A1,c1,A2,c2,A3,c3,rfl,h1,h2,h3,h4⟩:=h
 obtain⟨w1,aP,a9,a6,ba⟩:=Ae w #[.int .i64 (a.L:Int),.slice A1 a.nx.length c1,.slice A2 a.start.length c2,.slice A3 a.acc.length c3] 88
 have aN:=a9.size
 have aC:=hide (Ik hm)
 have aB:=hide (NF.cat_set Z hm hx)
 have a5:=hide h1
 have aK:=hide Z
 have aj:=hide hx
 have aF:=V.1
 obtain⟨l,W⟩:∃l,l=AJ m:=⟨_,rfl⟩
 have ae:=hide W
 rw [←W] at V ab aF ⊢
 clear h2 h3 h4 Z W h1
 have I:=hide a6
 obtain⟨n,F⟩:∃n,n=a.nx.length:=⟨_,rfl⟩
 have aJ:=hide F
 rw [←F] at aP I ⊢
 have bc:n≤9223372036854775807:=by rw [F]; exact a5.out.1
 clear F a6
 go_enter Tryz.func43,Tryz.ntmps43
 go_wp2_with fail
 go_loopw [7,12] (fun vv ii wr=>∃(k z:Nat),ii=.int .i64 (k:Int)∧k≤l.length∧Below w1.heap.size w1 wr∧Hid (z=(a.cat (l.take k) x).length∧wr.ownsRow w1.heap.size 3 1 vv z ((a.cat (l.take k) x).map (Value.int .i64)))) (fun _ ii _=>l.length - (intOf ii).toNat)
 case atStart=>exact⟨0,0,rfl,Nat.zero_le _,Below.refl _ _,rfl,Cb⟩
 case round=>
  obtain⟨k,z,rfl,hk,C,y⟩:=hrel
  have U:=a9.trans (C.mono aN)
  by_cases aG:k<l.length
  ·obtain⟨b,bg,s,rfl,b8,G,hc⟩:=V.at aG
   have az:=(U.cell (by show b<_; omega)).trans (hc 0 (by omega))
   simp only [Nat.mul_one,Nat.add_zero,Ai] at az
   obtain⟨q,rfl,hq⟩:=CT (aC.out s (by rw [←ae.out]; exact List.mem_of_getElem? G))
   simp only [Int.toNat_natCast] at hq
   obtain⟨bA,oA,A',cA,b2,o2,aT,aX,rfl,g1,g2,rfl,g3,g4,g5⟩:=NF.to_at (a5.out.keep (@R2.keep) (fun p hp=>U.cell hp) (Nat.le_refl _)) aK.out hq aj.out
   have b9:=(I.out.at I.out.lt C).cell
   have E:=hide (NF.cat_take (a:=a) (x:=x) G)
   simp only [Int.toNat_natCast] at E
   have aE:=hide (NF.cat_len (a:=a) (l:=l) (x:=x) (k:=k+1))
   have bd:q<n:=by rw [aJ.out]; exact hq
   have hS:=hide g5
   have b6:=hide G
   obtain⟨Av,cv,rfl⟩:=AH y.out.2
   obtain⟨tl,a3⟩:∃tl,tl=(a.to q x).length:=⟨_,rfl⟩
   have aO:=hide a3
   rw [←a3] at g4
   have aQ:=aj.out
   obtain⟨L,M⟩:∃L,L=a.L:=⟨_,rfl⟩
   rw [←M] at g2 aQ
   have b5:=hide M
   clear G hc g5 a3 M
   have ay:=hide (show z+(a.to q x).length≤4000000 from by have e1:=y.out.1; have e2:=aE.out; rw [E.out,List.length_append] at e2; omega)
   have O:=y
   clear y
   go_wp2_with (at_builtin; refine Ei C9 rfl _ _ rfl w1.heap.size _ z _ rfl O.out.2 hS.out (by rw [←aO.out]; rfl) (fun d=>rfl) ay.out C.size ?_; intro v2 w2 aL aD bb)
   refine⟨⟨k+1,z+(a.to q x).length,by go_num,by omega,C.trans (aD.below C.size fun b hb e=>by have:=Bb O.out.2 e; omega),?_,?_⟩,by simp [intOf]; omega⟩
   ·rw [E.out,List.length_append,←O.out.1]
   ·rw [E.out,List.map_append]; exact aL
  ·have a7:=y.out
   rw [List.take_of_length_le (by omega)] at a7
   obtain⟨aH,ah⟩:=a7
   have J:=hide U
   obtain⟨A7,c7,e7,a8⟩:=B8 ah aH.symm (Nat.le_refl _) (by omega)
   subst e7
   have aw:=hide a8
   have aA:=hide ab
   clear ah y a8
   go_wp2_with (go_at_call 42; refine Calls.ret (GY aw.out aA.out) ?_; rintro v w9 ⟨ag,ax⟩)
   have ad:=aB.out
   rw [←ae.out] at ad
   go_ret
   rw [ad] at ag
   exact⟨DC ag J.out.size,J.out.trans (ax.mono J.out.size)⟩
end Go.Proofs.YtfcfpoemojjglaaGreatDoor
namespace Go.Proofs.YtfcfpoemojjglaaGreatDoor
open Go.RowKit
set_option maxHeartbeats 16000000
set_option maxRecDepth 100000
def Ff (l:List UInt8):Nat:=l.foldl (fun v b=>10*v+(b.toNat - 48)) 0
theorem Ji (l:List UInt8) (b:UInt8):Ff (l++[b])=10*Ff l+(b.toNat - 48):=by simp [Ff]
theorem Hm {d:Nat} (h:d<10):(UInt8.ofNat (48+d)).toNat=48+d:=by
 rw [UInt8.toNat_ofNat']
 omega
theorem Jh (u:Nat):Ff (Lib.decDigits u)=u:=by
 induction u using Nat.strongRecOn with
 | _ u ih=>
  rw [Lib.decDigits]
  split
  ·next h=>
   have:=Ji [] (UInt8.ofNat (48+u))
   rw [List.nil_append] at this
   rw [this,Hm h]
   simp [Ff]
  ·next h=>
   rw [Ji,ih (u / 10) (by omega),Hm (by omega)]
   omega
theorem Jk (u:Nat):(32:UInt8)∉Lib.decDigits u:=by
 induction u using Nat.strongRecOn with
 | _ u ih=>
  rw [Lib.decDigits]
  have key:∀d,d<10→(32:UInt8)≠UInt8.ofNat (48+d):=fun d hd e=>by
   have:=congrArg UInt8.toNat e
   rw [Hm hd] at this
   have y:(32:UInt8).toNat=32:=rfl
   omega
  split
  ·next h=>simpa using key u h
  ·next h=>
   rw [List.mem_append,List.mem_singleton]
   rintro(h1 | h1)
   ·exact ih (u / 10) (by omega) h1
   ·exact key (u % 10) (by omega) h1
theorem Tg {a b r s:List UInt8} (C:(32:UInt8)∉a) (E:(32:UInt8)∉b) (h:a++32::r=b++32::s):a=b∧r=s:=by
 induction a generalizing b with
 | nil=>
  cases b with
  | nil=>simpa using h
  | cons y b=>
   simp at h
   exact absurd (List.mem_cons.2 (.inl h.1)) E
 | cons x a ih=>
  cases b with
  | nil=>
   simp at h
   exact absurd (List.mem_cons.2 (.inl h.1.symm)) C
  | cons y b=>
   simp only [List.cons_append,List.cons.injEq] at h
   obtain⟨h1,F⟩:=ih (fun z=>C (List.mem_cons_of_mem _ z)) (fun z=>E (List.mem_cons_of_mem _ z)) h.2
   exact⟨by rw [h.1,h1],F⟩
def Cw (l:List Nat):List UInt8:=l.flatMap fun x=>Lib.decDigits x++[32]
theorem FU (x:Nat) (l:List Nat):Cw (x::l)=Lib.decDigits x++32::Cw l:=by simp [Cw]
theorem JM:∀{l k:List Nat},Cw l=Cw k→l=k
 | [],[],_=>rfl
 | [],y::k,h=>by rw [FU] at h; simp [Cw] at h
 | x::l,[],h=>by rw [FU] at h; simp [Cw] at h
 | x::l,y::k,h=>by
  rw [FU,FU] at h
  obtain⟨h1,z⟩:=Tg (Jk x) (Jk y) h
  have:=congrArg Ff h1
  rw [Jh,Jh] at this
  rw [this,JM z]
theorem QJ {l:List Nat} {k x:Nat} (h:l[k]?=some x):Cw (l.take (k+1))=Cw (l.take k)++(Lib.decDigits x++[32]):=by
 unfold Cw
 rw [B5 h,List.flatMap_append]
 simp
theorem Jj:∀(k u:Nat),u<10 ^ (k+1)→(Lib.decDigits u).length≤k+1
 | 0,u,h=>by rw [Lib.decDigits,dif_pos (by simpa using h)]; simp
 | k+1,u,h=>by
  rw [Lib.decDigits]
  split
  ·simp
  ·rw [List.length_append]
   have:=Jj k (u / 10) (by rw [Nat.pow_succ] at h; omega)
   simp
   omega
theorem QI {l:List Nat} (h:∀x∈l,x<1000000000):(Cw l).length≤l.length*10:=by
 induction l with
 | nil=>simp [Cw]
 | cons x l ih=>
  rw [FU]
  have h1:=Jj 8 x (h x List.mem_cons_self)
  have C:=ih fun y z=>h y (List.mem_cons_of_mem _ z)
  simp
  omega
def BV (w:World):Prop:=Lib.TabIs Tryz.prog w "internal/strconv.uint64pow10" .u64 Lib.pow10Tab
theorem BV.below {w w':World} (h:BV w) (y:Below w.heap.size w w'):BV w':=(Lib.tabBelow_of_tabIs h) w' y
theorem Qw {T e:TypeId} {B b:Nat} {y:List Value} {w w':World} (h:Lib.IsBuilder T e B b y w) (C:Below w.heap.size w w'):Lib.IsBuilder T e B b y w':=by
 have key:∀p,Lib.BuilderAt T e B b p y w→Lib.BuilderAt T e B b p y w':=by
  rintro p ⟨h1,v,z,E,F⟩
  exact⟨h1,v,by rw [C.block b (Array.getElem?_eq_some_iff.1 z).1]; exact z,Bt E C,F⟩
 exact h.elim (fun x=>.inl (key _ x)) (fun x=>.inr (key _ x))
theorem JN {w:World} {B c:Nat} {A:Option Addr} {l:List Nat} (h:Sl w B 1 Ai A (Ak l)) (hB:B≤w.heap.size) (hs:∀x∈l,x<1000000000) (hl:l.length≤4000000) (hT:BV w):
  Calls Tryz.prog 164 #[.slice A (Ak l).length c] w (Ret fun r w'=>r=.string ⟨(Cw l).toArray⟩∧Below w.heap.size w w'):=by
 obtain⟨w1,aC,a4,V,ao⟩:=Ae w #[.pointer none,.slice none 0 0] 256
 have ay:=a4.size
 have a6:Lib.IsBuilder 256 5 w.heap.size w.heap.size (Lib.byteCells (Cw (l.take 0))) w1:=.inl ⟨Nat.le_refl _,.slice none 0 0,V,Cb,by simp [Value.ownBlock]⟩
 have al:=hide a6
 have ag:=hide hT
 have ad:=hide hs
 have a8:(Ak l).length=l.length:=by simp [Ak]
 obtain⟨n,M⟩:∃n,n=l.length:=⟨_,rfl⟩
 rw [a8,←M]
 have O:=hide M
 have ax:n≤4000000:=by omega
 clear a6 hT hs V ao M hl a8
 go_enter Tryz.func164,Tryz.ntmps164
 go_wp2_with fail
 go_loopw [8] (fun U wr=>∃(k:Nat),U=.int .i64 (k:Int)∧k≤n∧Hid (Lib.IsBuilder 256 5 w.heap.size w.heap.size (Lib.byteCells (Cw (l.take k))) wr)∧Below w.heap.size w wr) (fun U _=>n - (intOf U).toNat)
 case atStart=>exact⟨0,rfl,Nat.zero_le _,al,a4⟩
 case round=>
  obtain⟨k,rfl,hk,hI,z⟩:=hrel
  by_cases aa:k<n
  ·obtain⟨x,E⟩:=An (l:=l) (i:=k) (by rw [←O.out]; exact aa)
   obtain⟨b,aF,d,rfl,aw,hd,hc⟩:=h.at (k:=k) (by simp [Ak]; rw [←O.out]; exact aa)
   have an:d=(x:Int):=by
    unfold Ak at hd
    rw [AX E] at hd
    exact(Option.some.inj hd).symm
   subst an
   have am:=(z.cell (by show b<_; omega)).trans (hc 0 (by omega))
   simp only [Nat.mul_one,Nat.add_zero,Ai] at am
   have hX:=hide E
   have aD:=ad.out x (List.mem_of_getElem? E)
   have J:=hide (QJ E)
   have a9:=hide (Nat.le_trans (QI (l:=l.take (k+1)) fun y hy=>ad.out y (List.mem_of_mem_take hy)) (Nat.mul_le_mul_right 10 (List.length_take_le _ _)))
   have ah:=hide (ag.out.below z)
   have W:=hide z
   have aB:=z.size
   clear E hc hd z
   go_wp2_with fail
   refine(Tryz.strconv_Itoa (x:Int) (by omega) (by omega) wr ah.out).mono ?_
   rintro e w2 ⟨rfl,kk,os,ae⟩
   have I:Below wr.heap.size wr w2:=by
    subst ae
    refine⟨rfl,rfl,rfl,by simp [Go.Sort.grow],fun b hb=>?_⟩
    unfold Go.Sort.grow
    rw [Array.getElem?_append_left (by simpa using hb)]
    rfl
   rw [Lib.itoa_nonneg]
   have C:=Qw hI.out I
   have az:=I.size
   clear ae
   go_wp2_with fail
   refine(Tryz.Builder_WriteString w.heap.size w.heap.size _ ⟨(Lib.decDigits x).toArray⟩ w2 C ?_ (by omega)).mono ?_
   ·have F:=a9.out
    rw [J.out,List.length_append,List.length_append] at F
    rw [Lib.byteCells_length]
    show _+(Lib.decDigits x).toArray.size≤_
    simp only [List.size_toArray]
    omega
   rintro e w3 ⟨rfl,G,a5⟩
   rw [Lib.strCells_toArray,←Lib.byteCells_append] at G
   have aA:=a5.size
   go_wp2_with fail
   refine(Tryz.Builder_WriteByte w.heap.size w.heap.size _ 32 w3 (.inr G) ?_ (by omega)).mono ?_
   ·have F:=a9.out
    rw [J.out,List.length_append,List.length_append] at F
    rw [Lib.byteCells_length,List.length_append]
    simp at F
    omega
   rintro e w4 ⟨rfl,a2,aj⟩
   go_wp2_with fail
   refine⟨⟨k+1,by go_num,by omega,?_,((W.out.trans (I.mono W.out.size)).trans a5).trans aj⟩,by simp [intOf]; omega⟩
   show Lib.IsBuilder _ _ _ _ _ _
   rw [J.out]
   refine .inr ?_
   have af:Lib.byteCells (Cw (l.take k)++Lib.decDigits x)++[Value.int .u8 32]=Lib.byteCells (Cw (l.take k)++(Lib.decDigits x++[32])):=by
    rw [←List.append_assoc,Lib.byteCells_append _ [32]]
    rfl
   rw [af] at a2
   exact a2
  ·have C:=hI.out
   rw [List.take_of_length_le (by rw [←O.out]; omega)] at C
   have G:=hide C
   have Z:=hide z
   clear C hI z
   go_wp2_with (go_at_call 202; refine(Tryz.Builder_String_any w.heap.size w.heap.size (Cw l) wr G.out Z.out.size).mono ?_; rintro e w5 ⟨rfl,ak⟩)
   go_ret
   exact⟨rfl,Z.out.trans ak⟩
end Go.Proofs.YtfcfpoemojjglaaGreatDoor
