/-
  Part PS of a proof.
-/
import Derived.Shelf.LaysM
import Derived.Shelf.Strings.Builder1
import Derived.Shelf.Strconv.Itoa3
import Derived.Shelf.Sort.Plain
import Derived.Ground.NamesProg
import Derived.Ground.Names2Prog
import Derived.Shelf.Slices.Clone
import Derived.Shelf.Slices.CompactI
import Derived.Test.YtlakpndhhelliaaGreatDoorProg
import Derived.Shelf.Slices.In.SortNone
import Derived.Lib.RowBridge
import Derived.Lib.AppendIntMem
import Derived.Test.YtlakpndhhelliaaGreatDoorPA
import Derived.Test.YtlakpndhhelliaaGreatDoorPD
set_option maxHeartbeats 16000000
set_option maxRecDepth 100000
set_option linter.unusedVariables false
set_option linter.unusedSimpArgs false
namespace Go.Proofs
open Go.Shelf
def Tryz.lays169_ren:Go.Shelf.Ren:=⟨fun | 169=>86 | n=>n,fun | 70=>133 | 9=>9 | 0=>0 | 72=>136 | 37=>134 | 127=>158 | 3=>3 | 5=>5 | n=>n,fun | n=>n⟩
theorem Tryz.lays169:Go.Proofs.Lays.n169 Tryz.prog Tryz.lays169_ren:={
 mixed:=by kernel_rfl
 f169:=Tryz.func86.trans (congrArg some (by kernel_rfl))
 t0:=Tryz.underlying0
 a0:=Tryz.isAgg0
 z0:=Tryz.sizeOf0
 v0:=Tryz.zeroValue0
 t3:=Tryz.underlying3
 a3:=Tryz.isAgg3
 z3:=Tryz.sizeOf3
 v3:=Tryz.zeroValue3
 t9:=Tryz.underlying9
 a9:=Tryz.isAgg9
 z9:=Tryz.sizeOf9
 v9:=Tryz.zeroValue9
 t37:=Tryz.underlying134
 a37:=Tryz.isAgg134
 z37:=Tryz.sizeOf134
 v37:=Tryz.zeroValue134
 t70:=Tryz.underlying133
 a70:=Tryz.isAgg133
 z70:=Tryz.sizeOf133
 v70:=Tryz.zeroValue133
 t72:=Tryz.underlying136
 a72:=Tryz.isAgg136
 z72:=Tryz.sizeOf136
 v72:=Tryz.zeroValue136
 t127:=Tryz.underlying158
 a127:=Tryz.isAgg158
 z127:=Tryz.sizeOf158
 v127:=Tryz.zeroValue158 }
theorem Tryz.Builder_Extra_169:Builder.Extra Tryz.prog Tryz.lays169_ren:={
 sizeBuilder:=by kernel_rfl
 liesBuilder:=by kernel_rfl
 t5:=Tryz.underlying5
 a5:=Tryz.isAgg5
 z5:=Tryz.sizeOf5
 v5:=Tryz.zeroValue5
 infoByte:=by kernel_rfl
 cellsByte:=by kernel_rfl
 sizeByte:=by kernel_rfl
 neB5:=by decide }
open Go.RowKit in
theorem Tryz.Builder_String_any (B b:Nat) (l:List UInt8) (w:World) (h:Lib.IsBuilder 136 5 B b (Lib.byteCells l) w) (f:B≤w.heap.size):
  Calls Tryz.prog 86 #[.pointer (some ⟨b,0,none⟩)] w fun e w'=>e=.returned (.string ⟨l.toArray⟩)∧Below B w w':=Any.Builder_String_any Tryz.lays169 Tryz.Builder_Extra_169 B b l w h f
def Tryz.laysM171_ren:Go.Shelf.Ren:=⟨fun | 171=>84 | 243=>99 | 246=>113 | 283=>122 | 284=>123 | 285=>124 | 286=>125 | 129=>110 | 317=>127 | 318=>128 | 319=>129 | 320=>130 | 337=>131 | 338=>132 | n=>n,fun | 3=>3 | 9=>9 | 2=>2 | 4=>4 | 171=>195 | 0=>0 | 53=>169 | 37=>134 | 5=>5 | 173=>197 | 212=>205 | 51=>167 | 20=>20 | 213=>206 | 46=>149 | 232=>207 | 233=>208 | n=>n,fun | 17=>2 | 18=>3 | 19=>4 | n=>n⟩
theorem Tryz.laysM171:Go.Proofs.LaysM.n171 Tryz.prog Tryz.laysM171_ren:={
 mixed:=by kernel_rfl
 f129:=Tryz.func110.trans (congrArg some (by kernel_rfl))
 f171:=Tryz.func84.trans (congrArg some (by kernel_rfl))
 f243:=Tryz.func99.trans (congrArg some (by kernel_rfl))
 f246:=Tryz.func113.trans (congrArg some (by kernel_rfl))
 f283:=Tryz.func122.trans (congrArg some (by kernel_rfl))
 f284:=Tryz.func123.trans (congrArg some (by kernel_rfl))
 f285:=Tryz.func124.trans (congrArg some (by kernel_rfl))
 f286:=Tryz.func125.trans (congrArg some (by kernel_rfl))
 f317:=Tryz.func127.trans (congrArg some (by kernel_rfl))
 f318:=Tryz.func128.trans (congrArg some (by kernel_rfl))
 f319:=Tryz.func129.trans (congrArg some (by kernel_rfl))
 f320:=Tryz.func130.trans (congrArg some (by kernel_rfl))
 f337:=Tryz.func131.trans (congrArg some (by kernel_rfl))
 f338:=Tryz.func132.trans (congrArg some (by kernel_rfl))
 t0:=Tryz.underlying0
 a0:=Tryz.isAgg0
 z0:=Tryz.sizeOf0
 v0:=Tryz.zeroValue0
 t2:=Tryz.underlying2
 a2:=Tryz.isAgg2
 z2:=Tryz.sizeOf2
 v2:=Tryz.zeroValue2
 t3:=Tryz.underlying3
 a3:=Tryz.isAgg3
 z3:=Tryz.sizeOf3
 v3:=Tryz.zeroValue3
 t4:=Tryz.underlying4
 a4:=Tryz.isAgg4
 z4:=Tryz.sizeOf4
 v4:=Tryz.zeroValue4
 t5:=Tryz.underlying5
 a5:=Tryz.isAgg5
 z5:=Tryz.sizeOf5
 v5:=Tryz.zeroValue5
 t9:=Tryz.underlying9
 a9:=Tryz.isAgg9
 z9:=Tryz.sizeOf9
 v9:=Tryz.zeroValue9
 t20:=Tryz.underlying20
 a20:=Tryz.isAgg20
 z20:=Tryz.sizeOf20
 v20:=Tryz.zeroValue20
 t37:=Tryz.underlying134
 a37:=Tryz.isAgg134
 z37:=Tryz.sizeOf134
 v37:=Tryz.zeroValue134
 t46:=Tryz.underlying149
 a46:=Tryz.isAgg149
 z46:=Tryz.sizeOf149
 v46:=Tryz.zeroValue149
 t51:=Tryz.underlying167
 a51:=Tryz.isAgg167
 z51:=Tryz.sizeOf167
 v51:=Tryz.zeroValue167
 t53:=Tryz.underlying169
 a53:=Tryz.isAgg169
 z53:=Tryz.sizeOf169
 v53:=Tryz.zeroValue169
 t171:=Tryz.underlying195
 a171:=Tryz.isAgg195
 z171:=Tryz.sizeOf195
 v171:=Tryz.zeroValue195
 t173:=Tryz.underlying197
 a173:=Tryz.isAgg197
 z173:=Tryz.sizeOf197
 v173:=Tryz.zeroValue197
 t212:=Tryz.underlying205
 a212:=Tryz.isAgg205
 z212:=Tryz.sizeOf205
 v212:=Tryz.zeroValue205
 t213:=Tryz.underlying206
 a213:=Tryz.isAgg206
 z213:=Tryz.sizeOf206
 t232:=Tryz.underlying207
 a232:=Tryz.isAgg207
 z232:=Tryz.sizeOf207
 v232:=Tryz.zeroValue207
 t233:=Tryz.underlying208
 a233:=Tryz.isAgg208
 z233:=Tryz.sizeOf208
 v233:=Tryz.zeroValue208
 g17:=by kernel_rfl
 g18:=by kernel_rfl
 g19:=by kernel_rfl
 i0:=by kernel_rfl
 i2:=by kernel_rfl
 i3:=by kernel_rfl
 i4:=by kernel_rfl
 i5:=by kernel_rfl
 i9:=by kernel_rfl
 i20:=by kernel_rfl
 i37:=by kernel_rfl
 i46:=by kernel_rfl
 i51:=by kernel_rfl
 i53:=by kernel_rfl
 i171:=by kernel_rfl
 i173:=by kernel_rfl
 i212:=by kernel_rfl
 i232:=by kernel_rfl
 i233:=by kernel_rfl
 m17:=by kernel_rfl
 m18:=by kernel_rfl
 m19:=by kernel_rfl }
open Go.RowKit Go.Sort Go.Lib in
theorem Tryz.strconv_Itoa (n:Int) (f:-9223372036854775808≤n) (h:n≤9223372036854775807) (w:World) (y:Lib.TabIs Tryz.prog w "internal/strconv.uint64pow10" .u64 Lib.pow10Tab):
  Calls Tryz.prog 84 #[.int .i64 n] w fun e w'=>e=.returned (.string ⟨(Lib.itoa n).toArray⟩)∧∃k os,w'=grow (w.drewN k) os:=Any.strconv_Itoa Tryz.laysM171 n f h w y
def Tryz.lays189_ren:Go.Shelf.Ren:=⟨fun | 189=>66 | 125=>90 | 257=>89 | 128=>109 | 129=>110 | 294=>100 | 295=>101 | 296=>102 | 297=>103 | 298=>104 | 299=>105 | 216=>106 | 300=>107 | 301=>108 | 328=>114 | 329=>115 | 330=>116 | 331=>117 | 332=>118 | 215=>119 | 343=>126 | n=>n,fun | 28=>24 | 3=>3 | 46=>149 | 0=>0 | 51=>167 | 53=>169 | 4=>4 | 183=>161 | 182=>160 | 131=>113 | 5=>5 | 9=>9 | 218=>178 | 222=>182 | 228=>199 | 229=>103 | n=>n,fun | n=>n⟩
theorem Tryz.lays189:Go.Proofs.Lays.n189 Tryz.prog Tryz.lays189_ren:={
 mixed:=by kernel_rfl
 f125:=Tryz.func90.trans (congrArg some (by kernel_rfl))
 f128:=Tryz.func109.trans (congrArg some (by kernel_rfl))
 f129:=Tryz.func110.trans (congrArg some (by kernel_rfl))
 f189:=Tryz.func66.trans (congrArg some (by kernel_rfl))
 f215:=Tryz.func119.trans (congrArg some (by kernel_rfl))
 f216:=Tryz.func106.trans (congrArg some (by kernel_rfl))
 f257:=Tryz.func89.trans (congrArg some (by kernel_rfl))
 f294:=Tryz.func100.trans (congrArg some (by kernel_rfl))
 f295:=Tryz.func101.trans (congrArg some (by kernel_rfl))
 f296:=Tryz.func102.trans (congrArg some (by kernel_rfl))
 f297:=Tryz.func103.trans (congrArg some (by kernel_rfl))
 f298:=Tryz.func104.trans (congrArg some (by kernel_rfl))
 f299:=Tryz.func105.trans (congrArg some (by kernel_rfl))
 f300:=Tryz.func107.trans (congrArg some (by kernel_rfl))
 f301:=Tryz.func108.trans (congrArg some (by kernel_rfl))
 f328:=Tryz.func114.trans (congrArg some (by kernel_rfl))
 f329:=Tryz.func115.trans (congrArg some (by kernel_rfl))
 f330:=Tryz.func116.trans (congrArg some (by kernel_rfl))
 f331:=Tryz.func117.trans (congrArg some (by kernel_rfl))
 f332:=Tryz.func118.trans (congrArg some (by kernel_rfl))
 f343:=Tryz.func126.trans (congrArg some (by kernel_rfl))
 t0:=Tryz.underlying0
 a0:=Tryz.isAgg0
 z0:=Tryz.sizeOf0
 v0:=Tryz.zeroValue0
 t3:=Tryz.underlying3
 a3:=Tryz.isAgg3
 z3:=Tryz.sizeOf3
 v3:=Tryz.zeroValue3
 t4:=Tryz.underlying4
 a4:=Tryz.isAgg4
 z4:=Tryz.sizeOf4
 v4:=Tryz.zeroValue4
 t5:=Tryz.underlying5
 a5:=Tryz.isAgg5
 z5:=Tryz.sizeOf5
 v5:=Tryz.zeroValue5
 t9:=Tryz.underlying9
 a9:=Tryz.isAgg9
 z9:=Tryz.sizeOf9
 v9:=Tryz.zeroValue9
 t28:=Tryz.underlying24
 a28:=Tryz.isAgg24
 z28:=Tryz.sizeOf24
 v28:=Tryz.zeroValue24
 t46:=Tryz.underlying149
 a46:=Tryz.isAgg149
 z46:=Tryz.sizeOf149
 v46:=Tryz.zeroValue149
 t51:=Tryz.underlying167
 a51:=Tryz.isAgg167
 z51:=Tryz.sizeOf167
 v51:=Tryz.zeroValue167
 t53:=Tryz.underlying169
 a53:=Tryz.isAgg169
 z53:=Tryz.sizeOf169
 v53:=Tryz.zeroValue169
 t131:=Tryz.underlying113
 a131:=Tryz.isAgg113
 z131:=Tryz.sizeOf113
 v131:=Tryz.zeroValue113
 t182:=Tryz.underlying160
 a182:=Tryz.isAgg160
 z182:=Tryz.sizeOf160
 v182:=Tryz.zeroValue160
 t183:=Tryz.underlying161
 a183:=Tryz.isAgg161
 z183:=Tryz.sizeOf161
 v183:=Tryz.zeroValue161
 t218:=Tryz.underlying178
 a218:=Tryz.isAgg178
 z218:=Tryz.sizeOf178
 v218:=Tryz.zeroValue178
 t222:=Tryz.underlying182
 a222:=Tryz.isAgg182
 z222:=Tryz.sizeOf182
 v222:=Tryz.zeroValue182
 t228:=Tryz.underlying199
 a228:=Tryz.isAgg199
 z228:=Tryz.sizeOf199
 v228:=Tryz.zeroValue199
 t229:=Tryz.underlying103
 a229:=Tryz.isAgg103
 z229:=Tryz.sizeOf103
 v229:=Tryz.zeroValue103 }
open Go.Sort Go.RowKit in
theorem Tryz.slices_Sort_int (blk h z:Nat) (f:List Int) (w:World) (C:Holds (Value.int .i64) w blk h f.toArray) (E:blk<w.heap.size) (F:f.length<4611686018427387904):
  Calls Tryz.prog 66 #[.slice (some ⟨blk,h,none⟩) f.length z] w fun e w'=>
   e=.returned (.tuple #[])∧∃n os,w'=grow (putRow (Value.int .i64) (Sort.ahead w n) blk h (f.mergeSort fun x y=>decide (x≤y)).toArray) os:=Any.slices_Sort_int Tryz.lays189 blk h z f w C E F
def Tryz.laysNm215_ren:Go.Shelf.Ren:=⟨fun | 15=>65 | n=>n,fun | 22=>24 | 3=>3 | 4=>4 | n=>n,fun | n=>n⟩
theorem Tryz.laysNm215:Go.Proofs.Lays2.n15 Tryz.prog Tryz.laysNm215_ren:={
 mixed:=by kernel_rfl
 f15:=Tryz.func65.trans (congrArg some (by kernel_rfl))
 t3:=Tryz.underlying3
 a3:=Tryz.isAgg3
 z3:=Tryz.sizeOf3
 v3:=Tryz.zeroValue3
 t4:=Tryz.underlying4
 a4:=Tryz.isAgg4
 z4:=Tryz.sizeOf4
 v4:=Tryz.zeroValue4
 t22:=Tryz.underlying24
 a22:=Tryz.isAgg24
 z22:=Tryz.sizeOf24
 v22:=Tryz.zeroValue24
 i3:=by kernel_rfl }
open Go.RowKit Go.Lib in
theorem Tryz.slices_Clone_int (b h n c:Nat) (f:List Int) (w:World) (z:n≤f.length) (C:n*8≤140737488355328) (E:∀j,j<f.length→w.cell? ⟨b,h+j,none⟩=some (.int .i64 (f.getD j 0))):
  Calls Tryz.prog 65 #[.slice (some ⟨b,h,none⟩) n c] w fun e w'=>∃y,e=.returned y∧w'.ownsRow w.heap.size 3 1 y n ((f.take n).map (Value.int .i64))∧y≠.slice none 0 0∧Below w.heap.size w w':=Any.slices_Clone_int Tryz.laysNm215 b h n c f w z C E
open Go.RowKit Go.Lib in
theorem Tryz.slices_Clone_int_nil (n c:Nat) (w:World):
  Calls Tryz.prog 65 #[.slice none n c] w fun e w'=>e=.returned (.slice none 0 0)∧w'=w:=Any.slices_Clone_int_nil Tryz.laysNm215 n c w
def Tryz.laysNm220_ren:Go.Shelf.Ren:=⟨fun | 20=>67 | n=>n,fun | 22=>24 | 3=>3 | 4=>4 | 0=>0 | n=>n,fun | n=>n⟩
theorem Tryz.laysNm220:Go.Proofs.Lays2.n20 Tryz.prog Tryz.laysNm220_ren:={
 mixed:=by kernel_rfl
 f20:=Tryz.func67.trans (congrArg some (by kernel_rfl))
 t0:=Tryz.underlying0
 a0:=Tryz.isAgg0
 z0:=Tryz.sizeOf0
 v0:=Tryz.zeroValue0
 t3:=Tryz.underlying3
 a3:=Tryz.isAgg3
 z3:=Tryz.sizeOf3
 v3:=Tryz.zeroValue3
 t4:=Tryz.underlying4
 a4:=Tryz.isAgg4
 z4:=Tryz.sizeOf4
 v4:=Tryz.zeroValue4
 t22:=Tryz.underlying24
 a22:=Tryz.isAgg24
 z22:=Tryz.sizeOf24
 v22:=Tryz.zeroValue24
 i3:=by kernel_rfl }
open Go.RowKit Go.Lib Go.Sort in
theorem Tryz.slices_Compact_int (blk h y:Nat) (f:List Int) (w:World) (z:Holds (Value.int .i64) w blk h f.toArray) (C:f.length≤9223372036854775807) (E:f.length≤y):
  Calls Tryz.prog 67 #[.slice (some ⟨blk,h,none⟩) f.length y] w fun e w'=>e=.returned (.slice (some ⟨blk,h,none⟩) (Lib.compact f).length y)∧∃q,w'=putRow (Value.int .i64) (Sort.ahead w q) blk h (Lib.compact f++List.replicate (f.length - (Lib.compact f).length) 0).toArray:=Any.slices_Compact_int Tryz.laysNm220 blk h y f w z C E
open Go.RowKit Go.Lib Go.Sort in
theorem Tryz.slices_Compact_int_empty (a:Option Addr) (f:Nat) (w:World):
  Calls Tryz.prog 67 #[.slice a 0 f] w fun e w'=>e=.returned (.slice a 0 f)∧w'=w:=Any.slices_Compact_int_empty Tryz.laysNm220 a f w
def Tryz.lays166_ren:Go.Shelf.Ren:=⟨fun | 166=>83 | 240=>98 | 276=>112 | n=>n,fun | 0=>0 | 3=>3 | 4=>4 | 5=>5 | 9=>9 | 20=>20 | 37=>134 | 70=>133 | 72=>136 | 75=>138 | 80=>143 | 164=>175 | n=>n,fun | n=>n⟩
theorem Tryz.lays166:Go.Proofs.Lays.n166 Tryz.prog Tryz.lays166_ren:={
 mixed:=by kernel_rfl
 f166:=Tryz.func83.trans (congrArg some (by kernel_rfl))
 f240:=Tryz.func98.trans (congrArg some (by kernel_rfl))
 f276:=Tryz.func112.trans (congrArg some (by kernel_rfl))
 t0:=Tryz.underlying0
 a0:=Tryz.isAgg0
 z0:=Tryz.sizeOf0
 v0:=Tryz.zeroValue0
 t3:=Tryz.underlying3
 a3:=Tryz.isAgg3
 z3:=Tryz.sizeOf3
 v3:=Tryz.zeroValue3
 t4:=Tryz.underlying4
 a4:=Tryz.isAgg4
 z4:=Tryz.sizeOf4
 v4:=Tryz.zeroValue4
 t9:=Tryz.underlying9
 a9:=Tryz.isAgg9
 z9:=Tryz.sizeOf9
 v9:=Tryz.zeroValue9
 t20:=Tryz.underlying20
 a20:=Tryz.isAgg20
 z20:=Tryz.sizeOf20
 v20:=Tryz.zeroValue20
 t37:=Tryz.underlying134
 a37:=Tryz.isAgg134
 z37:=Tryz.sizeOf134
 v37:=Tryz.zeroValue134
 t70:=Tryz.underlying133
 a70:=Tryz.isAgg133
 z70:=Tryz.sizeOf133
 v70:=Tryz.zeroValue133
 t72:=Tryz.underlying136
 a72:=Tryz.isAgg136
 z72:=Tryz.sizeOf136
 v72:=Tryz.zeroValue136
 t75:=Tryz.underlying138
 a75:=Tryz.isAgg138
 z75:=Tryz.sizeOf138
 v75:=Tryz.zeroValue138
 t164:=Tryz.underlying175
 a164:=Tryz.isAgg175
 z164:=Tryz.sizeOf175
 v164:=Tryz.zeroValue175 }
theorem Tryz.Builder_Extra_166:Builder.Extra Tryz.prog Tryz.lays166_ren:={
 sizeBuilder:=by kernel_rfl
 liesBuilder:=by kernel_rfl
 t5:=Tryz.underlying5
 a5:=Tryz.isAgg5
 z5:=Tryz.sizeOf5
 v5:=Tryz.zeroValue5
 infoByte:=by kernel_rfl
 cellsByte:=by kernel_rfl
 sizeByte:=by kernel_rfl
 neB5:=by decide }
def Tryz.lays167_ren:Go.Shelf.Ren:=⟨fun | 167=>85 | 240=>98 | 276=>112 | n=>n,fun | 0=>0 | 3=>3 | 4=>4 | 5=>5 | 9=>9 | 20=>20 | 37=>134 | 70=>133 | 72=>136 | 75=>138 | 80=>143 | 164=>175 | n=>n,fun | n=>n⟩
theorem Tryz.lays167:Go.Proofs.Lays.n167 Tryz.prog Tryz.lays167_ren:={
 mixed:=by kernel_rfl
 f167:=Tryz.func85.trans (congrArg some (by kernel_rfl))
 f240:=Tryz.func98.trans (congrArg some (by kernel_rfl))
 f276:=Tryz.func112.trans (congrArg some (by kernel_rfl))
 t0:=Tryz.underlying0
 a0:=Tryz.isAgg0
 z0:=Tryz.sizeOf0
 v0:=Tryz.zeroValue0
 t4:=Tryz.underlying4
 a4:=Tryz.isAgg4
 z4:=Tryz.sizeOf4
 v4:=Tryz.zeroValue4
 t5:=Tryz.underlying5
 a5:=Tryz.isAgg5
 z5:=Tryz.sizeOf5
 v5:=Tryz.zeroValue5
 t9:=Tryz.underlying9
 a9:=Tryz.isAgg9
 z9:=Tryz.sizeOf9
 v9:=Tryz.zeroValue9
 t20:=Tryz.underlying20
 a20:=Tryz.isAgg20
 z20:=Tryz.sizeOf20
 v20:=Tryz.zeroValue20
 t37:=Tryz.underlying134
 a37:=Tryz.isAgg134
 z37:=Tryz.sizeOf134
 v37:=Tryz.zeroValue134
 t70:=Tryz.underlying133
 a70:=Tryz.isAgg133
 z70:=Tryz.sizeOf133
 v70:=Tryz.zeroValue133
 t72:=Tryz.underlying136
 a72:=Tryz.isAgg136
 z72:=Tryz.sizeOf136
 v72:=Tryz.zeroValue136
 t75:=Tryz.underlying138
 a75:=Tryz.isAgg138
 z75:=Tryz.sizeOf138
 v75:=Tryz.zeroValue138
 t164:=Tryz.underlying175
 a164:=Tryz.isAgg175
 z164:=Tryz.sizeOf175
 v164:=Tryz.zeroValue175 }
theorem Tryz.Builder_Extra_167:Builder.Extra Tryz.prog Tryz.lays167_ren:={
 sizeBuilder:=by kernel_rfl
 liesBuilder:=by kernel_rfl
 t5:=Tryz.underlying5
 a5:=Tryz.isAgg5
 z5:=Tryz.sizeOf5
 v5:=Tryz.zeroValue5
 infoByte:=by kernel_rfl
 cellsByte:=by kernel_rfl
 sizeByte:=by kernel_rfl
 neB5:=by decide }
open Go.RowKit in
theorem Tryz.Builder_WriteByte (B b:Nat) (f:List Value) (c:Int) (w:World) (h:Lib.IsBuilder 136 5 B b f w) (y:f.length+1≤140737488355328) (z:B≤w.heap.size):
  Calls Tryz.prog 85 #[.pointer (some ⟨b,0,none⟩),.int .u8 c] w fun e w'=>e=.returned .nilIface∧(Lib.BuilderAt 136 5 B b (.pointer (some ⟨b,0,none⟩)) (f++[.int .u8 c]) w'∧Below B w w'):=Any.Builder_WriteByte Tryz.lays167 Tryz.Builder_Extra_167 B b f c w h y z
open Go.RowKit in
theorem Tryz.Builder_WriteString (B b:Nat) (f:List Value) (s:ByteArray) (w:World) (h:Lib.IsBuilder 136 5 B b f w) (y:f.length+s.size≤140737488355328) (z:B≤w.heap.size):
  Calls Tryz.prog 83 #[.pointer (some ⟨b,0,none⟩),.string s] w fun e w'=>e=.returned (.tuple #[.int .i64 s.size,.nilIface])∧(Lib.BuilderAt 136 5 B b (.pointer (some ⟨b,0,none⟩)) (f++Lib.strCells s) w'∧Below B w w'):=Any.Builder_WriteString Tryz.lays166 Tryz.Builder_Extra_166 B b f s w h y z
end Go.Proofs
namespace Go.Proofs.YtlakpndhhelliaaGreatDoor
open Go.RowKit Go.Sort
set_option maxHeartbeats 16000000
set_option maxRecDepth 100000
def CD (l:List Int):List Int:=Lib.compact (l.mergeSort fun x y=>decide (x≤y))
theorem Hz (d:Array Int) (hd:∀i j,i≤j→j<d.size→d[i]!≤d[j]!):∀m,m≤d.size→Asc (Lib.compactUpTo d m)∧∀x,x∈Lib.compactUpTo d m↔∃j,j<m∧d[j]! =x:=by
 intro m
 induction m with
 | zero=>exact fun _=>⟨List.Pairwise.nil,fun _=>⟨fun h=>by simp [Lib.compactUpTo] at h,fun⟨j,f,_⟩=>by omega⟩⟩
 | succ m ih=>
  intro G
  obtain⟨C,z⟩:=ih (by omega)
  rw [Lib.compactUpTo_succ]
  cases hk:Lib.keeps d m
  ·simp only [Bool.false_eq_true,if_false,List.append_nil]
   refine⟨C,fun x=>(z x).trans ⟨fun⟨j,f,e⟩=>⟨j,by omega,e⟩,fun⟨j,f,e⟩=>?_⟩⟩
   rcases Nat.lt_or_ge j m with h | h
   ·exact⟨j,h,e⟩
   ·obtain rfl:j=m:=by omega
    simp [Lib.keeps] at hk
    exact⟨j - 1,by omega,by rw [←hk.2]; exact e⟩
  ·simp only [if_true]
   refine⟨List.pairwise_append.2 ⟨C,by simp,fun x E y F=>?_⟩,fun x=>?_⟩
   ·rw [List.mem_singleton.1 F]
    obtain⟨j,f,e⟩:=(z x).1 E
    have a1:=hd j (m - 1) (by omega) (by omega)
    have I:=hd (m - 1) m (by omega) (by omega)
    simp [Lib.keeps] at hk
    rcases hk with hk | hk
    ·omega
    ·have:d[m]!≠d[m - 1]!:=hk
     omega
   ·rw [List.mem_append,List.mem_singleton,z x]
    constructor
    ·rintro(⟨j,f,e⟩ | rfl)
     ·exact⟨j,by omega,e⟩
     ·exact⟨m,by omega,rfl⟩
    ·rintro⟨j,f,e⟩
     rcases Nat.lt_or_ge j m with h | h
     ·exact .inl ⟨j,h,e⟩
     ·obtain rfl:j=m:=by omega
      exact .inr e.symm
theorem OZ (l:List Int):(l.mergeSort fun x y=>decide (x≤y)).Pairwise (·≤·):=by
 have:=List.pairwise_mergeSort (le:=fun x y:Int=>decide (x≤y)) (fun a b c f z=>by simp at*; omega) (fun a b=>by simp; omega) l
 exact this.imp fun h=>by simpa using h
theorem IZ (l:List Int) (i j:Nat) (C:i≤j) (f:j<((l.mergeSort fun x y=>decide (x≤y)).toArray).size):(l.mergeSort fun x y=>decide (x≤y)).toArray[i]!≤(l.mergeSort fun x y=>decide (x≤y)).toArray[j]!:=by
 have h:=OZ l
 generalize l.mergeSort (fun x y=>decide (x≤y))=s at*
 simp only [List.size_toArray] at f
 rcases Nat.lt_or_ge i j with z | z
 ·have:=List.pairwise_iff_getElem.1 h i j (by omega) f z
  simpa [f,show i<s.length from by omega] using this
 ·obtain rfl:i=j:=by omega
  exact Int.le_refl _
theorem LH (l:List Int):Asc (CD l):=(Hz _ (IZ l) _ (by simp)).1
theorem I9 {l:List Int} {x:Int}:x∈CD l↔x∈l:=by
 have h:=(Hz _ (IZ l) ((l.mergeSort fun x y=>decide (x≤y)).length) (by simp)).2 x
 unfold CD Lib.compact
 rw [h]
 have z:x∈(l.mergeSort fun x y=>decide (x≤y))↔x∈l:=(List.mergeSort_perm l _).mem_iff
 rw [←z]
 generalize l.mergeSort (fun x y=>decide (x≤y))=s
 constructor
 ·rintro⟨j,f,rfl⟩
  simp [f]
 ·intro C
  obtain⟨j,f,rfl⟩:=List.getElem_of_mem C
  exact⟨j,f,by simp [f]⟩
theorem Mm (l:List Int):(CD l).length≤l.length:=by
 have:=Go.Lib.compact_length_le (l.mergeSort fun x y=>decide (x≤y))
 rwa [List.length_mergeSort] at this
theorem Hm {l:List Int} {m:List Bool} (h:∀x,x∈l↔∃q:Nat,x=(q:Int)∧m[q]?=some true):CD l=AC m:=
 J7 (LH l) (KM m) fun x=>(I9.trans (h x)).trans DE.symm
theorem Rk:CD []=[]:=List.eq_nil_iff_forall_not_mem.2 fun _ f=>absurd (I9.1 f) List.not_mem_nil
theorem HM {w:World} {base size n m:Nat} {e:TypeId} {g y:Nat} {xs:List Value} (h:w.ownsRow base e size (.slice (some ⟨g,0,none⟩) n y) n xs) (C:m≤n):
  w.ownsRow base e size (.slice (some ⟨g,0,none⟩) m y) m (xs.take (m*size)):=by
 obtain⟨E,z⟩:=h
 have F:m*size≤n*size:=Nat.mul_le_mul_right _ C
 refine⟨by rw [List.length_take,E]; omega,?_⟩
 rcases z with⟨G,_⟩ | ⟨W,Z,I,f,J,M,hc,z,O,ht⟩
 ·cases G
 ·injection f with f _ U
  injection f with f
  injection f with V
  subst V U
  refine .inr ⟨g,y,I,rfl,J,M,by omega,z,O,?_⟩
  rw [←ht,List.take_take,Nat.min_eq_left F]
theorem I3 {w:World} {base n g F:Nat} {e:TypeId} {l:List Int} (h:w.ownsRow base e 1 (.slice (some ⟨g,0,none⟩) n F) n (l.map (Value.int .i64))):Holds (Value.int .i64) w g 0 l.toArray:=by
 have J:l.length=n:=by simpa using h.1
 rcases h.2 with⟨f,_⟩ | ⟨M,O,C,y,U,E,V,W,Z,ht⟩
 ·cases f
 ·injection y with y _ G
  injection y with y
  injection y with I
  subst I G
  intro j z
  simp only [List.size_toArray] at z
  refine⟨?_,Blk.frozen (t:=e) (cs:=C) E _⟩
  rw [cell_of_row w g _ C e (0,0) E,Nat.zero_add]
  have f:(l.map (Value.int .i64))[j]?=some (.int .i64 l[j]):=Bq (List.getElem?_eq_getElem z)
  rw [←ht,List.getElem?_take] at f
  split at f
  ·rw [show l.toArray[j]! =l[j] from by simp [z]]
   simpa using f
  ·cases f
theorem Gv {w:World} {base n g z k:Nat} {e:TypeId} {xs:List Value} (h:w.ownsRow base e 1 (.slice (some ⟨g,0,none⟩) n z) n xs) (d:List Int) (hd:d.length=n) (os:Array Obj):
  (grow (putRow (Value.int .i64) (Sort.ahead w k) g 0 d.toArray) os).ownsRow base e 1 (.slice (some ⟨g,0,none⟩) n z) n (d.map (Value.int .i64))∧Ae w (grow (putRow (Value.int .i64) (Sort.ahead w k) g 0 d.toArray) os) (fun b=>b=g):=by
 rcases h.2 with⟨I,_⟩ | ⟨g',a4,C,f,y,E,J,M,O,ht⟩
 ·cases I
 ·injection f with f _ U
  injection f with f
  injection f with V
  subst V U
  have W:=(Array.getElem?_eq_some_iff.1 E).1
  have F:∀b,b<w.heap.size→(grow (putRow (Value.int .i64) (Sort.ahead w k) g 0 d.toArray) os).heap[b]?=if g=b then (w.heap[b]?).map (onCells (putCells (Value.int .i64) 0 d.toArray)) else w.heap[b]?:=fun b y=>by
   unfold grow putRow mapBlock Sort.ahead
   rw [Array.getElem?_append_left (by simpa using y),Array.getElem?_modify]
  refine⟨⟨by simp [hd],.inr ⟨g,z,putCells (Value.int .i64) 0 d.toArray C,rfl,y,?_,J,M,?_,?_⟩⟩,rfl,rfl,rfl,?_,fun b y Z=>?_⟩
  ·rw [F g W,if_pos rfl,E]
   rfl
  ·unfold putCells
   rw [Array.size_mapIdx]
   exact O
  ·apply List.ext_getElem?
   intro j
   rw [List.getElem?_take]
   by_cases hj:j<n
   ·rw [if_pos (by omega)]
    have a2:j<C.size:=by omega
    have G:j<d.length:=by omega
    rw [Bq (List.getElem?_eq_getElem G)]
    unfold putCells
    rw [Array.getElem?_toList,Array.getElem?_mapIdx,Array.getElem?_eq_getElem a2]
    simp [G]
   ·rw [if_neg (by omega),List.getElem?_eq_none (by simp; omega)]
  ·simp [grow,putRow,mapBlock,Sort.ahead]
  ·rw [F b y,if_neg fun e=>Z e.symm]
theorem OC {w:World} {base n g f k q:Nat} {l:List Int} {os:Array Obj} (h:w.ownsRow base 3 1 (.slice (some ⟨g,0,none⟩) n f) n (l.map (Value.int .i64))) (G:base≤w.heap.size):
  (putRow (Value.int .i64) (Sort.ahead (grow (putRow (Value.int .i64) (Sort.ahead w k) g 0 (l.mergeSort fun x y=>decide (x≤y)).toArray) os) q) g 0 (Lib.compact (l.mergeSort fun x y=>decide (x≤y))++List.replicate ((l.mergeSort fun x y=>decide (x≤y)).length - (Lib.compact (l.mergeSort fun x y=>decide (x≤y))).length) 0).toArray).ownsRow base 3 1 (.slice (some ⟨g,0,none⟩) (CD l).length f) (CD l).length ((CD l).map (Value.int .i64))∧
  Below base w (putRow (Value.int .i64) (Sort.ahead (grow (putRow (Value.int .i64) (Sort.ahead w k) g 0 (l.mergeSort fun x y=>decide (x≤y)).toArray) os) q) g 0 (Lib.compact (l.mergeSort fun x y=>decide (x≤y))++List.replicate ((l.mergeSort fun x y=>decide (x≤y)).length - (Lib.compact (l.mergeSort fun x y=>decide (x≤y))).length) 0).toArray):=by
 have z:l.length=n:=by simpa using h.1
 have I:=Bm h (k:=g) rfl
 have J:(l.mergeSort fun x y=>decide (x≤y)).length=n:=by rw [List.length_mergeSort,z]
 have U:=Go.Lib.compact_length_le (l.mergeSort fun x y=>decide (x≤y))
 obtain⟨M,O⟩:=Gv (k:=k) h _ J os
 obtain⟨C,E⟩:=Gv (k:=q) M (Lib.compact (l.mergeSort fun x y=>decide (x≤y))++List.replicate ((l.mergeSort fun x y=>decide (x≤y)).length - (Lib.compact (l.mergeSort fun x y=>decide (x≤y))).length) 0) (by rw [List.length_append,List.length_replicate]; omega) #[]
 rw [grow_empty] at C E
 have F:=HM C (m:=(CD l).length) (by rw [←z]; exact Mm l)
 refine⟨?_,(O.trans E fun _ _ e=>e).below G fun b I e=>by omega⟩
 rw [Nat.mul_one,List.map_append,List.take_append_of_le_length (by simp [CD]),List.take_of_length_le (by simp [CD])] at F
 exact F
theorem Qd (A:Option Addr) (c:Nat) (w:World):
  Calls Tryz.prog 41 #[.slice A 0 c] w (Ret fun r w'=>w'.ownsRow w.heap.size 3 1 r 0 []∧Below w.heap.size w w'):=by
 cases A with
 | none=>
  go_enter Tryz.func41,Tryz.ntmps41
  go_wp2_with (first
   | (go_at_call 65; refine(Tryz.slices_Clone_int_nil 0 c w).mono ?_; rintro e w' ⟨rfl,rfl⟩)
   | (go_at_call 66; refine(Any.slices_Sort_int_none Tryz.lays189 none 0 w').mono ?_; rintro e w2 ⟨rfl,rfl⟩)
   | (go_at_call 67; refine(Tryz.slices_Compact_int_empty none 0 _).mono ?_; rintro e z ⟨rfl,rfl⟩))
  go_ret
  exact⟨CT,Below.refl _ _⟩
 | some a=>
  go_enter Tryz.func41,Tryz.ntmps41
  go_wp2_with (first
   | (go_at_call 65; refine(Any.slices_Clone_int_zero Tryz.laysNm215 a c w).mono ?_; rintro e w1 ⟨E,rfl,f,-,C⟩; obtain⟨h,y,rfl⟩:=AV f)
   | (go_at_call 66; refine(Any.slices_Sort_int_none Tryz.lays189 h y w1).mono ?_; rintro e w2 ⟨rfl,rfl⟩)
   | (go_at_call 67; refine(Tryz.slices_Compact_int_empty h y _).mono ?_; rintro e z ⟨rfl,rfl⟩))
  go_ret
  exact⟨f,C⟩
theorem Hp {w:World} {B:Nat} {A:Option Addr} {c:Nat} {l:List Int} (h:Sl w B 1 Ai A l) (hl:l.length≤4000000):
  Calls Tryz.prog 41 #[.slice A l.length c] w (Ret fun r w'=>w'.ownsRow w.heap.size 3 1 r (CD l).length ((CD l).map (Value.int .i64))∧Below w.heap.size w w'):=by
 by_cases F:l=[]
 ·subst F
  rw [Rk]
  exact Qd A c w
 ·obtain⟨b,U,rfl,ad,V⟩:=h.2 F
  have W:∀j,j<l.length→w.cell? ⟨b,U+j,none⟩=some (.int .i64 (l.getD j 0)):=fun j Z=>by
   have:=V j _ (List.getElem?_eq_getElem Z) 0 (by omega)
   rw [getD_some (List.getElem?_eq_getElem Z)]
   simpa [Ai] using this
  have ae:l.length≠0:=fun e=>F (List.length_eq_zero_iff.1 e)
  obtain⟨n,C⟩:∃n,n=l.length:=⟨_,rfl⟩
  obtain⟨m,a2⟩:∃m,m=(l.mergeSort fun x y=>decide (x≤y)).length:=⟨_,rfl⟩
  have af:m=n:=by rw [a2,C,List.length_mergeSort]
  have f:=hide C
  rw [←C]
  clear C a2
  go_enter Tryz.func41,Tryz.ntmps41
  go_wp2_with fail
  refine(Tryz.slices_Clone_int b U n c l w (Nat.le_of_eq f.out) (by have:=f.out; omega) W).mono ?_
  rintro e w1 ⟨v',rfl,E,a3,G⟩
  rw [List.take_of_length_le (Nat.le_of_eq f.out.symm)] at E
  obtain⟨g,z,rfl,a4⟩:∃g z,v'=.slice (some ⟨g,0,none⟩) n z∧g<w1.heap.size∧n≤z:=by
   rcases E.2 with⟨rfl,_⟩ | ⟨g,z,ag,rfl,G,hh,a9,_⟩
   ·exact absurd rfl a3
   ·exact⟨g,z,rfl,(Array.getElem?_eq_some_iff.1 hh).1,a9⟩
  have I:=hide E
  have hB:=hide G
  have hG:=hide a4
  clear E G a3 a4 W V
  go_wp2_with fail
  have J:=Tryz.slices_Sort_int g 0 z l w1 (I3 I.out) hG.out.1 (by omega)
  rw [←f.out] at J
  refine J.mono ?_
  rintro e w2 ⟨rfl,k,os,rfl⟩
  clear J
  go_wp2_with fail
  have aa:=(Gv (k:=k) I.out (l.mergeSort fun x y=>decide (x≤y)) (by rw [List.length_mergeSort]; exact f.out.symm) os).1
  have M:=Tryz.slices_Compact_int g 0 z (l.mergeSort fun x y=>decide (x≤y)) _ (I3 aa) (by rw [List.length_mergeSort]; omega) (by rw [List.length_mergeSort,←f.out]; exact hG.out.2)
  rw [List.length_mergeSort,←f.out] at M
  refine M.mono ?_
  rintro e w3 ⟨rfl,q,rfl⟩
  clear M
  have O:=OC (k:=k) (q:=q) (os:=os) I.out hB.out.size
  rw [List.length_mergeSort,←f.out] at O
  go_wp2_with fail
  go_ret
  exact⟨O.1,hB.out.trans O.2⟩
end Go.Proofs.YtlakpndhhelliaaGreatDoor
namespace Go.Proofs.YtlakpndhhelliaaGreatDoor
open Go.RowKit
set_option maxHeartbeats 16000000
set_option maxRecDepth 100000
theorem Jj {w:World} {g n E:Nat} {y:Option Addr} {acc:List Bool} {v0 v1 v2:Value} {q:Nat} {b:Bool} (F:Blk w g 63 #[v0,v1,v2,.slice y n E]) (f:Sl w w.heap.size 1 Dh y acc) (G:n=acc.length) (h:acc[q]?=some b):
  Calls Tryz.prog 88 #[.int .i64 (q:Int),.pointer (some ⟨g,0,none⟩)] w fun e w'=>e=.returned (.bool b)∧w=w':=by
 have O:=F.cell
 have z:=AO h
 have I:=f.1
 obtain⟨U,V,d,rfl,W,hd,C⟩:=f.at z
 have J:d=b:=Option.some.inj (hd.symm.trans h)
 subst J
 have M:=C 0 (by omega)
 simp only [Nat.mul_one,Nat.add_zero,Dh] at M
 have Z:q<n:=by omega
 have a2:n≤9223372036854775807:=by omega
 clear G h hd C f z I
 go_enter Tryz.func88,Tryz.ntmps88
 go_wp2_with fail
 go_ret
 exact⟨rfl,rfl⟩
theorem Nc {w:World} {B g n c3 c:Nat} {A M:Option Addr} {acc:List Bool} {v0 v1 v2:Value} {l:List Int} (O:Blk w g 63 #[v0,v1,v2,.slice M n c3]) (U:Sl w w.heap.size 1 Dh M acc) (V:n=acc.length) (h:Sl w B 1 Ai A l) (W:∀x∈l,inN n x=true):
  Calls Tryz.prog 68 #[.slice A l.length c,.func (.func 88) #[] #[.pointer (some ⟨g,0,none⟩)]] w fun e w'=>e=.returned (.int .i64 (if l.any (fun x=>acc.getD x.toNat false) then ((l.findIdx fun x=>acc.getD x.toNat false:Nat):Int) else -1))∧w=w':=by
 have hm:=h.1
 have Z:=hide O
 have a2:=hide U
 have y:=hide V
 have hI:=hide W
 have ah:=FU
 obtain⟨p,z⟩:∃p:Int→Bool,p=fun x=>acc.getD x.toNat false:=⟨_,rfl⟩
 rw [←z]
 have aa:=hide z
 obtain⟨R,C⟩:∃R:Int,Hid ((if l.any p then ((l.findIdx p:Nat):Int) else -1)=R):=⟨_,rfl⟩
 rw [C.out]
 clear O U V W z
 go_enter Tryz.func68,Tryz.ntmps68
 go_wp2_with fail
 go_loop [8] (fun E=>∃(k:Nat),E=.int .i64 (k:Int)∧k≤l.length∧Hid ((l.take k).any p=false)) (fun E=>l.length - (intOf E).toNat)
 case atStart=>exact⟨0,rfl,Nat.zero_le _,rfl⟩
 case round=>
  obtain⟨k,rfl,hk,F⟩:=hrel
  by_cases a3:k<l.length
  ·obtain⟨b,ai,x,rfl,aj,hx,hc⟩:=h.at a3
   have ab:=hc 0 (by omega)
   simp only [Nat.mul_one,Nat.add_zero,Ai] at ab
   have f:=hide hx
   clear hx hc
   obtain⟨q,rfl,hq⟩:=Dc (hI.out x (List.mem_of_getElem? f.out))
   simp only [Int.toNat_natCast] at hq
   obtain⟨bq,G⟩:=Ay (l:=acc) (i:=q) (by rw [←y.out]; exact hq)
   have a8:=hide G
   have I:Hid (p (q:Int)=bq):=by show _=_; rw [aa.out]; exact getD_some G
   clear G
   cases bq
   ·have ad:Hid ((l.take (k+1)).any p=false):=by show _=_; rw [CF f.out,List.any_append,F.out]; simp [I.out]
    go_wp2_with (go_at_call 88; refine(Jj Z.out a2.out y.out a8.out).mono ?_; rintro e w' ⟨rfl,rfl⟩)
    exact⟨⟨k+1,by go_num,by omega,ad⟩,by simp [intOf]; omega⟩
   ·have J:Hid (l.any p=true):=List.any_eq_true.2 ⟨_,List.mem_of_getElem? f.out,I.out⟩
    have hF:Hid (l.findIdx p=k):=by
     show _=_
     rw [List.findIdx_eq a3]
     refine⟨?_,fun j hj=>?_⟩
     ·have:=(List.getElem?_eq_some_iff.1 f.out).2
      rw [this]; exact I.out
     ·have:=List.any_eq_false.1 F.out l[j] (List.mem_of_getElem? (i:=j) (by rw [List.getElem?_take,if_pos hj,List.getElem?_eq_getElem]))
      simpa using this
    go_wp2_with (go_at_call 88; refine(Jj Z.out a2.out y.out a8.out).mono ?_; rintro e w' ⟨rfl,rfl⟩)
    go_ret
    exact⟨by rw [←C.out,J.out,hF.out]; rfl,rfl⟩
  ·have J:Hid (l.any p=false):=by show _=_; rw [←F.out,List.take_of_length_le (by omega)]
   go_wp2_with fail
   go_ret
   exact⟨by rw [←C.out,J.out]; rfl,rfl⟩
theorem OH {w:World} {B g n I c:Nat} {A y:Option Addr} {acc:List Bool} {v0 v1 v2:Value} {l:List Int} (z:Blk w g 63 #[v0,v1,v2,.slice y n I]) (C:Sl w w.heap.size 1 Dh y acc) (E:n=acc.length) (h:Sl w B 1 Ai A l) (F:∀x∈l,inN n x=true):
  Calls Tryz.prog 87 #[.slice A l.length c,.func (.func 88) #[] #[.pointer (some ⟨g,0,none⟩)]] w fun e w'=>e=.returned (.bool (l.any (fun x=>acc.getD x.toNat false)))∧w=w':=by
 have f:=Nc (c:=c) z C E h F
 clear z C F E
 obtain⟨r,G⟩:∃r,(l.any (fun x=>acc.getD x.toNat false))=r:=⟨_,rfl⟩
 rw [G] at f ⊢
 cases r
 all_goals
  simp only [Bool.false_eq_true,if_false,if_true] at f
  clear G
  go_enter Tryz.func87,Tryz.ntmps87
  go_wp2_with (go_at_call 68; refine f.mono ?_; rintro e w' ⟨rfl,rfl⟩)
  go_ret
  exact⟨by simp,rfl⟩
theorem QX {w:World} {v:Value} {a:NF} {B c:Nat} {A:Option Addr} {l:List Int} (h:Cc w w.heap.size v a) (y:a.acc.length=a.n) (F:Sl w B 1 Ai A l) (hB:B≤w.heap.size) (z:∀x∈l,inN a.n x=true):
  Calls Tryz.prog 61 #[v,.slice A l.length c] w (Ret fun r w'=>r=.bool (l.any (fun x=>a.acc.getD x.toNat false))∧Below w.heap.size w w'):=by
 obtain⟨G,I,J,c2,M,O,rfl,U,V,C,W⟩:=h
 have a6:=FU
 obtain⟨w1,a7,f,E,Z⟩:=Ag w #[.int .i64 (a.L:Int),.slice G a.nx.length I,.slice J a.start.length c2,.slice M a.acc.length O] 63
 have a2:=f.size
 have a3:=OH (c:=c) E ((C.below f).mono a2) rfl ((F.keep (w':=w1) (fun p hp=>f.cell (by omega)) (Nat.le_refl _))) (by rw [y]; exact z)
 have a4:=hide f
 clear U V C W E Z f y z
 go_enter Tryz.func61,Tryz.ntmps61
 go_wp2_with (go_at_call 87; refine a3.mono ?_; rintro e w' ⟨rfl,rfl⟩)
 go_ret
 exact⟨rfl,a4.out⟩
theorem KY {a:NF} {m:List Bool} (C:m.length=a.n):(AC m).any (fun x=>a.acc.getD x.toNat false)=a.has m:=by
 rw [Bool.eq_iff_iff,List.any_eq_true,NF.has_iff]
 constructor
 ·rintro⟨x,E,h⟩
  obtain⟨q,rfl,f⟩:=DE.1 E
  exact⟨q,by rw [←C]; exact AO f,getD_some f,by simpa using h⟩
 ·rintro⟨s,G,y,F⟩
  obtain⟨b,z⟩:=Ay (l:=m) (i:=s) (by omega)
  rw [getD_some z] at y
  subst y
  exact⟨(s:Int),DE.2 ⟨s,rfl,z⟩,by simpa using F⟩
theorem J4 {m:List Bool} {n:Nat} (y:m.length=n):∀x∈AC m,inN n x=true:=fun x f=>by
 obtain⟨q,rfl,h⟩:=DE.1 f
 have:=AO h
 rw [Ds]; omega
theorem FD (m:List Bool):(AC m).length≤m.length:=by
 unfold AC
 rw [List.length_map]
 exact Nat.le_trans (List.length_filter_le _ _) (by simp)
end Go.Proofs.YtlakpndhhelliaaGreatDoor
namespace Go.Proofs.YtlakpndhhelliaaGreatDoor
open Go.RowKit
set_option maxHeartbeats 16000000
set_option maxRecDepth 100000
section
variable {P:Program} {w:World}
theorem Gw {t e size:Nat} (R:C4 P t e size) (ty:TypeId) {base:Nat} {v:Value} {n:Nat} {xs:List Value} (y:w.ownsRow base e size v n xs) (A:Option Addr) (c:Nat):
  (Builtin.append_ #[t,t] ty #[v,.slice A 0 c]).run P w=.ok v w:=by
 have ht:=R.ht
 obtain⟨i,z,bytes,f,E,F,G,I,J⟩:=R.info
 have h:∀(a:Addr),Sem.run P (loadCells a 0) w=.ok #[] w:=fun _=>rfl
 rcases y.2 with⟨rfl,rfl⟩ | ⟨g,M,O,rfl,_,_,C,_⟩
 ·cases A <;> simp [Builtin.append_,run_underlying ht,sizeOf,typeInfo,f,Builtin.lenOf,Builtin.firstCells,h]
 ·cases A <;> simp [Builtin.append_,run_underlying ht,sizeOf,typeInfo,f,Builtin.lenOf,Builtin.firstCells,C,storeCells,h]
end
section
variable {P:Program} {ops:Array Oper} {rest:List Oper} {o:Oper} {a:Act} {Q:Exit→Act→World→Prop} {w:World}
theorem DR {t e:Nat} {B:Nat} {D:Type} {enc:D→Nat→Value} (R:C4 P t e 1) (I:o.guard=none) (s x:Operand)
  (J:o.op=.call { callee:=.builtin .append,args:=#[s,x],argTypes:=#[t,t] })
  (base:Nat) (v:Value) (n:Nat) (xs:List Value) (M:a.eval s=v) (y:w.ownsRow base e 1 v n xs)
  {A:Option Addr} {l:List D} {c:Nat} (hS:Sl w B 1 enc A l) (z:a.eval x=.slice A l.length c) (O:∀d,(enc d 0).oneCell'=true)
  (U:n+l.length≤4000000) (V:base≤w.heap.size)
  (h:∀C w',w'.ownsRow base e 1 C (n+l.length) (xs++l.map (enc · 0))→Ae w w' (fun k=>v.ownBlock=some k)→BX w v C→wpList P ops Q rest (a.put o.dst C) w'):
  wpList P ops Q (o::rest) a w:=by
 by_cases E:l.length=0
 ·have W:l=[]:=List.length_eq_zero_iff.1 E
  subst W
  have Z:=Gw (P:=P) R o.type y A c
  refine wpList_plain I fun K hK=>?_
  unfold Oper.wp execOp
  rw [List.length_nil] at z
  simp only [J,resolve,invoke,builtin,Sem.run_bind,Sem.run_pure,Result.andThen_ok,List.map_toArray,List.map_cons,List.map_nil,M,z,Z]
  exact hK _ _ (h v w (by simpa using y) (Ae.refl _ _) (BX.refl _ _))
 ·obtain⟨b,F,d0,hA,hb,ae,hc⟩:=hS.at (k:=0) (by omega)
  obtain⟨b',o',e',ai,a5⟩:=hS.2 (by intro e; rw [e] at E; exact E rfl)
  subst hA
  refine GP R I s x J base v n xs M y ⟨b,F,none⟩ l.length c (l.map (enc · 0)) z (by simp) ?_ ?_ (by omega) U V ?_
  ·intro j u f
   rw [List.getElem?_map] at f
   cases G:l[j]? with
   | none=>rw [G] at f; cases f
   | some d=>
    rw [G] at f
    have f:=Option.some.inj f
    subst f
    have e:=Option.some.inj e'
    injection e with e1 e2 _
    subst e1 e2
    have:=a5 j d G 0 (by omega)
    have a8:(⟨b,F,none⟩:Addr).add j=⟨b,F+j*1+0,none⟩:=by unfold Addr.add; split <;> simp_all
    rw [a8]
    exact this
  ·intro u f
   obtain⟨d,_,rfl⟩:=List.mem_map.1 f
   exact O d
  ·intro g aj w' a9 hk aa _
   exact h _ w' a9 hk aa
end
def NF.cat (a:NF) (l:List Int) (x:Nat):List Int:=l.flatMap fun s=>a.to s.toNat x
theorem NF.cat_take {a:NF} {l:List Int} {x k:Nat} {s:Int} (h:l[k]?=some s):a.cat (l.take (k+1)) x=a.cat (l.take k) x++a.to s.toNat x:=by
 unfold NF.cat
 rw [CF h,List.flatMap_append]
 simp
theorem NF.cat_len {a:NF} {l:List Int} {x k:Nat}:(a.cat (l.take k) x).length≤(a.cat l x).length:=by
 unfold NF.cat
 have:=congrArg (fun l=>(l.flatMap fun s:Int=>a.to s.toNat x).length) (List.take_append_drop k l)
 simp only [List.flatMap_append,List.length_append] at this
 omega
theorem NF.to_at {w:World} {B:Nat} {a:NF} {F:Option Addr} (h:VSl R2 w B F a.nx) (I:a.OK) {s x:Nat} (J:s<a.n) (hx:x<a.L):
  ∃b f A c b2 y z C,F=some ⟨b,f,none⟩∧b<B∧w.cell? ⟨b,f+s,none⟩=some (.slice A a.L c)∧A=some ⟨b2,y,none⟩∧b2<B∧w.cell? ⟨b2,y+x,none⟩=some (.slice z (a.to s x).length C)∧Sl w B 1 Ai z (a.to s x):=by
 obtain⟨r,E⟩:=Ay (l:=a.nx) (i:=s) J
 obtain⟨b,f,v,M,O,U,A,c,rfl,V⟩:=h.at E
 have W:=I.row r (List.mem_of_getElem? E)
 obtain⟨l,G⟩:=Ay (l:=r) (i:=x) (by omega)
 obtain⟨b2,y,v2,Z,e2,e3,z,C,rfl,e4⟩:=V.at G
 have:a.to s x=l:=by unfold NF.to; rw [getD_some E,getD_some G]
 rw [this]
 exact⟨b,f,A,c,b2,y,z,C,M,O,by rw [U,W],Z,e2,e3,e4⟩
theorem NF.cat_set {a:NF} (F:a.OK) {m:List Bool} (U:m.length=a.n) {x:Nat} (V:x<a.L):CD (a.cat (AC m) x)=AC (a.after m x):=by
 refine Hm fun y=>?_
 unfold NF.cat
 rw [List.mem_flatMap]
 constructor
 ·rintro⟨s,G,C⟩
  obtain⟨q,rfl,I⟩:=DE.1 G
  have J:q<a.n:=by rw [←U]; exact AO I
  simp only [Int.toNat_natCast] at C
  obtain⟨r,E⟩:=Ay (l:=a.nx) (i:=q) J
  obtain⟨l,M⟩:=Ay (l:=r) (i:=x) (by rw [F.row r (List.mem_of_getElem? E)]; exact V)
  have e:a.to q x=l:=by unfold NF.to; rw [getD_some E,getD_some M]
  obtain⟨z,rfl,f⟩:=Dc (F.to r (List.mem_of_getElem? E) l (List.mem_of_getElem? M) y (by rw [←e]; exact C))
  simp only [Int.toNat_natCast] at f
  refine⟨z,rfl,?_⟩
  obtain⟨b,h⟩:=Ay (l:=a.after m x) (i:=z) (by rw [a.after_len]; exact f)
  have:=(NF.after_get (m:=m) (x:=x) f).2 ⟨q,J,getD_some I,C⟩
  rw [getD_some h] at this
  rw [h,this]
 ·rintro⟨z,rfl,f⟩
  have W:z<a.n:=by have:=AO f; rwa [a.after_len] at this
  obtain⟨s,G,O,Z⟩:=(NF.after_get (m:=m) (x:=x) W).1 (getD_some f)
  obtain⟨b,h⟩:=Ay (l:=m) (i:=s) (by omega)
  rw [getD_some h] at O
  subst O
  exact⟨(s:Int),DE.2 ⟨s,rfl,h⟩,by simpa using Z⟩
theorem Ik {w:World} {v:Value} {a:NF} {B c x:Nat} {A:Option Addr} {m:List Bool} (h:Cc w w.heap.size v a) (G:a.OK) (hm:m.length=a.n) (I:Sl w B 1 Ai A (AC m)) (hB:B≤w.heap.size) (hx:x<a.L) (a6:(a.cat (AC m) x).length≤4000000):
  Calls Tryz.prog 44 #[v,.slice A (AC m).length c,.int .i64 (x:Int)] w (Ret fun r w'=>w'.ownsRow w.heap.size 3 1 r (AC (a.after m x)).length ((AC (a.after m x)).map (Value.int .i64))∧Below w.heap.size w w'):=by
 obtain⟨A1,c1,A2,c2,A3,c3,rfl,h1,h2,h3,h4⟩:=h
 obtain⟨w1,av,a8,a9,aU⟩:=Ag w #[.int .i64 (a.L:Int),.slice A1 a.nx.length c1,.slice A2 a.start.length c2,.slice A3 a.acc.length c3] 63
 have aw:=a8.size
 have ax:=hide (J4 hm)
 have ay:=hide (NF.cat_set G hm hx)
 have aa:=hide h1
 have az:=hide G
 have ab:=hide hx
 have aA:=I.1
 obtain⟨l,J⟩:∃l,l=AC m:=⟨_,rfl⟩
 have ad:=hide J
 rw [←J] at I a6 aA ⊢
 clear h2 h3 h4 G J h1
 have M:=hide a9
 obtain⟨n,C⟩:∃n,n=a.nx.length:=⟨_,rfl⟩
 have aB:=hide C
 rw [←C] at av M ⊢
 have aV:n≤9223372036854775807:=by rw [C]; exact aa.out.1
 clear C a9
 go_enter Tryz.func44,Tryz.ntmps44
 go_wp2_with fail
 go_loopw [7,12] (fun vv O wr=>∃(k f:Nat),O=.int .i64 (k:Int)∧k≤l.length∧Below w1.heap.size w1 wr∧Hid (f=(a.cat (l.take k) x).length∧wr.ownsRow w1.heap.size 3 1 vv f ((a.cat (l.take k) x).map (Value.int .i64)))) (fun _ O _=>l.length - (intOf O).toNat)
 case atStart=>exact⟨0,0,rfl,Nat.zero_le _,Below.refl _ _,rfl,CT⟩
 case round=>
  obtain⟨k,f,rfl,hk,z,y⟩:=hrel
  have U:=a8.trans (z.mono aw)
  by_cases aD:k<l.length
  ·obtain⟨b,aW,s,rfl,aX,E,hc⟩:=I.at aD
   have aE:=(U.cell (by show b<_; omega)).trans (hc 0 (by omega))
   simp only [Nat.mul_one,Nat.add_zero,Ai] at aE
   obtain⟨q,rfl,V⟩:=Dc (ax.out s (by rw [←ad.out]; exact List.mem_of_getElem? E))
   simp only [Int.toNat_natCast] at V
   obtain⟨bA,oA,A',cA,b2,o2,b4,b5,rfl,g1,g2,rfl,g3,g4,g5⟩:=NF.to_at (aa.out.keep (@R2.keep) (fun p hp=>U.cell hp) (Nat.le_refl _)) az.out V ab.out
   have b8:=(M.out.at M.out.lt z).cell
   have F:=hide (NF.cat_take (a:=a) (x:=x) E)
   simp only [Int.toNat_natCast] at F
   have aG:=hide (NF.cat_len (a:=a) (l:=l) (x:=x) (k:=k+1))
   have b9:q<n:=by rw [aB.out]; exact V
   have hS:=hide g5
   have ba:=hide E
   obtain⟨Av,cv,rfl⟩:=AV y.out.2
   obtain⟨tl,W⟩:∃tl,tl=(a.to q x).length:=⟨_,rfl⟩
   have aH:=hide W
   rw [←W] at g4
   have aJ:=ab.out
   obtain⟨L,Z⟩:∃L,L=a.L:=⟨_,rfl⟩
   rw [←Z] at g2 aJ
   have bd:=hide Z
   clear E hc g5 W Z
   have aK:=hide (show f+(a.to q x).length≤4000000 from by have e1:=y.out.1; have e2:=aG.out; rw [F.out,List.length_append] at e2; omega)
   have a2:=y
   clear y
   go_wp2_with (at_builtin; refine DR DS rfl _ _ rfl w1.heap.size _ f _ rfl a2.out.2 hS.out (by rw [←aH.out]; rfl) (fun d=>rfl) aK.out z.size ?_; intro v2 w2 aM aN bf)
   refine⟨⟨k+1,f+(a.to q x).length,by go_num,by omega,z.trans (aN.below z.size fun b hb e=>by have:=Bm a2.out.2 e; omega),?_,?_⟩,by simp [intOf]; omega⟩
   ·rw [F.out,List.length_append,←a2.out.1]
   ·rw [F.out,List.map_append]; exact aM
  ·have ag:=y.out
   rw [List.take_of_length_le (by omega)] at ag
   obtain⟨aO,ah⟩:=ag
   have a3:=hide U
   obtain⟨A7,c7,e7,ai⟩:=C2 ah aO.symm (Nat.le_refl _) (by omega)
   subst e7
   have aQ:=hide ai
   have aR:=hide a6
   clear ah y ai
   go_wp2_with (go_at_call 41; refine Calls.ret (Hp aQ.out aR.out) ?_; rintro v w9 ⟨aj,aS⟩)
   have ak:=ay.out
   rw [←ad.out] at ak
   go_ret
   rw [ak] at aj
   exact⟨Dz aj a3.out.size,a3.out.trans (aS.mono a3.out.size)⟩
end Go.Proofs.YtlakpndhhelliaaGreatDoor
namespace Go.Proofs.YtlakpndhhelliaaGreatDoor
open Go.RowKit
set_option maxHeartbeats 16000000
set_option maxRecDepth 100000
def ER (l:List UInt8):Nat:=l.foldl (fun v b=>10*v+(b.toNat - 48)) 0
theorem Ig (l:List UInt8) (b:UInt8):ER (l++[b])=10*ER l+(b.toNat - 48):=by simp [ER]
theorem GA {d:Nat} (h:d<10):(UInt8.ofNat (48+d)).toNat=48+d:=by
 rw [UInt8.toNat_ofNat']
 omega
theorem IM (u:Nat):ER (Lib.decDigits u)=u:=by
 induction u using Nat.strongRecOn with
 | _ u ih=>
  rw [Lib.decDigits]
  split
  ·next h=>
   have:=Ig [] (UInt8.ofNat (48+u))
   rw [List.nil_append] at this
   rw [this,GA h]
   simp [ER]
  ·next h=>
   rw [Ig,ih (u / 10) (by omega),GA (by omega)]
   omega
theorem J1 (u:Nat):(32:UInt8)∉Lib.decDigits u:=by
 induction u using Nat.strongRecOn with
 | _ u ih=>
  rw [Lib.decDigits]
  have key:∀d,d<10→(32:UInt8)≠UInt8.ofNat (48+d):=fun d hd e=>by
   have:=congrArg UInt8.toNat e
   rw [GA hd] at this
   have y:(32:UInt8).toNat=32:=rfl
   omega
  split
  ·next h=>simpa using key u h
  ·next h=>
   rw [List.mem_append,List.mem_singleton]
   rintro(f | f)
   ·exact ih (u / 10) (by omega) f
   ·exact key (u % 10) (by omega) f
theorem Ou {a b r s:List UInt8} (z:(32:UInt8)∉a) (C:(32:UInt8)∉b) (h:a++32::r=b++32::s):a=b∧r=s:=by
 induction a generalizing b with
 | nil=>
  cases b with
  | nil=>simpa using h
  | cons y b=>
   simp at h
   exact absurd (List.mem_cons.2 (.inl h.1)) C
 | cons x a ih=>
  cases b with
  | nil=>
   simp at h
   exact absurd (List.mem_cons.2 (.inl h.1.symm)) z
  | cons y b=>
   simp only [List.cons_append,List.cons.injEq] at h
   obtain⟨E,F⟩:=ih (fun f=>z (List.mem_cons_of_mem _ f)) (fun f=>C (List.mem_cons_of_mem _ f)) h.2
   exact⟨by rw [h.1,E],F⟩
def Ci (l:List Nat):List UInt8:=l.flatMap fun x=>Lib.decDigits x++[32]
theorem Fq (x:Nat) (l:List Nat):Ci (x::l)=Lib.decDigits x++32::Ci l:=by simp [Ci]
theorem Iq:∀{l k:List Nat},Ci l=Ci k→l=k
 | [],[],_=>rfl
 | [],y::k,h=>by rw [Fq] at h; simp [Ci] at h
 | x::l,[],h=>by rw [Fq] at h; simp [Ci] at h
 | x::l,y::k,h=>by
  rw [Fq,Fq] at h
  obtain⟨f,z⟩:=Ou (J1 x) (J1 y) h
  have:=congrArg ER f
  rw [IM,IM] at this
  rw [this,Iq z]
theorem Pa {l:List Nat} {k x:Nat} (h:l[k]?=some x):Ci (l.take (k+1))=Ci (l.take k)++(Lib.decDigits x++[32]):=by
 unfold Ci
 rw [CF h,List.flatMap_append]
 simp
theorem I1:∀(k u:Nat),u<10 ^ (k+1)→(Lib.decDigits u).length≤k+1
 | 0,u,h=>by rw [Lib.decDigits,dif_pos (by simpa using h)]; simp
 | k+1,u,h=>by
  rw [Lib.decDigits]
  split
  ·simp
  ·rw [List.length_append]
   have:=I1 k (u / 10) (by rw [Nat.pow_succ] at h; omega)
   simp
   omega
theorem NG {l:List Nat} (h:∀x∈l,x<1000000000):(Ci l).length≤l.length*10:=by
 induction l with
 | nil=>simp [Ci]
 | cons x l ih=>
  rw [Fq]
  have z:=I1 8 x (h x List.mem_cons_self)
  have C:=ih fun y f=>h y (List.mem_cons_of_mem _ f)
  simp
  omega
def Ca (w:World):Prop:=Lib.TabIs Tryz.prog w "internal/strconv.uint64pow10" .u64 Lib.pow10Tab
theorem Ca.below {w w':World} (h:Ca w) (f:Below w.heap.size w w'):Ca w':=(Lib.tabBelow_of_tabIs h) w' f
theorem O4 {T e:TypeId} {B b:Nat} {f:List Value} {w w':World} (h:Lib.IsBuilder T e B b f w) (y:Below w.heap.size w w'):Lib.IsBuilder T e B b f w':=by
 have key:∀p,Lib.BuilderAt T e B b p f w→Lib.BuilderAt T e B b p f w':=by
  rintro p ⟨C,v,z,E,F⟩
  exact⟨C,v,by rw [y.block b (Array.getElem?_eq_some_iff.1 z).1]; exact z,B5 E y,F⟩
 exact h.elim (fun x=>.inl (key _ x)) (fun x=>.inr (key _ x))
theorem HB {w:World} {B c:Nat} {A:Option Addr} {l:List Nat} (h:Sl w B 1 Ai A (Aj l)) (hB:B≤w.heap.size) (U:∀x∈l,x<1000000000) (hl:l.length≤4000000) (V:Ca w):
  Calls Tryz.prog 60 #[.slice A (Aj l).length c] w (Ret fun r w'=>r=.string ⟨(Ci l).toArray⟩∧Below w.heap.size w w'):=by
 obtain⟨w1,au,W,Z,af⟩:=Ag w #[.pointer none,.slice none 0 0] 136
 have av:=W.size
 have a2:Lib.IsBuilder 136 5 w.heap.size w.heap.size (Lib.byteCells (Ci (l.take 0))) w1:=.inl ⟨Nat.le_refl _,.slice none 0 0,Z,CT,by simp [Value.ownBlock]⟩
 have ag:=hide a2
 have ah:=hide V
 have a3:=hide U
 have a4:(Aj l).length=l.length:=by simp [Aj]
 obtain⟨n,G⟩:∃n,n=l.length:=⟨_,rfl⟩
 rw [a4,←G]
 have I:=hide G
 have aw:n≤4000000:=by omega
 clear a2 V U Z af G hl a4
 go_enter Tryz.func60,Tryz.ntmps60
 go_wp2_with fail
 go_loopw [8] (fun J wr=>∃(k:Nat),J=.int .i64 (k:Int)∧k≤n∧Hid (Lib.IsBuilder 136 5 w.heap.size w.heap.size (Lib.byteCells (Ci (l.take k))) wr)∧Below w.heap.size w wr) (fun J _=>n - (intOf J).toNat)
 case atStart=>exact⟨0,rfl,Nat.zero_le _,ag,W⟩
 case round=>
  obtain⟨k,rfl,hk,hI,f⟩:=hrel
  by_cases a5:k<n
  ·obtain⟨x,z⟩:=Ay (l:=l) (i:=k) (by rw [←I.out]; exact a5)
   obtain⟨b,ax,d,rfl,ay,hd,hc⟩:=h.at (k:=k) (by simp [Aj]; rw [←I.out]; exact a5)
   have ai:d=(x:Int):=by
    unfold Aj at hd
    rw [Bq z] at hd
    exact(Option.some.inj hd).symm
   subst ai
   have aj:=(f.cell (by show b<_; omega)).trans (hc 0 (by omega))
   simp only [Nat.mul_one,Nat.add_zero,Ai] at aj
   have hX:=hide z
   have aA:=a3.out x (List.mem_of_getElem? z)
   have M:=hide (Pa z)
   have a7:=hide (Nat.le_trans (NG (l:=l.take (k+1)) fun y hy=>a3.out y (List.mem_of_mem_take hy)) (Nat.mul_le_mul_right 10 (List.length_take_le _ _)))
   have al:=hide (ah.out.below f)
   have a8:=hide f
   have aB:=f.size
   clear z hc hd f
   go_wp2_with fail
   refine(Tryz.strconv_Itoa (x:Int) (by omega) (by omega) wr al.out).mono ?_
   rintro e w2 ⟨rfl,kk,os,a9⟩
   have O:Below wr.heap.size wr w2:=by
    subst a9
    refine⟨rfl,rfl,rfl,by simp [Go.Sort.grow],fun b hb=>?_⟩
    unfold Go.Sort.grow
    rw [Array.getElem?_append_left (by simpa using hb)]
    rfl
   rw [Lib.itoa_nonneg]
   have C:=O4 hI.out O
   have aD:=O.size
   clear a9
   go_wp2_with fail
   refine(Tryz.Builder_WriteString w.heap.size w.heap.size _ ⟨(Lib.decDigits x).toArray⟩ w2 C ?_ (by omega)).mono ?_
   ·have E:=a7.out
    rw [M.out,List.length_append,List.length_append] at E
    rw [Lib.byteCells_length]
    show _+(Lib.decDigits x).toArray.size≤_
    simp only [List.size_toArray]
    omega
   rintro e w3 ⟨rfl,F,aa⟩
   rw [Lib.strCells_toArray,←Lib.byteCells_append] at F
   have aE:=aa.size
   go_wp2_with fail
   refine(Tryz.Builder_WriteByte w.heap.size w.heap.size _ 32 w3 (.inr F) ?_ (by omega)).mono ?_
   ·have E:=a7.out
    rw [M.out,List.length_append,List.length_append] at E
    rw [Lib.byteCells_length,List.length_append]
    simp at E
    omega
   rintro e w4 ⟨rfl,ab,ao⟩
   go_wp2_with fail
   refine⟨⟨k+1,by go_num,by omega,?_,((a8.out.trans (O.mono a8.out.size)).trans aa).trans ao⟩,by simp [intOf]; omega⟩
   show Lib.IsBuilder _ _ _ _ _ _
   rw [M.out]
   refine .inr ?_
   have ap:Lib.byteCells (Ci (l.take k)++Lib.decDigits x)++[Value.int .u8 32]=Lib.byteCells (Ci (l.take k)++(Lib.decDigits x++[32])):=by
    rw [←List.append_assoc,Lib.byteCells_append _ [32]]
    rfl
   rw [ap] at ab
   exact ab
  ·have C:=hI.out
   rw [List.take_of_length_le (by rw [←I.out]; omega)] at C
   have F:=hide C
   have ad:=hide f
   clear C hI f
   go_wp2_with (go_at_call 86; refine(Tryz.Builder_String_any w.heap.size w.heap.size (Ci l) wr F.out ad.out.size).mono ?_; rintro e w5 ⟨rfl,aq⟩)
   go_ret
   exact⟨rfl,ad.out.trans aq⟩
end Go.Proofs.YtlakpndhhelliaaGreatDoor
