/-
  Part PS of a proof.
-/
import Derived.Shelf.LaysM
import Derived.Shelf.Strings.Builder1
import Derived.Shelf.Strconv.Itoa3
import Derived.Shelf.Sort.Plain
import Derived.Ground.NamesProg
import Derived.Ground.Names2Prog
import Derived.Shelf.Slices.Clone
import Derived.Shelf.Slices.CompactI
import Derived.Test.YtjejejmeddkciaaGreatDoorProg
import Derived.Shelf.Slices.In.SortNone
import Derived.Lib.RowBridge
import Derived.Lib.AppendIntMem
import Derived.Test.YtjejejmeddkciaaGreatDoorPA
import Derived.Test.YtjejejmeddkciaaGreatDoorPC
set_option maxHeartbeats 16000000
set_option maxRecDepth 100000
set_option linter.unusedVariables false
set_option linter.unusedSimpArgs false
namespace Go.Proofs
open Go.Shelf
def Tryz.lays169_ren:Go.Shelf.Ren:=⟨fun|169=>149|n=>n,fun|70=>226|9=>9|0=>0|72=>229|37=>227|127=>260|3=>3|5=>5|n=>n,fun|n=>n⟩
theorem Tryz.lays169:Go.Proofs.Lays.n169 Tryz.prog Tryz.lays169_ren:={
 mixed:=by kernel_rfl
 f169:=Tryz.func149.trans (congrArg some (by kernel_rfl))
 t0:=Tryz.underlying0
 a0:=Tryz.isAgg0
 z0:=Tryz.sizeOf0
 v0:=Tryz.zeroValue0
 t3:=Tryz.underlying3
 a3:=Tryz.isAgg3
 z3:=Tryz.sizeOf3
 v3:=Tryz.zeroValue3
 t9:=Tryz.underlying9
 a9:=Tryz.isAgg9
 z9:=Tryz.sizeOf9
 v9:=Tryz.zeroValue9
 t37:=Tryz.underlying227
 a37:=Tryz.isAgg227
 z37:=Tryz.sizeOf227
 v37:=Tryz.zeroValue227
 t70:=Tryz.underlying226
 a70:=Tryz.isAgg226
 z70:=Tryz.sizeOf226
 v70:=Tryz.zeroValue226
 t72:=Tryz.underlying229
 a72:=Tryz.isAgg229
 z72:=Tryz.sizeOf229
 v72:=Tryz.zeroValue229
 t127:=Tryz.underlying260
 a127:=Tryz.isAgg260
 z127:=Tryz.sizeOf260
 v127:=Tryz.zeroValue260 }
theorem Tryz.Builder_Extra_169:Builder.Extra Tryz.prog Tryz.lays169_ren:={
 sizeBuilder:=by kernel_rfl
 liesBuilder:=by kernel_rfl
 t5:=Tryz.underlying5
 a5:=Tryz.isAgg5
 z5:=Tryz.sizeOf5
 v5:=Tryz.zeroValue5
 infoByte:=by kernel_rfl
 cellsByte:=by kernel_rfl
 sizeByte:=by kernel_rfl
 neB5:=by decide }
open Go.RowKit in
theorem Tryz.Builder_String_any (B b:Nat) (l:List UInt8) (w:World) (h:Lib.IsBuilder 229 5 B b (Lib.byteCells l) w) (C:B<=w.heap.size):
  Calls Tryz.prog 149 #[.pointer (some ⟨b,0,none⟩)] w fun e w'=>e=.returned (.string ⟨l.toArray⟩)/\Below B w w':=Any.Builder_String_any Tryz.lays169 Tryz.Builder_Extra_169 B b l w h C
def Tryz.laysM171_ren:Go.Shelf.Ren:=⟨fun|171=>147|243=>181|246=>197|283=>201|284=>202|285=>203|286=>204|129=>161|317=>207|318=>208|319=>209|320=>210|337=>211|338=>212|n=>n,fun|3=>3|9=>9|2=>2|4=>4|171=>287|0=>0|53=>250|37=>227|5=>5|173=>289|212=>302|51=>248|20=>20|213=>303|46=>199|232=>306|233=>307|n=>n,fun|17=>2|18=>3|19=>4|n=>n⟩
theorem Tryz.laysM171:Go.Proofs.LaysM.n171 Tryz.prog Tryz.laysM171_ren:={
 mixed:=by kernel_rfl
 f129:=Tryz.func161.trans (congrArg some (by kernel_rfl))
 f171:=Tryz.func147.trans (congrArg some (by kernel_rfl))
 f243:=Tryz.func181.trans (congrArg some (by kernel_rfl))
 f246:=Tryz.func197.trans (congrArg some (by kernel_rfl))
 f283:=Tryz.func201.trans (congrArg some (by kernel_rfl))
 f284:=Tryz.func202.trans (congrArg some (by kernel_rfl))
 f285:=Tryz.func203.trans (congrArg some (by kernel_rfl))
 f286:=Tryz.func204.trans (congrArg some (by kernel_rfl))
 f317:=Tryz.func207.trans (congrArg some (by kernel_rfl))
 f318:=Tryz.func208.trans (congrArg some (by kernel_rfl))
 f319:=Tryz.func209.trans (congrArg some (by kernel_rfl))
 f320:=Tryz.func210.trans (congrArg some (by kernel_rfl))
 f337:=Tryz.func211.trans (congrArg some (by kernel_rfl))
 f338:=Tryz.func212.trans (congrArg some (by kernel_rfl))
 t0:=Tryz.underlying0
 a0:=Tryz.isAgg0
 z0:=Tryz.sizeOf0
 v0:=Tryz.zeroValue0
 t2:=Tryz.underlying2
 a2:=Tryz.isAgg2
 z2:=Tryz.sizeOf2
 v2:=Tryz.zeroValue2
 t3:=Tryz.underlying3
 a3:=Tryz.isAgg3
 z3:=Tryz.sizeOf3
 v3:=Tryz.zeroValue3
 t4:=Tryz.underlying4
 a4:=Tryz.isAgg4
 z4:=Tryz.sizeOf4
 v4:=Tryz.zeroValue4
 t5:=Tryz.underlying5
 a5:=Tryz.isAgg5
 z5:=Tryz.sizeOf5
 v5:=Tryz.zeroValue5
 t9:=Tryz.underlying9
 a9:=Tryz.isAgg9
 z9:=Tryz.sizeOf9
 v9:=Tryz.zeroValue9
 t20:=Tryz.underlying20
 a20:=Tryz.isAgg20
 z20:=Tryz.sizeOf20
 v20:=Tryz.zeroValue20
 t37:=Tryz.underlying227
 a37:=Tryz.isAgg227
 z37:=Tryz.sizeOf227
 v37:=Tryz.zeroValue227
 t46:=Tryz.underlying199
 a46:=Tryz.isAgg199
 z46:=Tryz.sizeOf199
 v46:=Tryz.zeroValue199
 t51:=Tryz.underlying248
 a51:=Tryz.isAgg248
 z51:=Tryz.sizeOf248
 v51:=Tryz.zeroValue248
 t53:=Tryz.underlying250
 a53:=Tryz.isAgg250
 z53:=Tryz.sizeOf250
 v53:=Tryz.zeroValue250
 t171:=Tryz.underlying287
 a171:=Tryz.isAgg287
 z171:=Tryz.sizeOf287
 v171:=Tryz.zeroValue287
 t173:=Tryz.underlying289
 a173:=Tryz.isAgg289
 z173:=Tryz.sizeOf289
 v173:=Tryz.zeroValue289
 t212:=Tryz.underlying302
 a212:=Tryz.isAgg302
 z212:=Tryz.sizeOf302
 v212:=Tryz.zeroValue302
 t213:=Tryz.underlying303
 a213:=Tryz.isAgg303
 z213:=Tryz.sizeOf303
 t232:=Tryz.underlying306
 a232:=Tryz.isAgg306
 z232:=Tryz.sizeOf306
 v232:=Tryz.zeroValue306
 t233:=Tryz.underlying307
 a233:=Tryz.isAgg307
 z233:=Tryz.sizeOf307
 v233:=Tryz.zeroValue307
 g17:=by kernel_rfl
 g18:=by kernel_rfl
 g19:=by kernel_rfl
 i0:=by kernel_rfl
 i2:=by kernel_rfl
 i3:=by kernel_rfl
 i4:=by kernel_rfl
 i5:=by kernel_rfl
 i9:=by kernel_rfl
 i20:=by kernel_rfl
 i37:=by kernel_rfl
 i46:=by kernel_rfl
 i51:=by kernel_rfl
 i53:=by kernel_rfl
 i171:=by kernel_rfl
 i173:=by kernel_rfl
 i212:=by kernel_rfl
 i232:=by kernel_rfl
 i233:=by kernel_rfl
 m17:=by kernel_rfl
 m18:=by kernel_rfl
 m19:=by kernel_rfl }
open Go.RowKit Go.Sort Go.Lib in
theorem Tryz.strconv_Itoa (n:Int) (h0:-9223372036854775808<=n) (h1:n<=9223372036854775807) (w:World) (h:Lib.TabIs Tryz.prog w "internal/strconv.uint64pow10" .u64 Lib.pow10Tab):
  Calls Tryz.prog 147 #[.int .i64 n] w fun e w'=>e=.returned (.string ⟨(Lib.itoa n).toArray⟩)/\∃k os,w'=grow (w.drewN k) os:=Any.strconv_Itoa Tryz.laysM171 n h0 h1 w h
def Tryz.lays189_ren:Go.Shelf.Ren:=⟨fun|189=>60|125=>121|257=>120|128=>160|129=>161|294=>151|295=>152|296=>153|297=>154|298=>155|299=>156|216=>157|300=>158|301=>159|328=>182|329=>183|330=>184|331=>185|332=>186|215=>187|343=>198|n=>n,fun|28=>24|3=>3|46=>199|0=>0|51=>248|53=>250|4=>4|183=>241|182=>240|131=>177|5=>5|9=>9|218=>261|222=>265|228=>279|229=>194|n=>n,fun|n=>n⟩
theorem Tryz.lays189:Go.Proofs.Lays.n189 Tryz.prog Tryz.lays189_ren:={
 mixed:=by kernel_rfl
 f125:=Tryz.func121.trans (congrArg some (by kernel_rfl))
 f128:=Tryz.func160.trans (congrArg some (by kernel_rfl))
 f129:=Tryz.func161.trans (congrArg some (by kernel_rfl))
 f189:=Tryz.func60.trans (congrArg some (by kernel_rfl))
 f215:=Tryz.func187.trans (congrArg some (by kernel_rfl))
 f216:=Tryz.func157.trans (congrArg some (by kernel_rfl))
 f257:=Tryz.func120.trans (congrArg some (by kernel_rfl))
 f294:=Tryz.func151.trans (congrArg some (by kernel_rfl))
 f295:=Tryz.func152.trans (congrArg some (by kernel_rfl))
 f296:=Tryz.func153.trans (congrArg some (by kernel_rfl))
 f297:=Tryz.func154.trans (congrArg some (by kernel_rfl))
 f298:=Tryz.func155.trans (congrArg some (by kernel_rfl))
 f299:=Tryz.func156.trans (congrArg some (by kernel_rfl))
 f300:=Tryz.func158.trans (congrArg some (by kernel_rfl))
 f301:=Tryz.func159.trans (congrArg some (by kernel_rfl))
 f328:=Tryz.func182.trans (congrArg some (by kernel_rfl))
 f329:=Tryz.func183.trans (congrArg some (by kernel_rfl))
 f330:=Tryz.func184.trans (congrArg some (by kernel_rfl))
 f331:=Tryz.func185.trans (congrArg some (by kernel_rfl))
 f332:=Tryz.func186.trans (congrArg some (by kernel_rfl))
 f343:=Tryz.func198.trans (congrArg some (by kernel_rfl))
 t0:=Tryz.underlying0
 a0:=Tryz.isAgg0
 z0:=Tryz.sizeOf0
 v0:=Tryz.zeroValue0
 t3:=Tryz.underlying3
 a3:=Tryz.isAgg3
 z3:=Tryz.sizeOf3
 v3:=Tryz.zeroValue3
 t4:=Tryz.underlying4
 a4:=Tryz.isAgg4
 z4:=Tryz.sizeOf4
 v4:=Tryz.zeroValue4
 t5:=Tryz.underlying5
 a5:=Tryz.isAgg5
 z5:=Tryz.sizeOf5
 v5:=Tryz.zeroValue5
 t9:=Tryz.underlying9
 a9:=Tryz.isAgg9
 z9:=Tryz.sizeOf9
 v9:=Tryz.zeroValue9
 t28:=Tryz.underlying24
 a28:=Tryz.isAgg24
 z28:=Tryz.sizeOf24
 v28:=Tryz.zeroValue24
 t46:=Tryz.underlying199
 a46:=Tryz.isAgg199
 z46:=Tryz.sizeOf199
 v46:=Tryz.zeroValue199
 t51:=Tryz.underlying248
 a51:=Tryz.isAgg248
 z51:=Tryz.sizeOf248
 v51:=Tryz.zeroValue248
 t53:=Tryz.underlying250
 a53:=Tryz.isAgg250
 z53:=Tryz.sizeOf250
 v53:=Tryz.zeroValue250
 t131:=Tryz.underlying177
 a131:=Tryz.isAgg177
 z131:=Tryz.sizeOf177
 v131:=Tryz.zeroValue177
 t182:=Tryz.underlying240
 a182:=Tryz.isAgg240
 z182:=Tryz.sizeOf240
 v182:=Tryz.zeroValue240
 t183:=Tryz.underlying241
 a183:=Tryz.isAgg241
 z183:=Tryz.sizeOf241
 v183:=Tryz.zeroValue241
 t218:=Tryz.underlying261
 a218:=Tryz.isAgg261
 z218:=Tryz.sizeOf261
 v218:=Tryz.zeroValue261
 t222:=Tryz.underlying265
 a222:=Tryz.isAgg265
 z222:=Tryz.sizeOf265
 v222:=Tryz.zeroValue265
 t228:=Tryz.underlying279
 a228:=Tryz.isAgg279
 z228:=Tryz.sizeOf279
 v228:=Tryz.zeroValue279
 t229:=Tryz.underlying194
 a229:=Tryz.isAgg194
 z229:=Tryz.sizeOf194
 v229:=Tryz.zeroValue194 }
open Go.Sort Go.RowKit in
theorem Tryz.slices_Sort_int (blk off cap:Nat) (h:List Int) (w:World) (C:Holds (Value.int .i64) w blk off h.toArray) (E:blk<w.heap.size) (F:h.length<4611686018427387904):
  Calls Tryz.prog 60 #[.slice (some ⟨blk,off,none⟩) h.length cap] w fun e w'=>
   e=.returned (.tuple #[])/\∃n os,w'=grow (putRow (Value.int .i64) (Sort.ahead w n) blk off (h.mergeSort fun x y=>decide (x<=y)).toArray) os:=Any.slices_Sort_int Tryz.lays189 blk off cap h w C E F
def Tryz.laysNm215_ren:Go.Shelf.Ren:=⟨fun|15=>59|n=>n,fun|22=>24|3=>3|4=>4|n=>n,fun|n=>n⟩
theorem Tryz.laysNm215:Go.Proofs.Lays2.n15 Tryz.prog Tryz.laysNm215_ren:={
 mixed:=by kernel_rfl
 f15:=Tryz.func59.trans (congrArg some (by kernel_rfl))
 t3:=Tryz.underlying3
 a3:=Tryz.isAgg3
 z3:=Tryz.sizeOf3
 v3:=Tryz.zeroValue3
 t4:=Tryz.underlying4
 a4:=Tryz.isAgg4
 z4:=Tryz.sizeOf4
 v4:=Tryz.zeroValue4
 t22:=Tryz.underlying24
 a22:=Tryz.isAgg24
 z22:=Tryz.sizeOf24
 v22:=Tryz.zeroValue24
 i3:=by kernel_rfl }
open Go.RowKit Go.Lib in
theorem Tryz.slices_Clone_int (b off n c:Nat) (h:List Int) (w:World) (G:n<=h.length) (E:n*8<=140737488355328) (F:∀j,j<h.length->w.cell? ⟨b,off+j,none⟩=some (.int .i64 (h.getD j 0))):
  Calls Tryz.prog 59 #[.slice (some ⟨b,off,none⟩) n c] w fun e w'=>∃C,e=.returned C/\w'.ownsRow w.heap.size 3 1 C n ((h.take n).map (Value.int .i64))/\C≠.slice none 0 0/\Below w.heap.size w w':=Any.slices_Clone_int Tryz.laysNm215 b off n c h w G E F
open Go.RowKit Go.Lib in
theorem Tryz.slices_Clone_int_nil (n c:Nat) (w:World):
  Calls Tryz.prog 59 #[.slice none n c] w fun e w'=>e=.returned (.slice none 0 0)/\w'=w:=Any.slices_Clone_int_nil Tryz.laysNm215 n c w
def Tryz.laysNm220_ren:Go.Shelf.Ren:=⟨fun|20=>61|n=>n,fun|22=>24|3=>3|4=>4|0=>0|n=>n,fun|n=>n⟩
theorem Tryz.laysNm220:Go.Proofs.Lays2.n20 Tryz.prog Tryz.laysNm220_ren:={
 mixed:=by kernel_rfl
 f20:=Tryz.func61.trans (congrArg some (by kernel_rfl))
 t0:=Tryz.underlying0
 a0:=Tryz.isAgg0
 z0:=Tryz.sizeOf0
 v0:=Tryz.zeroValue0
 t3:=Tryz.underlying3
 a3:=Tryz.isAgg3
 z3:=Tryz.sizeOf3
 v3:=Tryz.zeroValue3
 t4:=Tryz.underlying4
 a4:=Tryz.isAgg4
 z4:=Tryz.sizeOf4
 v4:=Tryz.zeroValue4
 t22:=Tryz.underlying24
 a22:=Tryz.isAgg24
 z22:=Tryz.sizeOf24
 v22:=Tryz.zeroValue24
 i3:=by kernel_rfl }
open Go.RowKit Go.Lib Go.Sort in
theorem Tryz.slices_Compact_int (blk off cap:Nat) (h:List Int) (w:World) (C:Holds (Value.int .i64) w blk off h.toArray) (F:h.length<=9223372036854775807) (E:h.length<=cap):
  Calls Tryz.prog 61 #[.slice (some ⟨blk,off,none⟩) h.length cap] w fun e w'=>e=.returned (.slice (some ⟨blk,off,none⟩) (Lib.compact h).length cap)/\∃q,w'=putRow (Value.int .i64) (Sort.ahead w q) blk off (Lib.compact h++List.replicate (h.length - (Lib.compact h).length) 0).toArray:=Any.slices_Compact_int Tryz.laysNm220 blk off cap h w C F E
open Go.RowKit Go.Lib Go.Sort in
theorem Tryz.slices_Compact_int_empty (a:Option Addr) (cap:Nat) (w:World):
  Calls Tryz.prog 61 #[.slice a 0 cap] w fun e w'=>e=.returned (.slice a 0 cap)/\w'=w:=Any.slices_Compact_int_empty Tryz.laysNm220 a cap w
def Tryz.lays166_ren:Go.Shelf.Ren:=⟨fun|166=>146|240=>180|276=>196|n=>n,fun|0=>0|3=>3|4=>4|5=>5|9=>9|20=>20|37=>227|70=>226|72=>229|75=>231|80=>236|164=>276|n=>n,fun|n=>n⟩
theorem Tryz.lays166:Go.Proofs.Lays.n166 Tryz.prog Tryz.lays166_ren:={
 mixed:=by kernel_rfl
 f166:=Tryz.func146.trans (congrArg some (by kernel_rfl))
 f240:=Tryz.func180.trans (congrArg some (by kernel_rfl))
 f276:=Tryz.func196.trans (congrArg some (by kernel_rfl))
 t0:=Tryz.underlying0
 a0:=Tryz.isAgg0
 z0:=Tryz.sizeOf0
 v0:=Tryz.zeroValue0
 t3:=Tryz.underlying3
 a3:=Tryz.isAgg3
 z3:=Tryz.sizeOf3
 v3:=Tryz.zeroValue3
 t4:=Tryz.underlying4
 a4:=Tryz.isAgg4
 z4:=Tryz.sizeOf4
 v4:=Tryz.zeroValue4
 t9:=Tryz.underlying9
 a9:=Tryz.isAgg9
 z9:=Tryz.sizeOf9
 v9:=Tryz.zeroValue9
 t20:=Tryz.underlying20
 a20:=Tryz.isAgg20
 z20:=Tryz.sizeOf20
 v20:=Tryz.zeroValue20
 t37:=Tryz.underlying227
 a37:=Tryz.isAgg227
 z37:=Tryz.sizeOf227
 v37:=Tryz.zeroValue227
 t70:=Tryz.underlying226
 a70:=Tryz.isAgg226
 z70:=Tryz.sizeOf226
 v70:=Tryz.zeroValue226
 t72:=Tryz.underlying229
 a72:=Tryz.isAgg229
 z72:=Tryz.sizeOf229
 v72:=Tryz.zeroValue229
 t75:=Tryz.underlying231
 a75:=Tryz.isAgg231
 z75:=Tryz.sizeOf231
 v75:=Tryz.zeroValue231
 t164:=Tryz.underlying276
 a164:=Tryz.isAgg276
 z164:=Tryz.sizeOf276
 v164:=Tryz.zeroValue276 }
theorem Tryz.Builder_Extra_166:Builder.Extra Tryz.prog Tryz.lays166_ren:={
 sizeBuilder:=by kernel_rfl
 liesBuilder:=by kernel_rfl
 t5:=Tryz.underlying5
 a5:=Tryz.isAgg5
 z5:=Tryz.sizeOf5
 v5:=Tryz.zeroValue5
 infoByte:=by kernel_rfl
 cellsByte:=by kernel_rfl
 sizeByte:=by kernel_rfl
 neB5:=by decide }
def Tryz.lays167_ren:Go.Shelf.Ren:=⟨fun|167=>148|240=>180|276=>196|n=>n,fun|0=>0|3=>3|4=>4|5=>5|9=>9|20=>20|37=>227|70=>226|72=>229|75=>231|80=>236|164=>276|n=>n,fun|n=>n⟩
theorem Tryz.lays167:Go.Proofs.Lays.n167 Tryz.prog Tryz.lays167_ren:={
 mixed:=by kernel_rfl
 f167:=Tryz.func148.trans (congrArg some (by kernel_rfl))
 f240:=Tryz.func180.trans (congrArg some (by kernel_rfl))
 f276:=Tryz.func196.trans (congrArg some (by kernel_rfl))
 t0:=Tryz.underlying0
 a0:=Tryz.isAgg0
 z0:=Tryz.sizeOf0
 v0:=Tryz.zeroValue0
 t4:=Tryz.underlying4
 a4:=Tryz.isAgg4
 z4:=Tryz.sizeOf4
 v4:=Tryz.zeroValue4
 t5:=Tryz.underlying5
 a5:=Tryz.isAgg5
 z5:=Tryz.sizeOf5
 v5:=Tryz.zeroValue5
 t9:=Tryz.underlying9
 a9:=Tryz.isAgg9
 z9:=Tryz.sizeOf9
 v9:=Tryz.zeroValue9
 t20:=Tryz.underlying20
 a20:=Tryz.isAgg20
 z20:=Tryz.sizeOf20
 v20:=Tryz.zeroValue20
 t37:=Tryz.underlying227
 a37:=Tryz.isAgg227
 z37:=Tryz.sizeOf227
 v37:=Tryz.zeroValue227
 t70:=Tryz.underlying226
 a70:=Tryz.isAgg226
 z70:=Tryz.sizeOf226
 v70:=Tryz.zeroValue226
 t72:=Tryz.underlying229
 a72:=Tryz.isAgg229
 z72:=Tryz.sizeOf229
 v72:=Tryz.zeroValue229
 t75:=Tryz.underlying231
 a75:=Tryz.isAgg231
 z75:=Tryz.sizeOf231
 v75:=Tryz.zeroValue231
 t164:=Tryz.underlying276
 a164:=Tryz.isAgg276
 z164:=Tryz.sizeOf276
 v164:=Tryz.zeroValue276 }
theorem Tryz.Builder_Extra_167:Builder.Extra Tryz.prog Tryz.lays167_ren:={
 sizeBuilder:=by kernel_rfl
 liesBuilder:=by kernel_rfl
 t5:=Tryz.underlying5
 a5:=Tryz.isAgg5
 z5:=Tryz.sizeOf5
 v5:=Tryz.zeroValue5
 infoByte:=by kernel_rfl
 cellsByte:=by kernel_rfl
 sizeByte:=by kernel_rfl
 neB5:=by decide }
open Go.RowKit in
theorem Tryz.Builder_WriteByte (B b:Nat) (C:List Value) (c:Int) (w:World) (h:Lib.IsBuilder 229 5 B b C w) (F:C.length+1<=140737488355328) (E:B<=w.heap.size):
  Calls Tryz.prog 148 #[.pointer (some ⟨b,0,none⟩),.int .u8 c] w fun e w'=>e=.returned .nilIface/\(Lib.BuilderAt 229 5 B b (.pointer (some ⟨b,0,none⟩)) (C++[.int .u8 c]) w'/\Below B w w'):=Any.Builder_WriteByte Tryz.lays167 Tryz.Builder_Extra_167 B b C c w h F E
open Go.RowKit in
theorem Tryz.Builder_WriteString (B b:Nat) (C:List Value) (s:ByteArray) (w:World) (h:Lib.IsBuilder 229 5 B b C w) (F:C.length+s.size<=140737488355328) (E:B<=w.heap.size):
  Calls Tryz.prog 146 #[.pointer (some ⟨b,0,none⟩),.string s] w fun e w'=>e=.returned (.tuple #[.int .i64 s.size,.nilIface])/\(Lib.BuilderAt 229 5 B b (.pointer (some ⟨b,0,none⟩)) (C++Lib.strCells s) w'/\Below B w w'):=Any.Builder_WriteString Tryz.lays166 Tryz.Builder_Extra_166 B b C s w h F E
end Go.Proofs
namespace Go.Proofs.YtjejejmeddkciaaGreatDoor
open Go.RowKit Go.Sort
set_option maxHeartbeats 16000000
set_option maxRecDepth 100000
def CL (l:List Int):List Int:=Lib.compact (l.mergeSort fun x y=>decide (x<=y))
theorem Jc (d:Array Int) (G:∀i j,i<=j->j<d.size->d[i]!<=d[j]!):∀m,m<=d.size->Asc (Lib.compactUpTo d m)/\∀x,x∈Lib.compactUpTo d m↔∃j,j<m/\d[j]! =x:=by
 intro m
 induction m with
 | zero=>exact fun _=>⟨List.Pairwise.nil,fun _=>⟨fun h=>by simp [Lib.compactUpTo] at h,fun⟨j,E,_⟩=>by omega⟩⟩
 | succ m ih=>
  intro O;obtain⟨h1,F⟩:=ih (by omega);rw [Lib.compactUpTo_succ];cases C:Lib.keeps d m
  ·simp only [Bool.false_eq_true,if_false,List.append_nil];refine⟨h1,fun x=>(F x).trans ⟨fun⟨j,E,e⟩=>⟨j,by omega,e⟩,fun⟨j,E,e⟩=>?_⟩⟩;rcases Nat.lt_or_ge j m with h|h
   ·exact⟨j,h,e⟩
   ·obtain rfl:j=m:=by omega
    simp [Lib.keeps] at C;exact⟨j - 1,by omega,by rw [<-C.2];exact e⟩
  ·simp only [if_true];refine⟨List.pairwise_append.2 ⟨h1,by simp,fun x I y J=>?_⟩,fun x=>?_⟩
   ·rw [List.mem_singleton.1 J];obtain⟨j,E,e⟩:=(F x).1 I;have a1:=G j (m - 1) (by omega) (by omega);have M:=G (m - 1) m (by omega) (by omega);simp [Lib.keeps] at C;rcases C with C|C
    ·omega
    ·have:d[m]!≠d[m - 1]!:=C;omega
   ·rw [List.mem_append,List.mem_singleton,F x];constructor
    ·rintro(⟨j,E,e⟩|rfl)
     ·exact⟨j,by omega,e⟩
     ·exact⟨m,by omega,rfl⟩
    ·rintro⟨j,E,e⟩;rcases Nat.lt_or_ge j m with h|h
     ·exact .inl ⟨j,h,e⟩
     ·obtain rfl:j=m:=by omega
      exact .inr e.symm
theorem Tc (l:List Int):(l.mergeSort fun x y=>decide (x<=y)).Pairwise (·<=·):=by
 have:=List.pairwise_mergeSort (le:=fun x y:Int=>decide (x<=y)) (fun a b c h1 C=>by simp at*;omega) (fun a b=>by simp;omega) l;exact this.imp fun h=>by simpa using h
theorem Lo (l:List Int) (i j:Nat) (E:i<=j) (C:j<((l.mergeSort fun x y=>decide (x<=y)).toArray).size):(l.mergeSort fun x y=>decide (x<=y)).toArray[i]!<=(l.mergeSort fun x y=>decide (x<=y)).toArray[j]!:=by
 have h:=Tc l;generalize l.mergeSort (fun x y=>decide (x<=y))=s at*;simp only [List.size_toArray] at C;rcases Nat.lt_or_ge i j with h1|h1
 ·have:=List.pairwise_iff_getElem.1 h i j (by omega) C h1;simpa [C,show i<s.length from by omega] using this
 ·obtain rfl:i=j:=by omega
  exact Int.le_refl _
theorem Mf (l:List Int):Asc (CL l):=(Jc _ (Lo l) _ (by simp)).1
theorem J3 {l:List Int} {x:Int}:x∈CL l↔x∈l:=by
 have h:=(Jc _ (Lo l) ((l.mergeSort fun x y=>decide (x<=y)).length) (by simp)).2 x;unfold CL Lib.compact;rw [h];have E:x∈(l.mergeSort fun x y=>decide (x<=y))↔x∈l:=(List.mergeSort_perm l _).mem_iff;rw [<-E];generalize l.mergeSort (fun x y=>decide (x<=y))=s;constructor
 ·rintro⟨j,C,rfl⟩;simp [C]
 ·intro F;obtain⟨j,C,rfl⟩:=List.getElem_of_mem F;exact⟨j,C,by simp [C]⟩
theorem Ta (l:List Int):(CL l).length<=l.length:=by
 have:=Go.Lib.compact_length_le (l.mergeSort fun x y=>decide (x<=y))
 rwa [List.length_mergeSort] at this
theorem Ip {l:List Int} {m:List Bool} (h:∀x,x∈l↔∃q:Nat,x=(q:Int)/\m[q]?=some true):CL l=AJ m:=
 IU (Mf l) (Me m) fun x=>(J3.trans (h x)).trans Ee.symm
theorem Tb:CL []=[]:=List.eq_nil_iff_forall_not_mem.2 fun _ h=>absurd (J3.1 h) List.not_mem_nil
theorem Kf {w:World} {base size n m:Nat} {e:TypeId} {g cap:Nat} {xs:List Value} (h:w.ownsRow base e size (.slice (some ⟨g,0,none⟩) n cap) n xs) (U:m<=n):
  w.ownsRow base e size (.slice (some ⟨g,0,none⟩) m cap) m (xs.take (m*size)):=by
 obtain⟨O,E⟩:=h;have V:m*size<=n*size:=Nat.mul_le_mul_right _ U;refine⟨by rw [List.length_take,O];omega,?_⟩;rcases E with⟨h1,_⟩|⟨g',Z,F,C,G,M,hc,E,W,ht⟩
 ·cases h1
 ·injection C with C _ I
  injection C with C
  injection C with J
  subst J I;refine .inr ⟨g,cap,F,rfl,G,M,by omega,E,W,?_⟩;rw [<-ht,List.take_take,Nat.min_eq_left V]
theorem Kb {w:World} {base n g cap:Nat} {e:TypeId} {l:List Int} (h:w.ownsRow base e 1 (.slice (some ⟨g,0,none⟩) n cap) n (l.map (Value.int .i64))):Holds (Value.int .i64) w g 0 l.toArray:=by
 have W:l.length=n:=by simpa using h.1
 rcases h.2 with⟨h1,_⟩|⟨O,M,F,C,U,G,V,hx,Z,ht⟩
 ·cases h1
 ·injection C with C _ I
  injection C with C
  injection C with J
  subst J I;intro j E;simp only [List.size_toArray] at E;refine⟨?_,Blk.frozen (t:=e) (cs:=F) G _⟩;rw [cell_of_row w g _ F e (0,0) G,Nat.zero_add];have h1:(l.map (Value.int .i64))[j]?=some (.int .i64 l[j]):=AX (List.getElem?_eq_getElem E);rw [<-ht,List.getElem?_take] at h1;split at h1
  ·rw [show l.toArray[j]! =l[j] from by simp [E]];simpa using h1
  ·cases h1
theorem HR {w:World} {base n g cap k:Nat} {e:TypeId} {xs:List Value} (h:w.ownsRow base e 1 (.slice (some ⟨g,0,none⟩) n cap) n xs) (d:List Int) (U:d.length=n) (os:Array Obj):
  (grow (putRow (Value.int .i64) (Sort.ahead w k) g 0 d.toArray) os).ownsRow base e 1 (.slice (some ⟨g,0,none⟩) n cap) n (d.map (Value.int .i64))/\Ac w (grow (putRow (Value.int .i64) (Sort.ahead w k) g 0 d.toArray) os) (fun b=>b=g):=by
 rcases h.2 with⟨h1,_⟩|⟨g',a5,F,E,C,I,M,hx,hs,ht⟩
 ·cases h1
 ·injection E with E _ O
  injection E with E
  injection E with V
  subst V O;have W:=(Array.getElem?_eq_some_iff.1 I).1;have G:∀b,b<w.heap.size->(grow (putRow (Value.int .i64) (Sort.ahead w k) g 0 d.toArray) os).heap[b]?=if g=b then (w.heap[b]?).map (onCells (putCells (Value.int .i64) 0 d.toArray)) else w.heap[b]?:=fun b C=>by
   unfold grow putRow mapBlock Sort.ahead;rw [Array.getElem?_append_left (by simpa using C),Array.getElem?_modify]
  refine⟨⟨by simp [U],.inr ⟨g,cap,putCells (Value.int .i64) 0 d.toArray F,rfl,C,?_,M,hx,?_,?_⟩⟩,rfl,rfl,rfl,?_,fun b C hn=>?_⟩
  ·rw [G g W,if_pos rfl,I];rfl
  ·unfold putCells;rw [Array.size_mapIdx];exact hs
  ·apply List.ext_getElem?;intro j;rw [List.getElem?_take];by_cases hj:j<n
   ·rw [if_pos (by omega)];have Z:j<F.size:=by omega
    have J:j<d.length:=by omega
    rw [AX (List.getElem?_eq_getElem J)];unfold putCells;rw [Array.getElem?_toList,Array.getElem?_mapIdx,Array.getElem?_eq_getElem Z];simp [J]
   ·rw [if_neg (by omega),List.getElem?_eq_none (by simp;omega)]
  ·simp [grow,putRow,mapBlock,Sort.ahead]
  ·rw [G b C,if_neg fun e=>hn e.symm]
theorem M2 {w:World} {base n g cap k q:Nat} {l:List Int} {os:Array Obj} (h:w.ownsRow base 3 1 (.slice (some ⟨g,0,none⟩) n cap) n (l.map (Value.int .i64))) (J:base<=w.heap.size):
  (putRow (Value.int .i64) (Sort.ahead (grow (putRow (Value.int .i64) (Sort.ahead w k) g 0 (l.mergeSort fun x y=>decide (x<=y)).toArray) os) q) g 0 (Lib.compact (l.mergeSort fun x y=>decide (x<=y))++List.replicate ((l.mergeSort fun x y=>decide (x<=y)).length - (Lib.compact (l.mergeSort fun x y=>decide (x<=y))).length) 0).toArray).ownsRow base 3 1 (.slice (some ⟨g,0,none⟩) (CL l).length cap) (CL l).length ((CL l).map (Value.int .i64))/\
  Below base w (putRow (Value.int .i64) (Sort.ahead (grow (putRow (Value.int .i64) (Sort.ahead w k) g 0 (l.mergeSort fun x y=>decide (x<=y)).toArray) os) q) g 0 (Lib.compact (l.mergeSort fun x y=>decide (x<=y))++List.replicate ((l.mergeSort fun x y=>decide (x<=y)).length - (Lib.compact (l.mergeSort fun x y=>decide (x<=y))).length) 0).toArray):=by
 have F:l.length=n:=by simpa using h.1
 have I:=Bb h (k:=g) rfl;have M:(l.mergeSort fun x y=>decide (x<=y)).length=n:=by rw [List.length_mergeSort,F]
 have U:=Go.Lib.compact_length_le (l.mergeSort fun x y=>decide (x<=y));obtain⟨h1,O⟩:=HR (k:=k) h _ M os;obtain⟨C,G⟩:=HR (k:=q) h1 (Lib.compact (l.mergeSort fun x y=>decide (x<=y))++List.replicate ((l.mergeSort fun x y=>decide (x<=y)).length - (Lib.compact (l.mergeSort fun x y=>decide (x<=y))).length) 0) (by rw [List.length_append,List.length_replicate];omega) #[];rw [grow_empty] at C G;have E:=Kf C (m:=(CL l).length) (by rw [<-F];exact Ta l);refine⟨?_,(O.trans G fun _ _ e=>e).below J fun b I e=>by omega⟩;rw [Nat.mul_one,List.map_append,List.take_append_of_le_length (by simp [CL]),List.take_of_length_le (by simp [CL])] at E;exact E
theorem Td (A:Option Addr) (c:Nat) (w:World):
  Calls Tryz.prog 27 #[.slice A 0 c] w (Ret fun r w'=>w'.ownsRow w.heap.size 3 1 r 0 []/\Below w.heap.size w w'):=by
 cases A with
 | none=>
  go_enter Tryz.func27,Tryz.ntmps27
  go_wp2_with (first
   | (go_at_call 59;refine(Tryz.slices_Clone_int_nil 0 c w).mono ?_;rintro e w' ⟨rfl,rfl⟩)
   | (go_at_call 60;refine(Any.slices_Sort_int_none Tryz.lays189 none 0 w').mono ?_;rintro e w2 ⟨rfl,rfl⟩)
   | (go_at_call 61;refine(Tryz.slices_Compact_int_empty none 0 _).mono ?_;rintro e G ⟨rfl,rfl⟩))
  go_ret;exact⟨Cb,Below.refl _ _⟩
 | some a=>
  go_enter Tryz.func27,Tryz.ntmps27
  go_wp2_with (first
   | (go_at_call 59;refine(Any.slices_Clone_int_zero Tryz.laysNm215 a c w).mono ?_;rintro e F ⟨I,rfl,C,-,E⟩;obtain⟨h,c1,rfl⟩:=AH C)
   | (go_at_call 60;refine(Any.slices_Sort_int_none Tryz.lays189 h c1 F).mono ?_;rintro e w2 ⟨rfl,rfl⟩)
   | (go_at_call 61;refine(Tryz.slices_Compact_int_empty h c1 _).mono ?_;rintro e G ⟨rfl,rfl⟩))
  go_ret;exact⟨C,E⟩
theorem GY {w:World} {B:Nat} {A:Option Addr} {c:Nat} {l:List Int} (h:Sl w B 1 Ai A l) (hl:l.length<=4000000):
  Calls Tryz.prog 27 #[.slice A l.length c] w (Ret fun r w'=>w'.ownsRow w.heap.size 3 1 r (CL l).length ((CL l).map (Value.int .i64))/\Below w.heap.size w w'):=by
 by_cases O:l=[]
 ·subst O;rw [Tb];exact Td A c w
 ·obtain⟨b,off,rfl,ae,Z⟩:=h.2 O;have a2:∀j,j<l.length->w.cell? ⟨b,off+j,none⟩=some (.int .i64 (l.getD j 0)):=fun j hj=>by
   have:=Z j _ (List.getElem?_eq_getElem hj) 0 (by omega);rw [getD_some (List.getElem?_eq_getElem hj)];simpa [Ai] using this
  have ah:l.length≠0:=fun e=>O (List.length_eq_zero_iff.1 e);obtain⟨n,E⟩:∃n,n=l.length:=⟨_,rfl⟩;obtain⟨m,a5⟩:∃m,m=(l.mergeSort fun x y=>decide (x<=y)).length:=⟨_,rfl⟩;have ag:m=n:=by rw [a5,E,List.length_mergeSort]
  have C:=hide E;rw [<-E];clear E a5;go_enter Tryz.func27,Tryz.ntmps27;go_wp2_with fail;refine(Tryz.slices_Clone_int b off n c l w (Nat.le_of_eq C.out) (by have:=C.out;omega) a2).mono ?_;rintro e w1 ⟨v',rfl,F,a6,I⟩;rw [List.take_of_length_le (Nat.le_of_eq C.out.symm)] at F;obtain⟨g,cap,rfl,a3⟩:∃g cap,v'=.slice (some ⟨g,0,none⟩) n cap/\g<w1.heap.size/\n<=cap:=by
   rcases F.2 with⟨rfl,_⟩|⟨g,cap,ad,rfl,I,hh,a8,_⟩
   ·exact absurd rfl a6
   ·exact⟨g,cap,rfl,(Array.getElem?_eq_some_iff.1 hh).1,a8⟩
  have G:=hide F;have V:=hide I;have W:=hide a3;clear F I a6 a3 a2 Z;go_wp2_with fail;have U:=Tryz.slices_Sort_int g 0 cap l w1 (Kb G.out) W.out.1 (by omega);rw [<-C.out] at U;refine U.mono ?_;rintro e w2 ⟨rfl,k,os,rfl⟩;clear U;go_wp2_with fail;have aa:=(HR (k:=k) G.out (l.mergeSort fun x y=>decide (x<=y)) (by rw [List.length_mergeSort];exact C.out.symm) os).1;have J:=Tryz.slices_Compact_int g 0 cap (l.mergeSort fun x y=>decide (x<=y)) _ (Kb aa) (by rw [List.length_mergeSort];omega) (by rw [List.length_mergeSort,<-C.out];exact W.out.2);rw [List.length_mergeSort,<-C.out] at J;refine J.mono ?_;rintro e w3 ⟨rfl,q,rfl⟩;clear J;have M:=M2 (k:=k) (q:=q) (os:=os) G.out V.out.size;rw [List.length_mergeSort,<-C.out] at M;go_wp2_with fail;go_ret;exact⟨M.1,V.out.trans M.2⟩
end Go.Proofs.YtjejejmeddkciaaGreatDoor
namespace Go.Proofs.YtjejejmeddkciaaGreatDoor
open Go.RowKit
set_option maxHeartbeats 16000000
set_option maxRecDepth 100000
theorem IK {w:World} {g n c3:Nat} {E:Option Addr} {acc:List Bool} {v0 v1 v2:Value} {q:Nat} {b:Bool} (J:Blk w g 86 #[v0,v1,v2,.slice E n c3]) (h:Sl w w.heap.size 1 DH E acc) (V:n=acc.length) (C:acc[q]?=some b):
  Calls Tryz.prog 63 #[.int .i64 (q:Int),.pointer (some ⟨g,0,none⟩)] w fun e w'=>e=.returned (.bool b)/\w=w':=by
 have hc:=J.cell;have I:=AP C;have U:=h.1;obtain⟨W,off,d,rfl,Z,G,F⟩:=h.at I;have O:d=b:=Option.some.inj (G.symm.trans C);subst O;have M:=F 0 (by omega);simp only [Nat.mul_one,Nat.add_zero,DH] at M;have a3:q<n:=by omega
 have a4:n<=9223372036854775807:=by omega
 clear V C G F h I U;go_enter Tryz.func63,Tryz.ntmps63;go_wp2_with fail;go_ret;exact⟨rfl,rfl⟩
theorem P6 {w:World} {B g n c3 c:Nat} {A V:Option Addr} {acc:List Bool} {v0 v1 v2:Value} {l:List Int} (hB:Blk w g 86 #[v0,v1,v2,.slice V n c3]) (Z:Sl w w.heap.size 1 DH V acc) (hn:n=acc.length) (h:Sl w B 1 Ai A l) (a7:∀x∈l,inN n x=true):
  Calls Tryz.prog 122 #[.slice A l.length c,.func (.func 63) #[] #[.pointer (some ⟨g,0,none⟩)]] w fun e w'=>e=.returned (.int .i64 (if l.any (fun x=>acc.getD x.toNat false) then ((l.findIdx fun x=>acc.getD x.toNat false:Nat):Int) else -1))/\w=w':=by
 have hm:=h.1;have a4:=hide hB;have a2:=hide Z;have J:=hide hn;have hI:=hide a7;have al:=GT;obtain⟨p,M⟩:∃p:Int->Bool,p=fun x=>acc.getD x.toNat false:=⟨_,rfl⟩;rw [<-M];have ah:=hide M;obtain⟨R,G⟩:∃R:Int,Hid ((if l.any p then ((l.findIdx p:Nat):Int) else -1)=R):=⟨_,rfl⟩;rw [G.out];clear hB Z hn a7 M;go_enter Tryz.func122,Tryz.ntmps122;go_wp2_with fail
 go_loop [8] (fun U=>∃(k:Nat),U=.int .i64 (k:Int)/\k<=l.length/\Hid ((l.take k).any p=false)) (fun U=>l.length - (intOf U).toNat)
 case atStart=>exact⟨0,rfl,Nat.zero_le _,rfl⟩
 case round=>
  obtain⟨k,rfl,hk,F⟩:=hrel;by_cases a8:k<l.length
  ·obtain⟨b,off,x,rfl,ai,hx,hc⟩:=h.at a8;have af:=hc 0 (by omega);simp only [Nat.mul_one,Nat.add_zero,Ai] at af;have C:=hide hx;clear hx hc;obtain⟨q,rfl,hq⟩:=CT (hI.out x (List.mem_of_getElem? C.out));simp only [Int.toNat_natCast] at hq;obtain⟨W,I⟩:=An (l:=acc) (i:=q) (by rw [<-J.out];exact hq);have a5:=hide I;have O:Hid (p (q:Int)=W):=by show _=_;rw [ah.out];exact getD_some I
   clear I;cases W
   ·have ad:Hid ((l.take (k+1)).any p=false):=by show _=_;rw [B5 C.out,List.any_append,F.out];simp [O.out]
    go_wp2_with (go_at_call 63;refine(IK a4.out a2.out J.out a5.out).mono ?_;rintro e w' ⟨rfl,rfl⟩);exact⟨⟨k+1,by go_num,by omega,ad⟩,by simp [intOf];omega⟩
   ·have E:Hid (l.any p=true):=List.any_eq_true.2 ⟨_,List.mem_of_getElem? C.out,O.out⟩;have hF:Hid (l.findIdx p=k):=by
     show _=_
     rw [List.findIdx_eq a8];refine⟨?_,fun j hj=>?_⟩
     ·have:=(List.getElem?_eq_some_iff.1 C.out).2;rw [this];exact O.out
     ·have:=List.any_eq_false.1 F.out l[j] (List.mem_of_getElem? (i:=j) (by rw [List.getElem?_take,if_pos hj,List.getElem?_eq_getElem]));simpa using this
    go_wp2_with (go_at_call 63;refine(IK a4.out a2.out J.out a5.out).mono ?_;rintro e w' ⟨rfl,rfl⟩);go_ret;exact⟨by rw [<-G.out,E.out,hF.out];rfl,rfl⟩
  ·have E:Hid (l.any p=false):=by show _=_;rw [<-F.out,List.take_of_length_le (by omega)]
   go_wp2_with fail;go_ret;exact⟨by rw [<-G.out,E.out];rfl,rfl⟩
theorem M6 {w:World} {B g n c3 c:Nat} {A E:Option Addr} {acc:List Bool} {v0 v1 v2:Value} {l:List Int} (G:Blk w g 86 #[v0,v1,v2,.slice E n c3]) (F:Sl w w.heap.size 1 DH E acc) (J:n=acc.length) (h:Sl w B 1 Ai A l) (I:∀x∈l,inN n x=true):
  Calls Tryz.prog 62 #[.slice A l.length c,.func (.func 63) #[] #[.pointer (some ⟨g,0,none⟩)]] w fun e w'=>e=.returned (.bool (l.any (fun x=>acc.getD x.toNat false)))/\w=w':=by
 have C:=P6 (c:=c) G F J h I;clear G F I J;obtain⟨r,M⟩:∃r,(l.any (fun x=>acc.getD x.toNat false))=r:=⟨_,rfl⟩;rw [M] at C ⊢;cases r
 all_goals
  simp only [Bool.false_eq_true,if_false,if_true] at C;clear M;go_enter Tryz.func62,Tryz.ntmps62;go_wp2_with (go_at_call 122;refine C.mono ?_;rintro e w' ⟨rfl,rfl⟩);go_ret;exact⟨by simp,rfl⟩
theorem IM {w:World} {v:Value} {a:NF} {B c:Nat} {A:Option Addr} {l:List Int} (h:Cn w w.heap.size v a) (G:a.acc.length=a.n) (hl:Sl w B 1 Ai A l) (hB:B<=w.heap.size) (I:∀x∈l,inN a.n x=true):
  Calls Tryz.prog 29 #[v,.slice A l.length c] w (Ret fun r w'=>r=.bool (l.any (fun x=>a.acc.getD x.toNat false))/\Below w.heap.size w w'):=by
 obtain⟨J,c1,M,c2,O,c3,rfl,h1,U,E,V⟩:=h;have a7:=GT;obtain⟨w1,a9,C,F,a2⟩:=Ae w #[.int .i64 (a.L:Int),.slice J a.nx.length c1,.slice M a.start.length c2,.slice O a.acc.length c3] 86;have a4:=C.size;have Z:=M6 (c:=c) F ((E.below C).mono a4) rfl ((hl.keep (w':=w1) (fun p hp=>C.cell (by omega)) (Nat.le_refl _))) (by rw [G];exact I);have W:=hide C;clear h1 U E V F a2 C G I;go_enter Tryz.func29,Tryz.ntmps29;go_wp2_with (go_at_call 62;refine Z.mono ?_;rintro e w' ⟨rfl,rfl⟩);go_ret;exact⟨rfl,W.out⟩
theorem JD {a:NF} {m:List Bool} (G:m.length=a.n):(AJ m).any (fun x=>a.acc.getD x.toNat false)=a.has m:=by
 rw [Bool.eq_iff_iff,List.any_eq_true,NF.has_iff];constructor
 ·rintro⟨x,I,h⟩;obtain⟨q,rfl,E⟩:=Ee.1 I;exact⟨q,by rw [<-G];exact AP E,getD_some E,by simpa using h⟩
 ·rintro⟨s,J,h1,F⟩;obtain⟨b,C⟩:=An (l:=m) (i:=s) (by omega);rw [getD_some C] at h1;subst h1;exact⟨(s:Int),Ee.2 ⟨s,rfl,C⟩,by simpa using F⟩
theorem Ik {m:List Bool} {n:Nat} (E:m.length=n):∀x∈AJ m,inN n x=true:=fun x C=>by
 obtain⟨q,rfl,h⟩:=Ee.1 C;have:=AP h;rw [D3];omega
theorem Fw (m:List Bool):(AJ m).length<=m.length:=by
 unfold AJ;rw [List.length_map];exact Nat.le_trans (List.length_filter_le _ _) (by simp)
end Go.Proofs.YtjejejmeddkciaaGreatDoor
namespace Go.Proofs.YtjejejmeddkciaaGreatDoor
open Go.RowKit
set_option maxHeartbeats 16000000
set_option maxRecDepth 100000
section
variable {P:Program} {w:World}
theorem Ig {t e size:Nat} (R:Dd P t e size) (ty:TypeId) {base:Nat} {v:Value} {n:Nat} {xs:List Value} (F:w.ownsRow base e size v n xs) (A:Option Addr) (c:Nat):
  (Builtin.append_ #[t,t] ty #[v,.slice A 0 c]).run P w=.ok v w:=by
 have ht:=R.ht;obtain⟨i,z,bytes,C,O,M,J,U,I⟩:=R.info;have h:∀(a:Addr),Sem.run P (loadCells a 0) w=.ok #[] w:=fun _=>rfl;rcases F.2 with⟨rfl,rfl⟩|⟨g,cap,G,rfl,_,_,E,_⟩
 ·cases A <;> simp [Builtin.append_,run_underlying ht,sizeOf,typeInfo,C,Builtin.lenOf,Builtin.firstCells,h]
 ·cases A <;> simp [Builtin.append_,run_underlying ht,sizeOf,typeInfo,C,Builtin.lenOf,Builtin.firstCells,E,storeCells,h]
end
section
variable {P:Program} {ops:Array Oper} {rest:List Oper} {o:Oper} {a:Act} {Q:Exit->Act->World->Prop} {w:World}
theorem Ei {t e:Nat} {B:Nat} {D:Type} {enc:D->Nat->Value} (R:Dd P t e 1) (J:o.guard=none) (s x:Operand)
  (ho:o.op=.call { callee:=.builtin .append,args:=#[s,x],argTypes:=#[t,t] })
  (base:Nat) (v:Value) (n:Nat) (xs:List Value) (M:a.eval s=v) (E:w.ownsRow base e 1 v n xs)
  {A:Option Addr} {l:List D} {c:Nat} (hS:Sl w B 1 enc A l) (F:a.eval x=.slice A l.length c) (h1:∀d,(enc d 0).oneCell'=true)
  (hn:n+l.length<=4000000) (a4:base<=w.heap.size)
  (h:∀I w',w'.ownsRow base e 1 I (n+l.length) (xs++l.map (enc · 0))->Ac w w' (fun k=>v.ownBlock=some k)->BJ w v I->wpList P ops Q rest (a.put o.dst I) w'):
  wpList P ops Q (o::rest) a w:=by
 by_cases h0:l.length=0
 ·have hl:l=[]:=List.length_eq_zero_iff.1 h0;subst hl;have hr:=Ig (P:=P) R o.type E A c;refine wpList_plain J fun K Z=>?_;unfold Oper.wp execOp;rw [List.length_nil] at F;simp only [ho,resolve,invoke,builtin,Sem.run_bind,Sem.run_pure,Result.andThen_ok,List.map_toArray,List.map_cons,List.map_nil,M,F,hr];exact Z _ _ (h v w (by simpa using E) (Ac.refl _ _) (BJ.refl _ _))
 ·obtain⟨b,off,d0,W,hb,ah,hc⟩:=hS.at (k:=0) (by omega);obtain⟨b',o',O,af,a3⟩:=hS.2 (by intro e;rw [e] at h0;exact h0 rfl);subst W;refine G9 R J s x ho base v n xs M E ⟨b,off,none⟩ l.length c (l.map (enc · 0)) F (by simp) ?_ ?_ (by omega) hn a4 ?_
  ·intro j u C;rw [List.getElem?_map] at C;cases G:l[j]? with
   | none=>rw [G] at C;cases C
   | some d=>
    rw [G] at C;have C:=Option.some.inj C;subst C;have e:=Option.some.inj O;injection e with U V _
    subst U V;have:=a3 j d G 0 (by omega);have a2:(⟨b,off,none⟩:Addr).add j=⟨b,off+j*1+0,none⟩:=by unfold Addr.add;split <;> simp_all
    rw [a2];exact this
  ·intro u C;obtain⟨d,_,rfl⟩:=List.mem_map.1 C;exact h1 d
  ·intro g cap w' a9 hk a7 _;exact h _ w' a9 hk a7
end
def NF.cat (a:NF) (l:List Int) (x:Nat):List Int:=l.flatMap fun s=>a.to s.toNat x
theorem NF.cat_take {a:NF} {l:List Int} {x k:Nat} {s:Int} (h:l[k]?=some s):a.cat (l.take (k+1)) x=a.cat (l.take k) x++a.to s.toNat x:=by
 unfold NF.cat;rw [B5 h,List.flatMap_append];simp
theorem NF.cat_len {a:NF} {l:List Int} {x k:Nat}:(a.cat (l.take k) x).length<=(a.cat l x).length:=by
 unfold NF.cat;have:=congrArg (fun l=>(l.flatMap fun s:Int=>a.to s.toNat x).length) (List.take_append_drop k l);simp only [List.flatMap_append,List.length_append] at this;omega
theorem NF.to_at {w:World} {B:Nat} {a:NF} {G:Option Addr} (h:VSl R2 w B G a.nx) (a2:a.OK) {s x:Nat} (hs:s<a.n) (hx:x<a.L):
  ∃b off A c b2 E C c',G=some ⟨b,off,none⟩/\b<B/\w.cell? ⟨b,off+s,none⟩=some (.slice A a.L c)/\A=some ⟨b2,E,none⟩/\b2<B/\w.cell? ⟨b2,E+x,none⟩=some (.slice C (a.to s x).length c')/\Sl w B 1 Ai C (a.to s x):=by
 obtain⟨r,F⟩:=An (l:=a.nx) (i:=s) hs;obtain⟨b,off,v,h1,V,W,A,c,rfl,Z⟩:=h.at F;have a3:=a2.row r (List.mem_of_getElem? F);obtain⟨l,I⟩:=An (l:=r) (i:=x) (by omega);obtain⟨b2,E,v2,J,M,O,C,c',rfl,U⟩:=Z.at I;have:a.to s x=l:=by unfold NF.to;rw [getD_some F,getD_some I]
 rw [this];exact⟨b,off,A,c,b2,E,C,c',h1,V,by rw [W,a3],J,M,O,U⟩
theorem NF.cat_set {a:NF} (I:a.OK) {m:List Bool} (V:m.length=a.n) {x:Nat} (W:x<a.L):CL (a.cat (AJ m) x)=AJ (a.after m x):=by
 refine Ip fun y=>?_;unfold NF.cat;rw [List.mem_flatMap];constructor
 ·rintro⟨s,O,F⟩;obtain⟨q,rfl,J⟩:=Ee.1 O;have M:q<a.n:=by rw [<-V];exact AP J
  simp only [Int.toNat_natCast] at F;obtain⟨r,E⟩:=An (l:=a.nx) (i:=q) M;obtain⟨l,G⟩:=An (l:=r) (i:=x) (by rw [I.row r (List.mem_of_getElem? E)];exact W);have e:a.to q x=l:=by unfold NF.to;rw [getD_some E,getD_some G]
  obtain⟨z,rfl,h⟩:=CT (I.to r (List.mem_of_getElem? E) l (List.mem_of_getElem? G) y (by rw [<-e];exact F));simp only [Int.toNat_natCast] at h;refine⟨z,rfl,?_⟩;obtain⟨b,C⟩:=An (l:=a.after m x) (i:=z) (by rw [a.after_len];exact h);have:=(NF.after_get (m:=m) (x:=x) h).2 ⟨q,M,getD_some J,F⟩;rw [getD_some C] at this;rw [C,this]
 ·rintro⟨z,rfl,h⟩;have Z:z<a.n:=by have:=AP h;rwa [a.after_len] at this
  obtain⟨s,O,h1,U⟩:=(NF.after_get (m:=m) (x:=x) Z).1 (getD_some h);obtain⟨b,C⟩:=An (l:=m) (i:=s) (by omega);rw [getD_some C] at h1;subst h1;exact⟨(s:Int),Ee.2 ⟨s,rfl,C⟩,by simpa using U⟩
theorem Iq {w:World} {v:Value} {a:NF} {B c x:Nat} {A:Option Addr} {m:List Bool} (h:Cn w w.heap.size v a) (a4:a.OK) (hm:m.length=a.n) (hl:Sl w B 1 Ai A (AJ m)) (hB:B<=w.heap.size) (hx:x<a.L) (af:(a.cat (AJ m) x).length<=4000000):
  Calls Tryz.prog 28 #[v,.slice A (AJ m).length c,.int .i64 (x:Int)] w (Ret fun r w'=>w'.ownsRow w.heap.size 3 1 r (AJ (a.after m x)).length ((AJ (a.after m x)).map (Value.int .i64))/\Below w.heap.size w w'):=by
 obtain⟨A1,c1,A2,c2,A3,c3,rfl,h1,h2,h3,h4⟩:=h;obtain⟨M,aQ,ad,a9,bc⟩:=Ae w #[.int .i64 (a.L:Int),.slice A1 a.nx.length c1,.slice A2 a.start.length c2,.slice A3 a.acc.length c3] 86;have aO:=ad.size;have aD:=hide (Ik hm);have aC:=hide (NF.cat_set a4 hm hx);have a8:=hide h1;have aL:=hide a4;have am:=hide hx;have aG:=hl.1;obtain⟨l,a3⟩:∃l,l=AJ m:=⟨_,rfl⟩;have ah:=hide a3;rw [<-a3] at hl af aG ⊢;clear h2 h3 h4 a4 a3 h1;have O:=hide a9;obtain⟨n,I⟩:∃n,n=a.nx.length:=⟨_,rfl⟩;have aK:=hide I;rw [<-I] at aQ O ⊢;have be:n<=9223372036854775807:=by rw [I];exact a8.out.1
 clear I a9;go_enter Tryz.func28,Tryz.ntmps28;go_wp2_with fail;go_loopw [7,12] (fun vv ii wr=>∃(k E:Nat),ii=.int .i64 (k:Int)/\k<=l.length/\Below M.heap.size M wr/\Hid (E=(a.cat (l.take k) x).length/\wr.ownsRow M.heap.size 3 1 vv E ((a.cat (l.take k) x).map (Value.int .i64)))) (fun _ ii _=>l.length - (intOf ii).toNat)
 case atStart=>exact⟨0,0,rfl,Nat.zero_le _,Below.refl _ _,rfl,Cb⟩
 case round=>
  obtain⟨k,E,rfl,hk,F,C⟩:=hrel;have Z:=ad.trans (F.mono aO);by_cases aH:k<l.length
  ·obtain⟨b,off,s,rfl,b9,J,hc⟩:=hl.at aH;have aA:=(Z.cell (by show b<_;omega)).trans (hc 0 (by omega));simp only [Nat.mul_one,Nat.add_zero,Ai] at aA;obtain⟨q,rfl,hq⟩:=CT (aD.out s (by rw [<-ah.out];exact List.mem_of_getElem? J));simp only [Int.toNat_natCast] at hq;obtain⟨bA,oA,A',cA,b2,o2,aU,aX,rfl,g1,g2,rfl,g3,g4,g5⟩:=NF.to_at (a8.out.keep (@R2.keep) (fun p hp=>Z.cell hp) (Nat.le_refl _)) aL.out hq am.out;have ba:=(O.out.at O.out.lt F).cell;have G:=hide (NF.cat_take (a:=a) (x:=x) J);simp only [Int.toNat_natCast] at G;have aF:=hide (NF.cat_len (a:=a) (l:=l) (x:=x) (k:=k+1));have bf:q<n:=by rw [aK.out];exact hq
   have hS:=hide g5;have b7:=hide J;obtain⟨Av,cv,rfl⟩:=AH C.out.2;obtain⟨tl,a6⟩:∃tl,tl=(a.to q x).length:=⟨_,rfl⟩;have aP:=hide a6;rw [<-a6] at g4;have aR:=am.out;obtain⟨L,V⟩:∃L,L=a.L:=⟨_,rfl⟩;rw [<-V] at g2 aR;have b6:=hide V;clear J hc g5 a6 V;have az:=hide (show E+(a.to q x).length<=4000000 from by have e1:=C.out.1;have e2:=aF.out;rw [G.out,List.length_append] at e2;omega);have W:=C;clear C;go_wp2_with (at_builtin;refine Ei C9 rfl _ _ rfl M.heap.size _ E _ rfl W.out.2 hS.out (by rw [<-aP.out];rfl) (fun d=>rfl) az.out F.size ?_;intro v2 w2 aM aE bd);refine⟨⟨k+1,E+(a.to q x).length,by go_num,by omega,F.trans (aE.below F.size fun b hb e=>by have:=Bb W.out.2 e;omega),?_,?_⟩,by simp [intOf];omega⟩
   ·rw [G.out,List.length_append,<-W.out.1]
   ·rw [G.out,List.map_append];exact aM
  ·have aa:=C.out;rw [List.take_of_length_le (by omega)] at aa;obtain⟨aJ,ak⟩:=aa;have U:=hide Z;obtain⟨A7,c7,e7,ab⟩:=B8 ak aJ.symm (Nat.le_refl _) (by omega);subst e7;have ax:=hide ab;have aB:=hide af;clear ak C ab;go_wp2_with (go_at_call 27;refine Calls.ret (GY ax.out aB.out) ?_;rintro v w9 ⟨aj,ay⟩);have ag:=aC.out;rw [<-ah.out] at ag;go_ret;rw [ag] at aj;exact⟨DC aj U.out.size,U.out.trans (ay.mono U.out.size)⟩
end Go.Proofs.YtjejejmeddkciaaGreatDoor
namespace Go.Proofs.YtjejejmeddkciaaGreatDoor
open Go.RowKit
set_option maxHeartbeats 16000000
set_option maxRecDepth 100000
def Ff (l:List UInt8):Nat:=l.foldl (fun v b=>10*v+(b.toNat - 48)) 0
theorem Ji (l:List UInt8) (b:UInt8):Ff (l++[b])=10*Ff l+(b.toNat - 48):=by simp [Ff]
theorem Hm {d:Nat} (h:d<10):(UInt8.ofNat (48+d)).toNat=48+d:=by
 rw [UInt8.toNat_ofNat'];omega
theorem Jh (u:Nat):Ff (Lib.decDigits u)=u:=by
 induction u using Nat.strongRecOn with
 | _ u ih=>
  rw [Lib.decDigits];split
  ·next h=>
   have:=Ji [] (UInt8.ofNat (48+u));rw [List.nil_append] at this;rw [this,Hm h];simp [Ff]
  ·next h=>
   rw [Ji,ih (u / 10) (by omega),Hm (by omega)];omega
theorem Jk (u:Nat):(32:UInt8)∉Lib.decDigits u:=by
 induction u using Nat.strongRecOn with
 | _ u ih=>
  rw [Lib.decDigits];have key:∀d,d<10->(32:UInt8)≠UInt8.ofNat (48+d):=fun d C e=>by
   have:=congrArg UInt8.toNat e;rw [Hm C] at this;have E:(32:UInt8).toNat=32:=rfl;omega
  split
  ·next h=>simpa using key u h
  ·next h=>
   rw [List.mem_append,List.mem_singleton];rintro(h1|h1)
   ·exact ih (u / 10) (by omega) h1
   ·exact key (u % 10) (by omega) h1
theorem Tg {a b r s:List UInt8} (E:(32:UInt8)∉a) (F:(32:UInt8)∉b) (h:a++32::r=b++32::s):a=b/\r=s:=by
 induction a generalizing b with
 | nil=>
  cases b with
  | nil=>simpa using h
  | cons y b=>
   simp at h;exact absurd (List.mem_cons.2 (.inl h.1)) F
 | cons x a ih=>
  cases b with
  | nil=>
   simp at h;exact absurd (List.mem_cons.2 (.inl h.1.symm)) E
  | cons y b=>
   simp only [List.cons_append,List.cons.injEq] at h;obtain⟨h1,G⟩:=ih (fun C=>E (List.mem_cons_of_mem _ C)) (fun C=>F (List.mem_cons_of_mem _ C)) h.2;exact⟨by rw [h.1,h1],G⟩
def Cw (l:List Nat):List UInt8:=l.flatMap fun x=>Lib.decDigits x++[32]
theorem FU (x:Nat) (l:List Nat):Cw (x::l)=Lib.decDigits x++32::Cw l:=by simp [Cw]
theorem JM:∀{l k:List Nat},Cw l=Cw k->l=k
 | [],[],_=>rfl
 | [],y::k,h=>by rw [FU] at h;simp [Cw] at h
 | x::l,[],h=>by rw [FU] at h;simp [Cw] at h
 | x::l,y::k,h=>by
  rw [FU,FU] at h;obtain⟨h1,C⟩:=Tg (Jk x) (Jk y) h;have:=congrArg Ff h1;rw [Jh,Jh] at this;rw [this,JM C]
theorem QJ {l:List Nat} {k x:Nat} (h:l[k]?=some x):Cw (l.take (k+1))=Cw (l.take k)++(Lib.decDigits x++[32]):=by
 unfold Cw;rw [B5 h,List.flatMap_append];simp
theorem Jj:∀(k u:Nat),u<10 ^ (k+1)->(Lib.decDigits u).length<=k+1
 | 0,u,h=>by rw [Lib.decDigits,dif_pos (by simpa using h)];simp
 | k+1,u,h=>by
  rw [Lib.decDigits];split
  ·simp
  ·rw [List.length_append];have:=Jj k (u / 10) (by rw [Nat.pow_succ] at h;omega);simp;omega
theorem QI {l:List Nat} (h:∀x∈l,x<1000000000):(Cw l).length<=l.length*10:=by
 induction l with
 | nil=>simp [Cw]
 | cons x l ih=>
  rw [FU];have h1:=Jj 8 x (h x List.mem_cons_self);have E:=ih fun y C=>h y (List.mem_cons_of_mem _ C);simp;omega
def BV (w:World):Prop:=Lib.TabIs Tryz.prog w "internal/strconv.uint64pow10" .u64 Lib.pow10Tab
theorem BV.below {w w':World} (h:BV w) (C:Below w.heap.size w w'):BV w':=(Lib.tabBelow_of_tabIs h) w' C
theorem Qw {T e:TypeId} {B b:Nat} {C:List Value} {w w':World} (h:Lib.IsBuilder T e B b C w) (F:Below w.heap.size w w'):Lib.IsBuilder T e B b C w':=by
 have key:∀p,Lib.BuilderAt T e B b p C w->Lib.BuilderAt T e B b p C w':=by
  rintro p ⟨h1,v,E,G,I⟩;exact⟨h1,v,by rw [F.block b (Array.getElem?_eq_some_iff.1 E).1];exact E,Bt G F,I⟩
 exact h.elim (fun x=>.inl (key _ x)) (fun x=>.inr (key _ x))
theorem JN {w:World} {B c:Nat} {A:Option Addr} {l:List Nat} (h:Sl w B 1 Ai A (Ak l)) (hB:B<=w.heap.size) (hs:∀x∈l,x<1000000000) (hl:l.length<=4000000) (hT:BV w):
  Calls Tryz.prog 96 #[.slice A (Ak l).length c] w (Ret fun r w'=>r=.string ⟨(Cw l).toArray⟩/\Below w.heap.size w w'):=by
 obtain⟨w1,aG,a6,Z,aq⟩:=Ae w #[.pointer none,.slice none 0 0] 229;have aC:=a6.size;have a8:Lib.IsBuilder 229 5 w.heap.size w.heap.size (Lib.byteCells (Cw (l.take 0))) w1:=.inl ⟨Nat.le_refl _,.slice none 0 0,Z,Cb,by simp [Value.ownBlock]⟩;have an:=hide a8;have ai:=hide hT;have af:=hide hs;have aa:(Ak l).length=l.length:=by simp [Ak]
 obtain⟨n,U⟩:∃n,n=l.length:=⟨_,rfl⟩;rw [aa,<-U];have V:=hide U;have aB:n<=4000000:=by omega
 clear a8 hT hs Z aq U hl aa;go_enter Tryz.func96,Tryz.ntmps96;go_wp2_with fail;go_loopw [8] (fun W wr=>∃(k:Nat),W=.int .i64 (k:Int)/\k<=n/\Hid (Lib.IsBuilder 229 5 w.heap.size w.heap.size (Lib.byteCells (Cw (l.take k))) wr)/\Below w.heap.size w wr) (fun W _=>n - (intOf W).toNat)
 case atStart=>exact⟨0,rfl,Nat.zero_le _,an,a6⟩
 case round=>
  obtain⟨k,rfl,hk,hI,C⟩:=hrel;by_cases ad:k<n
  ·obtain⟨x,F⟩:=An (l:=l) (i:=k) (by rw [<-V.out];exact ad);obtain⟨b,off,d,rfl,az,J,hc⟩:=h.at (k:=k) (by simp [Ak];rw [<-V.out];exact ad);have ap:d=(x:Int):=by
    unfold Ak at J;rw [AX F] at J;exact(Option.some.inj J).symm
   subst ap;have ao:=(C.cell (by show b<_;omega)).trans (hc 0 (by omega));simp only [Nat.mul_one,Nat.add_zero,Ai] at ao;have hX:=hide F;have aH:=af.out x (List.mem_of_getElem? F);have O:=hide (QJ F);have ab:=hide (Nat.le_trans (QI (l:=l.take (k+1)) fun y hy=>af.out y (List.mem_of_mem_take hy)) (Nat.mul_le_mul_right 10 (List.length_take_le _ _)));have aj:=hide (ai.out.below C);have a2:=hide C;have aF:=C.size;clear F hc J C;go_wp2_with fail;refine(Tryz.strconv_Itoa (x:Int) (by omega) (by omega) wr aj.out).mono ?_;rintro e w2 ⟨rfl,kk,os,ag⟩;have M:Below wr.heap.size wr w2:=by
    subst ag;refine⟨rfl,rfl,rfl,by simp [Go.Sort.grow],fun b hb=>?_⟩;unfold Go.Sort.grow;rw [Array.getElem?_append_left (by simpa using hb)];rfl
   rw [Lib.itoa_nonneg];have E:=Qw hI.out M;have aD:=M.size;clear ag;go_wp2_with fail;refine(Tryz.Builder_WriteString w.heap.size w.heap.size _ ⟨(Lib.decDigits x).toArray⟩ w2 E ?_ (by omega)).mono ?_
   ·have G:=ab.out;rw [O.out,List.length_append,List.length_append] at G;rw [Lib.byteCells_length];show _+(Lib.decDigits x).toArray.size<=_
    simp only [List.size_toArray];omega
   rintro e w3 ⟨rfl,I,a7⟩;rw [Lib.strCells_toArray,<-Lib.byteCells_append] at I;have aE:=a7.size;go_wp2_with fail;refine(Tryz.Builder_WriteByte w.heap.size w.heap.size _ 32 w3 (.inr I) ?_ (by omega)).mono ?_
   ·have G:=ab.out;rw [O.out,List.length_append,List.length_append] at G;rw [Lib.byteCells_length,List.length_append];simp at G;omega
   rintro e w4 ⟨rfl,a4,al⟩;go_wp2_with fail;refine⟨⟨k+1,by go_num,by omega,?_,((a2.out.trans (M.mono a2.out.size)).trans a7).trans al⟩,by simp [intOf];omega⟩;show Lib.IsBuilder _ _ _ _ _ _
   rw [O.out];refine .inr ?_;have ah:Lib.byteCells (Cw (l.take k)++Lib.decDigits x)++[Value.int .u8 32]=Lib.byteCells (Cw (l.take k)++(Lib.decDigits x++[32])):=by
    rw [<-List.append_assoc,Lib.byteCells_append _ [32]];rfl
   rw [ah] at a4;exact a4
  ·have E:=hI.out;rw [List.take_of_length_le (by rw [<-V.out];omega)] at E;have I:=hide E;have a3:=hide C;clear E hI C;go_wp2_with (go_at_call 149;refine(Tryz.Builder_String_any w.heap.size w.heap.size (Cw l) wr I.out a3.out.size).mono ?_;rintro e w5 ⟨rfl,am⟩);go_ret;exact⟨rfl,a3.out.trans am⟩
end Go.Proofs.YtjejejmeddkciaaGreatDoor
