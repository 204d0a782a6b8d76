/-
  Part PS of a proof.
-/
import Derived.Shelf.LaysM
import Derived.Shelf.Strings.Builder1
import Derived.Shelf.Strconv.Itoa3
import Derived.Shelf.Sort.Plain
import Derived.Ground.NamesProg
import Derived.Ground.Names2Prog
import Derived.Shelf.Slices.Clone
import Derived.Shelf.Slices.CompactI
import Derived.Test.YtakpmdmjbgipiaaGreatDoorProg
import Derived.Shelf.Slices.In.SortNone
import Derived.Lib.RowBridge
import Derived.Lib.AppendIntMem
import Derived.Test.YtakpmdmjbgipiaaGreatDoorPA
import Derived.Test.YtakpmdmjbgipiaaGreatDoorPD
set_option maxHeartbeats 16000000
set_option maxRecDepth 100000
set_option linter.unusedVariables false
set_option linter.unusedSimpArgs false
namespace Go.Proofs
open Go.Shelf
def Tryz.lays169_ren : Go.Shelf.Ren := ⟨fun | 169 => 79 | n => n, fun | 70 => 122 | 9 => 9 | 0 => 0 | 72 => 125 | 37 => 123 | 127 => 147 | 3 => 3 | 5 => 5 | n => n, fun | n => n⟩
theorem Tryz.lays169 : Go.Proofs.Lays.n169 Tryz.prog Tryz.lays169_ren := {
 mixed := by kernel_rfl
 f169 := Tryz.func79.trans (congrArg some (by kernel_rfl))
 t0 := Tryz.underlying0
 a0 := Tryz.isAgg0
 z0 := Tryz.sizeOf0
 v0 := Tryz.zeroValue0
 t3 := Tryz.underlying3
 a3 := Tryz.isAgg3
 z3 := Tryz.sizeOf3
 v3 := Tryz.zeroValue3
 t9 := Tryz.underlying9
 a9 := Tryz.isAgg9
 z9 := Tryz.sizeOf9
 v9 := Tryz.zeroValue9
 t37 := Tryz.underlying123
 a37 := Tryz.isAgg123
 z37 := Tryz.sizeOf123
 v37 := Tryz.zeroValue123
 t70 := Tryz.underlying122
 a70 := Tryz.isAgg122
 z70 := Tryz.sizeOf122
 v70 := Tryz.zeroValue122
 t72 := Tryz.underlying125
 a72 := Tryz.isAgg125
 z72 := Tryz.sizeOf125
 v72 := Tryz.zeroValue125
 t127 := Tryz.underlying147
 a127 := Tryz.isAgg147
 z127 := Tryz.sizeOf147
 v127 := Tryz.zeroValue147 }
theorem Tryz.Builder_Extra_169 : Builder.Extra Tryz.prog Tryz.lays169_ren := {
 sizeBuilder := by kernel_rfl
 liesBuilder := by kernel_rfl
 t5 := Tryz.underlying5
 a5 := Tryz.isAgg5
 z5 := Tryz.sizeOf5
 v5 := Tryz.zeroValue5
 infoByte := by kernel_rfl
 cellsByte := by kernel_rfl
 sizeByte := by kernel_rfl
 neB5 := by decide }
open Go.RowKit in
theorem Tryz.Builder_String_any (B b : Nat) (l : List UInt8) (w : World) (h : Lib.IsBuilder 125 5 B b (Lib.byteCells l) w) (hBw : B ≤ w.heap.size) :
  Calls Tryz.prog 79 #[.pointer (some ⟨b, 0, none⟩)] w fun e w' => e = .returned (.string ⟨l.toArray⟩) ∧ Below B w w' := Any.Builder_String_any Tryz.lays169 Tryz.Builder_Extra_169 B b l w h hBw
def Tryz.laysM171_ren : Go.Shelf.Ren := ⟨fun | 171 => 77 | 243 => 95 | 246 => 102 | 283 => 114 | 284 => 115 | 285 => 116 | 286 => 117 | 129 => 113 | 317 => 124 | 318 => 125 | 319 => 126 | 320 => 127 | 337 => 129 | 338 => 130 | n => n, fun | 3 => 3 | 9 => 9 | 2 => 2 | 4 => 4 | 171 => 168 | 0 => 0 | 53 => 167 | 37 => 123 | 5 => 5 | 173 => 170 | 212 => 180 | 51 => 165 | 20 => 20 | 213 => 181 | 46 => 150 | 232 => 184 | 233 => 185 | n => n, fun | 17 => 0 | 18 => 1 | 19 => 2 | n => n⟩
theorem Tryz.laysM171 : Go.Proofs.LaysM.n171 Tryz.prog Tryz.laysM171_ren := {
 mixed := by kernel_rfl
 f129 := Tryz.func113.trans (congrArg some (by kernel_rfl))
 f171 := Tryz.func77.trans (congrArg some (by kernel_rfl))
 f243 := Tryz.func95.trans (congrArg some (by kernel_rfl))
 f246 := Tryz.func102.trans (congrArg some (by kernel_rfl))
 f283 := Tryz.func114.trans (congrArg some (by kernel_rfl))
 f284 := Tryz.func115.trans (congrArg some (by kernel_rfl))
 f285 := Tryz.func116.trans (congrArg some (by kernel_rfl))
 f286 := Tryz.func117.trans (congrArg some (by kernel_rfl))
 f317 := Tryz.func124.trans (congrArg some (by kernel_rfl))
 f318 := Tryz.func125.trans (congrArg some (by kernel_rfl))
 f319 := Tryz.func126.trans (congrArg some (by kernel_rfl))
 f320 := Tryz.func127.trans (congrArg some (by kernel_rfl))
 f337 := Tryz.func129.trans (congrArg some (by kernel_rfl))
 f338 := Tryz.func130.trans (congrArg some (by kernel_rfl))
 t0 := Tryz.underlying0
 a0 := Tryz.isAgg0
 z0 := Tryz.sizeOf0
 v0 := Tryz.zeroValue0
 t2 := Tryz.underlying2
 a2 := Tryz.isAgg2
 z2 := Tryz.sizeOf2
 v2 := Tryz.zeroValue2
 t3 := Tryz.underlying3
 a3 := Tryz.isAgg3
 z3 := Tryz.sizeOf3
 v3 := Tryz.zeroValue3
 t4 := Tryz.underlying4
 a4 := Tryz.isAgg4
 z4 := Tryz.sizeOf4
 v4 := Tryz.zeroValue4
 t5 := Tryz.underlying5
 a5 := Tryz.isAgg5
 z5 := Tryz.sizeOf5
 v5 := Tryz.zeroValue5
 t9 := Tryz.underlying9
 a9 := Tryz.isAgg9
 z9 := Tryz.sizeOf9
 v9 := Tryz.zeroValue9
 t20 := Tryz.underlying20
 a20 := Tryz.isAgg20
 z20 := Tryz.sizeOf20
 v20 := Tryz.zeroValue20
 t37 := Tryz.underlying123
 a37 := Tryz.isAgg123
 z37 := Tryz.sizeOf123
 v37 := Tryz.zeroValue123
 t46 := Tryz.underlying150
 a46 := Tryz.isAgg150
 z46 := Tryz.sizeOf150
 v46 := Tryz.zeroValue150
 t51 := Tryz.underlying165
 a51 := Tryz.isAgg165
 z51 := Tryz.sizeOf165
 v51 := Tryz.zeroValue165
 t53 := Tryz.underlying167
 a53 := Tryz.isAgg167
 z53 := Tryz.sizeOf167
 v53 := Tryz.zeroValue167
 t171 := Tryz.underlying168
 a171 := Tryz.isAgg168
 z171 := Tryz.sizeOf168
 v171 := Tryz.zeroValue168
 t173 := Tryz.underlying170
 a173 := Tryz.isAgg170
 z173 := Tryz.sizeOf170
 v173 := Tryz.zeroValue170
 t212 := Tryz.underlying180
 a212 := Tryz.isAgg180
 z212 := Tryz.sizeOf180
 v212 := Tryz.zeroValue180
 t213 := Tryz.underlying181
 a213 := Tryz.isAgg181
 z213 := Tryz.sizeOf181
 t232 := Tryz.underlying184
 a232 := Tryz.isAgg184
 z232 := Tryz.sizeOf184
 v232 := Tryz.zeroValue184
 t233 := Tryz.underlying185
 a233 := Tryz.isAgg185
 z233 := Tryz.sizeOf185
 v233 := Tryz.zeroValue185
 g17 := by kernel_rfl
 g18 := by kernel_rfl
 g19 := by kernel_rfl
 i0 := by kernel_rfl
 i2 := by kernel_rfl
 i3 := by kernel_rfl
 i4 := by kernel_rfl
 i5 := by kernel_rfl
 i9 := by kernel_rfl
 i20 := by kernel_rfl
 i37 := by kernel_rfl
 i46 := by kernel_rfl
 i51 := by kernel_rfl
 i53 := by kernel_rfl
 i171 := by kernel_rfl
 i173 := by kernel_rfl
 i212 := by kernel_rfl
 i232 := by kernel_rfl
 i233 := by kernel_rfl
 m17 := by kernel_rfl
 m18 := by kernel_rfl
 m19 := by kernel_rfl }
open Go.RowKit Go.Sort Go.Lib in
theorem Tryz.strconv_Itoa (n : Int) (h0 : -9223372036854775808 ≤ n) (h1 : n ≤ 9223372036854775807) (w : World) (htab : Lib.TabIs Tryz.prog w "internal/strconv.uint64pow10" .u64 Lib.pow10Tab) :
  Calls Tryz.prog 77 #[.int .i64 n] w fun e w' => e = .returned (.string ⟨(Lib.itoa n).toArray⟩) ∧ ∃ k os, w' = grow (w.drewN k) os := Any.strconv_Itoa Tryz.laysM171 n h0 h1 w htab
def Tryz.lays189_ren : Go.Shelf.Ren := ⟨fun | 189 => 83 | 125 => 97 | 257 => 96 | 128 => 112 | 129 => 113 | 294 => 103 | 295 => 104 | 296 => 105 | 297 => 106 | 298 => 107 | 299 => 108 | 216 => 109 | 300 => 110 | 301 => 111 | 328 => 118 | 329 => 119 | 330 => 120 | 331 => 121 | 332 => 122 | 215 => 123 | 343 => 128 | n => n, fun | 28 => 22 | 3 => 3 | 46 => 150 | 0 => 0 | 51 => 165 | 53 => 167 | 4 => 4 | 183 => 158 | 182 => 157 | 131 => 98 | 5 => 5 | 9 => 9 | 218 => 172 | 222 => 176 | 228 => 182 | 229 => 89 | n => n, fun | n => n⟩
theorem Tryz.lays189 : Go.Proofs.Lays.n189 Tryz.prog Tryz.lays189_ren := {
 mixed := by kernel_rfl
 f125 := Tryz.func97.trans (congrArg some (by kernel_rfl))
 f128 := Tryz.func112.trans (congrArg some (by kernel_rfl))
 f129 := Tryz.func113.trans (congrArg some (by kernel_rfl))
 f189 := Tryz.func83.trans (congrArg some (by kernel_rfl))
 f215 := Tryz.func123.trans (congrArg some (by kernel_rfl))
 f216 := Tryz.func109.trans (congrArg some (by kernel_rfl))
 f257 := Tryz.func96.trans (congrArg some (by kernel_rfl))
 f294 := Tryz.func103.trans (congrArg some (by kernel_rfl))
 f295 := Tryz.func104.trans (congrArg some (by kernel_rfl))
 f296 := Tryz.func105.trans (congrArg some (by kernel_rfl))
 f297 := Tryz.func106.trans (congrArg some (by kernel_rfl))
 f298 := Tryz.func107.trans (congrArg some (by kernel_rfl))
 f299 := Tryz.func108.trans (congrArg some (by kernel_rfl))
 f300 := Tryz.func110.trans (congrArg some (by kernel_rfl))
 f301 := Tryz.func111.trans (congrArg some (by kernel_rfl))
 f328 := Tryz.func118.trans (congrArg some (by kernel_rfl))
 f329 := Tryz.func119.trans (congrArg some (by kernel_rfl))
 f330 := Tryz.func120.trans (congrArg some (by kernel_rfl))
 f331 := Tryz.func121.trans (congrArg some (by kernel_rfl))
 f332 := Tryz.func122.trans (congrArg some (by kernel_rfl))
 f343 := Tryz.func128.trans (congrArg some (by kernel_rfl))
 t0 := Tryz.underlying0
 a0 := Tryz.isAgg0
 z0 := Tryz.sizeOf0
 v0 := Tryz.zeroValue0
 t3 := Tryz.underlying3
 a3 := Tryz.isAgg3
 z3 := Tryz.sizeOf3
 v3 := Tryz.zeroValue3
 t4 := Tryz.underlying4
 a4 := Tryz.isAgg4
 z4 := Tryz.sizeOf4
 v4 := Tryz.zeroValue4
 t5 := Tryz.underlying5
 a5 := Tryz.isAgg5
 z5 := Tryz.sizeOf5
 v5 := Tryz.zeroValue5
 t9 := Tryz.underlying9
 a9 := Tryz.isAgg9
 z9 := Tryz.sizeOf9
 v9 := Tryz.zeroValue9
 t28 := Tryz.underlying22
 a28 := Tryz.isAgg22
 z28 := Tryz.sizeOf22
 v28 := Tryz.zeroValue22
 t46 := Tryz.underlying150
 a46 := Tryz.isAgg150
 z46 := Tryz.sizeOf150
 v46 := Tryz.zeroValue150
 t51 := Tryz.underlying165
 a51 := Tryz.isAgg165
 z51 := Tryz.sizeOf165
 v51 := Tryz.zeroValue165
 t53 := Tryz.underlying167
 a53 := Tryz.isAgg167
 z53 := Tryz.sizeOf167
 v53 := Tryz.zeroValue167
 t131 := Tryz.underlying98
 a131 := Tryz.isAgg98
 z131 := Tryz.sizeOf98
 v131 := Tryz.zeroValue98
 t182 := Tryz.underlying157
 a182 := Tryz.isAgg157
 z182 := Tryz.sizeOf157
 v182 := Tryz.zeroValue157
 t183 := Tryz.underlying158
 a183 := Tryz.isAgg158
 z183 := Tryz.sizeOf158
 v183 := Tryz.zeroValue158
 t218 := Tryz.underlying172
 a218 := Tryz.isAgg172
 z218 := Tryz.sizeOf172
 v218 := Tryz.zeroValue172
 t222 := Tryz.underlying176
 a222 := Tryz.isAgg176
 z222 := Tryz.sizeOf176
 v222 := Tryz.zeroValue176
 t228 := Tryz.underlying182
 a228 := Tryz.isAgg182
 z228 := Tryz.sizeOf182
 v228 := Tryz.zeroValue182
 t229 := Tryz.underlying89
 a229 := Tryz.isAgg89
 z229 := Tryz.sizeOf89
 v229 := Tryz.zeroValue89 }
open Go.Sort Go.RowKit in
theorem Tryz.slices_Sort_int (blk off cap : Nat) (zs : List Int) (w : World) (hH : Holds (Value.int .i64) w blk off zs.toArray) (hblk : blk < w.heap.size) (hsz : zs.length < 4611686018427387904) :
  Calls Tryz.prog 83 #[.slice (some ⟨blk, off, none⟩) zs.length cap] w fun e w' =>
   e = .returned (.tuple #[]) ∧ ∃ n os, w' = grow (putRow (Value.int .i64) (Sort.ahead w n) blk off (zs.mergeSort fun x y => decide (x ≤ y)).toArray) os := Any.slices_Sort_int Tryz.lays189 blk off cap zs w hH hblk hsz
def Tryz.laysNm215_ren : Go.Shelf.Ren := ⟨fun | 15 => 82 | n => n, fun | 22 => 22 | 3 => 3 | 4 => 4 | n => n, fun | n => n⟩
theorem Tryz.laysNm215 : Go.Proofs.Lays2.n15 Tryz.prog Tryz.laysNm215_ren := {
 mixed := by kernel_rfl
 f15 := Tryz.func82.trans (congrArg some (by kernel_rfl))
 t3 := Tryz.underlying3
 a3 := Tryz.isAgg3
 z3 := Tryz.sizeOf3
 v3 := Tryz.zeroValue3
 t4 := Tryz.underlying4
 a4 := Tryz.isAgg4
 z4 := Tryz.sizeOf4
 v4 := Tryz.zeroValue4
 t22 := Tryz.underlying22
 a22 := Tryz.isAgg22
 z22 := Tryz.sizeOf22
 v22 := Tryz.zeroValue22
 i3 := by kernel_rfl }
open Go.RowKit Go.Lib in
theorem Tryz.slices_Clone_int (b off n c : Nat) (zs : List Int) (w : World) (hz : n ≤ zs.length) (hbig : n * 8 ≤ 140737488355328) (hc : ∀ j, j < zs.length → w.cell? ⟨b, off + j, none⟩ = some (.int .i64 (zs.getD j 0))) :
  Calls Tryz.prog 82 #[.slice (some ⟨b, off, none⟩) n c] w fun e w' => ∃ v', e = .returned v' ∧ w'.ownsRow w.heap.size 3 1 v' n ((zs.take n).map (Value.int .i64)) ∧ v' ≠ .slice none 0 0 ∧ Below w.heap.size w w' := Any.slices_Clone_int Tryz.laysNm215 b off n c zs w hz hbig hc
open Go.RowKit Go.Lib in
theorem Tryz.slices_Clone_int_nil (n c : Nat) (w : World) :
  Calls Tryz.prog 82 #[.slice none n c] w fun e w' => e = .returned (.slice none 0 0) ∧ w' = w := Any.slices_Clone_int_nil Tryz.laysNm215 n c w
def Tryz.laysNm220_ren : Go.Shelf.Ren := ⟨fun | 20 => 84 | n => n, fun | 22 => 22 | 3 => 3 | 4 => 4 | 0 => 0 | n => n, fun | n => n⟩
theorem Tryz.laysNm220 : Go.Proofs.Lays2.n20 Tryz.prog Tryz.laysNm220_ren := {
 mixed := by kernel_rfl
 f20 := Tryz.func84.trans (congrArg some (by kernel_rfl))
 t0 := Tryz.underlying0
 a0 := Tryz.isAgg0
 z0 := Tryz.sizeOf0
 v0 := Tryz.zeroValue0
 t3 := Tryz.underlying3
 a3 := Tryz.isAgg3
 z3 := Tryz.sizeOf3
 v3 := Tryz.zeroValue3
 t4 := Tryz.underlying4
 a4 := Tryz.isAgg4
 z4 := Tryz.sizeOf4
 v4 := Tryz.zeroValue4
 t22 := Tryz.underlying22
 a22 := Tryz.isAgg22
 z22 := Tryz.sizeOf22
 v22 := Tryz.zeroValue22
 i3 := by kernel_rfl }
open Go.RowKit Go.Lib Go.Sort in
theorem Tryz.slices_Compact_int (blk off cap : Nat) (zs : List Int) (w : World) (hH : Holds (Value.int .i64) w blk off zs.toArray) (hsz : zs.length ≤ 9223372036854775807) (hcap : zs.length ≤ cap) :
  Calls Tryz.prog 84 #[.slice (some ⟨blk, off, none⟩) zs.length cap] w fun e w' => e = .returned (.slice (some ⟨blk, off, none⟩) (Lib.compact zs).length cap) ∧ ∃ q, w' = putRow (Value.int .i64) (Sort.ahead w q) blk off (Lib.compact zs ++ List.replicate (zs.length - (Lib.compact zs).length) 0).toArray := Any.slices_Compact_int Tryz.laysNm220 blk off cap zs w hH hsz hcap
open Go.RowKit Go.Lib Go.Sort in
theorem Tryz.slices_Compact_int_empty (a : Option Addr) (cap : Nat) (w : World) :
  Calls Tryz.prog 84 #[.slice a 0 cap] w fun e w' => e = .returned (.slice a 0 cap) ∧ w' = w := Any.slices_Compact_int_empty Tryz.laysNm220 a cap w
def Tryz.lays166_ren : Go.Shelf.Ren := ⟨fun | 166 => 76 | 240 => 94 | 276 => 101 | n => n, fun | 0 => 0 | 3 => 3 | 4 => 4 | 5 => 5 | 9 => 9 | 20 => 20 | 37 => 123 | 70 => 122 | 72 => 125 | 75 => 127 | 80 => 132 | 164 => 153 | n => n, fun | n => n⟩
theorem Tryz.lays166 : Go.Proofs.Lays.n166 Tryz.prog Tryz.lays166_ren := {
 mixed := by kernel_rfl
 f166 := Tryz.func76.trans (congrArg some (by kernel_rfl))
 f240 := Tryz.func94.trans (congrArg some (by kernel_rfl))
 f276 := Tryz.func101.trans (congrArg some (by kernel_rfl))
 t0 := Tryz.underlying0
 a0 := Tryz.isAgg0
 z0 := Tryz.sizeOf0
 v0 := Tryz.zeroValue0
 t3 := Tryz.underlying3
 a3 := Tryz.isAgg3
 z3 := Tryz.sizeOf3
 v3 := Tryz.zeroValue3
 t4 := Tryz.underlying4
 a4 := Tryz.isAgg4
 z4 := Tryz.sizeOf4
 v4 := Tryz.zeroValue4
 t9 := Tryz.underlying9
 a9 := Tryz.isAgg9
 z9 := Tryz.sizeOf9
 v9 := Tryz.zeroValue9
 t20 := Tryz.underlying20
 a20 := Tryz.isAgg20
 z20 := Tryz.sizeOf20
 v20 := Tryz.zeroValue20
 t37 := Tryz.underlying123
 a37 := Tryz.isAgg123
 z37 := Tryz.sizeOf123
 v37 := Tryz.zeroValue123
 t70 := Tryz.underlying122
 a70 := Tryz.isAgg122
 z70 := Tryz.sizeOf122
 v70 := Tryz.zeroValue122
 t72 := Tryz.underlying125
 a72 := Tryz.isAgg125
 z72 := Tryz.sizeOf125
 v72 := Tryz.zeroValue125
 t75 := Tryz.underlying127
 a75 := Tryz.isAgg127
 z75 := Tryz.sizeOf127
 v75 := Tryz.zeroValue127
 t164 := Tryz.underlying153
 a164 := Tryz.isAgg153
 z164 := Tryz.sizeOf153
 v164 := Tryz.zeroValue153 }
theorem Tryz.Builder_Extra_166 : Builder.Extra Tryz.prog Tryz.lays166_ren := {
 sizeBuilder := by kernel_rfl
 liesBuilder := by kernel_rfl
 t5 := Tryz.underlying5
 a5 := Tryz.isAgg5
 z5 := Tryz.sizeOf5
 v5 := Tryz.zeroValue5
 infoByte := by kernel_rfl
 cellsByte := by kernel_rfl
 sizeByte := by kernel_rfl
 neB5 := by decide }
def Tryz.lays167_ren : Go.Shelf.Ren := ⟨fun | 167 => 78 | 240 => 94 | 276 => 101 | n => n, fun | 0 => 0 | 3 => 3 | 4 => 4 | 5 => 5 | 9 => 9 | 20 => 20 | 37 => 123 | 70 => 122 | 72 => 125 | 75 => 127 | 80 => 132 | 164 => 153 | n => n, fun | n => n⟩
theorem Tryz.lays167 : Go.Proofs.Lays.n167 Tryz.prog Tryz.lays167_ren := {
 mixed := by kernel_rfl
 f167 := Tryz.func78.trans (congrArg some (by kernel_rfl))
 f240 := Tryz.func94.trans (congrArg some (by kernel_rfl))
 f276 := Tryz.func101.trans (congrArg some (by kernel_rfl))
 t0 := Tryz.underlying0
 a0 := Tryz.isAgg0
 z0 := Tryz.sizeOf0
 v0 := Tryz.zeroValue0
 t4 := Tryz.underlying4
 a4 := Tryz.isAgg4
 z4 := Tryz.sizeOf4
 v4 := Tryz.zeroValue4
 t5 := Tryz.underlying5
 a5 := Tryz.isAgg5
 z5 := Tryz.sizeOf5
 v5 := Tryz.zeroValue5
 t9 := Tryz.underlying9
 a9 := Tryz.isAgg9
 z9 := Tryz.sizeOf9
 v9 := Tryz.zeroValue9
 t20 := Tryz.underlying20
 a20 := Tryz.isAgg20
 z20 := Tryz.sizeOf20
 v20 := Tryz.zeroValue20
 t37 := Tryz.underlying123
 a37 := Tryz.isAgg123
 z37 := Tryz.sizeOf123
 v37 := Tryz.zeroValue123
 t70 := Tryz.underlying122
 a70 := Tryz.isAgg122
 z70 := Tryz.sizeOf122
 v70 := Tryz.zeroValue122
 t72 := Tryz.underlying125
 a72 := Tryz.isAgg125
 z72 := Tryz.sizeOf125
 v72 := Tryz.zeroValue125
 t75 := Tryz.underlying127
 a75 := Tryz.isAgg127
 z75 := Tryz.sizeOf127
 v75 := Tryz.zeroValue127
 t164 := Tryz.underlying153
 a164 := Tryz.isAgg153
 z164 := Tryz.sizeOf153
 v164 := Tryz.zeroValue153 }
theorem Tryz.Builder_Extra_167 : Builder.Extra Tryz.prog Tryz.lays167_ren := {
 sizeBuilder := by kernel_rfl
 liesBuilder := by kernel_rfl
 t5 := Tryz.underlying5
 a5 := Tryz.isAgg5
 z5 := Tryz.sizeOf5
 v5 := Tryz.zeroValue5
 infoByte := by kernel_rfl
 cellsByte := by kernel_rfl
 sizeByte := by kernel_rfl
 neB5 := by decide }
open Go.RowKit in
theorem Tryz.Builder_WriteByte (B b : Nat) (bs : List Value) (c : Int) (w : World) (h : Lib.IsBuilder 125 5 B b bs w) (hlen : bs.length + 1 ≤ 140737488355328) (hBw : B ≤ w.heap.size) :
  Calls Tryz.prog 78 #[.pointer (some ⟨b, 0, none⟩), .int .u8 c] w fun e w' => e = .returned .nilIface ∧ (Lib.BuilderAt 125 5 B b (.pointer (some ⟨b, 0, none⟩)) (bs ++ [.int .u8 c]) w' ∧ Below B w w') := Any.Builder_WriteByte Tryz.lays167 Tryz.Builder_Extra_167 B b bs c w h hlen hBw
open Go.RowKit in
theorem Tryz.Builder_WriteString (B b : Nat) (bs : List Value) (s : ByteArray) (w : World) (h : Lib.IsBuilder 125 5 B b bs w) (hlen : bs.length + s.size ≤ 140737488355328) (hBw : B ≤ w.heap.size) :
  Calls Tryz.prog 76 #[.pointer (some ⟨b, 0, none⟩), .string s] w fun e w' => e = .returned (.tuple #[.int .i64 s.size, .nilIface]) ∧ (Lib.BuilderAt 125 5 B b (.pointer (some ⟨b, 0, none⟩)) (bs ++ Lib.strCells s) w' ∧ Below B w w') := Any.Builder_WriteString Tryz.lays166 Tryz.Builder_Extra_166 B b bs s w h hlen hBw
end Go.Proofs
namespace Go.Proofs.YtakpmdmjbgipiaaGreatDoor
open Go.RowKit Go.Sort
set_option maxHeartbeats 16000000
set_option maxRecDepth 100000
def sortU (l : List Int) : List Int := Lib.compact (l.mergeSort fun x y => decide (x ≤ y))
theorem compact_spec (d : Array Int) (hd : ∀ i j, i ≤ j → j < d.size → d[i]! ≤ d[j]!) : ∀ m, m ≤ d.size → Asc (Lib.compactUpTo d m) ∧ ∀ x, x ∈ Lib.compactUpTo d m ↔ ∃ j, j < m ∧ d[j]! = x := by
 intro m
 induction m with
 | zero => exact fun _ => ⟨List.Pairwise.nil, fun _ => ⟨fun h => by simp [Lib.compactUpTo] at h, fun ⟨j, hj, _⟩ => by omega⟩⟩
 | succ m ih =>
  intro hm
  obtain ⟨h1, h2⟩ := ih (by omega)
  rw [Lib.compactUpTo_succ]
  cases hk : Lib.keeps d m
  ·simp only [Bool.false_eq_true, if_false, List.append_nil]
   refine ⟨h1, fun x => (h2 x).trans ⟨fun ⟨j, hj, e⟩ => ⟨j, by omega, e⟩, fun ⟨j, hj, e⟩ => ?_⟩⟩
   rcases Nat.lt_or_ge j m with h | h
   ·exact ⟨j, h, e⟩
   ·obtain rfl : j = m := by omega
    simp [Lib.keeps] at hk
    exact ⟨j - 1, by omega, by rw [← hk.2]; exact e⟩
  ·simp only [if_true]
   refine ⟨List.pairwise_append.2 ⟨h1, by simp, fun x hx y hy => ?_⟩, fun x => ?_⟩
   ·rw [List.mem_singleton.1 hy]
    obtain ⟨j, hj, e⟩ := (h2 x).1 hx
    have a1 := hd j (m - 1) (by omega) (by omega)
    have a2 := hd (m - 1) m (by omega) (by omega)
    simp [Lib.keeps] at hk
    rcases hk with hk | hk
    ·omega
    ·have : d[m]! ≠ d[m - 1]! := hk
     omega
   ·rw [List.mem_append, List.mem_singleton, h2 x]
    constructor
    ·rintro (⟨j, hj, e⟩ | rfl)
     ·exact ⟨j, by omega, e⟩
     ·exact ⟨m, by omega, rfl⟩
    ·rintro ⟨j, hj, e⟩
     rcases Nat.lt_or_ge j m with h | h
     ·exact .inl ⟨j, h, e⟩
     ·obtain rfl : j = m := by omega
      exact .inr e.symm
theorem sort_le (l : List Int) : (l.mergeSort fun x y => decide (x ≤ y)).Pairwise (· ≤ ·) := by
 have := List.pairwise_mergeSort (le := fun x y : Int => decide (x ≤ y)) (fun a b c h1 h2 => by simp at *; omega) (fun a b => by simp; omega) l
 exact this.imp fun h => by simpa using h
theorem sort_mono (l : List Int) (i j : Nat) (hij : i ≤ j) (hj : j < ((l.mergeSort fun x y => decide (x ≤ y)).toArray).size) : (l.mergeSort fun x y => decide (x ≤ y)).toArray[i]! ≤ (l.mergeSort fun x y => decide (x ≤ y)).toArray[j]! := by
 have h := sort_le l
 generalize l.mergeSort (fun x y => decide (x ≤ y)) = s at *
 simp only [List.size_toArray] at hj
 rcases Nat.lt_or_ge i j with h1 | h1
 ·have := List.pairwise_iff_getElem.1 h i j (by omega) hj h1
  simpa [hj, show i < s.length from by omega] using this
 ·obtain rfl : i = j := by omega
  exact Int.le_refl _
theorem asc_sortU (l : List Int) : Asc (sortU l) := (compact_spec _ (sort_mono l) _ (by simp)).1
theorem mem_sortU {l : List Int} {x : Int} : x ∈ sortU l ↔ x ∈ l := by
 have h := (compact_spec _ (sort_mono l) ((l.mergeSort fun x y => decide (x ≤ y)).length) (by simp)).2 x
 unfold sortU Lib.compact
 rw [h]
 have hm : x ∈ (l.mergeSort fun x y => decide (x ≤ y)) ↔ x ∈ l := (List.mergeSort_perm l _).mem_iff
 rw [← hm]
 generalize l.mergeSort (fun x y => decide (x ≤ y)) = s
 constructor
 ·rintro ⟨j, hj, rfl⟩
  simp [hj]
 ·intro hx
  obtain ⟨j, hj, rfl⟩ := List.getElem_of_mem hx
  exact ⟨j, hj, by simp [hj]⟩
theorem sortU_len (l : List Int) : (sortU l).length ≤ l.length := by
 have := Go.Lib.compact_length_le (l.mergeSort fun x y => decide (x ≤ y))
 rwa [List.length_mergeSort] at this
theorem sortU_set {l : List Int} {m : List Bool} (h : ∀ x, x ∈ l ↔ ∃ q : Nat, x = (q : Int) ∧ m[q]? = some true) : sortU l = setL m :=
 asc_unique (asc_sortU l) (asc_setL m) fun x => (mem_sortU.trans (h x)).trans mem_setL.symm
theorem sortU_nil : sortU [] = [] := List.eq_nil_iff_forall_not_mem.2 fun _ hx => absurd (mem_sortU.1 hx) List.not_mem_nil
theorem own_shrink {w : World} {base size n m : Nat} {e : TypeId} {g cap : Nat} {xs : List Value} (h : w.ownsRow base e size (.slice (some ⟨g, 0, none⟩) n cap) n xs) (hm : m ≤ n) :
  w.ownsRow base e size (.slice (some ⟨g, 0, none⟩) m cap) m (xs.take (m * size)) := by
 obtain ⟨hl, hx⟩ := h
 have hmn : m * size ≤ n * size := Nat.mul_le_mul_right _ hm
 refine ⟨by rw [List.length_take, hl]; omega, ?_⟩
 rcases hx with ⟨h1, _⟩ | ⟨g', cap', cur, hv, hb, hh, hc, hx, hs, ht⟩
 ·cases h1
 ·injection hv with hv _ hcap
  injection hv with hv
  injection hv with hg
  subst hg hcap
  refine .inr ⟨g, cap, cur, rfl, hb, hh, by omega, hx, hs, ?_⟩
  rw [← ht, List.take_take, Nat.min_eq_left hmn]
theorem own_holds {w : World} {base n g cap : Nat} {e : TypeId} {l : List Int} (h : w.ownsRow base e 1 (.slice (some ⟨g, 0, none⟩) n cap) n (l.map (Value.int .i64))) : Holds (Value.int .i64) w g 0 l.toArray := by
 have hl : l.length = n := by simpa using h.1
 rcases h.2 with ⟨h1, _⟩ | ⟨g', cap', cur, hv, hb, hh, hc, hx, hs, ht⟩
 ·cases h1
 ·injection hv with hv _ hcap
  injection hv with hv
  injection hv with hg
  subst hg hcap
  intro j hj
  simp only [List.size_toArray] at hj
  refine ⟨?_, Blk.frozen (t := e) (cs := cur) hh _⟩
  rw [cell_of_row w g _ cur e (0, 0) hh, Nat.zero_add]
  have h1 : (l.map (Value.int .i64))[j]? = some (.int .i64 l[j]) := map_get (List.getElem?_eq_getElem hj)
  rw [← ht, List.getElem?_take] at h1
  split at h1
  ·rw [show l.toArray[j]! = l[j] from by simp [hj]]
   simpa using h1
  ·cases h1
theorem own_putRow {w : World} {base n g cap k : Nat} {e : TypeId} {xs : List Value} (h : w.ownsRow base e 1 (.slice (some ⟨g, 0, none⟩) n cap) n xs) (d : List Int) (hd : d.length = n) (os : Array Obj) :
  (grow (putRow (Value.int .i64) (Sort.ahead w k) g 0 d.toArray) os).ownsRow base e 1 (.slice (some ⟨g, 0, none⟩) n cap) n (d.map (Value.int .i64)) ∧ Kept w (grow (putRow (Value.int .i64) (Sort.ahead w k) g 0 d.toArray) os) (fun b => b = g) := by
 rcases h.2 with ⟨h1, _⟩ | ⟨g', cap', cur, hv, hb, hh, hc, hx, hs, ht⟩
 ·cases h1
 ·injection hv with hv _ hcap
  injection hv with hv
  injection hv with hg
  subst hg hcap
  have hgl := (Array.getElem?_eq_some_iff.1 hh).1
  have hget : ∀ b, b < w.heap.size → (grow (putRow (Value.int .i64) (Sort.ahead w k) g 0 d.toArray) os).heap[b]? = if g = b then (w.heap[b]?).map (onCells (putCells (Value.int .i64) 0 d.toArray)) else w.heap[b]? := fun b hb => by
   unfold grow putRow mapBlock Sort.ahead
   rw [Array.getElem?_append_left (by simpa using hb), Array.getElem?_modify]
  refine ⟨⟨by simp [hd], .inr ⟨g, cap, putCells (Value.int .i64) 0 d.toArray cur, rfl, hb, ?_, hc, hx, ?_, ?_⟩⟩, rfl, rfl, rfl, ?_, fun b hb hn => ?_⟩
  ·rw [hget g hgl, if_pos rfl, hh]
   rfl
  ·unfold putCells
   rw [Array.size_mapIdx]
   exact hs
  ·apply List.ext_getElem?
   intro j
   rw [List.getElem?_take]
   by_cases hj : j < n
   ·rw [if_pos (by omega)]
    have hjc : j < cur.size := by omega
    have hjd : j < d.length := by omega
    rw [map_get (List.getElem?_eq_getElem hjd)]
    unfold putCells
    rw [Array.getElem?_toList, Array.getElem?_mapIdx, Array.getElem?_eq_getElem hjc]
    simp [hjd]
   ·rw [if_neg (by omega), List.getElem?_eq_none (by simp; omega)]
  ·simp [grow, putRow, mapBlock, Sort.ahead]
  ·rw [hget b hb, if_neg fun e => hn e.symm]
theorem compact_own {w : World} {base n g cap k q : Nat} {l : List Int} {os : Array Obj} (h : w.ownsRow base 3 1 (.slice (some ⟨g, 0, none⟩) n cap) n (l.map (Value.int .i64))) (hg : base ≤ w.heap.size) :
  (putRow (Value.int .i64) (Sort.ahead (grow (putRow (Value.int .i64) (Sort.ahead w k) g 0 (l.mergeSort fun x y => decide (x ≤ y)).toArray) os) q) g 0 (Lib.compact (l.mergeSort fun x y => decide (x ≤ y)) ++ List.replicate ((l.mergeSort fun x y => decide (x ≤ y)).length - (Lib.compact (l.mergeSort fun x y => decide (x ≤ y))).length) 0).toArray).ownsRow base 3 1 (.slice (some ⟨g, 0, none⟩) (sortU l).length cap) (sortU l).length ((sortU l).map (Value.int .i64)) ∧
  Below base w (putRow (Value.int .i64) (Sort.ahead (grow (putRow (Value.int .i64) (Sort.ahead w k) g 0 (l.mergeSort fun x y => decide (x ≤ y)).toArray) os) q) g 0 (Lib.compact (l.mergeSort fun x y => decide (x ≤ y)) ++ List.replicate ((l.mergeSort fun x y => decide (x ≤ y)).length - (Lib.compact (l.mergeSort fun x y => decide (x ≤ y))).length) 0).toArray) := by
 have hl : l.length = n := by simpa using h.1
 have hb := own_base h (k := g) rfl
 have hs : (l.mergeSort fun x y => decide (x ≤ y)).length = n := by rw [List.length_mergeSort, hl]
 have hc := Go.Lib.compact_length_le (l.mergeSort fun x y => decide (x ≤ y))
 obtain ⟨h1, k1⟩ := own_putRow (k := k) h _ hs os
 obtain ⟨h2, k2⟩ := own_putRow (k := q) h1 (Lib.compact (l.mergeSort fun x y => decide (x ≤ y)) ++ List.replicate ((l.mergeSort fun x y => decide (x ≤ y)).length - (Lib.compact (l.mergeSort fun x y => decide (x ≤ y))).length) 0) (by rw [List.length_append, List.length_replicate]; omega) #[]
 rw [grow_empty] at h2 k2
 have h3 := own_shrink h2 (m := (sortU l).length) (by rw [← hl]; exact sortU_len l)
 refine ⟨?_, (k1.trans k2 fun _ _ e => e).below hg fun b hb e => by omega⟩
 rw [Nat.mul_one, List.map_append, List.take_append_of_le_length (by simp [sortU]), List.take_of_length_le (by simp [sortU])] at h3
 exact h3
theorem sorted_empty (A : Option Addr) (c : Nat) (w : World) :
  Calls Tryz.prog 53 #[.slice A 0 c] w (Ret fun r w' => w'.ownsRow w.heap.size 3 1 r 0 [] ∧ Below w.heap.size w w') := by
 cases A with
 | none =>
  go_enter Tryz.func53, Tryz.ntmps53
  go_wp2_with (first
   | (go_at_call 82; refine (Tryz.slices_Clone_int_nil 0 c w).mono ?_; rintro e w' ⟨rfl, rfl⟩)
   | (go_at_call 83; refine (Any.slices_Sort_int_none Tryz.lays189 none 0 w').mono ?_; rintro e w2 ⟨rfl, rfl⟩)
   | (go_at_call 84; refine (Tryz.slices_Compact_int_empty none 0 _).mono ?_; rintro e w3 ⟨rfl, rfl⟩))
  go_ret
  exact ⟨own_nil, Below.refl _ _⟩
 | some a =>
  go_enter Tryz.func53, Tryz.ntmps53
  go_wp2_with (first
   | (go_at_call 82; refine (Any.slices_Clone_int_zero Tryz.laysNm215 a c w).mono ?_; rintro e w1 ⟨v', rfl, hown, -, hb⟩; obtain ⟨A1, c1, rfl⟩ := slice_of_own hown)
   | (go_at_call 83; refine (Any.slices_Sort_int_none Tryz.lays189 A1 c1 w1).mono ?_; rintro e w2 ⟨rfl, rfl⟩)
   | (go_at_call 84; refine (Tryz.slices_Compact_int_empty A1 c1 _).mono ?_; rintro e w3 ⟨rfl, rfl⟩))
  go_ret
  exact ⟨hown, hb⟩
theorem sorted_any {w : World} {B : Nat} {A : Option Addr} {c : Nat} {l : List Int} (h : Sl w B 1 encI A l) (hl : l.length ≤ 4000000) :
  Calls Tryz.prog 53 #[.slice A l.length c] w (Ret fun r w' => w'.ownsRow w.heap.size 3 1 r (sortU l).length ((sortU l).map (Value.int .i64)) ∧ Below w.heap.size w w') := by
 by_cases hn : l = []
 ·subst hn
  rw [sortU_nil]
  exact sorted_empty A c w
 ·obtain ⟨b, off, rfl, hbB, hc⟩ := h.2 hn
  have hcl : ∀ j, j < l.length → w.cell? ⟨b, off + j, none⟩ = some (.int .i64 (l.getD j 0)) := fun j hj => by
   have := hc j _ (List.getElem?_eq_getElem hj) 0 (by omega)
   rw [getD_some (List.getElem?_eq_getElem hj)]
   simpa [encI] using this
  have hnz : l.length ≠ 0 := fun e => hn (List.length_eq_zero_iff.1 e)
  obtain ⟨n, hln⟩ : ∃ n, n = l.length := ⟨_, rfl⟩
  obtain ⟨m, hlm⟩ : ∃ m, m = (l.mergeSort fun x y => decide (x ≤ y)).length := ⟨_, rfl⟩
  have hmn : m = n := by rw [hlm, hln, List.length_mergeSort]
  have hN := hide hln
  rw [← hln]
  clear hln hlm
  go_enter Tryz.func53, Tryz.ntmps53
  go_wp2_with fail
  refine (Tryz.slices_Clone_int b off n c l w (Nat.le_of_eq hN.out) (by have := hN.out; omega) hcl).mono ?_
  rintro e w1 ⟨v', rfl, hown, hne, hb⟩
  rw [List.take_of_length_le (Nat.le_of_eq hN.out.symm)] at hown
  obtain ⟨g, cap, rfl, hgb⟩ : ∃ g cap, v' = .slice (some ⟨g, 0, none⟩) n cap ∧ g < w1.heap.size ∧ n ≤ cap := by
   rcases hown.2 with ⟨rfl, _⟩ | ⟨g, cap, cur, rfl, hb, hh, hcap, _⟩
   ·exact absurd rfl hne
   ·exact ⟨g, cap, rfl, (Array.getElem?_eq_some_iff.1 hh).1, hcap⟩
  have hH := hide hown
  have hB := hide hb
  have hG := hide hgb
  clear hown hb hne hgb hcl hc
  go_wp2_with fail
  have hsort := Tryz.slices_Sort_int g 0 cap l w1 (own_holds hH.out) hG.out.1 (by omega)
  rw [← hN.out] at hsort
  refine hsort.mono ?_
  rintro e w2 ⟨rfl, k, os, rfl⟩
  clear hsort
  go_wp2_with fail
  have hown2 := (own_putRow (k := k) hH.out (l.mergeSort fun x y => decide (x ≤ y)) (by rw [List.length_mergeSort]; exact hN.out.symm) os).1
  have hcomp := Tryz.slices_Compact_int g 0 cap (l.mergeSort fun x y => decide (x ≤ y)) _ (own_holds hown2) (by rw [List.length_mergeSort]; omega) (by rw [List.length_mergeSort, ← hN.out]; exact hG.out.2)
  rw [List.length_mergeSort, ← hN.out] at hcomp
  refine hcomp.mono ?_
  rintro e w3 ⟨rfl, q, rfl⟩
  clear hcomp
  have hfin := compact_own (k := k) (q := q) (os := os) hH.out hB.out.size
  rw [List.length_mergeSort, ← hN.out] at hfin
  go_wp2_with fail
  go_ret
  exact ⟨hfin.1, hB.out.trans hfin.2⟩
end Go.Proofs.YtakpmdmjbgipiaaGreatDoor
namespace Go.Proofs.YtakpmdmjbgipiaaGreatDoor
open Go.RowKit
set_option maxHeartbeats 16000000
set_option maxRecDepth 100000
theorem acc1_any {w : World} {g n c3 : Nat} {A3 : Option Addr} {acc : List Bool} {v0 v1 v2 : Value} {q : Nat} {b : Bool} (hB : Blk w g 56 #[v0, v1, v2, .slice A3 n c3]) (h3 : Sl w w.heap.size 1 encB A3 acc) (hn : n = acc.length) (hq : acc[q]? = some b) :
  Calls Tryz.prog 81 #[.int .i64 (q : Int), .pointer (some ⟨g, 0, none⟩)] w fun e w' => e = .returned (.bool b) ∧ w = w' := by
 have hc := hB.cell
 have hlt := lt_of_get hq
 have hm := h3.1
 obtain ⟨bl, off, d, rfl, hbl, hd, hcc⟩ := h3.at hlt
 have hd2 : d = b := Option.some.inj (hd.symm.trans hq)
 subst hd2
 have hc0 := hcc 0 (by omega)
 simp only [Nat.mul_one, Nat.add_zero, encB] at hc0
 have hlt2 : q < n := by omega
 have hm2 : n ≤ 9223372036854775807 := by omega
 clear hn hq hd hcc h3 hlt hm
 go_enter Tryz.func81, Tryz.ntmps81
 go_wp2_with fail
 go_ret
 exact ⟨rfl, rfl⟩
theorem idx1_any {w : World} {B g n c3 c : Nat} {A A3 : Option Addr} {acc : List Bool} {v0 v1 v2 : Value} {l : List Int} (hB : Blk w g 56 #[v0, v1, v2, .slice A3 n c3]) (h3 : Sl w w.heap.size 1 encB A3 acc) (hn : n = acc.length) (h : Sl w B 1 encI A l) (hin : ∀ x ∈ l, inN n x = true) :
  Calls Tryz.prog 93 #[.slice A l.length c, .func (.func 81) #[] #[.pointer (some ⟨g, 0, none⟩)]] w fun e w' => e = .returned (.int .i64 (if l.any (fun x => acc.getD x.toNat false) then ((l.findIdx fun x => acc.getD x.toNat false : Nat) : Int) else -1)) ∧ w = w' := by
 have hm := h.1
 have hBH := hide hB
 have h3H := hide h3
 have hnH := hide hn
 have hI := hide hin
 have hmf := run_mf
 obtain ⟨p, hp⟩ : ∃ p : Int → Bool, p = fun x => acc.getD x.toNat false := ⟨_, rfl⟩
 rw [← hp]
 have hpH := hide hp
 obtain ⟨R, hR⟩ : ∃ R : Int, Hid ((if l.any p then ((l.findIdx p : Nat) : Int) else -1) = R) := ⟨_, rfl⟩
 rw [hR.out]
 clear hB h3 hn hin hp
 go_enter Tryz.func93, Tryz.ntmps93
 go_wp2_with fail
 go_loop [8] (fun ii => ∃ (k : Nat), ii = .int .i64 (k : Int) ∧ k ≤ l.length ∧ Hid ((l.take k).any p = false)) (fun ii => l.length - (intOf ii).toNat)
 case atStart => exact ⟨0, rfl, Nat.zero_le _, rfl⟩
 case round =>
  obtain ⟨k, rfl, hk, hE⟩ := hrel
  by_cases hlt : k < l.length
  ·obtain ⟨b, off, x, rfl, hbb, hx, hc⟩ := h.at hlt
   have hc0 := hc 0 (by omega)
   simp only [Nat.mul_one, Nat.add_zero, encI] at hc0
   have hX := hide hx
   clear hx hc
   obtain ⟨q, rfl, hq⟩ := inN_nat (hI.out x (List.mem_of_getElem? hX.out))
   simp only [Int.toNat_natCast] at hq
   obtain ⟨bq, hbq⟩ := get_lt (l := acc) (i := q) (by rw [← hnH.out]; exact hq)
   have hBQ := hide hbq
   have hpq : Hid (p (q : Int) = bq) := by show _ = _; rw [hpH.out]; exact getD_some hbq
   clear hbq
   cases bq
   ·have hE2 : Hid ((l.take (k + 1)).any p = false) := by show _ = _; rw [take_snoc hX.out, List.any_append, hE.out]; simp [hpq.out]
    go_wp2_with (go_at_call 81; refine (acc1_any hBH.out h3H.out hnH.out hBQ.out).mono ?_; rintro e w' ⟨rfl, rfl⟩)
    exact ⟨⟨k + 1, by go_num, by omega, hE2⟩, by simp [intOf]; omega⟩
   ·have hA : Hid (l.any p = true) := List.any_eq_true.2 ⟨_, List.mem_of_getElem? hX.out, hpq.out⟩
    have hF : Hid (l.findIdx p = k) := by
     show _ = _
     rw [List.findIdx_eq hlt]
     refine ⟨?_, fun j hj => ?_⟩
     ·have := (List.getElem?_eq_some_iff.1 hX.out).2
      rw [this]; exact hpq.out
     ·have := List.any_eq_false.1 hE.out l[j] (List.mem_of_getElem? (i := j) (by rw [List.getElem?_take, if_pos hj, List.getElem?_eq_getElem]))
      simpa using this
    go_wp2_with (go_at_call 81; refine (acc1_any hBH.out h3H.out hnH.out hBQ.out).mono ?_; rintro e w' ⟨rfl, rfl⟩)
    go_ret
    exact ⟨by rw [← hR.out, hA.out, hF.out]; rfl, rfl⟩
  ·have hA : Hid (l.any p = false) := by show _ = _; rw [← hE.out, List.take_of_length_le (by omega)]
   go_wp2_with fail
   go_ret
   exact ⟨by rw [← hR.out, hA.out]; rfl, rfl⟩
theorem cont1_any {w : World} {B g n c3 c : Nat} {A A3 : Option Addr} {acc : List Bool} {v0 v1 v2 : Value} {l : List Int} (hB : Blk w g 56 #[v0, v1, v2, .slice A3 n c3]) (h3 : Sl w w.heap.size 1 encB A3 acc) (hn : n = acc.length) (h : Sl w B 1 encI A l) (hin : ∀ x ∈ l, inN n x = true) :
  Calls Tryz.prog 80 #[.slice A l.length c, .func (.func 81) #[] #[.pointer (some ⟨g, 0, none⟩)]] w fun e w' => e = .returned (.bool (l.any (fun x => acc.getD x.toNat false))) ∧ w = w' := by
 have hidx := idx1_any (c := c) hB h3 hn h hin
 clear hB h3 hin hn
 obtain ⟨r, hr⟩ : ∃ r, (l.any (fun x => acc.getD x.toNat false)) = r := ⟨_, rfl⟩
 rw [hr] at hidx ⊢
 cases r
 all_goals
  simp only [Bool.false_eq_true, if_false, if_true] at hidx
  clear hr
  go_enter Tryz.func80, Tryz.ntmps80
  go_wp2_with (go_at_call 93; refine hidx.mono ?_; rintro e w' ⟨rfl, rfl⟩)
  go_ret
  exact ⟨by simp, rfl⟩
theorem accepting_any {w : World} {v : Value} {a : NF} {B c : Nat} {A : Option Addr} {l : List Int} (h : IsNF w w.heap.size v a) (ha : a.acc.length = a.n) (hl : Sl w B 1 encI A l) (hB : B ≤ w.heap.size) (hin : ∀ x ∈ l, inN a.n x = true) :
  Calls Tryz.prog 52 #[v, .slice A l.length c] w (Ret fun r w' => r = .bool (l.any (fun x => a.acc.getD x.toNat false)) ∧ Below w.heap.size w w') := by
 obtain ⟨A1, c1, A2, c2, A3, c3, rfl, h1, h2, h3, h4⟩ := h
 have hmf := run_mf
 obtain ⟨w1, hw1, hb1, hB1, hk1⟩ := box_blk w #[.int .i64 (a.L : Int), .slice A1 a.nx.length c1, .slice A2 a.start.length c2, .slice A3 a.acc.length c3] 56
 have hs1 := hb1.size
 have hcont := cont1_any (c := c) hB1 ((h3.below hb1).mono hs1) rfl ((hl.keep (w' := w1) (fun p hp => hb1.cell (by omega)) (Nat.le_refl _))) (by rw [ha]; exact hin)
 have hbH := hide hb1
 clear h1 h2 h3 h4 hB1 hk1 hb1 ha hin
 go_enter Tryz.func52, Tryz.ntmps52
 go_wp2_with (go_at_call 80; refine hcont.mono ?_; rintro e w' ⟨rfl, rfl⟩)
 go_ret
 exact ⟨rfl, hbH.out⟩
theorem has_setL {a : NF} {m : List Bool} (hm : m.length = a.n) : (setL m).any (fun x => a.acc.getD x.toNat false) = a.has m := by
 rw [Bool.eq_iff_iff, List.any_eq_true, NF.has_iff]
 constructor
 ·rintro ⟨x, hx, h⟩
  obtain ⟨q, rfl, hq⟩ := mem_setL.1 hx
  exact ⟨q, by rw [← hm]; exact lt_of_get hq, getD_some hq, by simpa using h⟩
 ·rintro ⟨s, hs, h1, h2⟩
  obtain ⟨b, hb⟩ := get_lt (l := m) (i := s) (by omega)
  rw [getD_some hb] at h1
  subst h1
  exact ⟨(s : Int), mem_setL.2 ⟨s, rfl, hb⟩, by simpa using h2⟩
theorem setL_in {m : List Bool} {n : Nat} (hm : m.length = n) : ∀ x ∈ setL m, inN n x = true := fun x hx => by
 obtain ⟨q, rfl, hq⟩ := mem_setL.1 hx
 have := lt_of_get hq
 rw [inN_iff]; omega
theorem setL_len (m : List Bool) : (setL m).length ≤ m.length := by
 unfold setL
 rw [List.length_map]
 exact Nat.le_trans (List.length_filter_le _ _) (by simp)
end Go.Proofs.YtakpmdmjbgipiaaGreatDoor
namespace Go.Proofs.YtakpmdmjbgipiaaGreatDoor
open Go.RowKit
set_option maxHeartbeats 16000000
set_option maxRecDepth 100000
section
variable {P : Program} {w : World}
theorem run_append_zero {t e size : Nat} (R : RowTy P t e size) (ty : TypeId) {base : Nat} {v : Value} {n : Nat} {xs : List Value} (hown : w.ownsRow base e size v n xs) (A : Option Addr) (c : Nat) :
  (Builtin.append_ #[t, t] ty #[v, .slice A 0 c]).run P w = .ok v w := by
 have ht := R.ht
 obtain ⟨i, z, bytes, hi, hz, hsize, hby, hzs, hb⟩ := R.info
 have e1 : ∀ (a : Addr), Sem.run P (loadCells a 0) w = .ok #[] w := fun _ => rfl
 rcases hown.2 with ⟨rfl, rfl⟩ | ⟨g, cap, cur, rfl, _, _, hnc, _⟩
 ·cases A <;> simp [Builtin.append_, run_underlying ht, sizeOf, typeInfo, hi, Builtin.lenOf, Builtin.firstCells, e1]
 ·cases A <;> simp [Builtin.append_, run_underlying ht, sizeOf, typeInfo, hi, Builtin.lenOf, Builtin.firstCells, hnc, storeCells, e1]
end
section
variable {P : Program} {ops : Array Oper} {rest : List Oper} {o : Oper} {a : Act} {Q : Exit → Act → World → Prop} {w : World}
theorem wpList_appSl {t e : Nat} {B : Nat} {D : Type} {enc : D → Nat → Value} (R : RowTy P t e 1) (hgd : o.guard = none) (s x : Operand)
  (ho : o.op = .call { callee := .builtin .append, args := #[s, x], argTypes := #[t, t] })
  (base : Nat) (v : Value) (n : Nat) (xs : List Value) (hs : a.eval s = v) (hown : w.ownsRow base e 1 v n xs)
  {A : Option Addr} {l : List D} {c : Nat} (hS : Sl w B 1 enc A l) (hx : a.eval x = .slice A l.length c) (h1 : ∀ d, (enc d 0).oneCell' = true)
  (hn : n + l.length ≤ 4000000) (hbase : base ≤ w.heap.size)
  (h : ∀ v' w', w'.ownsRow base e 1 v' (n + l.length) (xs ++ l.map (enc · 0)) → Kept w w' (fun k => v.ownBlock = some k) → Moved w v v' → wpList P ops Q rest (a.put o.dst v') w') :
  wpList P ops Q (o :: rest) a w := by
 by_cases h0 : l.length = 0
 ·have hl : l = [] := List.length_eq_zero_iff.1 h0
  subst hl
  have hr := run_append_zero (P := P) R o.type hown A c
  refine wpList_plain hgd fun K hK => ?_
  unfold Oper.wp execOp
  rw [List.length_nil] at hx
  simp only [ho, resolve, invoke, builtin, Sem.run_bind, Sem.run_pure, Result.andThen_ok, List.map_toArray, List.map_cons, List.map_nil, hs, hx, hr]
  exact hK _ _ (h v w (by simpa using hown) (Kept.refl _ _) (Moved.refl _ _))
 ·obtain ⟨b, off, d0, hA, hb, hd0, hc⟩ := hS.at (k := 0) (by omega)
  obtain ⟨b', o', e', hb', hall⟩ := hS.2 (by intro e; rw [e] at h0; exact h0 rfl)
  subst hA
  refine wpList_app R hgd s x ho base v n xs hs hown ⟨b, off, none⟩ l.length c (l.map (enc · 0)) hx (by simp) ?_ ?_ (by omega) hn hbase ?_
  ·intro j u hu
   rw [List.getElem?_map] at hu
   cases hx2 : l[j]? with
   | none => rw [hx2] at hu; cases hu
   | some d =>
    rw [hx2] at hu
    have hu := Option.some.inj hu
    subst hu
    have e := Option.some.inj e'
    injection e with e1 e2 _
    subst e1 e2
    have := hall j d hx2 0 (by omega)
    have hadd : (⟨b, off, none⟩ : Addr).add j = ⟨b, off + j * 1 + 0, none⟩ := by unfold Addr.add; split <;> simp_all
    rw [hadd]
    exact this
  ·intro u hu
   obtain ⟨d, _, rfl⟩ := List.mem_map.1 hu
   exact h1 d
  ·intro g cap w' hown' hk hmv _
   exact h _ w' hown' hk hmv
end
def NF.cat (a : NF) (l : List Int) (x : Nat) : List Int := l.flatMap fun s => a.to s.toNat x
theorem NF.cat_take {a : NF} {l : List Int} {x k : Nat} {s : Int} (h : l[k]? = some s) : a.cat (l.take (k + 1)) x = a.cat (l.take k) x ++ a.to s.toNat x := by
 unfold NF.cat
 rw [take_snoc h, List.flatMap_append]
 simp
theorem NF.cat_len {a : NF} {l : List Int} {x k : Nat} : (a.cat (l.take k) x).length ≤ (a.cat l x).length := by
 unfold NF.cat
 have := congrArg (fun l => (l.flatMap fun s : Int => a.to s.toNat x).length) (List.take_append_drop k l)
 simp only [List.flatMap_append, List.length_append] at this
 omega
theorem NF.to_at {w : World} {B : Nat} {a : NF} {A1 : Option Addr} (h : VSl R2 w B A1 a.nx) (hok : a.OK) {s x : Nat} (hs : s < a.n) (hx : x < a.L) :
  ∃ b off A c b2 off2 A' c', A1 = some ⟨b, off, none⟩ ∧ b < B ∧ w.cell? ⟨b, off + s, none⟩ = some (.slice A a.L c) ∧ A = some ⟨b2, off2, none⟩ ∧ b2 < B ∧ w.cell? ⟨b2, off2 + x, none⟩ = some (.slice A' (a.to s x).length c') ∧ Sl w B 1 encI A' (a.to s x) := by
 obtain ⟨r, hr⟩ := get_lt (l := a.nx) (i := s) hs
 obtain ⟨b, off, v, h1, h2, h3, A, c, rfl, h4⟩ := h.at hr
 have hrl := hok.row r (List.mem_of_getElem? hr)
 obtain ⟨l, hl⟩ := get_lt (l := r) (i := x) (by omega)
 obtain ⟨b2, off2, v2, e1, e2, e3, A', c', rfl, e4⟩ := h4.at hl
 have : a.to s x = l := by unfold NF.to; rw [getD_some hr, getD_some hl]
 rw [this]
 exact ⟨b, off, A, c, b2, off2, A', c', h1, h2, by rw [h3, hrl], e1, e2, e3, e4⟩
theorem NF.cat_set {a : NF} (hok : a.OK) {m : List Bool} (hm : m.length = a.n) {x : Nat} (hx : x < a.L) : sortU (a.cat (setL m) x) = setL (a.after m x) := by
 refine sortU_set fun y => ?_
 unfold NF.cat
 rw [List.mem_flatMap]
 constructor
 ·rintro ⟨s, hs, hy⟩
  obtain ⟨q, rfl, hq⟩ := mem_setL.1 hs
  have hqn : q < a.n := by rw [← hm]; exact lt_of_get hq
  simp only [Int.toNat_natCast] at hy
  obtain ⟨r, hr⟩ := get_lt (l := a.nx) (i := q) hqn
  obtain ⟨l, hl⟩ := get_lt (l := r) (i := x) (by rw [hok.row r (List.mem_of_getElem? hr)]; exact hx)
  have e : a.to q x = l := by unfold NF.to; rw [getD_some hr, getD_some hl]
  obtain ⟨z, rfl, hz⟩ := inN_nat (hok.to r (List.mem_of_getElem? hr) l (List.mem_of_getElem? hl) y (by rw [← e]; exact hy))
  simp only [Int.toNat_natCast] at hz
  refine ⟨z, rfl, ?_⟩
  obtain ⟨b, hb⟩ := get_lt (l := a.after m x) (i := z) (by rw [a.after_len]; exact hz)
  have := (NF.after_get (m := m) (x := x) hz).2 ⟨q, hqn, getD_some hq, hy⟩
  rw [getD_some hb] at this
  rw [hb, this]
 ·rintro ⟨z, rfl, hz⟩
  have hzn : z < a.n := by have := lt_of_get hz; rwa [a.after_len] at this
  obtain ⟨s, hs, h1, h2⟩ := (NF.after_get (m := m) (x := x) hzn).1 (getD_some hz)
  obtain ⟨b, hb⟩ := get_lt (l := m) (i := s) (by omega)
  rw [getD_some hb] at h1
  subst h1
  exact ⟨(s : Int), mem_setL.2 ⟨s, rfl, hb⟩, by simpa using h2⟩
theorem step_any {w : World} {v : Value} {a : NF} {B c x : Nat} {A : Option Addr} {m : List Bool} (h : IsNF w w.heap.size v a) (hok : a.OK) (hm : m.length = a.n) (hl : Sl w B 1 encI A (setL m)) (hB : B ≤ w.heap.size) (hx : x < a.L) (hcap : (a.cat (setL m) x).length ≤ 4000000) :
  Calls Tryz.prog 54 #[v, .slice A (setL m).length c, .int .i64 (x : Int)] w (Ret fun r w' => w'.ownsRow w.heap.size 3 1 r (setL (a.after m x)).length ((setL (a.after m x)).map (Value.int .i64)) ∧ Below w.heap.size w w') := by
 obtain ⟨A1, c1, A2, c2, A3, c3, rfl, h1, h2, h3, h4⟩ := h
 obtain ⟨w1, hw1, hb1, hB1, hk1⟩ := box_blk w #[.int .i64 (a.L : Int), .slice A1 a.nx.length c1, .slice A2 a.start.length c2, .slice A3 a.acc.length c3] 56
 have hs1 := hb1.size
 have hin := hide (setL_in hm)
 have hfin := hide (NF.cat_set hok hm hx)
 have h1H := hide h1
 have hokH := hide hok
 have hxH := hide hx
 have hlm := hl.1
 obtain ⟨l, hle⟩ : ∃ l, l = setL m := ⟨_, rfl⟩
 have hleH := hide hle
 rw [← hle] at hl hcap hlm ⊢
 clear h2 h3 h4 hok hle h1
 have hB1H := hide hB1
 obtain ⟨n, hn⟩ : ∃ n, n = a.nx.length := ⟨_, rfl⟩
 have hnH := hide hn
 rw [← hn] at hw1 hB1H ⊢
 have hnm : n ≤ 9223372036854775807 := by rw [hn]; exact h1H.out.1
 clear hn hB1
 go_enter Tryz.func54, Tryz.ntmps54
 go_wp2_with fail
 go_loopw [7, 12] (fun vv ii wr => ∃ (k n' : Nat), ii = .int .i64 (k : Int) ∧ k ≤ l.length ∧ Below w1.heap.size w1 wr ∧ Hid (n' = (a.cat (l.take k) x).length ∧ wr.ownsRow w1.heap.size 3 1 vv n' ((a.cat (l.take k) x).map (Value.int .i64)))) (fun _ ii _ => l.length - (intOf ii).toNat)
 case atStart => exact ⟨0, 0, rfl, Nat.zero_le _, Below.refl _ _, rfl, own_nil⟩
 case round =>
  obtain ⟨k, n', rfl, hk, hBB, hO⟩ := hrel
  have hall := hb1.trans (hBB.mono hs1)
  by_cases hlt : k < l.length
  ·obtain ⟨b, off, s, rfl, hbk, hxk, hc⟩ := hl.at hlt
   have hc0 := (hall.cell (by show b < _; omega)).trans (hc 0 (by omega))
   simp only [Nat.mul_one, Nat.add_zero, encI] at hc0
   obtain ⟨q, rfl, hq⟩ := inN_nat (hin.out s (by rw [← hleH.out]; exact List.mem_of_getElem? hxk))
   simp only [Int.toNat_natCast] at hq
   obtain ⟨bA, oA, A', cA, b2, o2, A'', c'', rfl, g1, g2, rfl, g3, g4, g5⟩ := NF.to_at (h1H.out.keep (@R2.keep) (fun p hp => hall.cell hp) (Nat.le_refl _)) hokH.out hq hxH.out
   have hcb := (hB1H.out.at hB1H.out.lt hBB).cell
   have hcat := hide (NF.cat_take (a := a) (x := x) hxk)
   simp only [Int.toNat_natCast] at hcat
   have hle2 := hide (NF.cat_len (a := a) (l := l) (x := x) (k := k + 1))
   have hqn : q < n := by rw [hnH.out]; exact hq
   have hS := hide g5
   have hXk := hide hxk
   obtain ⟨Av, cv, rfl⟩ := slice_of_own hO.out.2
   obtain ⟨tl, htl⟩ : ∃ tl, tl = (a.to q x).length := ⟨_, rfl⟩
   have htlH := hide htl
   rw [← htl] at g4
   have hxL := hxH.out
   obtain ⟨L, hL⟩ : ∃ L, L = a.L := ⟨_, rfl⟩
   rw [← hL] at g2 hxL
   have hLH := hide hL
   clear hxk hc g5 htl hL
   have hbd := hide (show n' + (a.to q x).length ≤ 4000000 from by have e1 := hO.out.1; have e2 := hle2.out; rw [hcat.out, List.length_append] at e2; omega)
   have hOH := hO
   clear hO
   go_wp2_with (at_builtin; refine wpList_appSl row3 rfl _ _ rfl w1.heap.size _ n' _ rfl hOH.out.2 hS.out (by rw [← htlH.out]; rfl) (fun d => rfl) hbd.out hBB.size ?_; intro v2 w2 hown2 hkept2 hmv2)
   refine ⟨⟨k + 1, n' + (a.to q x).length, by go_num, by omega, hBB.trans (hkept2.below hBB.size fun b hb e => by have := own_base hOH.out.2 e; omega), ?_, ?_⟩, by simp [intOf]; omega⟩
   ·rw [hcat.out, List.length_append, ← hOH.out.1]
   ·rw [hcat.out, List.map_append]; exact hown2
  ·have hO2 := hO.out
   rw [List.take_of_length_le (by omega)] at hO2
   obtain ⟨hn', hown⟩ := hO2
   have hBf := hide hall
   obtain ⟨A7, c7, e7, hS7⟩ := own_slI hown hn'.symm (Nat.le_refl _) (by omega)
   subst e7
   have hSH := hide hS7
   have hcp := hide hcap
   clear hown hO hS7
   go_wp2_with (go_at_call 53; refine Calls.ret (sorted_any hSH.out hcp.out) ?_; rintro v w9 ⟨ho9, hb9⟩)
   have hf2 := hfin.out
   rw [← hleH.out] at hf2
   go_ret
   rw [hf2] at ho9
   exact ⟨own_mono ho9 hBf.out.size, hBf.out.trans (hb9.mono hBf.out.size)⟩
end Go.Proofs.YtakpmdmjbgipiaaGreatDoor
namespace Go.Proofs.YtakpmdmjbgipiaaGreatDoor
open Go.RowKit
set_option maxHeartbeats 16000000
set_option maxRecDepth 100000
def decV (l : List UInt8) : Nat := l.foldl (fun v b => 10 * v + (b.toNat - 48)) 0
theorem decV_snoc (l : List UInt8) (b : UInt8) : decV (l ++ [b]) = 10 * decV l + (b.toNat - 48) := by simp [decV]
theorem dig_nat {d : Nat} (h : d < 10) : (UInt8.ofNat (48 + d)).toNat = 48 + d := by
 rw [UInt8.toNat_ofNat']
 omega
theorem decV_dec (u : Nat) : decV (Lib.decDigits u) = u := by
 induction u using Nat.strongRecOn with
 | _ u ih =>
  rw [Lib.decDigits]
  split
  ·next h =>
   have := decV_snoc [] (UInt8.ofNat (48 + u))
   rw [List.nil_append] at this
   rw [this, dig_nat h]
   simp [decV]
  ·next h =>
   rw [decV_snoc, ih (u / 10) (by omega), dig_nat (by omega)]
   omega
theorem dec_no32 (u : Nat) : (32 : UInt8) ∉ Lib.decDigits u := by
 induction u using Nat.strongRecOn with
 | _ u ih =>
  rw [Lib.decDigits]
  have key : ∀ d, d < 10 → (32 : UInt8) ≠ UInt8.ofNat (48 + d) := fun d hd e => by
   have := congrArg UInt8.toNat e
   rw [dig_nat hd] at this
   have h32 : (32 : UInt8).toNat = 32 := rfl
   omega
  split
  ·next h => simpa using key u h
  ·next h =>
   rw [List.mem_append, List.mem_singleton]
   rintro (h1 | h1)
   ·exact ih (u / 10) (by omega) h1
   ·exact key (u % 10) (by omega) h1
theorem split_at {a b r s : List UInt8} (ha : (32 : UInt8) ∉ a) (hb : (32 : UInt8) ∉ b) (h : a ++ 32 :: r = b ++ 32 :: s) : a = b ∧ r = s := by
 induction a generalizing b with
 | nil =>
  cases b with
  | nil => simpa using h
  | cons y b =>
   simp at h
   exact absurd (List.mem_cons.2 (.inl h.1)) hb
 | cons x a ih =>
  cases b with
  | nil =>
   simp at h
   exact absurd (List.mem_cons.2 (.inl h.1.symm)) ha
  | cons y b =>
   simp only [List.cons_append, List.cons.injEq] at h
   obtain ⟨h1, h2⟩ := ih (fun hm => ha (List.mem_cons_of_mem _ hm)) (fun hm => hb (List.mem_cons_of_mem _ hm)) h.2
   exact ⟨by rw [h.1, h1], h2⟩
def keyN (l : List Nat) : List UInt8 := l.flatMap fun x => Lib.decDigits x ++ [32]
theorem keyN_cons (x : Nat) (l : List Nat) : keyN (x :: l) = Lib.decDigits x ++ 32 :: keyN l := by simp [keyN]
theorem keyN_inj : ∀ {l k : List Nat}, keyN l = keyN k → l = k
 | [], [], _ => rfl
 | [], y :: k, h => by rw [keyN_cons] at h; simp [keyN] at h
 | x :: l, [], h => by rw [keyN_cons] at h; simp [keyN] at h
 | x :: l, y :: k, h => by
  rw [keyN_cons, keyN_cons] at h
  obtain ⟨h1, h2⟩ := split_at (dec_no32 x) (dec_no32 y) h
  have := congrArg decV h1
  rw [decV_dec, decV_dec] at this
  rw [this, keyN_inj h2]
theorem keyN_take {l : List Nat} {k x : Nat} (h : l[k]? = some x) : keyN (l.take (k + 1)) = keyN (l.take k) ++ (Lib.decDigits x ++ [32]) := by
 unfold keyN
 rw [take_snoc h, List.flatMap_append]
 simp
theorem dec_len : ∀ (k u : Nat), u < 10 ^ (k + 1) → (Lib.decDigits u).length ≤ k + 1
 | 0, u, h => by rw [Lib.decDigits, dif_pos (by simpa using h)]; simp
 | k + 1, u, h => by
  rw [Lib.decDigits]
  split
  ·simp
  ·rw [List.length_append]
   have := dec_len k (u / 10) (by rw [Nat.pow_succ] at h; omega)
   simp
   omega
theorem keyN_len {l : List Nat} (h : ∀ x ∈ l, x < 1000000000) : (keyN l).length ≤ l.length * 10 := by
 induction l with
 | nil => simp [keyN]
 | cons x l ih =>
  rw [keyN_cons]
  have h1 := dec_len 8 x (h x List.mem_cons_self)
  have h2 := ih fun y hy => h y (List.mem_cons_of_mem _ hy)
  simp
  omega
def PowT (w : World) : Prop := Lib.TabIs Tryz.prog w "internal/strconv.uint64pow10" .u64 Lib.pow10Tab
theorem PowT.below {w w' : World} (h : PowT w) (hb : Below w.heap.size w w') : PowT w' := (Lib.tabBelow_of_tabIs h) w' hb
theorem isB_keep {T e : TypeId} {B b : Nat} {bs : List Value} {w w' : World} (h : Lib.IsBuilder T e B b bs w) (hb : Below w.heap.size w w') : Lib.IsBuilder T e B b bs w' := by
 have key : ∀ p, Lib.BuilderAt T e B b p bs w → Lib.BuilderAt T e B b p bs w' := by
  rintro p ⟨h1, v, h2, h3, h4⟩
  exact ⟨h1, v, by rw [hb.block b (Array.getElem?_eq_some_iff.1 h2).1]; exact h2, own_below h3 hb, h4⟩
 exact h.elim (fun x => .inl (key _ x)) (fun x => .inr (key _ x))
theorem key_any {w : World} {B c : Nat} {A : Option Addr} {l : List Nat} (h : Sl w B 1 encI A (natL l)) (hB : B ≤ w.heap.size) (hs : ∀ x ∈ l, x < 1000000000) (hl : l.length ≤ 4000000) (hT : PowT w) :
  Calls Tryz.prog 51 #[.slice A (natL l).length c] w (Ret fun r w' => r = .string ⟨(keyN l).toArray⟩ ∧ Below w.heap.size w w') := by
 obtain ⟨w1, hw1, hb1, hB1, hk1⟩ := box_blk w #[.pointer none, .slice none 0 0] 125
 have hs1 := hb1.size
 have hbuild : Lib.IsBuilder 125 5 w.heap.size w.heap.size (Lib.byteCells (keyN (l.take 0))) w1 := .inl ⟨Nat.le_refl _, .slice none 0 0, hB1, own_nil, by simp [Value.ownBlock]⟩
 have hbH := hide hbuild
 have hTH := hide hT
 have hsH := hide hs
 have hlen : (natL l).length = l.length := by simp [natL]
 obtain ⟨n, hn⟩ : ∃ n, n = l.length := ⟨_, rfl⟩
 rw [hlen, ← hn]
 have hnH := hide hn
 have hlim : n ≤ 4000000 := by omega
 clear hbuild hT hs hB1 hk1 hn hl hlen
 go_enter Tryz.func51, Tryz.ntmps51
 go_wp2_with fail
 go_loopw [8] (fun ii wr => ∃ (k : Nat), ii = .int .i64 (k : Int) ∧ k ≤ n ∧ Hid (Lib.IsBuilder 125 5 w.heap.size w.heap.size (Lib.byteCells (keyN (l.take k))) wr) ∧ Below w.heap.size w wr) (fun ii _ => n - (intOf ii).toNat)
 case atStart => exact ⟨0, rfl, Nat.zero_le _, hbH, hb1⟩
 case round =>
  obtain ⟨k, rfl, hk, hI, hBB⟩ := hrel
  by_cases hlt : k < n
  ·obtain ⟨x, hx⟩ := get_lt (l := l) (i := k) (by rw [← hnH.out]; exact hlt)
   obtain ⟨b, off, d, rfl, hbb, hd, hc⟩ := h.at (k := k) (by simp [natL]; rw [← hnH.out]; exact hlt)
   have hd2 : d = (x : Int) := by
    unfold natL at hd
    rw [map_get hx] at hd
    exact (Option.some.inj hd).symm
   subst hd2
   have hc0 := (hBB.cell (by show b < _; omega)).trans (hc 0 (by omega))
   simp only [Nat.mul_one, Nat.add_zero, encI] at hc0
   have hX := hide hx
   have hxs := hsH.out x (List.mem_of_getElem? hx)
   have hkey := hide (keyN_take hx)
   have hln1 := hide (Nat.le_trans (keyN_len (l := l.take (k + 1)) fun y hy => hsH.out y (List.mem_of_mem_take hy)) (Nat.mul_le_mul_right 10 (List.length_take_le _ _)))
   have hTr := hide (hTH.out.below hBB)
   have hBBH := hide hBB
   have hszB := hBB.size
   clear hx hc hd hBB
   go_wp2_with fail
   refine (Tryz.strconv_Itoa (x : Int) (by omega) (by omega) wr hTr.out).mono ?_
   rintro e w2 ⟨rfl, kk, os, hw2⟩
   have hkeep : Below wr.heap.size wr w2 := by
    subst hw2
    refine ⟨rfl, rfl, rfl, by simp [Go.Sort.grow], fun b hb => ?_⟩
    unfold Go.Sort.grow
    rw [Array.getElem?_append_left (by simpa using hb)]
    rfl
   rw [Lib.itoa_nonneg]
   have hI2 := isB_keep hI.out hkeep
   have hsz2 := hkeep.size
   clear hw2
   go_wp2_with fail
   refine (Tryz.Builder_WriteString w.heap.size w.heap.size _ ⟨(Lib.decDigits x).toArray⟩ w2 hI2 ?_ (by omega)).mono ?_
   ·have e1 := hln1.out
    rw [hkey.out, List.length_append, List.length_append] at e1
    rw [Lib.byteCells_length]
    show _ + (Lib.decDigits x).toArray.size ≤ _
    simp only [List.size_toArray]
    omega
   rintro e w3 ⟨rfl, hI3, hb3⟩
   rw [Lib.strCells_toArray, ← Lib.byteCells_append] at hI3
   have hsz3 := hb3.size
   go_wp2_with fail
   refine (Tryz.Builder_WriteByte w.heap.size w.heap.size _ 32 w3 (.inr hI3) ?_ (by omega)).mono ?_
   ·have e1 := hln1.out
    rw [hkey.out, List.length_append, List.length_append] at e1
    rw [Lib.byteCells_length, List.length_append]
    simp at e1
    omega
   rintro e w4 ⟨rfl, hI4, hb4⟩
   go_wp2_with fail
   refine ⟨⟨k + 1, by go_num, by omega, ?_, ((hBBH.out.trans (hkeep.mono hBBH.out.size)).trans hb3).trans hb4⟩, by simp [intOf]; omega⟩
   show Lib.IsBuilder _ _ _ _ _ _
   rw [hkey.out]
   refine .inr ?_
   have e32 : Lib.byteCells (keyN (l.take k) ++ Lib.decDigits x) ++ [Value.int .u8 32] = Lib.byteCells (keyN (l.take k) ++ (Lib.decDigits x ++ [32])) := by
    rw [← List.append_assoc, Lib.byteCells_append _ [32]]
    rfl
   rw [e32] at hI4
   exact hI4
  ·have hI2 := hI.out
   rw [List.take_of_length_le (by rw [← hnH.out]; omega)] at hI2
   have hI3 := hide hI2
   have hBH := hide hBB
   clear hI2 hI hBB
   go_wp2_with (go_at_call 79; refine (Tryz.Builder_String_any w.heap.size w.heap.size (keyN l) wr hI3.out hBH.out.size).mono ?_; rintro e w5 ⟨rfl, hb5⟩)
   go_ret
   exact ⟨rfl, hBH.out.trans hb5⟩
end Go.Proofs.YtakpmdmjbgipiaaGreatDoor
