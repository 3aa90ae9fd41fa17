/- Small words of the printed walks: what of them this claim names. No condition. -/
import Derived.Shelf.Strings.Builder1
import Derived.Shelf.Strings.Builder2
import Derived.Shelf.Strings.OnBuilder
import Derived.Shelf.Small.Strs
import Derived.Shelf.Strconv.Itoa0
import Derived.Shelf.Strconv.Itoa1
import Derived.Shelf.LaysM
import Derived.Shelf.Strconv.Itoa2
import Derived.Shelf.Strconv.Itoa3
import Derived.Shelf.Strings.Search1
import Derived.Shelf.Sort.Plain
import Derived.Shelf.Slices.Turned
import Derived.Shelf.Slices.Equal
import Derived.Shelf.Slices.CompactS
import Derived.Shelf.Slices.Cells
import Derived.Shelf.Slices.In.SortNone
import Derived.Shelf.Slices.Empties2
import Derived.Test.YtmffocankommaaaGreatDoorProg
namespace Go.Proofs
open Go.Shelf
def Tryz.lays156_ren:Go.Shelf.Ren:=⟨fun | 156=>33 | 165=>70 | 166=>32 | 169=>36 | 240=>69 | 241=>97 | 276=>96 | 277=>118 | n=>n,fun | 31=>43 | 9=>9 | 3=>3 | 4=>4 | 0=>0 | 20=>20 | 72=>74 | 76=>77 | 70=>71 | 37=>72 | 75=>76 | 127=>99 | 164=>115 | 5=>5 | 80=>81 | n=>n,fun | n=>n⟩
theorem Tryz.lays156:Go.Proofs.Lays.n156 Tryz.prog Tryz.lays156_ren:={
 mixed:=by kernel_rfl
 f156:=Tryz.func33.trans (congrArg some (by kernel_rfl))
 f165:=Tryz.func70.trans (congrArg some (by kernel_rfl))
 f166:=Tryz.func32.trans (congrArg some (by kernel_rfl))
 f169:=Tryz.func36.trans (congrArg some (by kernel_rfl))
 f240:=Tryz.func69.trans (congrArg some (by kernel_rfl))
 f241:=Tryz.func97.trans (congrArg some (by kernel_rfl))
 f276:=Tryz.func96.trans (congrArg some (by kernel_rfl))
 f277:=Tryz.func118.trans (congrArg some (by kernel_rfl))
 t0:=Tryz.underlying0
 a0:=Tryz.isAgg0
 z0:=Tryz.sizeOf0
 v0:=Tryz.zeroValue0
 t3:=Tryz.underlying3
 a3:=Tryz.isAgg3
 z3:=Tryz.sizeOf3
 v3:=Tryz.zeroValue3
 t4:=Tryz.underlying4
 a4:=Tryz.isAgg4
 z4:=Tryz.sizeOf4
 v4:=Tryz.zeroValue4
 t9:=Tryz.underlying9
 a9:=Tryz.isAgg9
 z9:=Tryz.sizeOf9
 v9:=Tryz.zeroValue9
 t20:=Tryz.underlying20
 a20:=Tryz.isAgg20
 z20:=Tryz.sizeOf20
 v20:=Tryz.zeroValue20
 t31:=Tryz.underlying43
 a31:=Tryz.isAgg43
 z31:=Tryz.sizeOf43
 v31:=Tryz.zeroValue43
 t37:=Tryz.underlying72
 a37:=Tryz.isAgg72
 z37:=Tryz.sizeOf72
 v37:=Tryz.zeroValue72
 t70:=Tryz.underlying71
 a70:=Tryz.isAgg71
 z70:=Tryz.sizeOf71
 v70:=Tryz.zeroValue71
 t72:=Tryz.underlying74
 a72:=Tryz.isAgg74
 z72:=Tryz.sizeOf74
 v72:=Tryz.zeroValue74
 t75:=Tryz.underlying76
 a75:=Tryz.isAgg76
 z75:=Tryz.sizeOf76
 v75:=Tryz.zeroValue76
 t76:=Tryz.underlying77
 a76:=Tryz.isAgg77
 z76:=Tryz.sizeOf77
 v76:=Tryz.zeroValue77
 t127:=Tryz.underlying99
 a127:=Tryz.isAgg99
 z127:=Tryz.sizeOf99
 v127:=Tryz.zeroValue99
 t164:=Tryz.underlying115
 a164:=Tryz.isAgg115
 z164:=Tryz.sizeOf115
 v164:=Tryz.zeroValue115}
theorem Tryz.Builder_Extra_156:Builder.Extra Tryz.prog Tryz.lays156_ren:={
 sizeBuilder:=by kernel_rfl
 liesBuilder:=by kernel_rfl
 t5:=Tryz.underlying5
 a5:=Tryz.isAgg5
 z5:=Tryz.sizeOf5
 v5:=Tryz.zeroValue5
 infoByte:=by kernel_rfl
 cellsByte:=by kernel_rfl
 sizeByte:=by kernel_rfl
 neB5:=by decide}
open Go.RowKit in
theorem Tryz.strings_Join_none (a:Option Addr) (c:Nat) (sep:ByteArray) (w:World) :
  Calls Tryz.prog 33 #[.slice a 0 c,.string sep] w fun e w'=>e = .returned (.string ⟨#[]⟩)∧w' = w:=Any.strings_Join_none Tryz.lays156 Tryz.Builder_Extra_156 a c sep w
open Go.RowKit in
theorem Tryz.strings_Join (bk o c:Nat) (xs:List ByteArray) (sep:ByteArray) (w:World) (hcells:∀ (j:Nat) x,xs[j]? = some x → w.cell? ⟨bk,o + j,none⟩ = some (.string x)) (hbk:bk < w.heap.size) (hN:xs.length≤140737488355328) (hcap:xs.length≤c) (hlen:(Lib.join (xs.map (·.data.toList)) sep.data.toList).length≤140737488355328) :
  Calls Tryz.prog 33 #[.slice (some ⟨bk,o,none⟩) xs.length c,.string sep] w fun e w'=>e = .returned (.string ⟨(Lib.join (xs.map (·.data.toList)) sep.data.toList).toArray⟩)∧Below w.heap.size w w':=Any.strings_Join Tryz.lays156 Tryz.Builder_Extra_156 bk o c xs sep w hcells hbk hN hcap hlen
def Tryz.lays137_ren:Go.Shelf.Ren:=⟨fun | 137=>86 | 217=>114 | 266=>131 | n=>n,fun | 9=>9 | 5=>5 | 3=>3 | n=>n,fun | n=>n⟩
theorem Tryz.lays137:Go.Proofs.Lays.n137 Tryz.prog Tryz.lays137_ren:={
 mixed:=by kernel_rfl
 f137:=Tryz.func86.trans (congrArg some (by kernel_rfl))
 f217:=Tryz.func114.trans (congrArg some (by kernel_rfl))
 f266:=Tryz.func131.trans (congrArg some (by kernel_rfl))
 t3:=Tryz.underlying3
 a3:=Tryz.isAgg3
 z3:=Tryz.sizeOf3
 v3:=Tryz.zeroValue3
 t5:=Tryz.underlying5
 a5:=Tryz.isAgg5
 z5:=Tryz.sizeOf5
 v5:=Tryz.zeroValue5
 t9:=Tryz.underlying9
 a9:=Tryz.isAgg9
 z9:=Tryz.sizeOf9
 v9:=Tryz.zeroValue9}
open Go.RowKit in
theorem Tryz.strings_IndexByte (s:ByteArray) (c:Int) (w:World) :
  Calls Tryz.prog 86 #[.string s,.int .u8 c] w fun e w'=>e = .returned (.int .i64 (Lib.indexByte s.data.toList c.toNat.toUInt8))∧w' = w:=Any.strings_IndexByte Tryz.lays137 s c w
def Tryz.lays190_ren:Go.Shelf.Ren:=⟨fun | 190=>43 | 125=>78 | 258=>77 | 128=>111 | 129=>112 | 302=>102 | 303=>103 | 304=>104 | 305=>105 | 306=>106 | 307=>107 | 308=>108 | 309=>109 | 310=>110 | 333=>125 | 329=>126 | 330=>127 | 334=>128 | 335=>129 | 336=>130 | 344=>137 | n=>n,fun | 31=>43 | 9=>9 | 3=>3 | 46=>104 | 0=>0 | 51=>128 | 53=>130 | 4=>4 | 183=>121 | 182=>120 | 131=>108 | 5=>5 | 218=>137 | 222=>141 | 228=>148 | 229=>149 | n=>n,fun | n=>n⟩
theorem Tryz.lays190:Go.Proofs.Lays.n190 Tryz.prog Tryz.lays190_ren:={
 mixed:=by kernel_rfl
 f125:=Tryz.func78.trans (congrArg some (by kernel_rfl))
 f128:=Tryz.func111.trans (congrArg some (by kernel_rfl))
 f129:=Tryz.func112.trans (congrArg some (by kernel_rfl))
 f190:=Tryz.func43.trans (congrArg some (by kernel_rfl))
 f258:=Tryz.func77.trans (congrArg some (by kernel_rfl))
 f302:=Tryz.func102.trans (congrArg some (by kernel_rfl))
 f303:=Tryz.func103.trans (congrArg some (by kernel_rfl))
 f304:=Tryz.func104.trans (congrArg some (by kernel_rfl))
 f305:=Tryz.func105.trans (congrArg some (by kernel_rfl))
 f306:=Tryz.func106.trans (congrArg some (by kernel_rfl))
 f307:=Tryz.func107.trans (congrArg some (by kernel_rfl))
 f308:=Tryz.func108.trans (congrArg some (by kernel_rfl))
 f309:=Tryz.func109.trans (congrArg some (by kernel_rfl))
 f310:=Tryz.func110.trans (congrArg some (by kernel_rfl))
 f329:=Tryz.func126.trans (congrArg some (by kernel_rfl))
 f330:=Tryz.func127.trans (congrArg some (by kernel_rfl))
 f333:=Tryz.func125.trans (congrArg some (by kernel_rfl))
 f334:=Tryz.func128.trans (congrArg some (by kernel_rfl))
 f335:=Tryz.func129.trans (congrArg some (by kernel_rfl))
 f336:=Tryz.func130.trans (congrArg some (by kernel_rfl))
 f344:=Tryz.func137.trans (congrArg some (by kernel_rfl))
 t0:=Tryz.underlying0
 a0:=Tryz.isAgg0
 z0:=Tryz.sizeOf0
 v0:=Tryz.zeroValue0
 t3:=Tryz.underlying3
 a3:=Tryz.isAgg3
 z3:=Tryz.sizeOf3
 v3:=Tryz.zeroValue3
 t4:=Tryz.underlying4
 a4:=Tryz.isAgg4
 z4:=Tryz.sizeOf4
 v4:=Tryz.zeroValue4
 t5:=Tryz.underlying5
 a5:=Tryz.isAgg5
 z5:=Tryz.sizeOf5
 v5:=Tryz.zeroValue5
 t9:=Tryz.underlying9
 a9:=Tryz.isAgg9
 z9:=Tryz.sizeOf9
 v9:=Tryz.zeroValue9
 t31:=Tryz.underlying43
 a31:=Tryz.isAgg43
 z31:=Tryz.sizeOf43
 v31:=Tryz.zeroValue43
 t46:=Tryz.underlying104
 a46:=Tryz.isAgg104
 z46:=Tryz.sizeOf104
 v46:=Tryz.zeroValue104
 t51:=Tryz.underlying128
 a51:=Tryz.isAgg128
 z51:=Tryz.sizeOf128
 v51:=Tryz.zeroValue128
 t53:=Tryz.underlying130
 a53:=Tryz.isAgg130
 z53:=Tryz.sizeOf130
 v53:=Tryz.zeroValue130
 t131:=Tryz.underlying108
 a131:=Tryz.isAgg108
 z131:=Tryz.sizeOf108
 v131:=Tryz.zeroValue108
 t182:=Tryz.underlying120
 a182:=Tryz.isAgg120
 z182:=Tryz.sizeOf120
 v182:=Tryz.zeroValue120
 t183:=Tryz.underlying121
 a183:=Tryz.isAgg121
 z183:=Tryz.sizeOf121
 v183:=Tryz.zeroValue121
 t218:=Tryz.underlying137
 a218:=Tryz.isAgg137
 z218:=Tryz.sizeOf137
 v218:=Tryz.zeroValue137
 t222:=Tryz.underlying141
 a222:=Tryz.isAgg141
 z222:=Tryz.sizeOf141
 v222:=Tryz.zeroValue141
 t228:=Tryz.underlying148
 a228:=Tryz.isAgg148
 z228:=Tryz.sizeOf148
 v228:=Tryz.zeroValue148
 t229:=Tryz.underlying149
 a229:=Tryz.isAgg149
 z229:=Tryz.sizeOf149
 v229:=Tryz.zeroValue149}
open Go.Sort Go.RowKit in
theorem Tryz.slices_Sort_string (blk off cap:Nat) (ss:List (List UInt8)) (w:World) (hH:Holds encStr w blk off ss.toArray) (hblk:blk < w.heap.size) (hsz:ss.length < 4611686018427387904) :
  Calls Tryz.prog 43 #[.slice (some ⟨blk,off,none⟩) ss.length cap] w fun e w'=>
   e = .returned (.tuple #[])∧∃ n os,w' = grow (putRow encStr (Sort.ahead w n) blk off (ss.mergeSort fun x y=>decide (x≤y)).toArray) os:=Any.slices_Sort_string Tryz.lays190 blk off cap ss w hH hblk hsz
def Tryz.lays194_ren:Go.Shelf.Ren:=⟨fun | 194=>44 | n=>n,fun | 31=>43 | 9=>9 | 3=>3 | 4=>4 | 0=>0 | n=>n,fun | n=>n⟩
theorem Tryz.lays194:Go.Proofs.Lays.n194 Tryz.prog Tryz.lays194_ren:={
 mixed:=by kernel_rfl
 f194:=Tryz.func44.trans (congrArg some (by kernel_rfl))
 t0:=Tryz.underlying0
 a0:=Tryz.isAgg0
 z0:=Tryz.sizeOf0
 v0:=Tryz.zeroValue0
 t3:=Tryz.underlying3
 a3:=Tryz.isAgg3
 z3:=Tryz.sizeOf3
 v3:=Tryz.zeroValue3
 t4:=Tryz.underlying4
 a4:=Tryz.isAgg4
 z4:=Tryz.sizeOf4
 v4:=Tryz.zeroValue4
 t9:=Tryz.underlying9
 a9:=Tryz.isAgg9
 z9:=Tryz.sizeOf9
 v9:=Tryz.zeroValue9
 t31:=Tryz.underlying43
 a31:=Tryz.isAgg43
 z31:=Tryz.sizeOf43
 v31:=Tryz.zeroValue43}
open Go.RowKit Go.Lib Go.Sort in
theorem Tryz.slices_Compact_string (blk off cap:Nat) (zs:List (List UInt8)) (w:World) (hH:Holds encStr w blk off zs.toArray) (hsz:zs.length≤9223372036854775807) (hcap:zs.length≤cap) :
  Calls Tryz.prog 44 #[.slice (some ⟨blk,off,none⟩) zs.length cap] w fun e w'=>e = .returned (.slice (some ⟨blk,off,none⟩) (Lib.compact zs).length cap)∧∃ q,w' = putRow encStr (Sort.ahead w q) blk off (Lib.compact zs++List.replicate (zs.length - (Lib.compact zs).length) []).toArray:=Any.slices_Compact_string Tryz.lays194 blk off cap zs w hH hsz hcap
open Go.RowKit Go.Lib Go.Sort in
theorem Tryz.slices_Compact_string_empty (a:Option Addr) (cap:Nat) (w:World) :
  Calls Tryz.prog 44 #[.slice a 0 cap] w fun e w'=>e = .returned (.slice a 0 cap)∧w' = w:=Any.slices_Compact_string_empty Tryz.lays194 a cap w
open Go.RowKit Go.Sort in
theorem Tryz.slices_Sort_string_none (p:Option Addr) (cap:Nat) (w:World) :
  Calls Tryz.prog 43 #[.slice p 0 cap] w fun e w'=>e = .returned (.tuple #[])∧w' = w:=Any.slices_Sort_string_none Tryz.lays190 p cap w
end Go.Proofs
