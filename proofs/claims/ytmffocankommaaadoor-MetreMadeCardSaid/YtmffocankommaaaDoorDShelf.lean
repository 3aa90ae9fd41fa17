/- Small words of the printed walks: what of them this claim names. No condition. -/
import Derived.Shelf.Strings.Builder1
import Derived.Shelf.Strings.Builder2
import Derived.Shelf.Strings.OnBuilder
import Derived.Shelf.Small.Bits
import Derived.Shelf.Small.Strs
import Derived.Shelf.Strconv.Itoa0
import Derived.Shelf.Strconv.Itoa1
import Derived.Shelf.LaysM
import Derived.Shelf.Strconv.Itoa2
import Derived.Shelf.Strconv.Itoa3
import Derived.Shelf.Strings.Search1
import Derived.Shelf.Sort.Plain
import Derived.Shelf.Slices.Turned
import Derived.Shelf.Slices.Equal
import Derived.Ground.Names2Prog
import Derived.Shelf.Slices.Clone
import Derived.Shelf.Slices.CompactS
import Derived.Shelf.Slices.Cells
import Derived.Shelf.Slices.In.SortNone
import Derived.Ground.SlgnProg
import Derived.Shelf.SlicesE.Clone
import Derived.Test.YtmffocankommaaaDoorProg
namespace Go.Proofs
open Go.Shelf
def Tryd.lays169_ren:Go.Shelf.Ren:=⟨fun | 169=>57 | n=>n,fun | 70=>93 | 9=>9 | 0=>0 | 72=>95 | 37=>31 | 127=>127 | 3=>3 | 5=>5 | n=>n,fun | n=>n⟩
theorem Tryd.lays169:Go.Proofs.Lays.n169 Tryd.prog Tryd.lays169_ren:={
 mixed:=by kernel_rfl
 f169:=Tryd.func57.trans (congrArg some (by kernel_rfl))
 t0:=Tryd.underlying0
 a0:=Tryd.isAgg0
 z0:=Tryd.sizeOf0
 v0:=Tryd.zeroValue0
 t3:=Tryd.underlying3
 a3:=Tryd.isAgg3
 z3:=Tryd.sizeOf3
 v3:=Tryd.zeroValue3
 t9:=Tryd.underlying9
 a9:=Tryd.isAgg9
 z9:=Tryd.sizeOf9
 v9:=Tryd.zeroValue9
 t37:=Tryd.underlying31
 a37:=Tryd.isAgg31
 z37:=Tryd.sizeOf31
 v37:=Tryd.zeroValue31
 t70:=Tryd.underlying93
 a70:=Tryd.isAgg93
 z70:=Tryd.sizeOf93
 v70:=Tryd.zeroValue93
 t72:=Tryd.underlying95
 a72:=Tryd.isAgg95
 z72:=Tryd.sizeOf95
 v72:=Tryd.zeroValue95
 t127:=Tryd.underlying127
 a127:=Tryd.isAgg127
 z127:=Tryd.sizeOf127
 v127:=Tryd.zeroValue127}
theorem Tryd.Builder_Extra_169:Builder.Extra Tryd.prog Tryd.lays169_ren:={
 sizeBuilder:=by kernel_rfl
 liesBuilder:=by kernel_rfl
 t5:=Tryd.underlying5
 a5:=Tryd.isAgg5
 z5:=Tryd.sizeOf5
 v5:=Tryd.zeroValue5
 infoByte:=by kernel_rfl
 cellsByte:=by kernel_rfl
 sizeByte:=by kernel_rfl
 neB5:=by decide}
open Go.RowKit in
theorem Tryd.Builder_String_any (B b:Nat) (l:List UInt8) (w:World) (h:Lib.IsBuilder 95 5 B b (Lib.byteCells l) w) (hBw:B≤w.heap.size) :
  Calls Tryd.prog 57 #[.pointer (some ⟨b,0,none⟩)] w fun e w'=>e = .returned (.string ⟨l.toArray⟩)∧Below B w w':=Any.Builder_String_any Tryd.lays169 Tryd.Builder_Extra_169 B b l w h hBw
def Tryd.lays156_ren:Go.Shelf.Ren:=⟨fun | 156=>54 | 165=>99 | 166=>53 | 169=>57 | 240=>98 | 241=>125 | 276=>124 | 277=>142 | n=>n,fun | 31=>39 | 9=>9 | 3=>3 | 4=>4 | 0=>0 | 20=>20 | 72=>95 | 76=>98 | 70=>93 | 37=>31 | 75=>97 | 127=>127 | 164=>137 | 5=>5 | 80=>102 | n=>n,fun | n=>n⟩
theorem Tryd.lays156:Go.Proofs.Lays.n156 Tryd.prog Tryd.lays156_ren:={
 mixed:=by kernel_rfl
 f156:=Tryd.func54.trans (congrArg some (by kernel_rfl))
 f165:=Tryd.func99.trans (congrArg some (by kernel_rfl))
 f166:=Tryd.func53.trans (congrArg some (by kernel_rfl))
 f169:=Tryd.func57.trans (congrArg some (by kernel_rfl))
 f240:=Tryd.func98.trans (congrArg some (by kernel_rfl))
 f241:=Tryd.func125.trans (congrArg some (by kernel_rfl))
 f276:=Tryd.func124.trans (congrArg some (by kernel_rfl))
 f277:=Tryd.func142.trans (congrArg some (by kernel_rfl))
 t0:=Tryd.underlying0
 a0:=Tryd.isAgg0
 z0:=Tryd.sizeOf0
 v0:=Tryd.zeroValue0
 t3:=Tryd.underlying3
 a3:=Tryd.isAgg3
 z3:=Tryd.sizeOf3
 v3:=Tryd.zeroValue3
 t4:=Tryd.underlying4
 a4:=Tryd.isAgg4
 z4:=Tryd.sizeOf4
 v4:=Tryd.zeroValue4
 t9:=Tryd.underlying9
 a9:=Tryd.isAgg9
 z9:=Tryd.sizeOf9
 v9:=Tryd.zeroValue9
 t20:=Tryd.underlying20
 a20:=Tryd.isAgg20
 z20:=Tryd.sizeOf20
 v20:=Tryd.zeroValue20
 t31:=Tryd.underlying39
 a31:=Tryd.isAgg39
 z31:=Tryd.sizeOf39
 v31:=Tryd.zeroValue39
 t37:=Tryd.underlying31
 a37:=Tryd.isAgg31
 z37:=Tryd.sizeOf31
 v37:=Tryd.zeroValue31
 t70:=Tryd.underlying93
 a70:=Tryd.isAgg93
 z70:=Tryd.sizeOf93
 v70:=Tryd.zeroValue93
 t72:=Tryd.underlying95
 a72:=Tryd.isAgg95
 z72:=Tryd.sizeOf95
 v72:=Tryd.zeroValue95
 t75:=Tryd.underlying97
 a75:=Tryd.isAgg97
 z75:=Tryd.sizeOf97
 v75:=Tryd.zeroValue97
 t76:=Tryd.underlying98
 a76:=Tryd.isAgg98
 z76:=Tryd.sizeOf98
 v76:=Tryd.zeroValue98
 t127:=Tryd.underlying127
 a127:=Tryd.isAgg127
 z127:=Tryd.sizeOf127
 v127:=Tryd.zeroValue127
 t164:=Tryd.underlying137
 a164:=Tryd.isAgg137
 z164:=Tryd.sizeOf137
 v164:=Tryd.zeroValue137}
theorem Tryd.Builder_Extra_156:Builder.Extra Tryd.prog Tryd.lays156_ren:={
 sizeBuilder:=by kernel_rfl
 liesBuilder:=by kernel_rfl
 t5:=Tryd.underlying5
 a5:=Tryd.isAgg5
 z5:=Tryd.sizeOf5
 v5:=Tryd.zeroValue5
 infoByte:=by kernel_rfl
 cellsByte:=by kernel_rfl
 sizeByte:=by kernel_rfl
 neB5:=by decide}
open Go.RowKit in
theorem Tryd.strings_Join_none (a:Option Addr) (c:Nat) (sep:ByteArray) (w:World) :
  Calls Tryd.prog 54 #[.slice a 0 c,.string sep] w fun e w'=>e = .returned (.string ⟨#[]⟩)∧w' = w:=Any.strings_Join_none Tryd.lays156 Tryd.Builder_Extra_156 a c sep w
open Go.RowKit in
theorem Tryd.strings_Join (bk o c:Nat) (xs:List ByteArray) (sep:ByteArray) (w:World) (hcells:∀ (j:Nat) x,xs[j]? = some x → w.cell? ⟨bk,o + j,none⟩ = some (.string x)) (hbk:bk < w.heap.size) (hN:xs.length≤140737488355328) (hcap:xs.length≤c) (hlen:(Lib.join (xs.map (·.data.toList)) sep.data.toList).length≤140737488355328) :
  Calls Tryd.prog 54 #[.slice (some ⟨bk,o,none⟩) xs.length c,.string sep] w fun e w'=>e = .returned (.string ⟨(Lib.join (xs.map (·.data.toList)) sep.data.toList).toArray⟩)∧Below w.heap.size w w':=Any.strings_Join Tryd.lays156 Tryd.Builder_Extra_156 bk o c xs sep w hcells hbk hN hcap hlen
def Tryd.lays137_ren:Go.Shelf.Ren:=⟨fun | 137=>114 | 217=>139 | 266=>153 | n=>n,fun | 9=>9 | 5=>5 | 3=>3 | n=>n,fun | n=>n⟩
theorem Tryd.lays137:Go.Proofs.Lays.n137 Tryd.prog Tryd.lays137_ren:={
 mixed:=by kernel_rfl
 f137:=Tryd.func114.trans (congrArg some (by kernel_rfl))
 f217:=Tryd.func139.trans (congrArg some (by kernel_rfl))
 f266:=Tryd.func153.trans (congrArg some (by kernel_rfl))
 t3:=Tryd.underlying3
 a3:=Tryd.isAgg3
 z3:=Tryd.sizeOf3
 v3:=Tryd.zeroValue3
 t5:=Tryd.underlying5
 a5:=Tryd.isAgg5
 z5:=Tryd.sizeOf5
 v5:=Tryd.zeroValue5
 t9:=Tryd.underlying9
 a9:=Tryd.isAgg9
 z9:=Tryd.sizeOf9
 v9:=Tryd.zeroValue9}
open Go.RowKit in
theorem Tryd.strings_IndexByte (s:ByteArray) (c:Int) (w:World) :
  Calls Tryd.prog 114 #[.string s,.int .u8 c] w fun e w'=>e = .returned (.int .i64 (Lib.indexByte s.data.toList c.toNat.toUInt8))∧w' = w:=Any.strings_IndexByte Tryd.lays137 s c w
end Go.Proofs
