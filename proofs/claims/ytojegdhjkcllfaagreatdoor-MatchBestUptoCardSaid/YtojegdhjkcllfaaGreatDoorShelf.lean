/- MatchBest. -/
import Derived.Shelf.Strings.Builder1
import Derived.Shelf.Strings.Builder2
import Derived.Shelf.Strings.OnBuilder
import Derived.Shelf.Strings.Search1
import Derived.Shelf.Strings.Search2
import Derived.Shelf.Strings.Search3
import Derived.Shelf.Strings.Cut
import Derived.Shelf.Strings.Count
import Derived.Shelf.Strings.Shaped
import Derived.Shelf.Strings.Split
import Derived.Shelf.Strings.SplitShaped
import Derived.Shelf.Unicode.Decode
import Derived.Shelf.Strings.RuneCount
import Derived.Shelf.Strings.Explode
import Derived.Shelf.Bits.Mul64
import Derived.Shelf.Unicode.DecodeSlow
import Derived.Shelf.Unicode.DecodeAny
import Derived.Ground.Names2Prog
import Derived.Shelf.Slices.Clone
import Derived.Shelf.Slices.SearchI
import Derived.Ground.SlgnProg
import Derived.Shelf.SlicesE.Clone
import Derived.Test.YtojegdhjkcllfaaGreatDoorProg
namespace Go.Proofs
open Go.Shelf
def Tryz.lays156_ren:Go.Shelf.Ren:=⟨fun |156=>41 |165=>81 |166=>82 |169=>83 |240=>133 |241=>134 |276=>163 |277=>164 |n=>n,fun |31=>35 |9=>9 |3=>3 |4=>4 |0=>0 |20=>20 |72=>147 |76=>151 |70=>145 |37=>96 |75=>150 |127=>192 |164=>225 |5=>5 |80=>153 |n=>n,fun |n=>n⟩
theorem Tryz.lays156:Go.Proofs.Lays.n156 Tryz.prog Tryz.lays156_ren:={
 mixed:=by kernel_rfl
 f156:=Tryz.func41.trans (congrArg some (by kernel_rfl))
 f165:=Tryz.func81.trans (congrArg some (by kernel_rfl))
 f166:=Tryz.func82.trans (congrArg some (by kernel_rfl))
 f169:=Tryz.func83.trans (congrArg some (by kernel_rfl))
 f240:=Tryz.func133.trans (congrArg some (by kernel_rfl))
 f241:=Tryz.func134.trans (congrArg some (by kernel_rfl))
 f276:=Tryz.func163.trans (congrArg some (by kernel_rfl))
 f277:=Tryz.func164.trans (congrArg some (by kernel_rfl))
 t0:=Tryz.underlying0
 a0:=Tryz.isAgg0
 z0:=Tryz.sizeOf0
 v0:=Tryz.zeroValue0
 t3:=Tryz.underlying3
 a3:=Tryz.isAgg3
 z3:=Tryz.sizeOf3
 v3:=Tryz.zeroValue3
 t4:=Tryz.underlying4
 a4:=Tryz.isAgg4
 z4:=Tryz.sizeOf4
 v4:=Tryz.zeroValue4
 t9:=Tryz.underlying9
 a9:=Tryz.isAgg9
 z9:=Tryz.sizeOf9
 v9:=Tryz.zeroValue9
 t20:=Tryz.underlying20
 a20:=Tryz.isAgg20
 z20:=Tryz.sizeOf20
 v20:=Tryz.zeroValue20
 t31:=Tryz.underlying35
 a31:=Tryz.isAgg35
 z31:=Tryz.sizeOf35
 v31:=Tryz.zeroValue35
 t37:=Tryz.underlying96
 a37:=Tryz.isAgg96
 z37:=Tryz.sizeOf96
 v37:=Tryz.zeroValue96
 t70:=Tryz.underlying145
 a70:=Tryz.isAgg145
 z70:=Tryz.sizeOf145
 v70:=Tryz.zeroValue145
 t72:=Tryz.underlying147
 a72:=Tryz.isAgg147
 z72:=Tryz.sizeOf147
 v72:=Tryz.zeroValue147
 t75:=Tryz.underlying150
 a75:=Tryz.isAgg150
 z75:=Tryz.sizeOf150
 v75:=Tryz.zeroValue150
 t76:=Tryz.underlying151
 a76:=Tryz.isAgg151
 z76:=Tryz.sizeOf151
 v76:=Tryz.zeroValue151
 t127:=Tryz.underlying192
 a127:=Tryz.isAgg192
 z127:=Tryz.sizeOf192
 v127:=Tryz.zeroValue192
 t164:=Tryz.underlying225
 a164:=Tryz.isAgg225
 z164:=Tryz.sizeOf225
 v164:=Tryz.zeroValue225}
theorem Tryz.Builder_Extra_156:Builder.Extra Tryz.prog Tryz.lays156_ren:={
 sizeBuilder:=by kernel_rfl
 liesBuilder:=by kernel_rfl
 t5:=Tryz.underlying5
 a5:=Tryz.isAgg5
 z5:=Tryz.sizeOf5
 v5:=Tryz.zeroValue5
 infoByte:=by kernel_rfl
 cellsByte:=by kernel_rfl
 sizeByte:=by kernel_rfl
 neB5:=by decide}
open Go.RowKit in
theorem Tryz.strings_Join(bk o c:Nat)(xs:List ByteArray)(sep:ByteArray)(w:World)(hcells:∀ (j:Nat) x,xs[j]? =some x->w.cell? ⟨bk,o+j,none⟩=some (.string x))(hbk:bk<w.heap.size)(hN:xs.length<=140737488355328)(hcap:xs.length<=c)(hlen:(Lib.join (xs.map (·.data.toList)) sep.data.toList).length<=140737488355328):
 Calls Tryz.prog 41 #[.slice (some ⟨bk,o,none⟩) xs.length c,.string sep] w fun e w'=>e=.returned (.string ⟨(Lib.join (xs.map (·.data.toList)) sep.data.toList).toArray⟩)∧Below w.heap.size w w':=Any.strings_Join Tryz.lays156 Tryz.Builder_Extra_156 bk o c xs sep w hcells hbk hN hcap hlen
def Tryz.lays219_ren:Go.Shelf.Ren:=⟨fun |219=>137 |217=>165 |225=>166 |224=>167 |267=>168 |266=>191 |314=>192 |n=>n,fun |9=>9 |3=>3 |4=>4 |5=>5 |46=>187 |146=>221 |51=>220 |n=>n,fun |1=>0 |n=>n⟩
theorem Tryz.lays219:Go.Proofs.Lays.n219 Tryz.prog Tryz.lays219_ren:={
 mixed:=by kernel_rfl
 f217:=Tryz.func165.trans (congrArg some (by kernel_rfl))
 f219:=Tryz.func137.trans (congrArg some (by kernel_rfl))
 f224:=Tryz.func167.trans (congrArg some (by kernel_rfl))
 f225:=Tryz.func166.trans (congrArg some (by kernel_rfl))
 f266:=Tryz.func191.trans (congrArg some (by kernel_rfl))
 f267:=Tryz.func168.trans (congrArg some (by kernel_rfl))
 f314:=Tryz.func192.trans (congrArg some (by kernel_rfl))
 t3:=Tryz.underlying3
 a3:=Tryz.isAgg3
 z3:=Tryz.sizeOf3
 v3:=Tryz.zeroValue3
 t4:=Tryz.underlying4
 a4:=Tryz.isAgg4
 z4:=Tryz.sizeOf4
 v4:=Tryz.zeroValue4
 t5:=Tryz.underlying5
 a5:=Tryz.isAgg5
 z5:=Tryz.sizeOf5
 v5:=Tryz.zeroValue5
 t9:=Tryz.underlying9
 a9:=Tryz.isAgg9
 z9:=Tryz.sizeOf9
 v9:=Tryz.zeroValue9
 t46:=Tryz.underlying187
 a46:=Tryz.isAgg187
 z46:=Tryz.sizeOf187
 v46:=Tryz.zeroValue187
 t51:=Tryz.underlying220
 a51:=Tryz.isAgg220
 z51:=Tryz.sizeOf220
 v51:=Tryz.zeroValue220
 t146:=Tryz.underlying221
 a146:=Tryz.isAgg221
 z146:=Tryz.sizeOf221
 v146:=Tryz.zeroValue221
 g1:=by kernel_rfl}
open Go.RowKit Go.Lib in
theorem Tryz.stringslite_Index(s sub:ByteArray)(m:Int)(w:World)(hs:s.size<4294967281)(hm:w.cell? ⟨0,0,none⟩=some (.int .i64 m)):
 Calls Tryz.prog 137 #[.string s,.string sub] w fun e w'=>e=.returned (.int .i64 (Lib.index s.data.toList sub.data.toList))∧w'=w:=Any.stringslite_Index Tryz.lays219 s sub m w hs hm
end Go.Proofs
