/- Part 2: lemmas for TopNumber; no conditions. -/
import Derived.Test.YtjcioljdlfdnbaaGreatDoorHq
import Derived.Shelf.Strings.OnBuilder
import Derived.Shelf.Strings.Trim
import Derived.Shelf.Small.Wraps
import Derived.Shelf.Strconv.Itoa4
import Derived.Shelf.Strings.Shaped
import Derived.Shelf.Unicode.Decode
import Derived.Shelf.Strings.Runes
import Derived.Shelf.Strings.AsciiSet
import Derived.Shelf.Unicode.DecodeLast
import Derived.Shelf.Strings.BuilderCap
import Derived.Shelf.Slices.Turned
import Derived.Shelf.Slices.Cells
import Derived.Shelf.SlicesE.Reverse
import Derived.Shelf.SlicesE.Clone
import Derived.Test.YtjcioljdlfdnbaaGreatDoorProg
set_option linter.unusedVariables false
set_option linter.unusedSimpArgs false
set_option maxRecDepth 100000
set_option maxHeartbeats 2000000
open Go.Proofs.Tryz
section
namespace Go.Proofs
open Go.Shelf
def Tryz.lays169_ren:Go.Shelf.Ren:=⟨fun|169=>102|n=>n,fun|70=>191|9=>9|0=>0|72=>193|37=>50|127=>316|3=>3|5=>5|n=>n,fun|n=>n⟩
theorem Tryz.lays169: Go.Proofs.Lays.n169 prog Tryz.lays169_ren:={
 mixed:=by kernel_rfl
 f169:=func102.trans (congrArg some (by kernel_rfl))
 t0:=underlying0
 a0:=isAgg0
 z0:=sizeOf0
 v0:=zeroValue0
 t3:=underlying3
 a3:=isAgg3
 z3:=sizeOf3
 v3:=zeroValue3
 t9:=underlying9
 a9:=isAgg9
 z9:=sizeOf9
 v9:=zeroValue9
 t37:=underlying50
 a37:=isAgg50
 z37:=sizeOf50
 v37:=zeroValue50
 t70:=underlying191
 a70:=isAgg191
 z70:=sizeOf191
 v70:=zeroValue191
 t72:=underlying193
 a72:=isAgg193
 z72:=sizeOf193
 v72:=zeroValue193
 t127:=underlying316
 a127:=isAgg316
 z127:=sizeOf316
 v127:=zeroValue316 }
theorem Tryz.Builder_Extra_169: Builder.Extra prog Tryz.lays169_ren:={
 sizeBuilder:=by kernel_rfl
 liesBuilder:=by kernel_rfl
 t5:=underlying5
 a5:=isAgg5
 z5:=sizeOf5
 v5:=zeroValue5
 infoByte:=by kernel_rfl
 cellsByte:=by kernel_rfl
 sizeByte:=by kernel_rfl
 neB5:=by decide }
open Go.RowKit in
open Go.RowKit in
open Go.RowKit in
def Tryz.lays241_ren:Go.Shelf.Ren:=⟨fun|241=>242|277=>303|n=>n,fun|70=>191|3=>3|0=>0|72=>193|37=>50|5=>5|n=>n,fun|n=>n⟩
open Go.RowKit in
def Tryz.lays165_ren:Go.Shelf.Ren:=⟨fun|165=>179|240=>182|241=>242|276=>244|277=>303|n=>n,fun|70=>191|3=>3|0=>0|4=>4|9=>9|20=>20|72=>193|37=>50|164=>370|5=>5|n=>n,fun|n=>n⟩
open Go.RowKit in
def Tryz.lays156_ren:Go.Shelf.Ren:=⟨fun|156=>95|165=>179|166=>99|169=>102|240=>182|241=>242|276=>244|277=>303|n=>n,fun|31=>24|9=>9|3=>3|4=>4|0=>0|20=>20|72=>193|76=>198|70=>191|37=>50|75=>197|127=>316|164=>370|5=>5|80=>93|n=>n,fun|n=>n⟩
theorem Tryz.lays156: Go.Proofs.Lays.n156 prog Tryz.lays156_ren:={
 mixed:=by kernel_rfl
 f156:=func95.trans (congrArg some (by kernel_rfl))
 f165:=func179.trans (congrArg some (by kernel_rfl))
 f166:=func99.trans (congrArg some (by kernel_rfl))
 f169:=func102.trans (congrArg some (by kernel_rfl))
 f240:=func182.trans (congrArg some (by kernel_rfl))
 f241:=func242.trans (congrArg some (by kernel_rfl))
 f276:=func244.trans (congrArg some (by kernel_rfl))
 f277:=func303.trans (congrArg some (by kernel_rfl))
 t0:=underlying0
 a0:=isAgg0
 z0:=sizeOf0
 v0:=zeroValue0
 t3:=underlying3
 a3:=isAgg3
 z3:=sizeOf3
 v3:=zeroValue3
 t4:=underlying4
 a4:=isAgg4
 z4:=sizeOf4
 v4:=zeroValue4
 t9:=underlying9
 a9:=isAgg9
 z9:=sizeOf9
 v9:=zeroValue9
 t20:=underlying20
 a20:=isAgg20
 z20:=sizeOf20
 v20:=zeroValue20
 t31:=underlying24
 a31:=isAgg24
 z31:=sizeOf24
 v31:=zeroValue24
 t37:=underlying50
 a37:=isAgg50
 z37:=sizeOf50
 v37:=zeroValue50
 t70:=underlying191
 a70:=isAgg191
 z70:=sizeOf191
 v70:=zeroValue191
 t72:=underlying193
 a72:=isAgg193
 z72:=sizeOf193
 v72:=zeroValue193
 t75:=underlying197
 a75:=isAgg197
 z75:=sizeOf197
 v75:=zeroValue197
 t76:=underlying198
 a76:=isAgg198
 z76:=sizeOf198
 v76:=zeroValue198
 t127:=underlying316
 a127:=isAgg316
 z127:=sizeOf316
 v127:=zeroValue316
 t164:=underlying370
 a164:=isAgg370
 z164:=sizeOf370
 v164:=zeroValue370 }
theorem Tryz.Builder_Extra_156: Builder.Extra prog Tryz.lays156_ren:={
 sizeBuilder:=by kernel_rfl
 liesBuilder:=by kernel_rfl
 t5:=underlying5
 a5:=isAgg5
 z5:=sizeOf5
 v5:=zeroValue5
 infoByte:=by kernel_rfl
 cellsByte:=by kernel_rfl
 sizeByte:=by kernel_rfl
 neB5:=by decide }
open Go.RowKit in
open Go.RowKit in
theorem Tryz.strings_Join(bk o c:Nat)(xs:List ByteArray)(sep:ByteArray)(w:World)(hcells:∀(j:Nat) x,xs[j]?=some x→w.cell? ⟨bk,o+j,none⟩=some (.string x))(hbk:bk<w.heap.size)(hN:xs.length≤140737488355328)(hcap:xs.length≤c)(hlen:(Lib.join (xs.map (·.data.toList)) sep.data.toList).length≤140737488355328):
  Calls prog 95 #[.slice (some ⟨bk,o,none⟩) xs.length c,.string sep] w fun e w'=>e=.returned (.string ⟨(Lib.join (xs.map (·.data.toList)) sep.data.toList).toArray⟩)∧Below w.heap.size w w':=Any.strings_Join Tryz.lays156 Tryz.Builder_Extra_156 bk o c xs sep w hcells hbk hN hcap hlen
def Tryz.lays231_ren:Go.Shelf.Ren:=⟨fun|231=>167|n=>n,fun|9=>9|5=>5|3=>3|4=>4|n=>n,fun|n=>n⟩
open Go.RowKit in
def Tryz.lays232_ren:Go.Shelf.Ren:=⟨fun|232=>171|n=>n,fun|9=>9|5=>5|3=>3|4=>4|n=>n,fun|n=>n⟩
open Go.RowKit in
def Tryz.lays161_ren:Go.Shelf.Ren:=⟨fun|161=>90|231=>167|227=>168|233=>169|235=>170|228=>232|197=>233|151=>234|260=>292|152=>293|137=>128|119=>338|224=>190|225=>189|217=>188|266=>252|n=>n,fun|9=>9|4=>4|3=>3|5=>5|117=>307|116=>306|0=>0|124=>310|105=>363|21=>21|119=>431|46=>231|139=>434|138=>433|n=>n,fun|3=>2|4=>3|n=>n⟩
theorem Tryz.lays161: Go.Proofs.Lays.n161 prog Tryz.lays161_ren:={
 mixed:=by kernel_rfl
 f119:=func338.trans (congrArg some (by kernel_rfl))
 f137:=func128.trans (congrArg some (by kernel_rfl))
 f151:=func234.trans (congrArg some (by kernel_rfl))
 f152:=func293.trans (congrArg some (by kernel_rfl))
 f161:=func90.trans (congrArg some (by kernel_rfl))
 f197:=func233.trans (congrArg some (by kernel_rfl))
 f217:=func188.trans (congrArg some (by kernel_rfl))
 f224:=func190.trans (congrArg some (by kernel_rfl))
 f225:=func189.trans (congrArg some (by kernel_rfl))
 f227:=func168.trans (congrArg some (by kernel_rfl))
 f228:=func232.trans (congrArg some (by kernel_rfl))
 f231:=func167.trans (congrArg some (by kernel_rfl))
 f233:=func169.trans (congrArg some (by kernel_rfl))
 f235:=func170.trans (congrArg some (by kernel_rfl))
 f260:=func292.trans (congrArg some (by kernel_rfl))
 f266:=func252.trans (congrArg some (by kernel_rfl))
 t0:=underlying0
 a0:=isAgg0
 z0:=sizeOf0
 v0:=zeroValue0
 t3:=underlying3
 a3:=isAgg3
 z3:=sizeOf3
 v3:=zeroValue3
 t4:=underlying4
 a4:=isAgg4
 z4:=sizeOf4
 v4:=zeroValue4
 t5:=underlying5
 a5:=isAgg5
 z5:=sizeOf5
 v5:=zeroValue5
 t9:=underlying9
 a9:=isAgg9
 z9:=sizeOf9
 v9:=zeroValue9
 t21:=underlying21
 a21:=isAgg21
 z21:=sizeOf21
 v21:=zeroValue21
 t46:=underlying231
 a46:=isAgg231
 z46:=sizeOf231
 v46:=zeroValue231
 t105:=underlying363
 a105:=isAgg363
 z105:=sizeOf363
 v105:=zeroValue363
 t116:=underlying306
 a116:=isAgg306
 z116:=sizeOf306
 t117:=underlying307
 a117:=isAgg307
 z117:=sizeOf307
 v117:=zeroValue307
 t119:=underlying431
 a119:=isAgg431
 z119:=sizeOf431
 t124:=underlying310
 a124:=isAgg310
 z124:=sizeOf310
 v124:=zeroValue310
 t138:=underlying433
 a138:=isAgg433
 z138:=sizeOf433
 v138:=zeroValue433
 t139:=underlying434
 a139:=isAgg434
 z139:=sizeOf434
 v139:=zeroValue434
 g3:=by kernel_rfl
 g4:=by kernel_rfl }
open Go.RowKit in
def Tryz.lays162_ren:Go.Shelf.Ren:=⟨fun|162=>91|232=>171|227=>168|234=>172|236=>173|228=>232|271=>235|151=>234|120=>294|197=>233|152=>293|260=>292|137=>128|119=>338|224=>190|225=>189|217=>188|266=>252|n=>n,fun|9=>9|4=>4|3=>3|5=>5|117=>307|116=>306|0=>0|124=>310|21=>21|105=>363|46=>231|119=>431|139=>434|138=>433|n=>n,fun|3=>2|4=>3|n=>n⟩
theorem Tryz.lays162: Go.Proofs.Lays.n162 prog Tryz.lays162_ren:={
 mixed:=by kernel_rfl
 f119:=func338.trans (congrArg some (by kernel_rfl))
 f120:=func294.trans (congrArg some (by kernel_rfl))
 f137:=func128.trans (congrArg some (by kernel_rfl))
 f151:=func234.trans (congrArg some (by kernel_rfl))
 f152:=func293.trans (congrArg some (by kernel_rfl))
 f162:=func91.trans (congrArg some (by kernel_rfl))
 f197:=func233.trans (congrArg some (by kernel_rfl))
 f217:=func188.trans (congrArg some (by kernel_rfl))
 f224:=func190.trans (congrArg some (by kernel_rfl))
 f225:=func189.trans (congrArg some (by kernel_rfl))
 f227:=func168.trans (congrArg some (by kernel_rfl))
 f228:=func232.trans (congrArg some (by kernel_rfl))
 f232:=func171.trans (congrArg some (by kernel_rfl))
 f234:=func172.trans (congrArg some (by kernel_rfl))
 f236:=func173.trans (congrArg some (by kernel_rfl))
 f260:=func292.trans (congrArg some (by kernel_rfl))
 f266:=func252.trans (congrArg some (by kernel_rfl))
 f271:=func235.trans (congrArg some (by kernel_rfl))
 t0:=underlying0
 a0:=isAgg0
 z0:=sizeOf0
 v0:=zeroValue0
 t3:=underlying3
 a3:=isAgg3
 z3:=sizeOf3
 v3:=zeroValue3
 t4:=underlying4
 a4:=isAgg4
 z4:=sizeOf4
 v4:=zeroValue4
 t5:=underlying5
 a5:=isAgg5
 z5:=sizeOf5
 v5:=zeroValue5
 t9:=underlying9
 a9:=isAgg9
 z9:=sizeOf9
 v9:=zeroValue9
 t21:=underlying21
 a21:=isAgg21
 z21:=sizeOf21
 v21:=zeroValue21
 t46:=underlying231
 a46:=isAgg231
 z46:=sizeOf231
 v46:=zeroValue231
 t105:=underlying363
 a105:=isAgg363
 z105:=sizeOf363
 v105:=zeroValue363
 t116:=underlying306
 a116:=isAgg306
 z116:=sizeOf306
 t117:=underlying307
 a117:=isAgg307
 z117:=sizeOf307
 v117:=zeroValue307
 t119:=underlying431
 a119:=isAgg431
 z119:=sizeOf431
 t124:=underlying310
 a124:=isAgg310
 z124:=sizeOf310
 v124:=zeroValue310
 t138:=underlying433
 a138:=isAgg433
 z138:=sizeOf433
 v138:=zeroValue433
 t139:=underlying434
 a139:=isAgg434
 z139:=sizeOf434
 v139:=zeroValue434
 g3:=by kernel_rfl
 g4:=by kernel_rfl }
open Go.RowKit in
def Tryz.lays119_ren:Go.Shelf.Ren:=⟨fun|119=>338|n=>n,fun|21=>21|4=>4|n=>n,fun|n=>n⟩
def Tryz.lays120_ren:Go.Shelf.Ren:=⟨fun|120=>294|n=>n,fun|5=>5|4=>4|n=>n,fun|n=>n⟩
def Tryz.lays213_ren:Go.Shelf.Ren:=⟨fun|213=>401|265=>410|n=>n,fun|9=>9|3=>3|n=>n,fun|n=>n⟩
open Go.RowKit in
def Tryz.lays106_ren:Go.Shelf.Ren:=⟨fun|106=>390|213=>401|265=>410|n=>n,fun|9=>9|3=>3|n=>n,fun|n=>n⟩
open Go.RowKit in
def Tryz.lays137_ren:Go.Shelf.Ren:=⟨fun|137=>128|217=>188|266=>252|n=>n,fun|9=>9|5=>5|3=>3|n=>n,fun|n=>n⟩
theorem Tryz.lays137: Go.Proofs.Lays.n137 prog Tryz.lays137_ren:={
 mixed:=by kernel_rfl
 f137:=func128.trans (congrArg some (by kernel_rfl))
 f217:=func188.trans (congrArg some (by kernel_rfl))
 f266:=func252.trans (congrArg some (by kernel_rfl))
 t3:=underlying3
 a3:=isAgg3
 z3:=sizeOf3
 v3:=zeroValue3
 t5:=underlying5
 a5:=isAgg5
 z5:=sizeOf5
 v5:=zeroValue5
 t9:=underlying9
 a9:=isAgg9
 z9:=sizeOf9
 v9:=zeroValue9 }
open Go.RowKit in
theorem Tryz.strings_IndexByte(s:ByteArray)(c:Int)(w:World):
  Calls prog 128 #[.string s,.int .u8 c] w fun e w'=>e=.returned (.int .i64 (Lib.indexByte s.data.toList c.toNat.toUInt8))∧w'=w:=Any.strings_IndexByte Tryz.lays137 s c w
def Tryz.lays214_ren:Go.Shelf.Ren:=⟨fun|214=>402|n=>n,fun|4=>4|9=>9|n=>n,fun|n=>n⟩
open Go.RowKit in
def Tryz.lays121_ren:Go.Shelf.Ren:=⟨fun|121=>392|214=>402|n=>n,fun|4=>4|9=>9|n=>n,fun|n=>n⟩
open Go.RowKit in
open Go.RowKit in
open Go.RowKit in
open Go.RowKit in
open Go.RowKit in
open Go.RowKit in
open Go.RowKit in
theorem Tryz.Builder_String_any_k(B b:Nat)(l:List UInt8)(w:World)(h:Lib.IsBuilderF 193 5 B b (Lib.byteCells l) w)(hBw:B≤w.heap.size):
  Calls prog 102 #[.pointer (some ⟨b,0,none⟩)] w fun e w'=>e=.returned (.string ⟨l.toArray⟩)∧(Lib.IsBuilderF 193 5 B b (Lib.byteCells l) w'∧Below B w w'∧Lib.OthersKept 5 (some b) w w'):=Any.Builder_String_any_k Tryz.lays169 Tryz.Builder_Extra_169 B b l w h hBw
open Go.RowKit in
open Go.RowKit in
def Tryz.lays129_ren:Go.Shelf.Ren:=⟨fun|129=>201|n=>n,fun|53=>200|3=>3|4=>4|46=>231|5=>5|9=>9|n=>n,fun|n=>n⟩
theorem Tryz.lays129: Go.Proofs.Lays.n129 prog Tryz.lays129_ren:={
 mixed:=by kernel_rfl
 f129:=func201.trans (congrArg some (by kernel_rfl))
 t3:=underlying3
 a3:=isAgg3
 z3:=sizeOf3
 v3:=zeroValue3
 t4:=underlying4
 a4:=isAgg4
 z4:=sizeOf4
 v4:=zeroValue4
 t5:=underlying5
 a5:=isAgg5
 z5:=sizeOf5
 v5:=zeroValue5
 t9:=underlying9
 a9:=isAgg9
 z9:=sizeOf9
 v9:=zeroValue9
 t46:=underlying231
 a46:=isAgg231
 z46:=sizeOf231
 v46:=zeroValue231
 t53:=underlying200
 a53:=isAgg200
 z53:=sizeOf200
 v53:=zeroValue200 }
theorem Tryz.bits_Len64(x:Int)(w:World)(h0:0≤x)(h1:x≤18446744073709551615):
  Calls prog 201 #[.int .u64 x] w fun e w'=>e=.returned (.int .i64 (Lib.bitLen x.toNat))∧w'=w:=Any.bits_Len64 Tryz.lays129 x w h0 h1
def Tryz.lays317_ren:Go.Shelf.Ren:=⟨fun|317=>347|n=>n,fun|3=>3|46=>231|n=>n,fun|n=>n⟩
open Go.Lib in
def Tryz.lays318_ren:Go.Shelf.Ren:=⟨fun|318=>348|n=>n,fun|3=>3|4=>4|n=>n,fun|n=>n⟩
open Go.Lib in
def Tryz.lays283_ren:Go.Shelf.Ren:=⟨fun|283=>309|n=>n,fun|3=>3|9=>9|4=>4|n=>n,fun|n=>n⟩
open Go.Lib in
def Tryz.laysM284_ren:Go.Shelf.Ren:=⟨fun|284=>310|129=>201|317=>347|318=>348|n=>n,fun|53=>200|3=>3|212=>438|0=>0|4=>4|46=>231|5=>5|9=>9|n=>n,fun|17=>4|n=>n⟩
open Go.Lib in
def Tryz.lays285_ren:Go.Shelf.Ren:=⟨fun|285=>311|n=>n,fun|37=>50|53=>200|3=>3|4=>4|51=>375|9=>9|5=>5|0=>0|n=>n,fun|n=>n⟩
open Go.RowKit Go.Sort Go.Lib in
def Tryz.laysM246_ren:Go.Shelf.Ren:=⟨fun|246=>254|283=>309|284=>310|285=>311|286=>312|129=>201|317=>347|318=>348|319=>349|320=>350|337=>367|338=>368|n=>n,fun|2=>2|3=>3|9=>9|4=>4|171=>412|0=>0|53=>200|37=>50|5=>5|173=>414|212=>438|51=>375|20=>20|213=>439|46=>231|232=>461|233=>462|n=>n,fun|17=>4|18=>5|19=>6|n=>n⟩
open Go.RowKit Go.Sort Go.Lib in
def Tryz.lays246_ren:Go.Shelf.Ren:=⟨fun|246=>254|283=>309|284=>310|285=>311|286=>312|129=>201|317=>347|318=>348|319=>349|320=>350|337=>367|338=>368|n=>n,fun|2=>2|3=>3|9=>9|4=>4|171=>412|0=>0|53=>200|37=>50|5=>5|173=>414|212=>438|51=>375|20=>20|213=>439|46=>231|232=>461|233=>462|n=>n,fun|17=>4|18=>5|19=>6|n=>n⟩
open Go.RowKit Go.Sort Go.Lib in
def Tryz.laysM243_ren:Go.Shelf.Ren:=⟨fun|243=>192|246=>254|283=>309|284=>310|285=>311|286=>312|129=>201|317=>347|318=>348|319=>349|320=>350|337=>367|338=>368|n=>n,fun|3=>3|9=>9|2=>2|4=>4|171=>412|0=>0|53=>200|37=>50|5=>5|173=>414|212=>438|51=>375|20=>20|213=>439|46=>231|232=>461|233=>462|n=>n,fun|17=>4|18=>5|19=>6|n=>n⟩
open Go.RowKit Go.Sort Go.Lib in
def Tryz.lays243_ren:Go.Shelf.Ren:=⟨fun|243=>192|246=>254|283=>309|284=>310|285=>311|286=>312|129=>201|317=>347|318=>348|319=>349|320=>350|337=>367|338=>368|n=>n,fun|3=>3|9=>9|2=>2|4=>4|171=>412|0=>0|53=>200|37=>50|5=>5|173=>414|212=>438|51=>375|20=>20|213=>439|46=>231|232=>461|233=>462|n=>n,fun|17=>4|18=>5|19=>6|n=>n⟩
open Go.RowKit Go.Sort Go.Lib in
def Tryz.laysM171_ren:Go.Shelf.Ren:=⟨fun|171=>116|243=>192|246=>254|283=>309|284=>310|285=>311|286=>312|129=>201|317=>347|318=>348|319=>349|320=>350|337=>367|338=>368|n=>n,fun|3=>3|9=>9|2=>2|4=>4|171=>412|0=>0|53=>200|37=>50|5=>5|173=>414|212=>438|51=>375|20=>20|213=>439|46=>231|232=>461|233=>462|n=>n,fun|17=>4|18=>5|19=>6|n=>n⟩
open Go.RowKit Go.Sort Go.Lib in
def Tryz.lays171_ren:Go.Shelf.Ren:=⟨fun|171=>116|243=>192|246=>254|283=>309|284=>310|285=>311|286=>312|129=>201|317=>347|318=>348|319=>349|320=>350|337=>367|338=>368|n=>n,fun|3=>3|9=>9|2=>2|4=>4|171=>412|0=>0|53=>200|37=>50|5=>5|173=>414|212=>438|51=>375|20=>20|213=>439|46=>231|232=>461|233=>462|n=>n,fun|17=>4|18=>5|19=>6|n=>n⟩
theorem Tryz.lays171: Go.Proofs.Lays.n171 prog Tryz.lays171_ren:={
 mixed:=by kernel_rfl
 f129:=func201.trans (congrArg some (by kernel_rfl))
 f171:=func116.trans (congrArg some (by kernel_rfl))
 f243:=func192.trans (congrArg some (by kernel_rfl))
 f246:=func254.trans (congrArg some (by kernel_rfl))
 f283:=func309.trans (congrArg some (by kernel_rfl))
 f284:=func310.trans (congrArg some (by kernel_rfl))
 f285:=func311.trans (congrArg some (by kernel_rfl))
 f286:=func312.trans (congrArg some (by kernel_rfl))
 f317:=func347.trans (congrArg some (by kernel_rfl))
 f318:=func348.trans (congrArg some (by kernel_rfl))
 f319:=func349.trans (congrArg some (by kernel_rfl))
 f320:=func350.trans (congrArg some (by kernel_rfl))
 f337:=func367.trans (congrArg some (by kernel_rfl))
 f338:=func368.trans (congrArg some (by kernel_rfl))
 t0:=underlying0
 a0:=isAgg0
 z0:=sizeOf0
 v0:=zeroValue0
 t2:=underlying2
 a2:=isAgg2
 z2:=sizeOf2
 v2:=zeroValue2
 t3:=underlying3
 a3:=isAgg3
 z3:=sizeOf3
 v3:=zeroValue3
 t4:=underlying4
 a4:=isAgg4
 z4:=sizeOf4
 v4:=zeroValue4
 t5:=underlying5
 a5:=isAgg5
 z5:=sizeOf5
 v5:=zeroValue5
 t9:=underlying9
 a9:=isAgg9
 z9:=sizeOf9
 v9:=zeroValue9
 t20:=underlying20
 a20:=isAgg20
 z20:=sizeOf20
 v20:=zeroValue20
 t37:=underlying50
 a37:=isAgg50
 z37:=sizeOf50
 v37:=zeroValue50
 t46:=underlying231
 a46:=isAgg231
 z46:=sizeOf231
 v46:=zeroValue231
 t51:=underlying375
 a51:=isAgg375
 z51:=sizeOf375
 v51:=zeroValue375
 t53:=underlying200
 a53:=isAgg200
 z53:=sizeOf200
 v53:=zeroValue200
 t171:=underlying412
 a171:=isAgg412
 z171:=sizeOf412
 v171:=zeroValue412
 t173:=underlying414
 a173:=isAgg414
 z173:=sizeOf414
 v173:=zeroValue414
 t212:=underlying438
 a212:=isAgg438
 z212:=sizeOf438
 v212:=zeroValue438
 t213:=underlying439
 a213:=isAgg439
 z213:=sizeOf439
 t232:=underlying461
 a232:=isAgg461
 z232:=sizeOf461
 v232:=zeroValue461
 t233:=underlying462
 a233:=isAgg462
 z233:=sizeOf462
 v233:=zeroValue462
 g17:=by kernel_rfl
 g18:=by kernel_rfl
 g19:=by kernel_rfl }
open Go.RowKit Go.Sort Go.Lib in
theorem Tryz.strconv_Itoa_small(i:Nat)(hi:i<100)(w:World):
  Calls prog 116 #[.int .i64 i] w fun e w'=>e=.returned (.string ⟨(Lib.decDigits i).toArray⟩)∧w'=w:=Any.strconv_Itoa_small Tryz.lays171 i hi w
def Tryz.laysM173_ren:Go.Shelf.Ren:=⟨fun|173=>382|246=>254|283=>309|284=>310|285=>311|286=>312|129=>201|317=>347|318=>348|319=>349|320=>350|337=>367|338=>368|n=>n,fun|2=>2|3=>3|9=>9|4=>4|171=>412|0=>0|53=>200|37=>50|5=>5|173=>414|212=>438|51=>375|20=>20|213=>439|46=>231|232=>461|233=>462|n=>n,fun|17=>4|18=>5|19=>6|n=>n⟩
theorem Tryz.laysM173: Go.Proofs.LaysM.n173 prog Tryz.laysM173_ren:={
 mixed:=by kernel_rfl
 f129:=func201.trans (congrArg some (by kernel_rfl))
 f173:=func382.trans (congrArg some (by kernel_rfl))
 f246:=func254.trans (congrArg some (by kernel_rfl))
 f283:=func309.trans (congrArg some (by kernel_rfl))
 f284:=func310.trans (congrArg some (by kernel_rfl))
 f285:=func311.trans (congrArg some (by kernel_rfl))
 f286:=func312.trans (congrArg some (by kernel_rfl))
 f317:=func347.trans (congrArg some (by kernel_rfl))
 f318:=func348.trans (congrArg some (by kernel_rfl))
 f319:=func349.trans (congrArg some (by kernel_rfl))
 f320:=func350.trans (congrArg some (by kernel_rfl))
 f337:=func367.trans (congrArg some (by kernel_rfl))
 f338:=func368.trans (congrArg some (by kernel_rfl))
 t0:=underlying0
 a0:=isAgg0
 z0:=sizeOf0
 v0:=zeroValue0
 t2:=underlying2
 a2:=isAgg2
 z2:=sizeOf2
 v2:=zeroValue2
 t3:=underlying3
 a3:=isAgg3
 z3:=sizeOf3
 v3:=zeroValue3
 t4:=underlying4
 a4:=isAgg4
 z4:=sizeOf4
 v4:=zeroValue4
 t5:=underlying5
 a5:=isAgg5
 z5:=sizeOf5
 v5:=zeroValue5
 t9:=underlying9
 a9:=isAgg9
 z9:=sizeOf9
 v9:=zeroValue9
 t20:=underlying20
 a20:=isAgg20
 z20:=sizeOf20
 v20:=zeroValue20
 t37:=underlying50
 a37:=isAgg50
 z37:=sizeOf50
 v37:=zeroValue50
 t46:=underlying231
 a46:=isAgg231
 z46:=sizeOf231
 v46:=zeroValue231
 t51:=underlying375
 a51:=isAgg375
 z51:=sizeOf375
 v51:=zeroValue375
 t53:=underlying200
 a53:=isAgg200
 z53:=sizeOf200
 v53:=zeroValue200
 t171:=underlying412
 a171:=isAgg412
 z171:=sizeOf412
 v171:=zeroValue412
 t173:=underlying414
 a173:=isAgg414
 z173:=sizeOf414
 v173:=zeroValue414
 t212:=underlying438
 a212:=isAgg438
 z212:=sizeOf438
 v212:=zeroValue438
 t213:=underlying439
 a213:=isAgg439
 z213:=sizeOf439
 t232:=underlying461
 a232:=isAgg461
 z232:=sizeOf461
 v232:=zeroValue461
 t233:=underlying462
 a233:=isAgg462
 z233:=sizeOf462
 v233:=zeroValue462
 g17:=by kernel_rfl
 g18:=by kernel_rfl
 g19:=by kernel_rfl
 i0:=by kernel_rfl
 i2:=by kernel_rfl
 i3:=by kernel_rfl
 i4:=by kernel_rfl
 i5:=by kernel_rfl
 i9:=by kernel_rfl
 i20:=by kernel_rfl
 i37:=by kernel_rfl
 i46:=by kernel_rfl
 i51:=by kernel_rfl
 i53:=by kernel_rfl
 i171:=by kernel_rfl
 i173:=by kernel_rfl
 i212:=by kernel_rfl
 i232:=by kernel_rfl
 i233:=by kernel_rfl
 m17:=by kernel_rfl
 m18:=by kernel_rfl
 m19:=by kernel_rfl }
open Go.RowKit Go.Sort Go.Lib in
theorem Tryz.strconv_FormatInt_10(n:Int)(h0:-9223372036854775808≤n)(h1:n≤9223372036854775807)(w:World)(htab:Lib.TabIs prog w "internal/strconv.uint64pow10" .u64 Lib.pow10Tab):
  Calls prog 382 #[.int .i64 n,.int .i64 10] w fun e w'=>e=.returned (.string ⟨(Lib.itoa n).toArray⟩)∧∃k os,w'=grow (w.drewN k) os:=Any.strconv_FormatInt_10 Tryz.laysM173 n h0 h1 w htab
def Tryz.lays173_ren:Go.Shelf.Ren:=⟨fun|173=>382|246=>254|283=>309|284=>310|285=>311|286=>312|129=>201|317=>347|318=>348|319=>349|320=>350|337=>367|338=>368|n=>n,fun|2=>2|3=>3|9=>9|4=>4|171=>412|0=>0|53=>200|37=>50|5=>5|173=>414|212=>438|51=>375|20=>20|213=>439|46=>231|232=>461|233=>462|n=>n,fun|17=>4|18=>5|19=>6|n=>n⟩
open Go.RowKit Go.Sort Go.Lib in
def Tryz.lays217_ren:Go.Shelf.Ren:=⟨fun|217=>188|266=>252|n=>n,fun|9=>9|5=>5|3=>3|n=>n,fun|n=>n⟩
open Go.RowKit Go.Lib in
def Tryz.lays224_ren:Go.Shelf.Ren:=⟨fun|224=>190|n=>n,fun|3=>3|n=>n,fun|n=>n⟩
open Go.RowKit Go.Lib in
def Tryz.lays314_ren:Go.Shelf.Ren:=⟨fun|314=>253|n=>n,fun|9=>9|51=>375|3=>3|4=>4|5=>5|46=>231|n=>n,fun|n=>n⟩
open Go.RowKit Go.Lib in
def Tryz.lays267_ren:Go.Shelf.Ren:=⟨fun|267=>191|314=>253|n=>n,fun|9=>9|3=>3|146=>376|51=>375|4=>4|5=>5|46=>231|n=>n,fun|n=>n⟩
open Go.RowKit Go.Lib in
def Tryz.lays219_ren:Go.Shelf.Ren:=⟨fun|219=>112|217=>188|225=>189|224=>190|267=>191|266=>252|314=>253|n=>n,fun|9=>9|3=>3|4=>4|5=>5|46=>231|146=>376|51=>375|n=>n,fun|1=>0|n=>n⟩
theorem Tryz.lays219: Go.Proofs.Lays.n219 prog Tryz.lays219_ren:={
 mixed:=by kernel_rfl
 f217:=func188.trans (congrArg some (by kernel_rfl))
 f219:=func112.trans (congrArg some (by kernel_rfl))
 f224:=func190.trans (congrArg some (by kernel_rfl))
 f225:=func189.trans (congrArg some (by kernel_rfl))
 f266:=func252.trans (congrArg some (by kernel_rfl))
 f267:=func191.trans (congrArg some (by kernel_rfl))
 f314:=func253.trans (congrArg some (by kernel_rfl))
 t3:=underlying3
 a3:=isAgg3
 z3:=sizeOf3
 v3:=zeroValue3
 t4:=underlying4
 a4:=isAgg4
 z4:=sizeOf4
 v4:=zeroValue4
 t5:=underlying5
 a5:=isAgg5
 z5:=sizeOf5
 v5:=zeroValue5
 t9:=underlying9
 a9:=isAgg9
 z9:=sizeOf9
 v9:=zeroValue9
 t46:=underlying231
 a46:=isAgg231
 z46:=sizeOf231
 v46:=zeroValue231
 t51:=underlying375
 a51:=isAgg375
 z51:=sizeOf375
 v51:=zeroValue375
 t146:=underlying376
 a146:=isAgg376
 z146:=sizeOf376
 v146:=zeroValue376
 g1:=by kernel_rfl }
open Go.RowKit Go.Lib in
theorem Tryz.stringslite_Index_one(s:ByteArray)(c:UInt8)(w:World):
  Calls prog 112 #[.string s,.string ⟨#[c]⟩] w fun e w'=>e=.returned (.int .i64 (Lib.indexByte s.data.toList c))∧w'=w:=Any.stringslite_Index_one Tryz.lays219 s c w
open Go.RowKit Go.Lib in
def Tryz.lays220_ren:Go.Shelf.Ren:=⟨fun|220=>54|219=>112|217=>188|225=>189|224=>190|267=>191|266=>252|314=>253|n=>n,fun|9=>9|4=>4|3=>3|5=>5|46=>231|146=>376|51=>375|n=>n,fun|1=>0|n=>n⟩
open Go.RowKit Go.Lib in
def Tryz.lays145_ren:Go.Shelf.Ren:=⟨fun|145=>30|220=>54|219=>112|217=>188|225=>189|224=>190|267=>191|266=>252|314=>253|n=>n,fun|9=>9|4=>4|59=>86|3=>3|5=>5|46=>231|146=>376|51=>375|n=>n,fun|1=>0|n=>n⟩
open Go.RowKit Go.Lib in
def Tryz.laysM219_ren:Go.Shelf.Ren:=⟨fun|219=>112|217=>188|225=>189|224=>190|267=>191|266=>252|314=>253|n=>n,fun|9=>9|3=>3|4=>4|5=>5|46=>231|146=>376|51=>375|n=>n,fun|1=>0|n=>n⟩
open Go.RowKit Go.Lib in
def Tryz.laysM220_ren:Go.Shelf.Ren:=⟨fun|220=>54|219=>112|217=>188|225=>189|224=>190|267=>191|266=>252|314=>253|n=>n,fun|9=>9|4=>4|3=>3|5=>5|46=>231|146=>376|51=>375|n=>n,fun|1=>0|n=>n⟩
open Go.RowKit Go.Lib in
def Tryz.laysM145_ren:Go.Shelf.Ren:=⟨fun|145=>30|220=>54|219=>112|217=>188|225=>189|224=>190|267=>191|266=>252|314=>253|n=>n,fun|9=>9|4=>4|59=>86|3=>3|5=>5|46=>231|146=>376|51=>375|n=>n,fun|1=>0|n=>n⟩
open Go.RowKit Go.Lib in
def Tryz.lays206_ren:Go.Shelf.Ren:=⟨fun|206=>278|n=>n,fun|9=>9|4=>4|3=>3|n=>n,fun|n=>n⟩
open Go.RowKit Go.Lib in
def Tryz.lays99_ren:Go.Shelf.Ren:=⟨fun|99=>214|206=>278|n=>n,fun|9=>9|4=>4|3=>3|n=>n,fun|n=>n⟩
theorem Tryz.lays99: Go.Proofs.Lays.n99 prog Tryz.lays99_ren:={
 mixed:=by kernel_rfl
 f99:=func214.trans (congrArg some (by kernel_rfl))
 f206:=func278.trans (congrArg some (by kernel_rfl))
 t3:=underlying3
 a3:=isAgg3
 z3:=sizeOf3
 v3:=zeroValue3
 t4:=underlying4
 a4:=isAgg4
 z4:=sizeOf4
 v4:=zeroValue4
 t9:=underlying9
 a9:=isAgg9
 z9:=sizeOf9
 v9:=zeroValue9 }
open Go.RowKit Go.Lib in
theorem Tryz.strings_HasPrefix(s p:ByteArray)(w:World):
  Calls prog 214 #[.string s,.string p] w fun e w'=>e=.returned (.bool (Lib.hasPrefix s.data.toList p.data.toList))∧w'=w:=Any.strings_HasPrefix Tryz.lays99 s p w
def Tryz.lays197_ren:Go.Shelf.Ren:=⟨fun|197=>233|260=>292|n=>n,fun|9=>9|21=>21|3=>3|4=>4|5=>5|105=>363|119=>431|0=>0|46=>231|139=>434|138=>433|n=>n,fun|3=>2|4=>3|n=>n⟩
open Go.RowKit Go.Lib in
def Tryz.lays152_ren:Go.Shelf.Ren:=⟨fun|152=>293|137=>128|119=>338|224=>190|225=>189|217=>188|266=>252|n=>n,fun|9=>9|21=>21|3=>3|4=>4|5=>5|0=>0|46=>231|n=>n,fun|n=>n⟩
open Go.RowKit Go.Lib in
def Tryz.lays151_ren:Go.Shelf.Ren:=⟨fun|151=>234|152=>293|137=>128|119=>338|224=>190|225=>189|217=>188|266=>252|n=>n,fun|9=>9|21=>21|4=>4|3=>3|5=>5|0=>0|46=>231|n=>n,fun|n=>n⟩
open Go.RowKit Go.Lib in
def Tryz.lays227_ren:Go.Shelf.Ren:=⟨fun|227=>168|n=>n,fun|9=>9|116=>306|4=>4|0=>0|3=>3|5=>5|n=>n,fun|n=>n⟩
open Go.RowKit Go.Lib in
def Tryz.lays228_ren:Go.Shelf.Ren:=⟨fun|228=>232|n=>n,fun|124=>310|5=>5|4=>4|0=>0|116=>306|n=>n,fun|n=>n⟩
open Go.RowKit Go.Lib in
def Tryz.lays260_ren:Go.Shelf.Ren:=⟨fun|260=>292|n=>n,fun|9=>9|21=>21|3=>3|4=>4|5=>5|119=>431|0=>0|46=>231|139=>434|138=>433|n=>n,fun|3=>2|4=>3|n=>n⟩
open Go.RowKit Go.Lib in
open Go.RowKit Go.Lib in
def Tryz.lays271_ren:Go.Shelf.Ren:=⟨fun|271=>235|120=>294|197=>233|260=>292|n=>n,fun|9=>9|21=>21|3=>3|4=>4|5=>5|105=>363|119=>431|0=>0|46=>231|139=>434|138=>433|n=>n,fun|3=>2|4=>3|n=>n⟩
open Go.RowKit Go.Lib in
def Tryz.lays109_ren:Go.Shelf.Ren:=⟨fun|109=>403|n=>n,fun|31=>24|9=>9|3=>3|0=>0|4=>4|n=>n,fun|n=>n⟩
open Go.Lib in
open Go.Lib in
def Tryz.laysNm217_ren:Go.Shelf.Ren:=⟨fun|17=>94|n=>n,fun|24=>24|9=>9|3=>3|4=>4|0=>0|n=>n,fun|n=>n⟩
open Go.RowKit Go.Lib Go.Sort in
open Go.RowKit Go.Lib Go.Sort in
open Go.RowKit Go.Lib Go.Sort in
open Go.RowKit Go.Lib Go.Sort in
def Tryz.laysSlE35_f94_ren:Go.Shelf.Ren:=⟨fun|35=>94|n=>n,fun|22=>24|23=>9|3=>3|4=>4|0=>0|n=>n,fun|n=>n⟩
open Go.RowKit Go.Lib Go.Sort in
open Go.RowKit Go.Lib Go.Sort in
open Go.RowKit Go.Lib Go.Sort in
def Tryz.laysSlE041_f143_ren:Go.Shelf.Ren:=⟨fun|41=>143|n=>n,fun|22=>146|23=>200|4=>4|n=>n,fun|n=>n⟩
theorem Tryz.laysSlE041_f143: Go.Proofs.SlLaysE0.n41 prog Tryz.laysSlE041_f143_ren:={
 mixed:=by kernel_rfl
 f41:=⟨f143.name,by decide,func143.trans (congrArg some (by kernel_rfl))⟩
 t4:=underlying4
 a4:=isAgg4
 z4:=sizeOf4
 v4:=zeroValue4
 t22:=underlying146
 a22:=isAgg146
 z22:=sizeOf146
 v22:=zeroValue146 }
open Go.RowKit Go.Lib in
theorem Tryz.slices_Clone(i0:TypeInfo)(z:Value)(size bytes:Nat)(hi:prog.info? 200=some i0)(hz0:i0.zero=some z)(hz1:i0.size=size)(hz2:i0.bytes=bytes)(hzs:z.cells.size=size)(hsz:0<size)(z23:∀w,(Go.sizeOf 200).run prog w=.ok size w)(b off n c:Nat)(news:List Value)(w:World)(hl:news.length=n * size)(hn:n≤maxLen)(hbig:n * bytes≤140737488355328)(hc:∀j u,news[j]?=some u→w.cell? ⟨b,off+j,none⟩=some u)(h1:∀u∈news,u.oneCell'=true):
  Calls prog 143 #[.slice (some ⟨b,off,none⟩) n c] w fun e w'=>∃v',e=.returned v'∧w'.ownsRow w.heap.size 200 size v' n news∧v'≠.slice none 0 0∧Below w.heap.size w w':=AnyE.slices_Clone Tryz.laysSlE041_f143 i0 z size bytes hi hz0 hz1 hz2 hzs hsz z23 b off n c news w hl hn hbig hc h1
open Go.RowKit Go.Lib in
theorem Tryz.slices_Clone_nil(n c:Nat)(w:World):
  Calls prog 143 #[.slice none n c] w fun e w'=>e=.returned (.slice none 0 0)∧w'=w:=AnyE.slices_Clone_nil Tryz.laysSlE041_f143 n c w
end Go.Proofs
end
