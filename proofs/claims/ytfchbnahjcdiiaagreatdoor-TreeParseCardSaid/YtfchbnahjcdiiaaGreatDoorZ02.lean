/- Packed by a program of mine (wip/tools/pack.py): the same texts with short names and few blanks. -/
import Derived.KernelRfl
import Derived.Lib.Hide
import Derived.Lib.MapLaws
import Derived.Lib.TrimAscii
import Derived.Lib.TrimUEq
import Derived.Lib.ValidLaws
import Derived.Shelf.Slices.Clone
import Derived.Shelf.Slices.In.SortNone
import Derived.Shelf.Small.Utf8
import Derived.Shelf.Sort.Plain
import Derived.Shelf.Spec.SlicesInsertGrow
import Derived.Shelf.Strings.Builder1
import Derived.Shelf.Strings.Runes
import Derived.Shelf.Strings.Search1
import Derived.Shelf.Strings.Search3
import Derived.Shelf.Strings.SlTrimAscii
import Derived.Shelf.Strings.Trim
import Derived.Shelf.Unicode.DecodeAny
import Derived.Shelf.Unicode.ValidAny
import Derived.Test.YtfchbnahjcdiiaaGreatDoorChecked
import Derived.Test.YtfchbnahjcdiiaaGreatDoorProg
import Derived.Test.YtfchbnahjcdiiaaGreatDoorZ01
set_option linter.unusedVariables false
set_option linter.unusedSimpArgs false
section
set_option linter.unusedVariables false
namespace Go.Proofs
open Go.RowKit Go.Lib
def Tryz.lays137_ren:Go.Shelf.Ren:=⟨fun|137=>84|217=>121|266=>156|n=>n,fun|9=>9|5=>5|3=>3|n=>n,fun|n=>n⟩
theorem Tryz.lays137:Go.Proofs.Lays.n137 Tryz.prog Tryz.lays137_ren:={
 mixed:=by kernel_rfl
 f137:=Tryz.func84.trans (congrArg some (by kernel_rfl))
 f217:=Tryz.func121.trans (congrArg some (by kernel_rfl))
 f266:=Tryz.func156.trans (congrArg some (by kernel_rfl))
 t3:=Tryz.underlying3
 a3:=Tryz.isAgg3
 z3:=Tryz.sizeOf3
 v3:=Tryz.zeroValue3
 t5:=Tryz.underlying5
 a5:=Tryz.isAgg5
 z5:=Tryz.sizeOf5
 v5:=Tryz.zeroValue5
 t9:=Tryz.underlying9
 a9:=Tryz.isAgg9
 z9:=Tryz.sizeOf9
 v9:=Tryz.zeroValue9}
def Tryz.lays161_ren:Go.Shelf.Ren:=⟨fun|161=>56|231=>91|227=>92|233=>93|235=>94|228=>129|197=>130|151=>131|260=>157|152=>158|137=>84|119=>194|224=>181|225=>180|217=>121|266=>156|n=>n,fun|9=>9|4=>4|3=>3|5=>5|117=>156|116=>155|0=>0|124=>159|105=>189|21=>21|119=>224|46=>194|139=>227|138=>226|n=>n,fun|3=>1|4=>2|n=>n⟩
theorem Tryz.lays161:Go.Proofs.Lays.n161 Tryz.prog Tryz.lays161_ren:={
 mixed:=by kernel_rfl
 f119:=Tryz.func194.trans (congrArg some (by kernel_rfl))
 f137:=Tryz.func84.trans (congrArg some (by kernel_rfl))
 f151:=Tryz.func131.trans (congrArg some (by kernel_rfl))
 f152:=Tryz.func158.trans (congrArg some (by kernel_rfl))
 f161:=Tryz.func56.trans (congrArg some (by kernel_rfl))
 f197:=Tryz.func130.trans (congrArg some (by kernel_rfl))
 f217:=Tryz.func121.trans (congrArg some (by kernel_rfl))
 f224:=Tryz.func181.trans (congrArg some (by kernel_rfl))
 f225:=Tryz.func180.trans (congrArg some (by kernel_rfl))
 f227:=Tryz.func92.trans (congrArg some (by kernel_rfl))
 f228:=Tryz.func129.trans (congrArg some (by kernel_rfl))
 f231:=Tryz.func91.trans (congrArg some (by kernel_rfl))
 f233:=Tryz.func93.trans (congrArg some (by kernel_rfl))
 f235:=Tryz.func94.trans (congrArg some (by kernel_rfl))
 f260:=Tryz.func157.trans (congrArg some (by kernel_rfl))
 f266:=Tryz.func156.trans (congrArg some (by kernel_rfl))
 t0:=Tryz.underlying0
 a0:=Tryz.isAgg0
 z0:=Tryz.sizeOf0
 v0:=Tryz.zeroValue0
 t3:=Tryz.underlying3
 a3:=Tryz.isAgg3
 z3:=Tryz.sizeOf3
 v3:=Tryz.zeroValue3
 t4:=Tryz.underlying4
 a4:=Tryz.isAgg4
 z4:=Tryz.sizeOf4
 v4:=Tryz.zeroValue4
 t5:=Tryz.underlying5
 a5:=Tryz.isAgg5
 z5:=Tryz.sizeOf5
 v5:=Tryz.zeroValue5
 t9:=Tryz.underlying9
 a9:=Tryz.isAgg9
 z9:=Tryz.sizeOf9
 v9:=Tryz.zeroValue9
 t21:=Tryz.underlying21
 a21:=Tryz.isAgg21
 z21:=Tryz.sizeOf21
 v21:=Tryz.zeroValue21
 t46:=Tryz.underlying194
 a46:=Tryz.isAgg194
 z46:=Tryz.sizeOf194
 v46:=Tryz.zeroValue194
 t105:=Tryz.underlying189
 a105:=Tryz.isAgg189
 z105:=Tryz.sizeOf189
 v105:=Tryz.zeroValue189
 t116:=Tryz.underlying155
 a116:=Tryz.isAgg155
 z116:=Tryz.sizeOf155
 t117:=Tryz.underlying156
 a117:=Tryz.isAgg156
 z117:=Tryz.sizeOf156
 v117:=Tryz.zeroValue156
 t119:=Tryz.underlying224
 a119:=Tryz.isAgg224
 z119:=Tryz.sizeOf224
 t124:=Tryz.underlying159
 a124:=Tryz.isAgg159
 z124:=Tryz.sizeOf159
 v124:=Tryz.zeroValue159
 t138:=Tryz.underlying226
 a138:=Tryz.isAgg226
 z138:=Tryz.sizeOf226
 v138:=Tryz.zeroValue226
 t139:=Tryz.underlying227
 a139:=Tryz.isAgg227
 z139:=Tryz.sizeOf227
 v139:=Tryz.zeroValue227
 g3:=by kernel_rfl
 g4:=by kernel_rfl}
def Tryz.lays197_ren:Go.Shelf.Ren:=⟨fun|197=>130|260=>157|n=>n,fun|9=>9|21=>21|3=>3|4=>4|5=>5|105=>189|119=>224|0=>0|46=>194|139=>227|138=>226|n=>n,fun|3=>1|4=>2|n=>n⟩
theorem Tryz.lays197:Go.Proofs.Lays.n197 Tryz.prog Tryz.lays197_ren:={
 mixed:=by kernel_rfl
 f197:=Tryz.func130.trans (congrArg some (by kernel_rfl))
 f260:=Tryz.func157.trans (congrArg some (by kernel_rfl))
 t0:=Tryz.underlying0
 a0:=Tryz.isAgg0
 z0:=Tryz.sizeOf0
 v0:=Tryz.zeroValue0
 t3:=Tryz.underlying3
 a3:=Tryz.isAgg3
 z3:=Tryz.sizeOf3
 v3:=Tryz.zeroValue3
 t4:=Tryz.underlying4
 a4:=Tryz.isAgg4
 z4:=Tryz.sizeOf4
 v4:=Tryz.zeroValue4
 t5:=Tryz.underlying5
 a5:=Tryz.isAgg5
 z5:=Tryz.sizeOf5
 v5:=Tryz.zeroValue5
 t9:=Tryz.underlying9
 a9:=Tryz.isAgg9
 z9:=Tryz.sizeOf9
 v9:=Tryz.zeroValue9
 t21:=Tryz.underlying21
 a21:=Tryz.isAgg21
 z21:=Tryz.sizeOf21
 v21:=Tryz.zeroValue21
 t46:=Tryz.underlying194
 a46:=Tryz.isAgg194
 z46:=Tryz.sizeOf194
 v46:=Tryz.zeroValue194
 t105:=Tryz.underlying189
 a105:=Tryz.isAgg189
 z105:=Tryz.sizeOf189
 v105:=Tryz.zeroValue189
 t119:=Tryz.underlying224
 a119:=Tryz.isAgg224
 z119:=Tryz.sizeOf224
 t138:=Tryz.underlying226
 a138:=Tryz.isAgg226
 z138:=Tryz.sizeOf226
 v138:=Tryz.zeroValue226
 t139:=Tryz.underlying227
 a139:=Tryz.isAgg227
 z139:=Tryz.sizeOf227
 v139:=Tryz.zeroValue227
 g3:=by kernel_rfl
 g4:=by kernel_rfl}
def Tryz.lays151_ren:Go.Shelf.Ren:=⟨fun|151=>131|152=>158|137=>84|119=>194|224=>181|225=>180|217=>121|266=>156|n=>n,fun|9=>9|21=>21|4=>4|3=>3|5=>5|0=>0|46=>194|n=>n,fun|n=>n⟩
theorem Tryz.lays151:Go.Proofs.Lays.n151 Tryz.prog Tryz.lays151_ren:={
 mixed:=by kernel_rfl
 f119:=Tryz.func194.trans (congrArg some (by kernel_rfl))
 f137:=Tryz.func84.trans (congrArg some (by kernel_rfl))
 f151:=Tryz.func131.trans (congrArg some (by kernel_rfl))
 f152:=Tryz.func158.trans (congrArg some (by kernel_rfl))
 f217:=Tryz.func121.trans (congrArg some (by kernel_rfl))
 f224:=Tryz.func181.trans (congrArg some (by kernel_rfl))
 f225:=Tryz.func180.trans (congrArg some (by kernel_rfl))
 f266:=Tryz.func156.trans (congrArg some (by kernel_rfl))
 t0:=Tryz.underlying0
 a0:=Tryz.isAgg0
 z0:=Tryz.sizeOf0
 v0:=Tryz.zeroValue0
 t3:=Tryz.underlying3
 a3:=Tryz.isAgg3
 z3:=Tryz.sizeOf3
 v3:=Tryz.zeroValue3
 t4:=Tryz.underlying4
 a4:=Tryz.isAgg4
 z4:=Tryz.sizeOf4
 v4:=Tryz.zeroValue4
 t5:=Tryz.underlying5
 a5:=Tryz.isAgg5
 z5:=Tryz.sizeOf5
 v5:=Tryz.zeroValue5
 t9:=Tryz.underlying9
 a9:=Tryz.isAgg9
 z9:=Tryz.sizeOf9
 v9:=Tryz.zeroValue9
 t21:=Tryz.underlying21
 a21:=Tryz.isAgg21
 z21:=Tryz.sizeOf21
 v21:=Tryz.zeroValue21
 t46:=Tryz.underlying194
 a46:=Tryz.isAgg194
 z46:=Tryz.sizeOf194
 v46:=Tryz.zeroValue194}
def Tryz.lays190_ren:Go.Shelf.Ren:=⟨fun|190=>96|125=>134|258=>133|128=>168|129=>169|302=>159|303=>160|304=>161|305=>162|306=>163|307=>164|308=>165|309=>166|310=>167|333=>195|329=>196|330=>197|334=>198|335=>199|336=>200|344=>213|n=>n,fun|31=>23|9=>9|3=>3|46=>194|0=>0|51=>212|53=>214|4=>4|183=>206|182=>205|131=>141|5=>5|218=>228|222=>232|228=>240|229=>241|n=>n,fun|n=>n⟩
theorem Tryz.lays190:Go.Proofs.Lays.n190 Tryz.prog Tryz.lays190_ren:={
 mixed:=by kernel_rfl
 f125:=Tryz.func134.trans (congrArg some (by kernel_rfl))
 f128:=Tryz.func168.trans (congrArg some (by kernel_rfl))
 f129:=Tryz.func169.trans (congrArg some (by kernel_rfl))
 f190:=Tryz.func96.trans (congrArg some (by kernel_rfl))
 f258:=Tryz.func133.trans (congrArg some (by kernel_rfl))
 f302:=Tryz.func159.trans (congrArg some (by kernel_rfl))
 f303:=Tryz.func160.trans (congrArg some (by kernel_rfl))
 f304:=Tryz.func161.trans (congrArg some (by kernel_rfl))
 f305:=Tryz.func162.trans (congrArg some (by kernel_rfl))
 f306:=Tryz.func163.trans (congrArg some (by kernel_rfl))
 f307:=Tryz.func164.trans (congrArg some (by kernel_rfl))
 f308:=Tryz.func165.trans (congrArg some (by kernel_rfl))
 f309:=Tryz.func166.trans (congrArg some (by kernel_rfl))
 f310:=Tryz.func167.trans (congrArg some (by kernel_rfl))
 f329:=Tryz.func196.trans (congrArg some (by kernel_rfl))
 f330:=Tryz.func197.trans (congrArg some (by kernel_rfl))
 f333:=Tryz.func195.trans (congrArg some (by kernel_rfl))
 f334:=Tryz.func198.trans (congrArg some (by kernel_rfl))
 f335:=Tryz.func199.trans (congrArg some (by kernel_rfl))
 f336:=Tryz.func200.trans (congrArg some (by kernel_rfl))
 f344:=Tryz.func213.trans (congrArg some (by kernel_rfl))
 t0:=Tryz.underlying0
 a0:=Tryz.isAgg0
 z0:=Tryz.sizeOf0
 v0:=Tryz.zeroValue0
 t3:=Tryz.underlying3
 a3:=Tryz.isAgg3
 z3:=Tryz.sizeOf3
 v3:=Tryz.zeroValue3
 t4:=Tryz.underlying4
 a4:=Tryz.isAgg4
 z4:=Tryz.sizeOf4
 v4:=Tryz.zeroValue4
 t5:=Tryz.underlying5
 a5:=Tryz.isAgg5
 z5:=Tryz.sizeOf5
 v5:=Tryz.zeroValue5
 t9:=Tryz.underlying9
 a9:=Tryz.isAgg9
 z9:=Tryz.sizeOf9
 v9:=Tryz.zeroValue9
 t31:=Tryz.underlying23
 a31:=Tryz.isAgg23
 z31:=Tryz.sizeOf23
 v31:=Tryz.zeroValue23
 t46:=Tryz.underlying194
 a46:=Tryz.isAgg194
 z46:=Tryz.sizeOf194
 v46:=Tryz.zeroValue194
 t51:=Tryz.underlying212
 a51:=Tryz.isAgg212
 z51:=Tryz.sizeOf212
 v51:=Tryz.zeroValue212
 t53:=Tryz.underlying214
 a53:=Tryz.isAgg214
 z53:=Tryz.sizeOf214
 v53:=Tryz.zeroValue214
 t131:=Tryz.underlying141
 a131:=Tryz.isAgg141
 z131:=Tryz.sizeOf141
 v131:=Tryz.zeroValue141
 t182:=Tryz.underlying205
 a182:=Tryz.isAgg205
 z182:=Tryz.sizeOf205
 v182:=Tryz.zeroValue205
 t183:=Tryz.underlying206
 a183:=Tryz.isAgg206
 z183:=Tryz.sizeOf206
 v183:=Tryz.zeroValue206
 t218:=Tryz.underlying228
 a218:=Tryz.isAgg228
 z218:=Tryz.sizeOf228
 v218:=Tryz.zeroValue228
 t222:=Tryz.underlying232
 a222:=Tryz.isAgg232
 z222:=Tryz.sizeOf232
 v222:=Tryz.zeroValue232
 t228:=Tryz.underlying240
 a228:=Tryz.isAgg240
 z228:=Tryz.sizeOf240
 v228:=Tryz.zeroValue240
 t229:=Tryz.underlying241
 a229:=Tryz.isAgg241
 z229:=Tryz.sizeOf241
 v229:=Tryz.zeroValue241}
def Tryz.laysNm216_ren:Go.Shelf.Ren:=⟨fun|16=>34|n=>n,fun|24=>23|9=>9|4=>4|n=>n,fun|n=>n⟩
theorem Tryz.laysNm216:Go.Proofs.Lays2.n16 Tryz.prog Tryz.laysNm216_ren:={
 mixed:=by kernel_rfl
 f16:=Tryz.func34.trans (congrArg some (by kernel_rfl))
 t4:=Tryz.underlying4
 a4:=Tryz.isAgg4
 z4:=Tryz.sizeOf4
 v4:=Tryz.zeroValue4
 t9:=Tryz.underlying9
 a9:=Tryz.isAgg9
 z9:=Tryz.sizeOf9
 v9:=Tryz.zeroValue9
 t24:=Tryz.underlying23
 a24:=Tryz.isAgg23
 z24:=Tryz.sizeOf23
 v24:=Tryz.zeroValue23
 i9:=by kernel_rfl}
def Tryz.lays196_ren:Go.Shelf.Ren:=⟨fun|196=>185|259=>211|n=>n,fun|0=>0|3=>3|4=>4|5=>5|9=>9|12=>12|46=>194|53=>214|119=>224|138=>226|139=>227|n=>n,fun|3=>1|4=>2|n=>n⟩
theorem Tryz.lays196:Go.Proofs.Lays.n196 Tryz.prog Tryz.lays196_ren:={
 mixed:=by kernel_rfl
 f196:=Tryz.func185.trans (congrArg some (by kernel_rfl))
 f259:=Tryz.func211.trans (congrArg some (by kernel_rfl))
 t0:=Tryz.underlying0
 a0:=Tryz.isAgg0
 z0:=Tryz.sizeOf0
 v0:=Tryz.zeroValue0
 t3:=Tryz.underlying3
 a3:=Tryz.isAgg3
 z3:=Tryz.sizeOf3
 v3:=Tryz.zeroValue3
 t4:=Tryz.underlying4
 a4:=Tryz.isAgg4
 z4:=Tryz.sizeOf4
 v4:=Tryz.zeroValue4
 t5:=Tryz.underlying5
 a5:=Tryz.isAgg5
 z5:=Tryz.sizeOf5
 v5:=Tryz.zeroValue5
 t9:=Tryz.underlying9
 a9:=Tryz.isAgg9
 z9:=Tryz.sizeOf9
 v9:=Tryz.zeroValue9
 t12:=Tryz.underlying12
 a12:=Tryz.isAgg12
 z12:=Tryz.sizeOf12
 v12:=Tryz.zeroValue12
 t46:=Tryz.underlying194
 a46:=Tryz.isAgg194
 z46:=Tryz.sizeOf194
 v46:=Tryz.zeroValue194
 t53:=Tryz.underlying214
 a53:=Tryz.isAgg214
 z53:=Tryz.sizeOf214
 v53:=Tryz.zeroValue214
 t119:=Tryz.underlying224
 a119:=Tryz.isAgg224
 z119:=Tryz.sizeOf224
 t138:=Tryz.underlying226
 a138:=Tryz.isAgg226
 z138:=Tryz.sizeOf226
 v138:=Tryz.zeroValue226
 t139:=Tryz.underlying227
 a139:=Tryz.isAgg227
 z139:=Tryz.sizeOf227
 v139:=Tryz.zeroValue227
 g3:=by kernel_rfl
 g4:=by kernel_rfl}
def Tryz.lays143_ren:Go.Shelf.Ren:=⟨fun|143=>109|219=>141|217=>121|225=>180|224=>181|267=>182|266=>156|314=>209|n=>n,fun|9=>9|3=>3|4=>4|5=>5|46=>194|146=>237|51=>212|n=>n,fun|1=>0|n=>n⟩
theorem Tryz.lays143:Go.Proofs.Lays.n143 Tryz.prog Tryz.lays143_ren:={
 mixed:=by kernel_rfl
 f143:=Tryz.func109.trans (congrArg some (by kernel_rfl))
 f217:=Tryz.func121.trans (congrArg some (by kernel_rfl))
 f219:=Tryz.func141.trans (congrArg some (by kernel_rfl))
 f224:=Tryz.func181.trans (congrArg some (by kernel_rfl))
 f225:=Tryz.func180.trans (congrArg some (by kernel_rfl))
 f266:=Tryz.func156.trans (congrArg some (by kernel_rfl))
 f267:=Tryz.func182.trans (congrArg some (by kernel_rfl))
 f314:=Tryz.func209.trans (congrArg some (by kernel_rfl))
 t3:=Tryz.underlying3
 a3:=Tryz.isAgg3
 z3:=Tryz.sizeOf3
 v3:=Tryz.zeroValue3
 t4:=Tryz.underlying4
 a4:=Tryz.isAgg4
 z4:=Tryz.sizeOf4
 v4:=Tryz.zeroValue4
 t5:=Tryz.underlying5
 a5:=Tryz.isAgg5
 z5:=Tryz.sizeOf5
 v5:=Tryz.zeroValue5
 t9:=Tryz.underlying9
 a9:=Tryz.isAgg9
 z9:=Tryz.sizeOf9
 v9:=Tryz.zeroValue9
 t46:=Tryz.underlying194
 a46:=Tryz.isAgg194
 z46:=Tryz.sizeOf194
 v46:=Tryz.zeroValue194
 t51:=Tryz.underlying212
 a51:=Tryz.isAgg212
 z51:=Tryz.sizeOf212
 v51:=Tryz.zeroValue212
 t146:=Tryz.underlying237
 a146:=Tryz.isAgg237
 z146:=Tryz.sizeOf237
 v146:=Tryz.zeroValue237
 g1:=by kernel_rfl}
def Tryz.lays240_ren:Go.Shelf.Ren:=⟨fun|240=>52|276=>82|n=>n,fun|0=>0|4=>4|9=>9|20=>20|70=>75|72=>77|164=>145|37=>42|n=>n,fun|n=>n⟩
theorem Tryz.lays240:Go.Proofs.Lays.n240 Tryz.prog Tryz.lays240_ren:={
 mixed:=by kernel_rfl
 f240:=Tryz.func52.trans (congrArg some (by kernel_rfl))
 f276:=Tryz.func82.trans (congrArg some (by kernel_rfl))
 t0:=Tryz.underlying0
 a0:=Tryz.isAgg0
 z0:=Tryz.sizeOf0
 v0:=Tryz.zeroValue0
 t4:=Tryz.underlying4
 a4:=Tryz.isAgg4
 z4:=Tryz.sizeOf4
 v4:=Tryz.zeroValue4
 t9:=Tryz.underlying9
 a9:=Tryz.isAgg9
 z9:=Tryz.sizeOf9
 v9:=Tryz.zeroValue9
 t20:=Tryz.underlying20
 a20:=Tryz.isAgg20
 z20:=Tryz.sizeOf20
 v20:=Tryz.zeroValue20
 t70:=Tryz.underlying75
 a70:=Tryz.isAgg75
 z70:=Tryz.sizeOf75
 v70:=Tryz.zeroValue75
 t72:=Tryz.underlying77
 a72:=Tryz.isAgg77
 z72:=Tryz.sizeOf77
 v72:=Tryz.zeroValue77
 t164:=Tryz.underlying145
 a164:=Tryz.isAgg145
 z164:=Tryz.sizeOf145
 v164:=Tryz.zeroValue145}
theorem Tryz.builderX72:Builder.X72 Tryz.prog Tryz.lays240_ren:={
 sizeBuilder:=by kernel_rfl
 liesBuilder:=by kernel_rfl}
def Tryz.lays169_ren:Go.Shelf.Ren:=⟨fun|169=>37|n=>n,fun|70=>75|9=>9|0=>0|72=>77|37=>42|127=>103|3=>3|5=>5|n=>n,fun|n=>n⟩
theorem Tryz.lays169:Go.Proofs.Lays.n169 Tryz.prog Tryz.lays169_ren:={
 mixed:=by kernel_rfl
 f169:=Tryz.func37.trans (congrArg some (by kernel_rfl))
 t0:=Tryz.underlying0
 a0:=Tryz.isAgg0
 z0:=Tryz.sizeOf0
 v0:=Tryz.zeroValue0
 t3:=Tryz.underlying3
 a3:=Tryz.isAgg3
 z3:=Tryz.sizeOf3
 v3:=Tryz.zeroValue3
 t9:=Tryz.underlying9
 a9:=Tryz.isAgg9
 z9:=Tryz.sizeOf9
 v9:=Tryz.zeroValue9
 t37:=Tryz.underlying42
 a37:=Tryz.isAgg42
 z37:=Tryz.sizeOf42
 v37:=Tryz.zeroValue42
 t70:=Tryz.underlying75
 a70:=Tryz.isAgg75
 z70:=Tryz.sizeOf75
 v70:=Tryz.zeroValue75
 t72:=Tryz.underlying77
 a72:=Tryz.isAgg77
 z72:=Tryz.sizeOf77
 v72:=Tryz.zeroValue77
 t127:=Tryz.underlying103
 a127:=Tryz.isAgg103
 z127:=Tryz.sizeOf103
 v127:=Tryz.zeroValue103}
theorem Tryz.builderExtra:Builder.Extra Tryz.prog Tryz.lays169_ren:={
 sizeBuilder:=by kernel_rfl
 liesBuilder:=by kernel_rfl
 t5:=Tryz.underlying5
 a5:=Tryz.isAgg5
 z5:=Tryz.sizeOf5
 v5:=Tryz.zeroValue5
 infoByte:=by kernel_rfl
 cellsByte:=by kernel_rfl
 sizeByte:=by kernel_rfl
 neB5:=by decide}
end Go.Proofs
end
namespace Go.Proofs.YtfchbnahjcdiiaaGreatDoor
open Vc Go.RowKit
theorem aEU {g:Gh}{w w':World}(hH:HeapOk g w (enumH 0 [])) (hb:Below w.heap.size w w'):HeapOk g w' (enumH 0 []):=
 ⟨fun _ _ h=>(by cases h),fun _ _ _ _ _ _ _ h=>(by cases h),fun b o h=>Nat.lt_of_lt_of_le (hH.sl b o h) hb.size,⟨N3 hH.tab.1 hb.size fun b h=>hb.block b (Nat.lt_of_lt_of_le h hH.tab.1.1),fun _ _ _ _ h=>(by cases h)⟩⟩
theorem KC {P:Program}{f:FuncId}{C:List Slot→List Blk→Option Ret}(hen: ∀args w,(callFunc f args).run P w= .ok (.enter f args) w)
  (h: ∀(g:Gh) (w:World) (args:List Slot) (vals:List Value) (L:List Blk) (r:Ret),Tabs w→ArgsOk g w args vals→C args L=some r→(∀p∈r.side,p)→
   L=[]∧r.H=[]∧Calls P f vals.toArray w (fun e w'=> ∃v,e= .returned v∧Below w.heap.size w w'∧RetVals g w' r.ret v)):vW P f C:=by
 refine⟨hen,fun g w args vals L r hH ha hC hs=> ?_⟩
 obtain⟨rfl,hr,hc⟩:=h g w args vals L r hH.tab.1 ha hC hs
 refine hc.mono fun e w' ⟨v,he,hb,hv⟩=>⟨v,g,he,⟨fun b o h=>⟨h,hb.cell (p:=⟨b,o,none⟩) (hH.sl b o h)⟩,by rw[hr];exact aEU hH hb,hv,⟨hb.os,hb.tape,hb.output,hb.size,fun b h _=>hb.block b h,fun b o h _=>⟨hb.cell (p:=⟨b,o,none⟩) h,hb.frozen (p:=⟨b,o,none⟩) h⟩,fun b o h=> .inl h,fun b s h=> .inl ((AC (hb.block b (AB h))).trans h)⟩,(fun i blk b o h=>by rw[hr] at h;cases h),(fun i t x ts h=>by cases h),(fun i t x ts u y us h=>by cases h),(fun _ _ _ h=>h),(fun _ _ _ _ h=>h)⟩⟩
theorem SY {P:Program}{f:FuncId}{vals:Array Value}{w:World}{Q:Ending→Prop}(h:Calls P f vals w fun e w'=>Q e∧w'=w):Calls P f vals w fun e w'=>Q e∧Below w.heap.size w w':=
 h.mono fun e w' ⟨h1,h2⟩=>⟨h1,by rw[h2];exact Below.refl _ _⟩
def rW (s:List UInt8) (c:Int):Int:=Lib.indexByte s (Int.toNat c).toUInt8
def aEV (s:List UInt8) (c:Int):Bool:=decide (0≤Lib.indexByte s (Int.toNat c).toUInt8)
@[go_sem] def SZ:List Slot→List Blk→Option Ret
 |[(.val .str O,none),(.val (.int .u8) Z,none)],[]=>some ⟨[],[(.val (.int .i64) (rW O Z),none)],[]⟩
 |_,_=>none
set_option maxRecDepth 100000 in
theorem aEW:vW Tryz.prog 84 SZ:=by
 refine KC (fun _ _=>rfl) fun g w args vals L r hT ha hC hs=> ?_
 unfold SZ at hC
 split at hC
 ·rename_i s c
  cases hC
  obtain⟨va,_,rfl,ra,vb,_,rfl,rb,hv⟩:=ha
  obtain rfl:=uI ra.1
  obtain rfl:=tE rb.1
  cases hv
  exact⟨rfl,rfl,(SY (Any.strings_IndexByte Tryz.lays137 ⟨List.toArray s⟩ c w)).mono fun e w' ⟨he,hb⟩=>⟨_,he,hb,tY _ _ _ _,trivial⟩⟩
 ·cases hC
@[go_sem] def T0:List Slot→List Blk→Option Ret
 |[(.val .str O,none),(.val .str Z,none)],[]=>some ⟨[(List.all Z fun b=>decide (b.toNat<128))=true∧List.length Z<4294967281],[(.val .str (Lib.trimLeftS O Z),none)],[]⟩
 |_,_=>none
set_option maxRecDepth 100000 in
theorem aEX:vW Tryz.prog 56 T0:=by
 refine KC (fun _ _=>rfl) fun g w args vals L r hT ha hC hs=> ?_
 unfold T0 at hC
 split at hC
 ·rename_i s c
  cases hC
  obtain⟨h1,h2⟩:=hs _ List.mem_cons_self
  obtain⟨va,_,rfl,ra,vb,_,rfl,rb,hv⟩:=ha
  obtain rfl:=uI ra.1
  obtain rfl:=uI rb.1
  cases hv
  exact⟨rfl,rfl,(Any.strings_TrimLeft_laid Tryz.lays161 (by kernel_rfl) ⟨List.toArray s⟩ ⟨List.toArray c⟩ w h2 (ascii_of_all h1)).mono fun e w' ⟨he,hb⟩=>⟨_,he,hb,FI _ _ _,trivial⟩⟩
 ·cases hC
@[go_sem] def T1:List Slot→List Blk→Option Ret
 |[(.val .str O,none)],[]=>some ⟨[List.length O≤9223372036854775807],[(.val .bool (Lib.validD O),none)],[]⟩
 |_,_=>none
set_option maxRecDepth 100000 in
theorem aEY:vW Tryz.prog 185 T1:=by
 refine KC (fun _ _=>rfl) fun g w args vals L r hT ha hC hs=> ?_
 unfold T1 at hC
 split at hC
 ·rename_i s
  cases hC
  have h1:=hs _ List.mem_cons_self
  obtain⟨va,_,rfl,ra,hv⟩:=ha
  obtain rfl:=uI ra.1
  cases hv
  exact⟨rfl,rfl,(Any.utf8_ValidString Tryz.lays196 ⟨List.toArray s⟩ w h1 hT.2.1).mono fun e w' ⟨he,hb⟩=>⟨_,he,hb,t7 _ _ _,trivial⟩⟩
 ·cases hC
@[go_sem] def T2:List Slot→List Blk→Option Ret
 |[(.val .str O,none),(.val (.int .i32) Z,none)],[]=>some ⟨[0≤Z∧Z<128],[(.val .bool (aEV O Z),none)],[]⟩
 |_,_=>none
set_option maxRecDepth 100000 in
theorem aEZ:vW Tryz.prog 131 T2:=by
 refine KC (fun _ _=>rfl) fun g w args vals L r hT ha hC hs=> ?_
 unfold T2 at hC
 split at hC
 ·rename_i s c
  cases hC
  obtain⟨h1,h2⟩:=hs _ List.mem_cons_self
  obtain⟨va,_,rfl,ra,vb,_,rfl,rb,hv⟩:=ha
  obtain rfl:=uI ra.1
  obtain rfl:=tE rb.1
  cases hv
  exact⟨rfl,rfl,(SY (Any.strings_ContainsRune_ascii Tryz.lays151 ⟨List.toArray s⟩ c w h1 h2)).mono fun e w' ⟨he,hb⟩=>⟨_,he,hb,t7 _ _ _,trivial⟩⟩
 ·cases hC
end Go.Proofs.YtfchbnahjcdiiaaGreatDoor
namespace Go.Proofs.YtfchbnahjcdiiaaGreatDoor
open Vc Go.RowKit
@[go_sem] def noC:List Slot→List Blk→Option Ret:=fun _ _=>none
def tO (l:List (List UInt8)):List (List UInt8):=l.mergeSort fun x y=>decide (x≤y)
@[go_sem] def a6W:(t:Ty)→List t.den→Option (List t.den)
 | .str,l=>some (tO l)
 |_,_=>none
theorem a6X {g:Gh}{w:World}: ∀{l:List (List UInt8)}{xs:List Value},qS (Rd g w .str) 1 l xs→xs=l.map Go.Proofs.encStr
 |[],_,h=>h
 |_::_,_,⟨c1,c2,e,_,h2,h3⟩=>by rw[e,show c1=_ from h2,a6X h3];rfl
theorem a6Y {g:Gh}{w:World}: ∀(l:List (List UInt8)),qS (Rd g w .str) 1 l (l.map Go.Proofs.encStr)
 |[]=>rfl
 |x::l=>⟨[.string ⟨x.toArray⟩],_,rfl,rfl,rfl,a6Y l⟩
theorem aE0 (s:List (List UInt8)) (cur:Array Value) (h:s.length≤cur.size):(Go.Sort.putCells Go.Proofs.encStr 0 s.toArray cur).toList.take s.length=s.map Go.Proofs.encStr:=by
 apply List.ext_getElem
 ·simp [Go.Sort.putCells];omega
 ·intro i h1 h2
  have hi:i<s.length:=by simpa using h2
  simp only[Go.Sort.putCells,List.getElem_take,Array.getElem_toList,Array.getElem_mapIdx,List.getElem_map]
  rw[if_pos (by simp;exact hi)]
  simp [hi]
set_option maxRecDepth 100000 in
theorem aE1:vW Tryz.prog 96 noC∧∀F,some a6W=some F→NH Tryz.prog 96 F:=by
 refine⟨⟨fun _ _=>rfl,fun g w args vals L r _ _ hC _=>by cases hC⟩,fun F hF=> ?_⟩
 cases hF
 intro g w e t l l' v n xs hT hown hF hl hn hf
 cases t with
 |str=>
  have hf:tO l=l':=Option.some.inj hf
  subst hf
  subst hl
  have hlen:(tO l).length=l.length:=by simp [tO]
  obtain⟨hx,⟨rfl,h0⟩ |⟨b,cap,cur,rfl,hb0,hbk,hnc,hcm,hcs,htk⟩⟩:=hown
  ·obtain rfl:l=[]:=List.length_eq_zero_iff.1 h0
   refine(Any.slices_Sort_string_none Tryz.lays190 none 0 w).mono ?_
   rintro en w' ⟨rfl,rfl⟩
   exact⟨rfl,hlen,[],⟨rfl,.inl ⟨rfl,rfl⟩⟩,by simp [tO,qS],⟨rfl,rfl,rfl,Nat.le_refl _,fun _ _ _=>rfl⟩⟩
  ·have hxs:=a6X hF
   subst hxs
   have hc1:(Ty.str).cells=1:=rfl
   rw[hc1,Nat.mul_one] at hcs htk
   have hbl:b<w.heap.size:=by
    rcases Nat.lt_or_ge b w.heap.size with h|h
    ·exact h
    ·rw[Array.getElem?_eq_none h] at hbk;cases hbk
   have hH:Go.Sort.Holds Go.Proofs.encStr w b 0 l.toArray:=by
    intro j hj
    have hj':j<l.length:=by simpa using hj
    refine⟨?_,Lib.frozen_of_heap hbk _⟩
    rw[Lib.cell_of_heap hbk,Nat.zero_add]
    have h2:(cur.toList.take l.length)[j]? =(l.map Go.Proofs.encStr)[j]? :=by rw[htk]
    rw[List.getElem?_take_of_lt hj',Array.getElem?_toList] at h2
    rw[h2]
    simp [hj']
   refine(Any.slices_Sort_string Tryz.lays190 b 0 cap l w hH hbl hn).mono ?_
   rintro en w' ⟨rfl,m,os,rfl⟩
   have hsz:(tO l).length≤cur.size:=by rw[hlen,hcs];exact hnc
   have hnew:(Go.Sort.grow (Go.Sort.putRow Go.Proofs.encStr (Go.Sort.ahead w m) b 0 (tO l).toArray) os).heap[b]? =some (.cells (Go.Sort.putCells Go.Proofs.encStr 0 (tO l).toArray cur) e (0,0)):=by
    rw[Go.Sort.heap_grow_old _ _ (by simpa using hbl)]
    simp [Go.Sort.putRow,Go.Sort.mapBlock,Array.getElem?_modify,hbk,Go.Sort.onCells]
   refine⟨rfl,hlen,(tO l).map Go.Proofs.encStr,⟨by simp [hlen,hc1],.inr ⟨b,cap,_,rfl,hb0,hnew,hnc,hcm,?_,?_⟩⟩,a6Y _,⟨rfl,rfl,rfl,by simp,fun k hk hne=> ?_⟩⟩
   ·rw[hc1,Nat.mul_one];simpa[Go.Sort.putCells] using hcs
   ·rw[hc1,Nat.mul_one,←hlen];exact aE0 _ _ hsz
   ·rw[Go.Sort.heap_grow_old _ _ (by simpa using hk)]
    have hkb:b≠k:=fun h=>hne (by rw[h];rfl)
    simp [Go.Sort.putRow,Go.Sort.mapBlock,Array.getElem?_modify,hkb]
 |_=>cases hf
def HH (s c:List UInt8):Int:=Lib.index s c
@[go_sem] def T3:List Slot→List Blk→Option Ret
 |[(.val .str O,none),(.val .str Z,none)],[]=>some ⟨[List.length O<4294967281],[(.val (.int .i64) (HH O Z),none)],[]⟩
 |_,_=>none
set_option maxRecDepth 100000 in
theorem aE2:vW Tryz.prog 109 T3:=by
 refine KC (fun _ _=>rfl) fun g w args vals L r hT ha hC hs=> ?_
 unfold T3 at hC
 split at hC
 ·rename_i s c
  cases hC
  have h1:=hs _ List.mem_cons_self
  obtain⟨va,_,rfl,ra,vb,_,rfl,rb,hv⟩:=ha
  obtain rfl:=uI ra.1
  obtain rfl:=uI rb.1
  cases hv
  obtain⟨m,hm⟩:=hT.2.2
  exact⟨rfl,rfl,(SY (Any.strings_Index Tryz.lays143 ⟨List.toArray s⟩ ⟨List.toArray c⟩ m w h1 hm)).mono fun e w' ⟨he,hb⟩=>⟨_,he,hb,tY _ _ _ _,trivial⟩⟩
 ·cases hC
@[go_sem] def T4:List Slot→List Blk→Option Ret
 |[(.val .ref (some (0,0)),none)],[.cells (.pair .mref (.pair (.list (.int .u8)) .unit)) ((some (0,0)),O) [(1,1)],.grow Z 1 aA]=>some ⟨[aA=List.length O.1],[],[.cells (.pair .mref (.pair (.list (.int .u8)) .unit)) ((some (0,0)),O) [(1,1)],.grow Z 1 aA]⟩
 |_,_=>none
theorem aE3 {g:Gh}{w:World}{L:List Blk}{e:Eff}{w':World}{u v:Value}{r:Ret}(hE:EffOk g w (enumH 0 L) e g w' u)
  (hH: ∀i,getH (enumH 0 r.H) i=getH (app e.upd (enumH 0 L)) i) (hin: ∀i,i∈idsOf e.upd→i<L.length) (hlen:r.H.length=L.length)
  (hp: ∀i blk b o,r.H[i]? =some blk→owns g i blk b o→w.heap.size≤b∨ownsAny g (enumH 0 L) b o)
  (hty: ∀(i:Nat) t x ts u y us,L[i]? =some (.cells t x ts)→r.H[i]? =some (.cells u y us)→u=t)
  (hret:RetVals g w' r.ret v):RetOk g w L r g w' v:=
 ⟨fun b o h=>⟨h,hE.le.cell b o h⟩,hE.heap.ext hH,hret,hE.fr.mono fun b o ⟨i,blk,_,h1,h2⟩=>⟨i,blk,h1,h2⟩,hp,fun _ _ _ _ _=>rfl,hty,fun _ _ _ h=>h,fun _ _ _ _ h=>h⟩
set_option maxRecDepth 100000 in
theorem aE4:vW Tryz.prog 52 T4:=by
 refine⟨fun _ _=>rfl,fun g w args vals L r hH ha hC hs=> ?_⟩
 unfold T4 at hC
 split at hC
 ·rename_i O Z aA
  cases hC
  obtain⟨va,_,rfl,ra,hv⟩:=ha
  cases hv
  have hg0:getH (enumH 0 [Blk.cells (.pair .mref (.pair (.list (.int .u8)) .unit)) ((some (0,0)),O) [(1,1)],.grow Z 1 aA]) 0=some (.cells (.pair .mref (.pair (.list (.int .u8)) .unit)) ((some (0,0)),O) [(1,1)]):=rfl
  obtain⟨p,cs,hJ,hR,hra,hth,hns,htk⟩:=hH.blk 0 _ hg0
  obtain⟨c1,c2,rfl,hR1,hR2⟩:=hR
  obtain⟨p',hJ',⟨hp0,eb,heb,hk3⟩,hc1⟩:=hR1
  rw[hJ] at hJ'
  obtain rfl:=Option.some.inj hJ'
  obtain⟨b,o,k⟩:=p
  have ho:o=0:=by simpa using hp0
  subst ho
  have he:eb=77:=by
   unfold QA at heb
   split at heb
   ·assumption
   ·cases heb
  subst he
  have hva:va= .pointer (some ⟨b,0,none⟩):=by
   obtain⟨q,hq,e⟩:=xC ra.1
   rw[hJ] at hq
   cases hq
   exact e
  subst hva
  have hsh:w.shape? b=some (77,2):=hth.2 (by decide) _ hk3
  rcases hc1 with rfl|rfl
  ·have h0:w.cell? ⟨b,0,none⟩=some (.pointer none)∧w.frozen? ⟨b,0,none⟩=false:=⟨hra 0 _ rfl,(hth.1 0 (by decide)).2⟩
   refine(Any.Builder_copyCheck_fresh Tryz.lays240 Tryz.builderX72 b w h0.1 hsh h0.2).mono ?_
   rintro en w' ⟨rfl,rfl⟩
   refine⟨_,g,rfl,?_⟩
   have hE:=EffOk.store (side:=[]) (rds:=[]) hH (i:=0) (t:= .mref) (y:=some (0,0)) (off:=0) (k:=none) (p:=⟨b,0,k⟩) (cy:=[.pointer (some ⟨b,0,none⟩)]) (v:= .pointer (some ⟨b,0,none⟩)) hg0 hJ (z:=((some (0,0)),O)) (by rfl) ⟨_,hJ,⟨rfl,_,rfl,hk3⟩,.inr rfl⟩ trivial (fun _ _ h=>by cases h) (fun _=>rfl)
   refine aE3 hE.1 ?_ ?_ rfl ?_ ?_ ?_
   ·intro i
    match i with
    |0=>rfl
    |1=>rfl
    |i+2=>rfl
   ·intro i hi
    simp [idsOf] at hi
    subst hi
    exact Nat.zero_lt_succ _
   ·intro i blk b o hi ho
    exact .inr ⟨i,blk,by rw[NF];simpa using hi,ho⟩
   ·intro i t x ts u y us h1 h2
    rw[h1] at h2
    cases h2
    rfl
   ·exact⟨[],rfl,rfl⟩
  ·have h0:w.cell? ⟨b,0,none⟩=some (.pointer (some ⟨b,0,none⟩)):=hra 0 _ rfl
   refine(Any.Builder_copyCheck_used Tryz.lays240 Tryz.builderX72 b w h0).mono ?_
   rintro en w' ⟨rfl,rfl⟩
   refine⟨_,g,rfl,⟨fun b o h=>⟨h,rfl⟩,hH,⟨[],rfl,rfl⟩,Fr.refl _ _ _,?_,fun _ _ _ _ _=>rfl,?_,fun _ _ _ h=>h,fun _ _ _ _ h=>h⟩⟩
   ·intro i blk b o hi ho
    exact .inr ⟨i,blk,by rw[NF];simpa using hi,ho⟩
   ·intro i t x ts u y us h1 h2
    rw[h1] at h2
    cases h2
    rfl
 ·cases hC
theorem a6Z {P:Program}(w:World): ∀(l:List Int) (a:Addr) (acc:ByteArray),(∀j x,l[j]? =some x→w.cell? (a.add j)=some (.int .u8 x))→
  (loadBytes a acc l.length).run P w= .ok ⟨acc.data++(rB l).toArray⟩ w
 |[],a,acc,_=>by simp [loadBytes,rB]
 |x::l,a,acc,h=>by
  have h0:w.cell? a=some (.int .u8 x):=by
   have:=h 0 x rfl
   simpa[Addr.add] using this
  have ih:=a6Z (P:=P) w l (a.add 1) (acc.push (UInt8.ofNat x.toNat)) (fun j y hy=>by
   have:=h (j+1) y (by simpa using hy)
   have e:(a.add 1).add j=a.add (j+1):=by
    unfold Addr.add
    by_cases hj:j=0
    ·subst hj;simp
    ·simp [hj];omega
   rw[e];exact this)
  have hx:x.toNat.toUInt8=UInt8.ofNat x.toNat:=rfl
  simp only[List.length_cons,loadBytes,Sem.run_bind,run_load,h0,Result.andThen,hx]
  rw[ih]
  congr 1
  apply ByteArray.ext
  simp [ByteArray.push,rB]
theorem aE5 {P:Program}(w:World) (pt it ty e:TypeId) (hp:P.underlying pt=some (.pointer e)) (hc:P.cellsOf e=1) (g cells:Nat) (hsh:w.shape? g=some (e,cells)) (l:List Int) (h0:l≠[]) (hn:l.length≤cells) (h63:l.length≤9223372036854775807)
  (hcell: ∀j x,l[j]? =some x→w.cell? ((⟨g,0,none⟩:Addr).add j)=some (.int .u8 x)):
  (Builtin.unsafeString_ #[pt,it] ty #[.pointer (some ⟨g,0,none⟩),.int .i64 l.length]).run P w= .ok (.string ⟨(rB l).toArray⟩) (w.freeze ⟨g,0,none⟩ l.length):=by
 have hl:l.length≠0:=by simpa using h0
 have hlb:=a6Z (P:=P) w l ⟨g,0,none⟩ .empty hcell
 have hlies:=Lib.liesAt_bytes (P:=P) hc (cells/P.cellsOf e) l.length (by rw[hc];simpa using hn)
 have h63': ¬(9223372036854775807:Int)<(l.length:Int):=by omega
 have hdef:Builtin.unsafeString_ #[pt,it] ty #[.pointer (some ⟨g,0,none⟩),.int .i64 l.length]=
   (do
    let n←asInt (.int .i64 l.length)
    if n<0 then runtimePanic (.error "unsafe.String: len out of range")
    if n>IntKind.i64.max then unsupported (.unsafePointer "String: a length above the largest int")
    if n=0 then pure (.string .empty)
    else if←variablesAt ⟨g,0,none⟩ (←elemOf pt) n.toNat then do
     let s←loadBytes ⟨g,0,none⟩ .empty n.toNat
     freeze ⟨g,0,none⟩ n.toNat
     pure (.string s)
    else unsupported (.unsafePointer "String: not so many bytes at ptr")):=rfl
 rw[hdef]
 have hmax:IntKind.i64.max=9223372036854775807:=rfl
 have hneg: ¬(l.length:Int)<0:=by omega
 simp [asInt,asIntOf,hmax,h63',hneg,hl,variablesAt,hsh,elemOf,run_underlying hp,hlies,hlb]
set_option maxHeartbeats 2000000 in
set_option maxRecDepth 100000 in
theorem T5 {P:Program}{ρ:Go.Shelf.Ren}(L:Lays.n169 P ρ) (X:Builder.Extra P ρ) (b n cap:Nat) (a q:Option Addr) (s:ByteArray) (w w2:World)
  (c1:w.drew.cell? ⟨b,1,none⟩=some (.slice a n cap)) (hSD:(Builtin.unsafeSliceData_ #[(ρ.t 37)] (ρ.t 127) #[.slice a n cap]).run P w.drew= .ok (.pointer q) w.drew)
  (hUS:(Builtin.unsafeString_ #[(ρ.t 127),(ρ.t 3)] (ρ.t 9) #[.pointer q,.int .i64 n]).run P w.drew= .ok (.string s) w2):
  Calls P (ρ.f 169) #[.pointer (some ⟨b,0,none⟩)] w fun e w'=>e= .returned (.string s)∧w'=w2:=by
 have mixed:=L.mixed
 have t72:=L.t72;have a72:=L.a72;have z72:=L.z72;have v72:=L.v72;have u72:=run_underlying L.t72
 have t70:=L.t70;have a70:=L.a70;have z70:=L.z70;have v70:=L.v70;have u70:=run_underlying L.t70
 have t37:=L.t37;have a37:=L.a37;have z37:=L.z37;have v37:=L.v37;have u37:=run_underlying L.t37
 have t127:=L.t127;have a127:=L.a127;have z127:=L.z127;have v127:=L.v127;have u127:=run_underlying L.t127
 have t3:=L.t3;have a3:=L.a3;have z3:=L.z3;have v3:=L.v3;have u3:=run_underlying L.t3
 have t9:=L.t9;have a9:=L.a9;have z9:=L.z9;have v9:=L.v9;have u9:=run_underlying L.t9
 have t5:=X.t5;have a5:=X.a5;have z5:=X.z5;have v5:=X.v5;have u5:=run_underlying X.t5
 go_enter L.f169,Body.n169_ntmps ρ
 go_wp2
 go_region_o
 all_goals (go_wp2;go_ret;exact⟨rfl,rfl⟩)
set_option maxHeartbeats 2000000 in
set_option maxRecDepth 100000 in
theorem aE6 {P:Program}{ρ:Go.Shelf.Ren}(L:Lays.n169 P ρ) (X:Builder.Extra P ρ) (b g:Nat) (cur:Array Value) (w:World) (hlt:b<w.heap.size)
  (c1:w.drew.cell? ⟨b,1,none⟩=some (.slice (some ⟨g,0,none⟩) 0 0)) (hg:w.drew.heap[g]? =some (.cells cur (ρ.t 5) (0,0))):
  Calls P (ρ.f 169) #[.pointer (some ⟨b,0,none⟩)] w fun e w'=>e= .returned (.string ⟨#[]⟩)∧w'=w.drew.alloc (.view ⟨g,0,none⟩ (ρ.t 5)):=by
 have hUS:=Any.unsafeString_none L X
 have hSD:(Builtin.unsafeSliceData_ #[(ρ.t 37)] (ρ.t 127) #[.slice (some ⟨g,0,none⟩) 0 0]).run P w.drew= .ok (.pointer (some ⟨w.drew.heap.size,0,none⟩)) (w.drew.alloc (.view ⟨g,0,none⟩ (ρ.t 5))):=
  Lib.run_unsafeSliceData_zero w.drew _ _ (ρ.t 5) L.t127 ⟨g,0,none⟩ 0 ((ρ.t 5),cur.size) (by simp [World.shape?,hg])
 have c2:(w.drew.alloc (.view ⟨g,0,none⟩ (ρ.t 5))).cell? ⟨b,1,none⟩=some (.slice (some ⟨g,0,none⟩) 0 0):=
  (World.cell?_of_block (a:=⟨b,1,none⟩) (Lib.alloc_old w.drew _ b hlt)).trans c1
 have c3:(w.alloc (.view ⟨g,0,none⟩ (ρ.t 5))).drew.cell? ⟨b,1,none⟩=some (.slice (some ⟨g,0,none⟩) 0 0):=c2
 have c0:w.cell? ⟨b,1,none⟩=some (.slice (some ⟨g,0,none⟩) 0 0):=c1
 have mixed:=L.mixed
 have t72:=L.t72;have a72:=L.a72;have z72:=L.z72;have v72:=L.v72;have u72:=run_underlying L.t72
 have t70:=L.t70;have a70:=L.a70;have z70:=L.z70;have v70:=L.v70;have u70:=run_underlying L.t70
 have t37:=L.t37;have a37:=L.a37;have z37:=L.z37;have v37:=L.v37;have u37:=run_underlying L.t37
 have t127:=L.t127;have a127:=L.a127;have z127:=L.z127;have v127:=L.v127;have u127:=run_underlying L.t127
 have t3:=L.t3;have a3:=L.a3;have z3:=L.z3;have v3:=L.v3;have u3:=run_underlying L.t3
 have t9:=L.t9;have a9:=L.a9;have z9:=L.z9;have v9:=L.v9;have u9:=run_underlying L.t9
 have t5:=X.t5;have a5:=X.a5;have z5:=X.z5;have v5:=X.v5;have u5:=run_underlying X.t5
 go_enter L.f169,Body.n169_ntmps ρ
 go_wp2
 go_region_o
 all_goals (go_wp2;go_ret;exact⟨rfl,rfl⟩)
@[go_sem] def T6:List Slot→List Blk→Option Ret
 |[(.val .ref (some (0,0)),none)],[.cells (.pair .mref (.pair (.list (.int .u8)) .unit)) ((some (0,0)),O) [(1,1)],.grow 5 1 Z]=>some ⟨[Z=List.length O.1],[(.val .str (rB O.1),none)],[.cells (.pair .mref (.pair (.list (.int .u8)) .unit)) ((some (0,0)),O) [],.dead]⟩
 |_,_=>none
theorem T7 {g:Gh}{w w':World}{m:Option (Nat×Nat)}{b:(Ty.pair (.list (.int .u8)) .unit).den}{e n:Nat}{s:List UInt8}{sd:List Prop}(hH:HeapOk g w (enumH 0 [Blk.cells (.pair .mref (.pair (.list (.int .u8)) .unit)) (m,b) [(1,1)],.grow e 1 n]))
  (hos:w'.os=w.os) (htape:w'.tape=w.tape) (hout:w'.output=w.output) (hsz:w.heap.size≤w'.heap.size)
  (hcell: ∀b o,b<w.heap.size→w'.cell? ⟨b,o,none⟩=w.cell? ⟨b,o,none⟩) (hshape: ∀b s,w.shape? b=some s→w'.shape? b=some s)
  (hblk: ∀b,b<w.heap.size→(∀o,¬owns g 1 (.grow e 1 n) b o)→w'.heap[b]? =w.heap[b]?):
  RetOk g w [Blk.cells (.pair .mref (.pair (.list (.int .u8)) .unit)) (m,b) [(1,1)],.grow e 1 n] ⟨sd,[(.val .str s,none)],[.cells (.pair .mref (.pair (.list (.int .u8)) .unit)) (m,b) [],.dead]⟩ g w' (.string ⟨s.toArray⟩):=by
 have hg0:getH (enumH 0 [Blk.cells (.pair .mref (.pair (.list (.int .u8)) .unit)) (m,b) [(1,1)],.grow e 1 n]) 0=some (.cells (.pair .mref (.pair (.list (.int .u8)) .unit)) (m,b) [(1,1)]):=rfl
 have hg1:getH (enumH 0 [Blk.cells (.pair .mref (.pair (.list (.int .u8)) .unit)) (m,b) [(1,1)],.grow e 1 n]) 1=some (.grow e 1 n):=rfl
 have hle:Le g w g w':=⟨fun _ _ h=>h,fun b o h=>hcell b o (hH.sl b o h),fun _ _ h=>h,fun _ _ _ h=>h⟩
 have hno: ∀c o,owns g 0 (.cells (.pair .mref (.pair (.list (.int .u8)) .unit)) (m,b) [(1,1)]) c o→∀o',¬owns g 1 (.grow e 1 n) c o':=fun c o h o' h'=>by
  obtain⟨v,hv,hb⟩:=h'
  exact hH.dis 0 1 _ _ c o (by decide) hg0 hg1 h ⟨v,hv,hb⟩
 obtain⟨p,cs,hJ,hR,hra,hth,hns,htk⟩:=hH.blk 0 _ hg0
 have hown0: ∀j,j<2→owns g 0 (.cells (.pair .mref (.pair (.list (.int .u8)) .unit)) (m,b) [(1,1)]) p.1 (p.2+j):=fun j hj=>⟨p,hJ,rfl,Nat.le_add_right _ _,Nat.add_lt_add_left hj _⟩
 have hpl:p.1<w.heap.size:=R6 (hH.blk 0 _ hg0) (hown0 0 (by decide))
 have hpb:w'.heap[p.1]? =w.heap[p.1]? :=hblk p.1 hpl (hno p.1 _ (hown0 0 (by decide)))
 have hbk0:BlkOk g w' 0 (.cells (.pair .mref (.pair (.list (.int .u8)) .unit)) (m,b) []):=
  ⟨p,cs,hJ,uC hle hR,fun j v hj=>(hcell _ _ hpl).trans (hra j v hj),⟨fun j hj=>by
   have h1:=hth.1 j hj
   rw[hcell _ _ hpl]
   exact⟨h1.1,(World.frozen?_of_block (a:=⟨p.1,p.2+j,none⟩) hpb).trans h1.2⟩,fun h s hs=>hshape _ _ (hth.2 h s hs)⟩,hns,fun _ _ h=>by cases h⟩
 refine⟨fun b o h=>⟨h,hcell b o (hH.sl b o h)⟩,?_,(show RdS g w' (.val .str s,none) (.string ⟨s.toArray⟩) from⟨FI _ _ _,trivial⟩),⟨hos,htape,hout,hsz,?_,?_,fun _ _ h=> .inl h,fun b s h=> .inl (hshape b s h)⟩,?_,fun _ _ _ _ _=>rfl,?_,fun _ _ _ h=>h,fun _ _ _ _ h=>h⟩
 ·refine⟨fun i blk h=> ?_,fun i j bi bj c o hij hi hj hoi hoj=> ?_,fun b o h=>Nat.lt_of_lt_of_le (hH.sl b o h) hsz,N3 hH.tab.1 hsz (fun c hc=>hblk c (Nat.lt_of_lt_of_le hc hH.tab.1.1) fun o ho=>absurd (hH.tab.2 1 _ c o hg1 ho) (by omega)),fun i blk c o h ho=> ?_⟩
  ·match i,h with
   |0,h=>cases h;exact hbk0
   |1,h=>cases h;trivial
   |i+2,h=>simp [enumH,getH] at h
  ·match i,j,hi,hj with
   |0,0,_,_=>exact hij rfl
   |0,1,_,hj=>cases hj;exact hoj
   |1,_,hi,_=>cases hi;exact hoi
   |0,j+2,_,hj=>simp [enumH,getH] at hj
   |i+2,_,hi,_=>simp [enumH,getH] at hi
  ·match i,h with
   |0,h=>cases h;exact hH.tab.2 0 _ c o hg0 ho
   |1,h=>cases h;exact ho.elim
   |i+2,h=>simp [enumH,getH] at h
 ·intro c hc hn
  exact hblk c hc fun o ho=>hn o ⟨1,_,hg1,ho⟩
 ·intro c o hc hn
  exact⟨hcell c o hc,World.frozen?_of_block (a:=⟨c,o,none⟩) (hblk c hc fun o' ho=>hn ⟨1,_,hg1,by obtain⟨v,hv,hb⟩:=ho;exact⟨v,hv,hb⟩⟩)⟩
 ·intro i blk c o hi ho
  match i,hi with
  |0,hi=>cases hi;exact .inr ⟨0,_,hg0,ho⟩
  |1,hi=>cases hi;exact ho.elim
  |i+2,hi=>simp at hi
 ·intro i t x ts u y us h1 h2
  match i,h1,h2 with
  |0,h1,h2=>cases h1;cases h2;rfl
  |1,h1,_=>cases h1
  |i+2,h1,_=>simp at h1
theorem aE7 (w:World) (a p:Addr) (n:Nat):(w.freeze a n).cell? p=w.cell? p:=by
 unfold World.freeze
 split
 ·rfl
 ·simp only[World.cell?,Array.getElem?_modify]
  by_cases h:a.block=p.block
  ·rw[if_pos h]
   cases w.heap[p.block]? with
   |none=>rfl
   |some o=>cases o<;>rfl
  ·rw[if_neg h]
theorem aE8 (w:World) (a:Addr) (n b:Nat):(w.freeze a n).shape? b=w.shape? b:=by
 unfold World.freeze
 split
 ·rfl
 ·simp only[World.shape?,Array.getElem?_modify]
  by_cases h:a.block=b
  ·rw[if_pos h]
   cases w.heap[b]? with
   |none=>rfl
   |some o=>cases o<;>rfl
  ·rw[if_neg h]
theorem aE9 (w:World) (a:Addr) (n b:Nat) (h:b≠a.block):(w.freeze a n).heap[b]? =w.heap[b]? :=by
 unfold World.freeze
 split
 ·rfl
 ·simp only[Array.getElem?_modify]
  rw[if_neg (Ne.symm h)]
theorem aFa (w:World) (a:Addr) (n:Nat):(w.freeze a n).os=w.os∧(w.freeze a n).tape=w.tape∧(w.freeze a n).output=w.output∧(w.freeze a n).heap.size=w.heap.size:=by
 unfold World.freeze
 split
 ·exact⟨rfl,rfl,rfl,rfl⟩
 ·exact⟨rfl,rfl,rfl,by simp⟩
theorem a60 {g:Gh}{w:World}{b:Nat}: ∀{l:List Int}{o:Nat},vB (Rd g w (.int .u8)) w g.S 1 b o l→∀j x,l[j]? =some x→w.cell? ⟨b,o+j,none⟩=some (.int .u8 x)
 |[],_,_,_,_,h=>by cases h
 |y::l,o,⟨⟨cs,_,hra,_,hR⟩,hl⟩,j,x,h=>by
  match j,h with
  |0,h=>
   cases h
   have hR:cs=[.int .u8 y]:=hR
   subst hR
   exact hra 0 _ rfl
  |j+1,h=>
   have:=a60 hl j x (by simpa using h)
   rw[show o+(j+1)=o+1+j by omega]
   exact this
theorem aFb {u:Ty}{m:Option (Nat×Nat)}{bv:(Ty.pair (.list (.int .u8)) .unit).den}{l:List u.den}(hget:pJ (.list u) (.pair .mref (.pair (.list (.int .u8)) .unit)) (m,bv) 1=some l):l.length=bv.1.length:=by
 have h2:pJ (.list u) (.list (.int .u8)) bv.1 0=some l:=hget
 simp only[pJ] at h2
 split at h2
 ·rename_i h
  injection h with h
  subst h
  cases h2
  rfl
 ·cases h2
set_option maxRecDepth 100000 in
theorem aFc:vW Tryz.prog 37 T6:=by
 refine⟨fun _ _=>rfl,fun g w args vals L r hH ha hC hs=> ?_⟩
 unfold T6 at hC
 split at hC
 ·rename_i bv n
  cases hC
  obtain rfl:n=List.length bv.1:=hs _ (by simp)
  obtain⟨va,_,rfl,ra,hv⟩:=ha
  cases hv
  have hg0:getH (enumH 0 [Blk.cells (.pair .mref (.pair (.list (.int .u8)) .unit)) ((some (0,0)),bv) [(1,1)],.grow 5 1 (List.length bv.1)]) 0=some (.cells (.pair .mref (.pair (.list (.int .u8)) .unit)) ((some (0,0)),bv) [(1,1)]):=rfl
  have hg1:getH (enumH 0 [Blk.cells (.pair .mref (.pair (.list (.int .u8)) .unit)) ((some (0,0)),bv) [(1,1)],.grow 5 1 (List.length bv.1)]) 1=some (.grow 5 1 (List.length bv.1)):=rfl
  obtain⟨p,cs,hJ,hR,hra,hth,hns,htk⟩:=hH.blk 0 _ hg0
  obtain⟨v',xs,hv',hown,hmax,hsl⟩:=hH.blk 1 _ hg1
  obtain⟨c1,c2,rfl,hR1,hR2⟩:=hR
  obtain⟨d1,d2,rfl,⟨a,cap,rfl,hcap,hl⟩,hd2⟩:=hR2
  obtain⟨p',hJ',⟨hp0,_,_,_⟩,hc1⟩:=hR1
  rw[hJ] at hJ'
  obtain rfl:=Option.some.inj hJ'
  obtain⟨b,o,k⟩:=p
  have ho:o=0:=by simpa using hp0
  subst ho
  have hlen1:c1.length=1:=by rcases hc1 with rfl|rfl<;>rfl
  obtain⟨q,hq,hva⟩:=xC ra.1
  rw[hJ] at hq
  cases hq
  subst hva
  have hcell1:w.cell? ⟨b,1,none⟩=some (.slice a bv.1.length cap):=hra 1 _ (by rw[List.getElem?_append_right (by omega),hlen1];rfl)
  obtain⟨u,l,v,hget,hcv,hcur⟩:=htk 1 1 (by simp)
  have hvv:v= .slice a bv.1.length cap:=by
   rw[List.getElem?_append_right (by omega),hlen1] at hcv
   exact(Option.some.inj hcv).symm
  have hll:l.length=bv.1.length:=aFb hget
  rw[hll,hv',hvv] at hcur
  obtain rfl:=Option.some.inj hcur
  have hbl:b<w.heap.size:=a4Q hcell1
  have hdr: ∀(s:List UInt8) (sd:List Prop),RetOk g w _ ⟨sd,[(.val .str s,none)],[.cells (.pair .mref (.pair (.list (.int .u8)) .unit)) ((some (0,0)),bv) [],.dead]⟩ g w.drew (.string ⟨s.toArray⟩):=fun s sd=>
   T7 hH rfl rfl rfl (Nat.le_refl _) (fun _ _ _=>rfl) (fun _ _ h=>h) (fun _ _ _=>rfl)
  obtain⟨hx,⟨hnil,h0⟩ |⟨gb,cap',cur,hsl',hb0,hbk,hnc,hcm,hcs,htake⟩⟩:=hown
  ·have hb0:bv.1=[]:=List.length_eq_zero_iff.1 h0
   have hz:rB bv.1=[]:=by rw[hb0];rfl
   have hl0:List.length bv.1=0:=h0
   injection hnil with e1 e2 e3
   subst e1
   subst e3
   refine(T5 Tryz.lays169 Tryz.builderExtra b bv.1.length 0 none none .empty w w.drew hcell1 rfl (by rw[hl0];exact Any.unsafeString_none Tryz.lays169 Tryz.builderExtra w.drew none)).mono ?_
   rintro e w' ⟨rfl,rfl⟩
   exact⟨_,g,rfl,by rw[hz];exact hdr [] _⟩
  ·injection hsl' with e1 e2 e3
   subst e1
   subst e3
   have hsz:bv.1.length≤cur.size:=by omega
   by_cases hb0:bv.1=[]
   ·have hz:rB bv.1=[]:=by rw[hb0];rfl
    have hl0:List.length bv.1=0:=by rw[hb0];rfl
    by_cases hc0:cap=0
    ·subst hc0
     rw[hl0] at hcell1
     refine(aE6 Tryz.lays169 Tryz.builderExtra b gb cur w hbl hcell1 hbk).mono ?_
     rintro e w' ⟨rfl,rfl⟩
     have hold: ∀c,c<w.heap.size→(w.drew.alloc (.view ⟨gb,0,none⟩ 5)).heap[c]? =w.heap[c]? :=fun c hc=>Lib.alloc_old w.drew _ c hc
     refine⟨_,g,rfl,?_⟩
     rw[hz]
     exact T7 hH rfl rfl rfl (by simp) (fun c o hc=>World.cell?_of_block (a:=⟨c,o,none⟩) (hold c hc)) (fun c s h=>(AC (hold c (AB h))).trans h) (fun c hc _=>hold c hc)
    ·refine(T5 Tryz.lays169 Tryz.builderExtra b bv.1.length cap (some ⟨gb,0,none⟩) (some ⟨gb,0,none⟩) .empty w w.drew hcell1 (Lib.run_unsafeSliceData_row _ _ _ _ _ _ hc0) (by rw[hl0];exact Any.unsafeString_none Tryz.lays169 Tryz.builderExtra w.drew _)).mono ?_
     rintro e w' ⟨rfl,rfl⟩
     exact⟨_,g,rfl,by rw[hz];exact hdr [] _⟩
   ·have hcap0:cap≠0:=fun h=>hb0 (List.length_eq_zero_iff.1 (by omega))
    have hcb: ∀j x,bv.1[j]? =some x→w.cell? ⟨gb,j,none⟩=some (.int .u8 x):=by
     rcases hl with hl|⟨b',o',ha',hl⟩
     ·exact absurd hl hb0
     ·cases ha'
      intro j x hj
      have:=a60 hl j x hj
      rwa [Nat.zero_add] at this
    have hbk':w.drew.heap[gb]? =some (.cells cur 5 (0,0)):=hbk
    have hshp:w.drew.shape? gb=some (5,cur.size):=by simp only[World.shape?,hbk']
    refine(T5 Tryz.lays169 Tryz.builderExtra b bv.1.length cap (some ⟨gb,0,none⟩) (some ⟨gb,0,none⟩) ⟨(rB bv.1).toArray⟩ w (w.drew.freeze ⟨gb,0,none⟩ bv.1.length) hcell1 (Lib.run_unsafeSliceData_row _ _ _ _ _ _ hcap0)
     (aE5 w.drew _ _ _ 5 (Tryz.lays169).t127 (Tryz.builderExtra).cellsByte gb cur.size hshp bv.1 hb0 hsz (by unfold maxLen at hcm;omega) (fun j x h=>by rw[Addr.add_mid,Nat.zero_add];exact hcb j x h))).mono ?_
    rintro e w' ⟨rfl,rfl⟩
    refine⟨_,g,rfl,?_⟩
    have hblk: ∀c,(∀o,¬owns g 1 (.grow 5 1 (List.length bv.1)) c o)→(w.drew.freeze ⟨gb,0,none⟩ bv.1.length).heap[c]? =w.heap[c]? :=fun c hc=>aE9 w.drew _ _ c fun e=>hc 0 ⟨_,hv',by rw[e];rfl⟩
    have hr:=aFa w.drew ⟨gb,0,none⟩ bv.1.length
    refine T7 hH hr.1 hr.2.1 hr.2.2.1 (Nat.le_of_eq hr.2.2.2.symm) (fun c o _=>aE7 w.drew _ _ _) (fun c s h=>(aE8 w.drew _ _ c).trans h) (fun c _ hc=>hblk c hc)
 ·cases hC
end Go.Proofs.YtfchbnahjcdiiaaGreatDoor
namespace Go.Proofs.YtfchbnahjcdiiaaGreatDoor
open Vc Go.RowKit
theorem a61:qT Tryz.prog 144 ⟨(.pair .str (.pair .str .unit)),0,0,false,[]⟩:=⟨by kernel_rfl,(show ((_∧∃_,_∧_)∨_)∧_ from⟨.inl ⟨rfl,_,Tryz.underlying144,(show _∧_∧_∧_ from⟨rfl,by kernel_rfl,by kernel_rfl,(show _∧_∧_∧_ from⟨rfl,by kernel_rfl,by kernel_rfl,trivial⟩)⟩)⟩,(fun h=>absurd h (by decide))⟩)⟩
theorem O4 {P:Program}(w:World) (dT sT ty elem:TypeId) (sz g o dLen dCap:Nat) (a:Addr) (sLen sCap:Nat) (cur:Array Value) (t:TypeId) (cs:List Value)
  (hu:P.underlying dT=some (.slice elem)) (hs:(P.info? elem).map (·.size)=some sz)
  (hg:w.heap[g]? =some (.cells cur t (0,0))) (hn:cs.length=Nat.min sLen dLen*sz)
  (hsrc: ∀j v,cs[j]? =some v→w.cell? (a.add j)=some v) (hfit:o+cs.length≤cur.size) (h1: ∀v∈cs,v.oneCell'=true):
  (Builtin.copy_ #[dT,sT] ty #[.slice (some ⟨g,o,none⟩) dLen dCap,.slice (some a) sLen sCap]).run P w=
   .ok (goInt (Nat.min sLen dLen:Nat)) (w.setRow g (cur.toList.take o++cs++cur.toList.drop (o+cs.length)).toArray):=by
 have hl:=run_loadCells_list (P:=P) w a cs hsrc
 have hst:=run_storeCells_at P g o t cs 0 cur w hg (by simpa using hfit) h1
 cases hq:P.info? elem with
 |none=>simp [hq] at hs
 |some i=>
  have hi:i.size=sz:=by simpa[hq] using hs
  simp [Builtin.copy_,run_underlying hu,Builtin.lenOf,Builtin.firstCells,sizeOf,typeInfo,hq,hi,←hn,hl,hst]
theorem aFd {P:Program}(w:World) (tS tR e:TypeId) (ht:P.underlying tS=some (.slice e)) (size:Nat) (hz: ∀w,(Go.sizeOf e).run P w= .ok size w)
  (a b:Addr) (la ca lb cb:Nat) (hne:a.block≠b.block) (tA tB:TypeId) (kA kB:Nat)
  (hsa:w.shape? a.block=some (tA,kA)) (hkA:kA≠0) (hsb:w.shape? b.block=some (tB,kB)) (hfb: ∀o,w.frozen? ⟨b.block,o,none⟩=false) (hsp:b.spot=none):
  (Extern.SlicesOverlaps.overlaps #[tS,tS] #[tR] #[.slice (some a) la ca,.slice (some b) lb cb]).run P w= .ok (.bool false) w:=by
 have hnb:(a.block != b.block)=true:=by simpa using hne
 have hnb':(a.block==b.block)=false:=by simpa using hne
 have hfb1:w.frozen? b=false:=by
  obtain⟨bb,bo,bs⟩:=b
  cases hsp
  exact hfb bo
 have hfb2:=hfb kB
 change Sem.run P (α:=Value) (do
  let some t:=(#[tS,tS]:Array TypeId)[0]? |stuck "slices.overlaps: no parameter types"
  let .slice elem←underlying t|stuck "slices.overlaps: slice type expected"
  let size←sizeOf elem
  match (some a:Option Addr),(some b:Option Addr) with
  |some a,some b=>
   if la=0∨lb=0∨size=0 then pure (Value.bool false)
   else if a.block != b.block&&(←frozen a)&&(←frozen b) then unsupported .addressObserved
   else do
    if a.block != b.block then do
     noView a;noView b
     if←mayBeOne a b then return Value.bool ((←choose (.extern "sameAddr.stringBytes" 2))==1)
    pure (Value.bool (a.block==b.block&&a.off<b.off+lb*size&&b.off<a.off+la*size))
  |_,_=>pure (Value.bool false)) w=_
 by_cases h0:la=0∨lb=0∨size=0
 ·simp [run_underlying ht,hz,h0]
 ·cases kA with
  |zero=>exact absurd rfl hkA
  |succ kA=>
   cases hfa:w.frozen? a<;>cases hfe:w.frozen? {block:=a.block,off:=kA+1}<;>
   simp [run_underlying ht,hz,h0,hnb,hnb',frozen,noView,viewAt,mayBeOne,stringish,shape,Sem.run,hsa,hsb,hfb1,hfb2,hfa,hfe]
theorem aFe {α:Type}{l:List α}{i n:Nat}(hin:i≤n):(l.drop (i*2)).take ((n-i)*2)=(l.take (n*2)).drop (i*2):=by
 rw[List.drop_take,show n*2-i*2=(n-i)*2 by omega]
theorem a62 {α:Type}{l:List α}{i n:Nat}{v:α}(h:v∈(l.drop (i*2)).take ((n-i)*2)):v∈l.take (n*2):=by
 rw[show (n-i)*2=n*2-i*2 by omega,←List.drop_take] at h
 exact List.mem_of_mem_drop h
theorem aFf {cur c1 c2:Array Value}{mid vs:List Value}{i n m:Nat}(hc1:c1=(cur.toList.take ((i+m)*2)++mid++cur.toList.drop ((i+m)*2+mid.length)).toArray) (hc2:c2=(c1.toList.take (i*2)++vs++c1.toList.drop (i*2+vs.length)).toArray)
  (hml:mid.length=(n-i)*2) (hvl:vs.length=m*2) (hcur:(n+m)*2≤cur.toList.length) (hin:i≤n):c2.toList.take ((n+m)*2)=cur.toList.take (i*2)++vs++mid:=by
 have e1:c1.toList=cur.toList.take ((i+m)*2)++(mid++cur.toList.drop ((i+m)*2+mid.length)):=by rw[hc1,List.append_assoc]
 have l1:(cur.toList.take ((i+m)*2)).length=(i+m)*2:=by rw[List.length_take];omega
 have e2:c1.toList.take (i*2)=cur.toList.take (i*2):=by
  rw[e1,List.take_append_of_le_length (by omega),List.take_take,Nat.min_eq_left (by omega)]
 have e3:c1.toList.drop (i*2+vs.length)=mid++cur.toList.drop ((i+m)*2+mid.length):=by
  rw[e1,hvl,show i*2+m*2=(cur.toList.take ((i+m)*2)).length by omega,List.drop_left]
 have l2:(cur.toList.take (i*2)).length=i*2:=by rw[List.length_take];omega
 have e4:c2.toList=(cur.toList.take (i*2)++vs++mid)++cur.toList.drop ((i+m)*2+mid.length):=by rw[hc2,e2,e3];simp only[List.append_assoc]
 rw[e4,show (n+m)*2=(cur.toList.take (i*2)++vs++mid).length by simp only[List.length_append];omega,List.take_left]
set_option maxHeartbeats 4000000 in
set_option maxRecDepth 100000 in
theorem aFg (b n c i vb voff m vc:Nat) (cur:Array Value) (vs:List Value) (w:World) (hi:i<n) (hm:0<m) (hroom:n+m≤c) (hc63:c≤maxLen) (hvb:vb≠b)
  (hg:w.heap[b]? =some (.cells cur 144 (0,0))) (hcs:cur.size=c*2) (hvl:vs.length=m*2)
  (hvs: ∀j v,vs[j]? =some v→w.cell? ⟨vb,voff+j,none⟩=some v) (h1: ∀v∈cur.toList.take (n*2),v.oneCell'=true) (h1v: ∀v∈vs,v.oneCell'=true):
  Calls Tryz.prog 174 #[.slice (some ⟨b,0,none⟩) n c,.int .i64 i,.slice (some ⟨vb,voff,none⟩) m vc] w fun e w'=>
   e= .returned (.slice (some ⟨b,0,none⟩) (n+m) c)∧∃cur':Array Value,w'=w.drew.setRow b cur'∧cur'.size=cur.size∧cur'.toList.take ((n+m)*2)=cur.toList.take (i*2)++vs++(cur.toList.drop (i*2)).take ((n-i)*2):=by
 have u24:=run_underlying Tryz.underlying24
 have hz1: ¬((m:Int)=0):=by omega
 have hz2: ¬((i:Int)=(n:Int)):=by omega
 have hw1:IntKind.i64.wrap ((i:Int)+(m:Int))=(i:Int)+(m:Int):=by rw[IntKind.wrap_i64];unfold maxLen at hc63;omega
 have hw2:IntKind.i64.wrap ((n:Int)+(m:Int))=(n:Int)+(m:Int):=by rw[IntKind.wrap_i64];unfold maxLen at hc63;omega
 have hb1:(0:Int)≤(i:Int)+(m:Int):=by omega
 have hin:i≤n:=by omega
 have htn:((i:Int)+(m:Int)).toNat=i+m:=by omega
 have hb2: ¬(c=i+m):=by omega
 have hb3:(i:Int)≤(n:Int)+(m:Int):=by omega
 have hb4: ¬(c=i):=by omega
 have z144: ∀w,(Go.sizeOf 144).run Tryz.prog w= .ok 2 w:=fun w=>by
  simp only[sizeOf,typeInfo,Sem.run_bind,run_program,Result.andThen_ok]
  rfl
 have hsz:(Tryz.prog.info? 144).map (·.size)=some 2:=by kernel_rfl
 have hvs0:w.cell? ⟨vb,voff,none⟩=some (vs[0]'(by omega)):=hvs 0 _ (List.getElem?_eq_getElem (by omega))
 obtain⟨⟨tA,kA⟩,hsa,hkA⟩: ∃q:TypeId×Nat,w.shape? vb=some q∧q.2≠0:=by
  have h0:=hvs0
  simp only[World.cell?] at h0
  simp only[World.shape?]
  cases hh:w.heap[vb]? with
  |none=>rw[hh] at h0;simp at h0
  |some o=>
   rw[hh] at h0
   cases o with
   |cells cs e fr=>
    refine⟨(e,cs.size),rfl,fun hz=> ?_⟩
    have hz:cs.size=0:=hz
    have:cs= #[]:=Array.eq_empty_of_size_eq_zero hz
    subst this
    simp at h0
   |_=>simp at h0
 have hov: ∀lb cb,(callFunc 202 #[.slice (some ⟨vb,voff,none⟩) m vc,.slice (some ⟨b,(i+m)*2,none⟩) lb cb]).run Tryz.prog w= .ok (.value (.bool false)) w:=fun lb cb=>by
  rw[run_callFunc_extern Tryz.func202 (by kernel_rfl) (by kernel_rfl) (by kernel_rfl) (e:=Extern.SlicesOverlaps.overlaps #[24,24] #[4]) (by kernel_rfl),
   aFd w 24 4 144 Tryz.underlying24 2 z144 ⟨vb,voff,none⟩ ⟨b,(i+m)*2,none⟩ m vc lb cb hvb tA 144 kA cur.size hsa hkA (by simp [World.shape?,hg]) (fun o=>Lib.frozen_of_heap hg _) rfl]
  rfl
 have mixed:Tryz.prog.follows .mixedOrders=true:=by kernel_rfl
 obtain⟨mid,hmid⟩: ∃mid,mid=(cur.toList.drop (i*2)).take ((n-i)*2):=⟨_,rfl⟩
 have hml:mid.length=(n-i)*2:=by rw[hmid,List.length_take,List.length_drop,Array.length_toList];omega
 have hmin1:Nat.min (n+m-i) (n+m- (i+m))=n-i:=by simp only[Nat.min_def];split<;>omega
 have hmin2:Nat.min m (n+m-i)=m:=by simp only[Nat.min_def];split<;>omega
 obtain⟨c1,hc1⟩: ∃c1:Array Value,c1=(cur.toList.take ((i+m)*2)++mid++cur.toList.drop ((i+m)*2+mid.length)).toArray:=⟨_,rfl⟩
 have hc1l:c1.size=cur.size:=by rw[hc1];simp only[List.size_toArray,List.length_append,List.length_take,List.length_drop,Array.length_toList,hml];omega
 obtain⟨c2,hc2⟩: ∃c2:Array Value,c2=(c1.toList.take (i*2)++vs++c1.toList.drop (i*2+vs.length)).toArray:=⟨_,rfl⟩
 have hc2l:c2.size=cur.size:=by rw[hc2];simp only[List.size_toArray,List.length_append,List.length_take,List.length_drop,Array.length_toList,hc1l,hvl];omega
 have hcp1: ∀ty dc sc,(Builtin.copy_ #[24,24] ty #[.slice (some ⟨b,(i+m)*2,none⟩) (n+m- (i+m)) dc,.slice (some ⟨b,i*2,none⟩) (n+m-i) sc]).run Tryz.prog w.drew= .ok (goInt (n-i:Nat)) (w.drew.setRow b c1):=fun ty dc sc=>by
  have h:=O4 (P:=Tryz.prog) w.drew 24 24 ty 144 2 b ((i+m)*2) (n+m- (i+m)) dc ⟨b,i*2,none⟩ (n+m-i) sc cur 144 mid Tryz.underlying24 hsz hg (by rw[hml,hmin1]) (fun j v hj=>by
    rw[Addr.add_lit]
    rw[hmid,List.getElem?_take] at hj
    split at hj
    ·rw[List.getElem?_drop,Array.getElem?_toList] at hj
     show (w.cell? ⟨b,i*2+j,none⟩)=_
     rw[Lib.cell_of_heap hg]
     exact hj
    ·cases hj) (by rw[hml];omega) (fun v hv=>h1 v (a62 (hmid▸hv)))
  rw[h,hmin1,hc1]
 have hg1:(w.drew.setRow b c1).heap[b]? =some (.cells c1 144 (0,0)):=setRow_heap w.drew b cur c1 _ _ hg
 have hcp2: ∀ty dc,(Builtin.copy_ #[24,24] ty #[.slice (some ⟨b,i*2,none⟩) (n+m-i) dc,.slice (some ⟨vb,voff,none⟩) m vc]).run Tryz.prog (w.drew.setRow b c1)= .ok (goInt (m:Nat)) ((w.drew.setRow b c1).setRow b c2):=fun ty dc=>by
  have h:=O4 (P:=Tryz.prog) (w.drew.setRow b c1) 24 24 ty 144 2 b (i*2) (n+m-i) dc ⟨vb,voff,none⟩ m vc c1 144 vs Tryz.underlying24 hsz hg1 (by rw[hvl,hmin2]) (fun j v hj=>by
    rw[Addr.add_lit,World.cell?_of_block (w:=w) (a:=⟨vb,voff+j,none⟩) (setRow_other w.drew b vb c1 hvb)]
    exact hvs j v hj) (by rw[hvl,hc1l];omega) h1v
  rw[h,hmin2,hc2]
 have Hmid:=Lib.hid hmid
 have Hc1:=Lib.hid hc1
 have Hc2:=Lib.hid hc2
 have Hs1:=Lib.hid hc1l
 have Hs2:=Lib.hid hc2l
 have Hml:=Lib.hid hml
 clear hmid hc1 hc2 hc1l hc2l hml hmin1 hmin2
 go_enter Tryz.func174,Tryz.ntmps174
 go_wp2_with (simp only[hov])
 go_region_law_o (refine step_copy_runI rfl _ _ 24 24 rfl _ _ (by simp [Act.eval,Act.put]) (by simp [Act.eval,Act.put]) (hcp1 _ _ _) ?_)
 go_wp2_with (at_builtin;refine wpList_copy_runI _ rfl _ _ 24 24 rfl _ _ rfl rfl (hcp2 _ _) ?_)
 go_ret
 refine⟨rfl,c2,?_,Hs2.out,?_⟩
 ·rw[setRow_setRow]
 ·rw[←Hmid.out]
  exact aFf Hc1.out Hc2.out Hml.out hvl (by rw[Array.length_toList];omega) hin
set_option maxHeartbeats 4000000 in
set_option maxRecDepth 100000 in
theorem aFh (base:Option Addr) (n c i:Nat) (v0:Option Addr) (vc:Nat) (w:World) (hi:i≤n) (hnc:n≤c) (hc63:c≤maxLen):
  Calls Tryz.prog 174 #[.slice base n c,.int .i64 i,.slice v0 0 vc] w fun e w'=>e= .returned (.slice base n c)∧w'=w:=by
 have u24:=run_underlying Tryz.underlying24
 go_enter Tryz.func174,Tryz.ntmps174
 go_wp2_with fail
 all_goals (go_ret;exact⟨rfl,rfl⟩)
set_option maxHeartbeats 4000000 in
set_option maxRecDepth 100000 in
theorem aFi (v:Value) (n vb voff m vc:Nat) (xs vs:List Value) (w:World) (hm:0<m) (hown:w.ownsRow 0 144 2 v n xs) (h63:n+m≤maxLen) (hby:(n+m)*32≤140737488355328)
  (hvl:vs.length=m*2) (hvs: ∀j v,vs[j]? =some v→w.cell? ⟨vb,voff+j,none⟩=some v) (h1v: ∀v∈vs,v.oneCell'=true):
  Calls Tryz.prog 174 #[v,.int .i64 n,.slice (some ⟨vb,voff,none⟩) m vc] w fun e w'=>
   ∃q cap,e= .returned (.slice (some ⟨q,0,none⟩) (n+m) cap)∧w'.ownsRow 0 144 2 (.slice (some ⟨q,0,none⟩) (n+m) cap) (n+m) (xs++vs)∧
   (q=w.heap.size∨v.ownBlock=some q)∧w.grownBy w' v.ownBlock:=by
 have u24:=run_underlying Tryz.underlying24
 obtain⟨inf,hi,hsz,hz⟩:=C9 a61
 have hby2:inf.bytes=32:=by
  have:(Tryz.prog.info? 144).map (·.bytes)=some 32:=by kernel_rfl
  rw[hi] at this
  exact Option.some.inj this
 have hrun: ∀ty,∃q cap w',(Builtin.append_ #[24,24] ty #[v,.slice (some ⟨vb,voff,none⟩) m vc]).run Tryz.prog w= .ok (.slice (some ⟨q,0,none⟩) (n+m) cap) w'∧_:=
  fun ty=>RM (P:=Tryz.prog) w 24 ty 144 inf _ 2 32 Tryz.underlying24 hi hz hsz hby2 (by rfl) v n xs hown ⟨vb,voff,none⟩ m vc vs hvl (fun j u hj=>by rw[Addr.add_lit];exact hvs j u hj) h1v hm h63 hby
 obtain⟨q,cap,w2,hr,h1,h2,h3,h4,h5⟩:=hrun 24
 have H1:=Lib.hid h1
 have H2:=Lib.hid h2
 have H3:=Lib.hid h3
 have Hown:=Lib.hid hown
 have hz1: ¬((m:Int)=0):=by omega
 have hmx:n+m≤9223372036854775807:=by unfold maxLen at h63;omega
 obtain⟨hxl,hv⟩:=hown
 clear h1 h2 h3 h5 hrun hz hsz hby2 hi hxl
 rcases hv with⟨rfl,rfl⟩ |⟨b,c,cur,rfl,_,hbk,hnc,hcm,hcs,htk⟩
 ·clear Hown
  rw[Nat.zero_add] at hr
  go_enter Tryz.func174,Tryz.ntmps174
  go_wp2_with (at_builtin;refine Lib.wpList_append_run _ rfl _ _ _ _ rfl _ _ rfl rfl _ _ hr ?_)
  all_goals (go_ret;exact⟨q,cap,by rw[Nat.zero_add];rfl,H1.out,H2.out,H3.out⟩)
 ·clear hbk hcs htk
  have hcm:c≤9223372036854775807:=by unfold maxLen at hcm;omega
  go_enter Tryz.func174,Tryz.ntmps174
  go_wp2_with (at_builtin;refine Lib.wpList_append_run _ rfl _ _ _ _ rfl _ _ rfl rfl _ _ hr ?_)
  all_goals (go_ret;exact⟨q,cap,rfl,H1.out,H2.out,H3.out⟩)
set_option maxHeartbeats 4000000 in
set_option maxRecDepth 100000 in
theorem aFj (b n c i vb voff m vc:Nat) (cur:Array Value) (vs:List Value) (w:World) (hi:i<n) (hm:0<m) (hnc:n≤c) (hroom:c<n+m) (hbig:(n+m)*32≤140737488355328)
  (hg:w.heap[b]? =some (.cells cur 144 (0,0))) (hcs:cur.size=c*2) (hvl:vs.length=m*2)
  (hvs: ∀j v,vs[j]? =some v→w.cell? ⟨vb,voff+j,none⟩=some v) (h1: ∀v∈cur.toList.take (n*2),v.oneCell'=true) (h1v: ∀v∈vs,v.oneCell'=true):
  Calls Tryz.prog 174 #[.slice (some ⟨b,0,none⟩) n c,.int .i64 i,.slice (some ⟨vb,voff,none⟩) m vc] w fun e w'=>
   ∃G,e= .returned (.slice (some ⟨w.heap.size,0,none⟩) (n+m) G)∧w'.ownsRow 0 144 2 (.slice (some ⟨w.heap.size,0,none⟩) (n+m) G) (n+m) (cur.toList.take (i*2)++vs++(cur.toList.drop (i*2)).take ((n-i)*2))∧w.grownBy w' none:=by
 have u24:=run_underlying Tryz.underlying24
 have mixed:Tryz.prog.follows .mixedOrders=true:=by kernel_rfl
 obtain⟨inf,hinf,hzs,hz⟩:=C9 a61
 have hzb:inf.bytes=32:=by
  have:(Tryz.prog.info? 144).map (·.bytes)=some 32:=by kernel_rfl
  rw[hinf] at this
  exact Option.some.inj this
 have hsz:(Tryz.prog.info? 144).map (·.size)=some 2:=by kernel_rfl
 have hz1: ¬((m:Int)=0):=by omega
 have hz2: ¬((i:Int)=(n:Int)):=by omega
 have hz3:(c:Int)<(n:Int)+(m:Int):=by omega
 have hbw:b<w.heap.size:=by
  rcases Nat.lt_or_ge b w.heap.size with h|h
  ·exact h
  ·rw[Array.getElem?_eq_none h] at hg;cases hg
 have hvw:vb<w.heap.size:=block_lt_of_cell (hvs 0 _ (List.getElem?_eq_getElem (by omega)))
 have hkk:(n:Int)+(m:Int)- (i:Int)=((n+m-i:Nat):Int):=by omega
 have hik:i+(n+m-i)=n+m:=by omega
 have hold:(Builtin.firstCells inf.size i (.slice (some ⟨b,0,none⟩) i c)).run Tryz.prog w.drew= .ok (cur.toList.take (i*2)).toArray w.drew:=by
  rw[hzs]
  exact run_firstCells_some w.drew 2 i ⟨b,0,none⟩ i c (cur.toList.take (i*2)) (by rw[List.length_take,Array.length_toList];omega) (fun j v hj=>by
   rw[Addr.add_lit,Nat.zero_add]
   rw[List.getElem?_take] at hj
   split at hj
   ·rw[Array.getElem?_toList] at hj
    show w.cell? ⟨b,j,none⟩=_
    rw[Lib.cell_of_heap hg]
    exact hj
   ·cases hj)
 have hrz: ∀ty,(Builtin.append_ #[24,3] ty #[.slice (some ⟨b,0,none⟩) i c,.int .i64 ((n:Int)+(m:Int)- (i:Int))]).run Tryz.prog w=
   .ok (.slice (some ⟨w.heap.size,0,none⟩) (n+m) (grownCap w (n+m) c 144)) (w.drew.alloc (.cells ((cur.toList.take (i*2)).toArray++Builtin.zeroCells (tW (.pair .str (.pair .str .unit))).cells (n+m-i)++Builtin.zeroCells (tW (.pair .str (.pair .str .unit))).cells (grownCap w (n+m) c 144- (n+m))) 144)):=fun ty=>by
  have h:=Lib.run_append_grow_zeros (P:=Tryz.prog) w 24 3 ty 144 inf _ .i64 .i64 Tryz.underlying24 Tryz.underlying3 hinf hz (some ⟨b,0,none⟩) i c (cur.toList.take (i*2)) hold (n+m-i) (by omega) (by rw[hzs];decide) (by omega) (by omega) (by rw[hzb];omega) (by rw[hzb,hik];exact growslice_fits hroom hbig)
  rw[hik] at h
  rw[hkk]
  exact h
 obtain⟨G,hG⟩: ∃G,G=grownCap w (n+m) c 144:=⟨_,rfl⟩
 obtain⟨ROW,hROW⟩: ∃ROW:Array Value,ROW=(cur.toList.take (i*2)).toArray++Builtin.zeroCells (tW (.pair .str (.pair .str .unit))).cells (n+m-i)++Builtin.zeroCells (tW (.pair .str (.pair .str .unit))).cells (G- (n+m)):=⟨_,rfl⟩
 rw[←hG] at hrz
 rw[←hROW] at hrz
 have hGn:n+m≤G:=by rw[hG];exact grownCap_ge w _ _ _
 have hGm:G≤maxLen:=by rw[hG];exact grownCap_le_maxLen w (n+m) c _ (by unfold maxLen;omega)
 have hzc:(tW (.pair .str (.pair .str .unit))).cells.size=2:=rfl
 have hRl:ROW.size=G*2:=by
  rw[hROW]
  simp only[Array.size_append,List.size_toArray,size_zeroCells,hzc,List.length_take,Array.length_toList]
  omega
 have hRt:ROW.toList.take (i*2)=cur.toList.take (i*2):=by
  rw[hROW]
  simp only[Array.toList_append,List.append_assoc]
  rw[List.take_append_of_le_length (by rw[List.length_take,Array.length_toList];omega),List.take_take,Nat.min_self]
 obtain⟨q,hq⟩: ∃q,q=w.heap.size:=⟨_,rfl⟩
 obtain⟨mid,hmid⟩: ∃mid,mid=(cur.toList.drop (i*2)).take ((n-i)*2):=⟨_,rfl⟩
 have hml:mid.length=(n-i)*2:=by rw[hmid,List.length_take,List.length_drop,Array.length_toList];omega
 have hmin1:Nat.min m (n+m-i)=m:=by simp only[Nat.min_def];split<;>omega
 have hmin2:Nat.min (n-i) (n+m- (i+m))=n-i:=by simp only[Nat.min_def];split<;>omega
 obtain⟨c1,hc1⟩: ∃c1:Array Value,c1=(ROW.toList.take (i*2)++vs++ROW.toList.drop (i*2+vs.length)).toArray:=⟨_,rfl⟩
 have hc1l:c1.size=G*2:=by rw[hc1];simp only[List.size_toArray,List.length_append,List.length_take,List.length_drop,Array.length_toList,hRl,hvl];omega
 obtain⟨c2,hc2⟩: ∃c2:Array Value,c2=(c1.toList.take ((i+m)*2)++mid++c1.toList.drop ((i+m)*2+mid.length)).toArray:=⟨_,rfl⟩
 have hc2l:c2.size=G*2:=by rw[hc2];simp only[List.size_toArray,List.length_append,List.length_take,List.length_drop,Array.length_toList,hc1l,hml];omega
 obtain⟨W1,hW1⟩: ∃W1,W1=w.drew.alloc (.cells ROW 144):=⟨_,rfl⟩
 rw[←hW1] at hrz
 have hbq:b≠q:=by omega
 have hvq:vb≠q:=by omega
 have hg1:W1.heap[q]? =some (.cells ROW 144 (0,0)):=by rw[hW1,hq];exact heap_alloc_new w.drew _
 have hO1: ∀k,k<w.heap.size→W1.heap[k]? =w.heap[k]? :=fun k hk=>by rw[hW1];exact Below.heap_alloc w.drew _ k hk
 have hcpA: ∀(W:World),W.heap=W1.heap→∀ty dc,(Builtin.copy_ #[24,24] ty #[.slice (some ⟨q,i*2,none⟩) (n+m-i) dc,.slice (some ⟨vb,voff,none⟩) m vc]).run Tryz.prog W= .ok (goInt (m:Nat)) (W.setRow q c1):=fun W hW ty dc=>by
  have h:=O4 (P:=Tryz.prog) W 24 24 ty 144 2 q (i*2) (n+m-i) dc ⟨vb,voff,none⟩ m vc ROW 144 vs Tryz.underlying24 hsz (by rw[hW];exact hg1) (by rw[hvl,hmin1]) (fun j v hj=>by
    rw[Addr.add_lit,World.cell?_of_block (w:=w) (a:=⟨vb,voff+j,none⟩) (by rw[hW];exact hO1 vb hvw)]
    exact hvs j v hj) (by rw[hvl,hRl];omega) h1v
  rw[h,hmin1,hc1]
 have hcpB: ∀(W:World),W.heap=(W1.setRow q c1).heap→∀ty dc sc,(Builtin.copy_ #[24,24] ty #[.slice (some ⟨q,(i+m)*2,none⟩) (n+m- (i+m)) dc,.slice (some ⟨b,i*2,none⟩) (n-i) sc]).run Tryz.prog W= .ok (goInt (n-i:Nat)) (W.setRow q c2):=fun W hW ty dc sc=>by
  have h:=O4 (P:=Tryz.prog) W 24 24 ty 144 2 q ((i+m)*2) (n+m- (i+m)) dc ⟨b,i*2,none⟩ (n-i) sc c1 144 mid Tryz.underlying24 hsz (by rw[hW];exact setRow_heap W1 q ROW c1 _ _ hg1) (by rw[hml,hmin2]) (fun j v hj=>by
    rw[Addr.add_lit,World.cell?_of_block (w:=w) (a:=⟨b,i*2+j,none⟩) (by rw[hW,setRow_other W1 q b c1 hbq];exact hO1 b hbw),Lib.cell_of_heap hg]
    rw[hmid,List.getElem?_take] at hj
    split at hj
    ·rw[List.getElem?_drop,Array.getElem?_toList] at hj
     exact hj
    ·cases hj) (by rw[hml,hc1l];omega) (fun v hv=>h1 v (a62 (hmid▸hv)))
  rw[h,hmin2,hc2]
 have hGi: ¬(G=i):=by omega
 have hGim: ¬(G=i+m):=by omega
 have hci: ¬(c=i):=by omega
 have hw1:IntKind.i64.wrap ((i:Int)+(m:Int))=(i:Int)+(m:Int):=by rw[IntKind.wrap_i64];omega
 have hw2:IntKind.i64.wrap ((n:Int)+(m:Int))=(n:Int)+(m:Int):=by rw[IntKind.wrap_i64];omega
 have hw3:IntKind.i64.wrap ((n:Int)+(m:Int)- (i:Int))=(n:Int)+(m:Int)- (i:Int):=by rw[IntKind.wrap_i64];omega
 have hb1:(0:Int)≤(i:Int)+(m:Int):=by omega
 have hin:i≤n:=by omega
 have htn:((i:Int)+(m:Int)).toNat=i+m:=by omega
 have hb3:(i:Int)≤(n:Int):=by omega
 have hG63:G≤9223372036854775807:=by unfold maxLen at hGm;omega
 rw[←hq] at hrz⊢
 have hend: ∀W:World,W.heap=((W1.setRow q c1).setRow q c2).heap→W.os=w.os→W.tape=w.tape→W.output=w.output→
   W.ownsRow 0 144 2 (.slice (some ⟨q,0,none⟩) (n+m) G) (n+m) (cur.toList.take (i*2)++vs++mid)∧w.grownBy W none:=fun W hW e1 e2 e3=>by
  have hg2:W.heap[q]? =some (.cells c2 144 (0,0)):=by rw[hW];exact setRow_heap (W1.setRow q c1) q c1 c2 _ _ (setRow_heap W1 q ROW c1 _ _ hg1)
  have hs:w.heap.size≤W.heap.size:=by
   have:=(Array.getElem?_eq_some_iff.1 hg2).1
   omega
  refine⟨⟨?_,.inr ⟨q,G,c2,rfl,Nat.zero_le _,hg2,hGn,hGm,hc2l,?_⟩⟩,⟨e1,e2,e3,hs,fun k hk _=> ?_⟩⟩
  ·simp only[List.length_append,List.length_take,Array.length_toList,hml,hvl];omega
  ·have x1:c1.toList=cur.toList.take (i*2)++vs++ROW.toList.drop (i*2+vs.length):=by rw[hc1,hRt]
   have l1:(cur.toList.take (i*2)++vs).length=(i+m)*2:=by rw[List.length_append,List.length_take,Array.length_toList,hvl];omega
   have x2:c2.toList=cur.toList.take (i*2)++vs++mid++c1.toList.drop ((i+m)*2+mid.length):=by
    rw[hc2]
    show c1.toList.take ((i+m)*2)++mid++_=_
    rw[x1,←l1,List.take_left]
   rw[x2,show (n+m)*2=(cur.toList.take (i*2)++vs++mid).length by rw[List.length_append,l1,hml];omega,List.take_left]
  ·rw[hW,setRow_other _ q k c2 (by omega),setRow_other _ q k c1 (by omega)]
   exact hO1 k hk
 have Hmid:=Lib.hid hmid
 have Hq:=Lib.hid hq
 have Hend:=Lib.hid hend
 have HW1:=Lib.hid hW1
 clear hkk hik hold hROW hG hRl hmid hq hend hW1 hc1 hc2 hc1l hc2l hml hmin1 hmin2 hz hzs hzb hinf hRt hg1 hO1
 go_enter Tryz.func174,Tryz.ntmps174
 go_wp2_with (first
  |(at_builtin;refine Lib.wpList_append_run _ rfl _ _ _ _ rfl _ _ rfl rfl _ _ (hrz _) ?_)
  |(at_builtin;refine wpList_copy_runI _ rfl _ _ 24 24 rfl _ _ rfl rfl (hcpA _ rfl _ _) ?_))
 go_region_law_o (refine step_copy_runI rfl _ _ 24 24 rfl (.slice (some ⟨q,(i+m)*2,none⟩) (n+m- (i+m)) (G- (i+m))) (.slice (some ⟨b,i*2,none⟩) (n-i) (c-i)) (by simp [Act.eval,Act.put]) (by simp [Act.eval,Act.put]) (hcpB (W1.setRow q c1).drew rfl _ (G- (i+m)) (c-i)) ?_)
 go_wp2_with fail
 go_ret
 rw[←Hmid.out]
 exact⟨G,rfl,Hend.out _ rfl (by rw[HW1.out];rfl) (by rw[HW1.out];rfl) (by rw[HW1.out];rfl)⟩
theorem aFk (v:Value) (n i m vc:Nat) (v0:Option Addr) (xs vs:List Value) (w:World) (hin:i≤n) (hown:w.ownsRow 0 144 2 v n xs) (hby:(n+m)*32≤140737488355328)
  (h1: ∀u∈xs,u.oneCell'=true) (hv0:m=0∨∃vb voff,v0=some ⟨vb,voff,none⟩∧v.ownBlock≠some vb∧∀j u,vs[j]? =some u→w.cell? ⟨vb,voff+j,none⟩=some u)
  (hvl:vs.length=m*2) (h1v: ∀v∈vs,v.oneCell'=true):
  Calls Tryz.prog 174 #[v,.int .i64 i,.slice v0 m vc] w fun e w'=>
   ∃v',e= .returned v'∧w'.ownsRow 0 144 2 v' (n+m) (xs.take (i*2)++vs++xs.drop (i*2))∧(m=0→v'=v)∧(∀b,v'.ownBlock=some b→b=w.heap.size∨v.ownBlock=some b)∧w.grownBy w' v.ownBlock:=by
 have h63:n+m≤maxLen:=by unfold maxLen;omega
 rcases Nat.eq_zero_or_pos m with hm|hm
 ·subst hm
  have hvs:vs=[]:=List.length_eq_zero_iff.1 (by omega)
  subst hvs
  have hres:w.ownsRow 0 144 2 v (n+0) (xs.take (i*2)++[]++xs.drop (i*2)):=by
   rw[List.append_nil,List.take_append_drop];exact hown
  obtain⟨base,c,rfl,hnc,hc⟩: ∃base c,v= .slice base n c∧n≤c∧c≤maxLen:=by
   rcases hown.2 with⟨rfl,rfl⟩ |⟨b,c,cur,rfl,_,_,h2,h3,_⟩
   ·exact⟨none,0,rfl,Nat.le_refl _,by unfold maxLen;omega⟩
   ·exact⟨_,c,rfl,h2,h3⟩
  refine(aFh base n c i v0 vc w hin hnc hc).mono ?_
  rintro e w' ⟨rfl,rfl⟩
  exact⟨_,rfl,hres,fun _=>rfl,fun b hb=> .inr hb,World.grownBy.refl _ _⟩
 ·obtain⟨vb,voff,rfl,hvb,hvs⟩: ∃vb voff,v0=some ⟨vb,voff,none⟩∧v.ownBlock≠some vb∧∀j u,vs[j]? =some u→w.cell? ⟨vb,voff+j,none⟩=some u:=by
   rcases hv0 with h|h
   ·omega
   ·exact h
  have hxl:=hown.1
  rcases Nat.lt_or_ge i n with hlt|hge
  ·rcases hown.2 with⟨rfl,rfl⟩ |⟨b,c,cur,rfl,_,hbk,hnc,hcm,hcs,htk⟩
   ·omega
   ·have hb:vb≠b:=fun h=>hvb (by rw[h];rfl)
    have hx1:cur.toList.take (i*2)=xs.take (i*2):=by rw[←htk,List.take_take,Nat.min_eq_left (by omega)]
    have hx2:(cur.toList.drop (i*2)).take ((n-i)*2)=xs.drop (i*2):=by rw[aFe hin,htk]
    rcases Nat.lt_or_ge c (n+m) with hr|hr
    ·refine(aFj b n c i vb voff m vc cur vs w hlt hm hnc hr hby hbk hcs hvl hvs (by rw[htk];exact h1) h1v).mono ?_
     rintro e w' ⟨G,rfl,ho,hg⟩
     rw[hx1,hx2] at ho
     exact⟨_,rfl,ho,fun h=>by omega,fun b hb=> .inl (by simpa[Value.ownBlock] using hb.symm),⟨hg.os,hg.tape,hg.output,hg.size,fun k hk _=>hg.block k hk (by simp)⟩⟩
    ·refine(aFg b n c i vb voff m vc cur vs w hlt hm hr hcm hb hbk hcs hvl hvs (by rw[htk];exact h1) h1v).mono ?_
     rintro e w' ⟨rfl,cur',rfl,hs,ht⟩
     rw[hx1,hx2] at ht
     refine⟨_,rfl,⟨?_,.inr ⟨b,c,cur',rfl,Nat.zero_le _,setRow_heap w.drew b cur cur' _ _ hbk,hr,hcm,by rw[hs,hcs],ht⟩⟩,fun h=>by omega,fun b' hb'=> .inr hb',⟨rfl,rfl,rfl,by simp,fun k hk hne=>setRow_other w.drew b k cur' (fun h=>hne (by rw[h];rfl))⟩⟩
     simp only[List.length_append,List.length_take,List.length_drop,hxl,hvl];omega
  ·obtain rfl:i=n:=by omega
   refine(aFi v i vb voff m vc xs vs w hm hown h63 hby hvl hvs h1v).mono ?_
   rintro e w' ⟨q,cap,rfl,ho,hq,hg⟩
   refine⟨_,rfl,?_,fun h=>by omega,fun b hb=> ?_,hg⟩
   ·rw[←hxl,List.take_length,List.drop_length,List.append_nil];exact ho
   ·have hb:q=b:=by simpa[Value.ownBlock] using hb
    exact hb▸hq
theorem a63 {α:Type}{R:α→List Value→Prop}{c:Nat}: ∀{l:List α}{cs:List Value}(i:Nat),qS R c l cs→qS R c (l.take i) (cs.take (i*c))
 |_,_,0,_=>by simp [qS]
 |[],_,_+1,h=>by rw[show _=[] from h];simp [qS]
 |x::l,_,i+1,⟨c1,c2,e,h1,h2,h3⟩=>by
  refine⟨c1,c2.take (i*c),?_,h1,h2,a63 i h3⟩
  rw[e,Nat.succ_mul,Nat.add_comm,←h1,List.take_length_add_append]
theorem a64 {α:Type}{R:α→List Value→Prop}{c:Nat}: ∀{l:List α}{cs:List Value}(i:Nat),qS R c l cs→qS R c (l.drop i) (cs.drop (i*c))
 |_,_,0,h=>by simpa using h
 |[],_,_+1,h=>by rw[show _=[] from h];simp [qS]
 |x::l,_,i+1,⟨c1,c2,e,h1,h2,h3⟩=>by
  rw[e,show (i+1)*c=c1.length+i*c by rw[h1,Nat.succ_mul,Nat.add_comm],List.drop_length_add_append]
  exact a64 i h3
def y8 {t:Type}(l:List t) (i:Int) (v:List t):List t:=List.take i.toNat l++v++List.drop i.toNat l
@[go_sem] def T8:List Slot→List Blk→Option Ret
 |[(.own 0 O,none),(.val (.int .i64) Z,none),(.val (.list (.pair .str (.pair .str .unit))) aA,none)],[.row 144 (.pair .str (.pair .str .unit)) aB aC]=>
  some ⟨[O=aC,0≤Z∧Z≤List.length aB,(List.length aB+List.length aA)*32≤140737488355328],[(.own 0 (List.length (y8 aB Z aA)),none)],[.row 144 (.pair .str (.pair .str .unit)) (y8 aB Z aA) (List.length (y8 aB Z aA))]⟩
 |_,_=>none
set_option maxRecDepth 100000 in
theorem aFl:vW Tryz.prog 174 T8:=by
 refine⟨fun _ _=>rfl,fun g w args vals L r hH ha hC hs=> ?_⟩
 unfold T8 at hC
 split at hC
 ·rename_i n iI vl l n2
  cases hC
  obtain rfl:n=n2:=hs _ (by simp)
  obtain⟨hi0,hil⟩:=hs (0≤iI∧iI≤List.length l) (by simp)
  have hby:=hs ((List.length l+List.length vl)*32≤140737488355328) (by simp)
  clear hs
  obtain⟨va,_,rfl,ra,vb,_,rfl,rb,vc,_,rfl,rc,hv⟩:=ha
  cases hv
  have hg0:getH (enumH 0 [Blk.row 144 (.pair .str (.pair .str .unit)) l n]) 0=some (.row 144 (.pair .str (.pair .str .unit)) l n):=rfl
  obtain⟨hl,v,xs,hcur,hown,hF,hnone,hseal⟩:=hH.blk 0 _ hg0
  have hva:va=v:=by
   have:=ra.1.1
   rw[hcur] at this
   exact(Option.some.inj this).symm
  subst hva
  obtain⟨i,rfl⟩:=Int.eq_ofNat_of_zero_le hi0
  have hvb:vb= .int .i64 i:=tE rb.1
  subst hvb
  obtain⟨a,cap,rfl,hcap,hlist⟩:=AE rc.1
  have hRone: ∀(x:(Ty.pair .str (.pair .str .unit)).den) cs,Rd g w (.pair .str (.pair .str .unit)) x cs→∀v∈cs,v.oneCell'=true:=fun x cs h=>y3 h
  obtain⟨vs,hFv,hv0⟩: ∃vs,qS (Rd g w (.pair .str (.pair .str .unit))) 2 vl vs∧(vl.length=0∨∃vb voff,a=some ⟨vb,voff,none⟩∧va.ownBlock≠some vb∧∀j u,vs[j]? =some u→w.cell? ⟨vb,voff+j,none⟩=some u):=by
   rcases hlist with rfl|⟨b,o,rfl,hL⟩
   ·exact⟨[],rfl,.inl rfl⟩
   ·obtain⟨cs,h1,h2,h3⟩:=H5 hL
    rcases Nat.eq_zero_or_pos vl.length with h0|h0
    ·exact⟨cs,h1,.inl h0⟩
    ·exact⟨cs,h1,.inr ⟨b,o,rfl,fun hb=>hseal b hb _ (h3 0 (Nat.mul_pos h0 (by decide))),h2⟩⟩
  have hvl:=DK hFv
  have hil2:(i:Int)≤(l.length:Int):=hil
  have hil':i≤n:=by omega
  subst hl
  refine(aFk va l.length i vl.length cap a xs vs w (by omega) hown hby (JS hRone hF) hv0 hvl (JS hRone hFv)).mono ?_
  rintro e w' ⟨v',rfl,hown',hm0,hob,hgr⟩
  have hlen:(y8 l (i:Int) vl).length=l.length+vl.length:=by
   simp only[y8,Int.toNat_natCast,List.length_append,List.length_take,List.length_drop];omega
  have hF':qS (Rd g w (.pair .str (.pair .str .unit))) 2 (y8 l (i:Int) vl) (xs.take (i*2)++vs++xs.drop (i*2)):=by
   unfold y8
   rw[Int.toNat_natCast]
   exact JK (JK (a63 i hF) hFv) (a64 i hF)
  have hsl: ∀b o,g.S b o→w'.cell? ⟨b,o,none⟩=w.cell? ⟨b,o,none⟩:=fun b o h=>World.cell?_of_block (a:=⟨b,o,none⟩) (hgr.block b (hH.sl b o h) (fun e=>hseal b e.symm o h))
  have hE:=EffOk.row (side:=[]) (rds:=[]) (s:=(.own 0 (y8 l (i:Int) vl).length,none)) (val:=v') (k:=0) (g:=g) (w:=w) (H:=enumH 0 [Blk.row 144 (.pair .str (.pair .str .unit)) l l.length]) hH (e:=144) (t:= .pair .str (.pair .str .unit)) (l:=y8 l (i:Int) vl) (n:=(y8 l (i:Int) vl).length) (v:=v') rfl (by rw[hlen];exact hown') hF'
   (fun m hm=>hnone m (by omega)) (fun u hu=>by
    rcases Nat.eq_zero_or_pos vl.length with h0|h0
    ·rw[hlen,h0,Nat.add_zero,hcur] at hu
     rw[hm0 h0]
     exact(Option.some.inj hu).symm
    ·rw[hnone _ (by omega)] at hu;cases hu)
   (.inr ⟨va.ownBlock,hgr,fun b hb o=>⟨0,_,by simp,hg0,va,hcur,hb⟩⟩) hsl
   (fun b hb o hS=>by
    rcases hob b hb with h|h
    ·have:=hH.sl b o hS;omega
    ·exact hseal b h o hS)
   (fun b hb=>(hob b hb).imp (fun h=>by omega) fun h o=>⟨0,_,by simp,hg0,va,hcur,h⟩)
   ⟨⟨by simp [Gh.tok],by
    rw[hlen]
    rcases hown'.2 with⟨rfl,h⟩ |⟨b,cap',_,rfl,_,_,h,_⟩
    ·exact .inl ⟨rfl,h⟩
    ·exact .inr ⟨b,cap',rfl,h⟩⟩,trivial⟩
  refine⟨v',_,rfl,⟨fun b o h=>⟨hE.le.S b o h,hE.le.cell b o h⟩,hE.heap.ext ?_,hE.slot,hE.fr.mono fun b o ⟨i,blk,_,h1,h2⟩=>⟨i,blk,h1,h2⟩,fun i blk b o hi ho=> ?_,fun i t x ts h=> ?_,fun i t x ts u y us h _=> ?_,fun _ _ _ h=>h,fun i m u hi h=> ?_⟩⟩
  ·intro i
   match i with
   |0=>rfl
   |i+1=>rfl
  ·match i,hi with
   |0,hi=>
    cases hi
    exact(hE.perm 0 _ b o (by simp [idsOf]) rfl ho).imp id fun⟨i,blk,_,h1,h2⟩=>⟨i,blk,h1,h2⟩
   |i+1,hi=>simp at hi
  ·match i,h with
   |0,h=>cases h
   |i+1,h=>simp at h
  ·match i,h with
   |0,h=>cases h
   |i+1,h=>simp at h
  ·exact hE.le.cur i m u h
 ·cases hC
end Go.Proofs.YtfchbnahjcdiiaaGreatDoor
namespace Go.Proofs.YtfchbnahjcdiiaaGreatDoor
open Vc
set_option maxRecDepth 100000
set_option maxHeartbeats 4000000
set_option linter.unusedSimpArgs false
set_option linter.unusedVariables false
noncomputable section
@[reducible] def p6:Type:=((List UInt8)×((List UInt8)×Unit))
@[reducible] def pX:Type:=((List UInt8)×((List UInt8)×((List UInt8)×((List (List UInt8))×((List (List UInt8))×(Int×((List p6)×Unit)))))))
@[reducible,go_sem] def qH:Ty:=(.pair .str (.pair .str (.pair .str (.pair (.list .str) (.pair (.list .str) (.pair (.int .i64) (.pair (.list (.pair .str (.pair .str .unit))) .unit)))))))
@[reducible,go_sem] def y9:Ty:=(.pair .str (.pair (.list .str) (.pair (.list (.pair .str (.pair .str .unit))) (.pair (.list qH) .unit))))
@[reducible,go_sem] def vD:Ty:=(.pair .mref (.pair (.list (.int .u8)) .unit))
@[reducible,go_sem] def AF:Ty:=(.pair .str (.pair (.int .i64) .unit))
@[reducible,go_sem] def uT:Ty:=(.pair (.int .i64) (.pair .str (.pair (.int .i64) (.pair (.int .i64) .unit))))
@[reducible,go_sem] def q7:Ty:=(.pair AF (.pair uT (.pair (.int .i64) (.pair (.int .i64) (.pair y9 (.pair .mp (.pair (.list (.int .i64)) (.pair (.int .i64) .unit))))))))
@[reducible,go_sem] def s0:Ty:=(.pair .str (.pair (.int .i64) (.pair (.int .i64) (.pair (.int .i64) (.pair y9 (.pair (.list (.int .i64)) .unit))))))
@[reducible] def q9:Type:=(Int×((List UInt8)×(Int×(Int×Unit))))
@[reducible] def pZ:Type:=((List UInt8)×((List (List UInt8))×((List p6)×((List pX)×Unit))))
@[reducible] def tC:Type:=((List UInt8)×(Int×(Int×(Int×(pZ×((List Int)×Unit))))))
@[reducible,go_sem] def yT7:Ty:=(.pair .str (.pair .str (.pair .str (.pair (.list .str) (.pair (.rl 9 .str) (.pair (.int .i64) (.pair (.list (.pair .str (.pair .str .unit))) .unit)))))))
@[reducible,go_sem] def rA:Ty:=(.pair yT7 (.pair .bool (.pair .mp .unit)))
@[reducible,go_sem] def DT:Ty:=(.pair .bool (.pair .bool (.pair .bool .unit)))
@[reducible,go_sem] def a66:Ty:=(.pair qH (.pair .bool (.pair .mp .unit)))
@[reducible,go_sem] def q8:Nat×TI:=(9,⟨.str,0,0,false,[]⟩)
theorem qA:qT Tryz.prog q8.1 q8.2:=⟨by kernel_rfl,(show Tryz.prog.underlying _=_ from by kernel_rfl)⟩
@[reducible,go_sem] def AG:Nat×TI:=(42,⟨(.list (.int .u8)),5,1,false,[]⟩)
theorem CE:qT Tryz.prog AG.1 AG.2:=⟨by kernel_rfl,(show _∧_∧_ from⟨by kernel_rfl,by kernel_rfl,by kernel_rfl⟩)⟩
@[reducible,go_sem] def FT:Nat×TI:=(77,⟨vD,0,0,false,[(1,5,1)]⟩)
theorem KD:qT Tryz.prog FT.1 FT.2:=⟨by kernel_rfl,(show ((_∧∃_,_∧_)∨_)∧_ from⟨.inl ⟨rfl,_,Tryz.underlying77,(show _∧_∧_∧_ from⟨rfl,by kernel_rfl,by kernel_rfl,(show _∧_∧_∧_ from⟨rfl,by kernel_rfl,by kernel_rfl,trivial⟩)⟩)⟩,(fun h=>absurd h (by decide))⟩)⟩
@[reducible,go_sem] def vZ:Nat×TI:=(23,⟨(.list .str),9,16,false,[]⟩)
theorem xG:qT Tryz.prog vZ.1 vZ.2:=⟨by kernel_rfl,(show _∧_∧_ from⟨by kernel_rfl,by kernel_rfl,by kernel_rfl⟩)⟩
@[reducible,go_sem] def yA:Nat×TI:=(24,⟨(.list (.pair .str (.pair .str .unit))),144,32,false,[]⟩)
theorem zR:qT Tryz.prog yA.1 yA.2:=⟨by kernel_rfl,(show _∧_∧_ from⟨by kernel_rfl,by kernel_rfl,by kernel_rfl⟩)⟩
@[reducible,go_sem] def AH:Nat×TI:=(144,⟨(.pair .str (.pair .str .unit)),0,1,false,[]⟩)
theorem CF:qT Tryz.prog AH.1 AH.2:=⟨by kernel_rfl,(show ((_∧∃_,_∧_)∨_)∧_ from⟨.inl ⟨rfl,_,Tryz.underlying144,(show _∧_∧_∧_ from⟨rfl,by kernel_rfl,by kernel_rfl,(show _∧_∧_∧_ from⟨rfl,by kernel_rfl,by kernel_rfl,trivial⟩)⟩)⟩,(fun _=>⟨by kernel_rfl,1,by decide,(.struct rfl Tryz.underlying144 (by kernel_rfl) (.cons (by decide) rfl (by kernel_rfl) (by kernel_rfl) (.str Tryz.underlying9) (.cons (by decide) rfl (by kernel_rfl) (by kernel_rfl) (.str Tryz.underlying9) .nil)))⟩)⟩)⟩
@[reducible,go_sem] def sE:Nat×TI:=(3,⟨(.int .i64),0,0,false,[]⟩)
theorem sL:qT Tryz.prog sE.1 sE.2:=⟨by kernel_rfl,(show Tryz.prog.underlying _=_ from by kernel_rfl)⟩
@[reducible,go_sem] def xH:Nat×TI:=(52,⟨qH,0,0,false,[(3,9,1),(4,9,1),(6,144,2)]⟩)
theorem yW:qT Tryz.prog xH.1 xH.2:=⟨by kernel_rfl,(show ((_∧∃_,_∧_)∨_)∧_ from⟨.inl ⟨rfl,_,Tryz.underlying52,(show _∧_∧_∧_ from⟨rfl,by kernel_rfl,by kernel_rfl,(show _∧_∧_∧_ from⟨rfl,by kernel_rfl,by kernel_rfl,(show _∧_∧_∧_ from⟨rfl,by kernel_rfl,by kernel_rfl,(show _∧_∧_∧_ from⟨rfl,by kernel_rfl,by kernel_rfl,(show _∧_∧_∧_ from⟨rfl,by kernel_rfl,by kernel_rfl,(show _∧_∧_∧_ from⟨rfl,by kernel_rfl,by kernel_rfl,(show _∧_∧_∧_ from⟨rfl,by kernel_rfl,by kernel_rfl,trivial⟩)⟩)⟩)⟩)⟩)⟩)⟩)⟩,(fun h=>absurd h (by decide))⟩)⟩
@[reducible,go_sem] def zS:Nat×TI:=(5,⟨(.int .u8),0,0,false,[]⟩)
theorem BD:qT Tryz.prog zS.1 zS.2:=⟨by kernel_rfl,(show Tryz.prog.underlying _=_ from by kernel_rfl)⟩
@[reducible,go_sem] def HI:Nat×TI:=(21,⟨(.int .i32),0,0,false,[]⟩)
theorem O5:qT Tryz.prog HI.1 HI.2:=⟨by kernel_rfl,(show Tryz.prog.underlying _=_ from by kernel_rfl)⟩
@[reducible,go_sem] def BE:Nat×TI:=(4,⟨.bool,0,0,false,[]⟩)
theorem DU:qT Tryz.prog BE.1 BE.2:=⟨by kernel_rfl,(show Tryz.prog.underlying _=_ from by kernel_rfl)⟩
@[reducible,go_sem] def O6:Nat×TI:=(53,⟨.ref,0,0,false,[]⟩)
theorem a67:qT Tryz.prog O6.1 O6.2:=⟨by kernel_rfl,(show∃_,_ from⟨_,Tryz.underlying53⟩)⟩
@[reducible,go_sem] def FU:Nat×TI:=(59,⟨.mp,9,4,false,[]⟩)
theorem KE:qT Tryz.prog FU.1 FU.2:=⟨by kernel_rfl,(show Tryz.prog.underlying _=_ from by kernel_rfl)⟩
@[reducible,go_sem] def vE:Nat×TI:=(62,⟨q7,0,0,false,[(9,9,1),(10,144,2),(11,52,7),(13,3,1)]⟩)
theorem wL:qT Tryz.prog vE.1 vE.2:=⟨by kernel_rfl,(show ((_∧∃_,_∧_)∨_)∧_ from⟨.inl ⟨rfl,_,Tryz.underlying62,(show _∧_∧_∧_ from⟨rfl,by kernel_rfl,by kernel_rfl,(show _∧_∧_∧_ from⟨rfl,by kernel_rfl,by kernel_rfl,(show _∧_∧_∧_ from⟨rfl,by kernel_rfl,by kernel_rfl,(show _∧_∧_∧_ from⟨rfl,by kernel_rfl,by kernel_rfl,(show _∧_∧_∧_ from⟨rfl,by kernel_rfl,by kernel_rfl,(show _∧_∧_∧_ from⟨rfl,by kernel_rfl,by kernel_rfl,(show _∧_∧_∧_ from⟨rfl,by kernel_rfl,by kernel_rfl,(show _∧_∧_∧_ from⟨rfl,by kernel_rfl,by kernel_rfl,trivial⟩)⟩)⟩)⟩)⟩)⟩)⟩)⟩)⟩,(fun h=>absurd h (by decide))⟩)⟩
@[reducible,go_sem] def w4:Nat×TI:=(28,⟨(.int .i64),0,0,false,[]⟩)
theorem xI:qT Tryz.prog w4.1 w4.2:=⟨by kernel_rfl,(show Tryz.prog.underlying _=_ from by kernel_rfl)⟩
@[reducible,go_sem] def AI:Nat×TI:=(91,⟨s0,0,0,false,[(5,9,1),(6,144,2),(7,52,7),(8,3,1)]⟩)
theorem CG:qT Tryz.prog AI.1 AI.2:=⟨by kernel_rfl,(show ((_∧∃_,_∧_)∨_)∧_ from⟨.inl ⟨rfl,_,Tryz.underlying91,(show _∧_∧_∧_ from⟨rfl,by kernel_rfl,by kernel_rfl,(show _∧_∧_∧_ from⟨rfl,by kernel_rfl,by kernel_rfl,(show _∧_∧_∧_ from⟨rfl,by kernel_rfl,by kernel_rfl,(show _∧_∧_∧_ from⟨rfl,by kernel_rfl,by kernel_rfl,(show _∧_∧_∧_ from⟨rfl,by kernel_rfl,by kernel_rfl,(show _∧_∧_∧_ from⟨rfl,by kernel_rfl,by kernel_rfl,trivial⟩)⟩)⟩)⟩)⟩)⟩)⟩,(fun h=>absurd h (by decide))⟩)⟩
@[reducible,go_sem] def AJ:Nat×TI:=(134,⟨uT,0,1,false,[]⟩)
theorem CH:qT Tryz.prog AJ.1 AJ.2:=⟨by kernel_rfl,(show ((_∧∃_,_∧_)∨_)∧_ from⟨.inl ⟨rfl,_,Tryz.underlying134,(show _∧_∧_∧_ from⟨rfl,by kernel_rfl,by kernel_rfl,(show _∧_∧_∧_ from⟨rfl,by kernel_rfl,by kernel_rfl,(show _∧_∧_∧_ from⟨rfl,by kernel_rfl,by kernel_rfl,(show _∧_∧_∧_ from⟨rfl,by kernel_rfl,by kernel_rfl,trivial⟩)⟩)⟩)⟩)⟩,(fun _=>⟨by kernel_rfl,1,by decide,(.struct rfl Tryz.underlying134 (by kernel_rfl) (.cons (by decide) rfl (by kernel_rfl) (by kernel_rfl) (.int Tryz.underlying3) (.cons (by decide) rfl (by kernel_rfl) (by kernel_rfl) (.str Tryz.underlying9) (.cons (by decide) rfl (by kernel_rfl) (by kernel_rfl) (.int Tryz.underlying3) (.cons (by decide) rfl (by kernel_rfl) (by kernel_rfl) (.int Tryz.underlying3) .nil)))))⟩)⟩)⟩
@[reducible,go_sem] def DW:Nat×TI:=(25,⟨(.list qH),52,128,false,[]⟩)
theorem HJ:qT Tryz.prog DW.1 DW.2:=⟨by kernel_rfl,(show _∧_∧_ from⟨by kernel_rfl,by kernel_rfl,by kernel_rfl⟩)⟩
@[reducible,go_sem] def yB:Nat×TI:=(27,⟨y9,0,0,false,[(1,9,1),(2,144,2),(3,52,7)]⟩)
theorem zT:qT Tryz.prog yB.1 yB.2:=⟨by kernel_rfl,(show ((_∧∃_,_∧_)∨_)∧_ from⟨.inl ⟨rfl,_,Tryz.underlying27,(show _∧_∧_∧_ from⟨rfl,by kernel_rfl,by kernel_rfl,(show _∧_∧_∧_ from⟨rfl,by kernel_rfl,by kernel_rfl,(show _∧_∧_∧_ from⟨rfl,by kernel_rfl,by kernel_rfl,(show _∧_∧_∧_ from⟨rfl,by kernel_rfl,by kernel_rfl,trivial⟩)⟩)⟩)⟩)⟩,(fun h=>absurd h (by decide))⟩)⟩
@[reducible,go_sem] def KF:Nat×TI:=(24,⟨(.list (.pair .str (.pair .str .unit))),144,32,true,[]⟩)
theorem T9:qT Tryz.prog KF.1 KF.2:=⟨by kernel_rfl,(show _∧_∧_ from⟨by kernel_rfl,by kernel_rfl,by kernel_rfl⟩)⟩
@[reducible,go_sem] def wM:Nat×TI:=(58,⟨uT,0,1,false,[]⟩)
theorem yC:qT Tryz.prog wM.1 wM.2:=⟨by kernel_rfl,(show ((_∧∃_,_∧_)∨_)∧_ from⟨.inl ⟨rfl,_,Tryz.underlying58,(show _∧_∧_∧_ from⟨rfl,by kernel_rfl,by kernel_rfl,(show _∧_∧_∧_ from⟨rfl,by kernel_rfl,by kernel_rfl,(show _∧_∧_∧_ from⟨rfl,by kernel_rfl,by kernel_rfl,(show _∧_∧_∧_ from⟨rfl,by kernel_rfl,by kernel_rfl,trivial⟩)⟩)⟩)⟩)⟩,(fun _=>⟨by kernel_rfl,1,by decide,(.struct rfl Tryz.underlying58 (by kernel_rfl) (.cons (by decide) rfl (by kernel_rfl) (by kernel_rfl) (.int Tryz.underlying3) (.cons (by decide) rfl (by kernel_rfl) (by kernel_rfl) (.str Tryz.underlying9) (.cons (by decide) rfl (by kernel_rfl) (by kernel_rfl) (.int Tryz.underlying3) (.cons (by decide) rfl (by kernel_rfl) (by kernel_rfl) (.int Tryz.underlying3) .nil)))))⟩)⟩)⟩
@[reducible,go_sem] def yX:Nat×TI:=(177,⟨rA,0,0,false,[(3,9,1),(6,144,2)]⟩)
theorem AK:qT Tryz.prog yX.1 yX.2:=⟨by kernel_rfl,(show ((_∧∃_,_∧_)∨_)∧_ from⟨.inl ⟨rfl,_,Tryz.underlying177,(show _∧_∧_∧_ from⟨rfl,by kernel_rfl,by kernel_rfl,(show _∧_∧_∧_ from⟨rfl,by kernel_rfl,by kernel_rfl,(show _∧_∧_∧_ from⟨rfl,by kernel_rfl,by kernel_rfl,trivial⟩)⟩)⟩)⟩,(fun h=>absurd h (by decide))⟩)⟩
@[reducible,go_sem] def O7:Nat×TI:=(178,⟨.fn,0,0,false,[]⟩)
theorem a68:qT Tryz.prog O7.1 O7.2:=⟨by kernel_rfl,(show∃_ _ _,_ from⟨_,_,_,Tryz.underlying178⟩)⟩
@[reducible,go_sem] def O8:Nat×TI:=(180,⟨.mp,9,178,false,[]⟩)
theorem a69:qT Tryz.prog O8.1 O8.2:=⟨by kernel_rfl,(show Tryz.prog.underlying _=_ from by kernel_rfl)⟩
@[reducible,go_sem] def CI:Nat×TI:=(60,⟨(.list (.int .i64)),3,8,false,[]⟩)
theorem FV:qT Tryz.prog CI.1 CI.2:=⟨by kernel_rfl,(show _∧_∧_ from⟨by kernel_rfl,by kernel_rfl,by kernel_rfl⟩)⟩
@[reducible,go_sem] def O9:Nat×TI:=(212,⟨(.int .u32),0,0,false,[]⟩)
theorem a7a:qT Tryz.prog O9.1 O9.2:=⟨by kernel_rfl,(show Tryz.prog.underlying _=_ from by kernel_rfl)⟩
@[reducible,go_sem] def AL:Nat×TI:=(52,⟨yT7,0,0,false,[(3,9,1),(6,144,2)]⟩)
theorem CJ:qT Tryz.prog AL.1 AL.2:=⟨by kernel_rfl,(show ((_∧∃_,_∧_)∨_)∧_ from⟨.inl ⟨rfl,_,Tryz.underlying52,(show _∧_∧_∧_ from⟨rfl,by kernel_rfl,by kernel_rfl,(show _∧_∧_∧_ from⟨rfl,by kernel_rfl,by kernel_rfl,(show _∧_∧_∧_ from⟨rfl,by kernel_rfl,by kernel_rfl,(show _∧_∧_∧_ from⟨rfl,by kernel_rfl,by kernel_rfl,(show _∧_∧_∧_ from⟨rfl,by kernel_rfl,by kernel_rfl,(show _∧_∧_∧_ from⟨rfl,by kernel_rfl,by kernel_rfl,(show _∧_∧_∧_ from⟨rfl,by kernel_rfl,by kernel_rfl,trivial⟩)⟩)⟩)⟩)⟩)⟩)⟩)⟩,(fun h=>absurd h (by decide))⟩)⟩
@[reducible,go_sem] def HK:Nat×TI:=(175,⟨.ref,0,0,false,[]⟩)
theorem OA:qT Tryz.prog HK.1 HK.2:=⟨by kernel_rfl,(show∃_,_ from⟨_,Tryz.underlying175⟩)⟩
@[reducible,go_sem] def KG:Nat×TI:=(56,⟨AF,0,1,false,[]⟩)
theorem TA:qT Tryz.prog KG.1 KG.2:=⟨by kernel_rfl,(show ((_∧∃_,_∧_)∨_)∧_ from⟨.inl ⟨rfl,_,Tryz.underlying56,(show _∧_∧_∧_ from⟨rfl,by kernel_rfl,by kernel_rfl,(show _∧_∧_∧_ from⟨rfl,by kernel_rfl,by kernel_rfl,trivial⟩)⟩)⟩,(fun _=>⟨by kernel_rfl,1,by decide,(.struct rfl Tryz.underlying56 (by kernel_rfl) (.cons (by decide) rfl (by kernel_rfl) (by kernel_rfl) (.str Tryz.underlying9) (.cons (by decide) rfl (by kernel_rfl) (by kernel_rfl) (.int Tryz.underlying3) .nil)))⟩)⟩)⟩
@[reducible,go_sem] def OB:Nat×TI:=(184,⟨DT,0,1,false,[]⟩)
theorem a7b:qT Tryz.prog OB.1 OB.2:=⟨by kernel_rfl,(show ((_∧∃_,_∧_)∨_)∧_ from⟨.inl ⟨rfl,_,Tryz.underlying184,(show _∧_∧_∧_ from⟨rfl,by kernel_rfl,by kernel_rfl,(show _∧_∧_∧_ from⟨rfl,by kernel_rfl,by kernel_rfl,(show _∧_∧_∧_ from⟨rfl,by kernel_rfl,by kernel_rfl,trivial⟩)⟩)⟩)⟩,(fun _=>⟨by kernel_rfl,1,by decide,(.struct rfl Tryz.underlying184 (by kernel_rfl) (.cons (by decide) rfl (by kernel_rfl) (by kernel_rfl) (.bool Tryz.underlying4) (.cons (by decide) rfl (by kernel_rfl) (by kernel_rfl) (.bool Tryz.underlying4) (.cons (by decide) rfl (by kernel_rfl) (by kernel_rfl) (.bool Tryz.underlying4) .nil))))⟩)⟩)⟩
@[reducible,go_sem] def TB:Nat×TI:=(177,⟨a66,0,0,false,[(3,9,1),(4,9,1),(6,144,2)]⟩)
theorem aFm:qT Tryz.prog TB.1 TB.2:=⟨by kernel_rfl,(show ((_∧∃_,_∧_)∨_)∧_ from⟨.inl ⟨rfl,_,Tryz.underlying177,(show _∧_∧_∧_ from⟨rfl,by kernel_rfl,by kernel_rfl,(show _∧_∧_∧_ from⟨rfl,by kernel_rfl,by kernel_rfl,(show _∧_∧_∧_ from⟨rfl,by kernel_rfl,by kernel_rfl,trivial⟩)⟩)⟩)⟩,(fun h=>absurd h (by decide))⟩)⟩
theorem pH:Tryz.prog.follows .mixedOrders=true:=by kernel_rfl
@[reducible,go_sem] def KH:Nat×Sig:=(84,⟨[.v,.v],SZ,[],[],none⟩)
theorem OC:pI Tryz.prog KH:=⟨aEW,fun _ h=>by cases h⟩
@[reducible,go_sem] def aFn:Nat×Sig:=(56,⟨[.v,.v],T0,[],[],none⟩)
theorem aKe:pI Tryz.prog aFn:=⟨aEX,fun _ h=>by cases h⟩
@[reducible,go_sem] def a7c:Nat×Sig:=(185,⟨[.v],T1,[],[],none⟩)
theorem aFo:pI Tryz.prog a7c:=⟨aEY,fun _ h=>by cases h⟩
@[reducible,go_sem] def aFp:Nat×Sig:=(131,⟨[.v,.v],T2,[],[],none⟩)
theorem aKf:pI Tryz.prog aFp:=⟨aEZ,fun _ h=>by cases h⟩
@[reducible,go_sem] def a7d:Nat×Sig:=(109,⟨[.v,.v],T3,[],[],none⟩)
theorem aFq:pI Tryz.prog a7d:=⟨aE2,fun _ h=>by cases h⟩
@[reducible,go_sem] def OD:Nat×Sig:=(52,⟨[.p vD [1]],T4,[],[],none⟩)
theorem TC:pI Tryz.prog OD:=⟨aE4,fun _ h=>by cases h⟩
@[reducible,go_sem] def TD:Nat×Sig:=(37,⟨[.p vD [1]],T6,[],[],none⟩)
theorem a7e:pI Tryz.prog TD:=⟨aFc,fun _ h=>by cases h⟩
@[reducible,go_sem] def a7f:Nat×Sig:=(174,⟨[.r,.v,.v],T8,[],[],none⟩)
theorem aFr:pI Tryz.prog a7f:=⟨aFl,fun _ h=>by cases h⟩
@[reducible,go_sem] def TE:Nat×Sig:=(96,⟨[.v],noC,[],[],some a6W⟩)
theorem aFs:pI Tryz.prog TE:=aE1
end
end Go.Proofs.YtfchbnahjcdiiaaGreatDoor
namespace Go.Proofs.YtfchbnahjcdiiaaGreatDoor
open Vc
theorem uU {σ ρ:Type}(f:σ→Option (σ⊕ρ)) (x:σ):pT f x=(f x).bind fun w=>match w with
  | .inl y=>pT f y
  | .inr r=>some r:=by
 cases h:f x with
 |none=>
  cases h2:pT f x with
  |none=>rfl
  |some r=>
   obtain⟨n,hn⟩:=K9 h2
   cases n with
   |zero=>cases hn
   |succ n=>unfold iter at hn;rw[h] at hn;cases hn
 |some w=>
  cases w with
  |inl y=>exact KA h
  |inr r=>exact vY h
theorem yD {t:Ty}{l:List t.den}{i:Nat}(h:i<l.length):qB t l (i:Int)=l[i]:=by
 unfold qB
 rw[Int.toNat_natCast,List.getD_eq_getElem?_getD,List.getElem?_eq_getElem h];rfl
theorem vF {l:List UInt8}{i:Nat}(h:i<l.length):pA l (i:Int)=(l[i].toNat:Int):=by
 unfold pA
 rw[Int.toNat_natCast,List.getD_eq_getElem?_getD,List.getElem?_eq_getElem h];rfl
def sM {β:Type}(f:Nat→β) (b:β):Option Nat→β
 |some k=>f k
 |none=>b
theorem TF {α ρ:Type}{f:Int→Option (Int⊕(Unit⊕ρ))}{l:List α}(p:α→Bool) (g:Nat→ρ)
  (hf: ∀(i:Nat) (h:i<l.length),f i=if p l[i]=true then some (.inr (.inr (g i))) else some (.inl (i+1)))
  (he:f l.length=some (.inr (.inl ()))): ∀(n j:Nat),j+n=l.length→pT f j=some (sM (fun k=> .inr (g (j+k))) (.inl ()) ((l.drop j).findIdx? p))
 |0,j,hj=>by
  have:j=l.length:=by omega
  subst this
  rw[List.drop_length,uU,he]
  rfl
 |n+1,j,hj=>by
  have hlt:j<l.length:=by omega
  rw[uU,hf j hlt,List.drop_eq_getElem_cons hlt,List.findIdx?_cons]
  by_cases hp:p l[j]=true
  ·rw[if_pos hp,if_pos hp]
   rfl
  ·rw[if_neg hp,if_neg hp]
   show pT f ((j:Int)+1)=_
   have:=TF p g hf he n (j+1) (by omega)
   rw[show ((j:Int)+1)=((j+1:Nat):Int) by omega,this]
   cases(l.drop (j+1)).findIdx? p with
   |none=>rfl
   |some k=>
    show some (Sum.inr (g (j+1+k)))=some (Sum.inr (g (j+(k+1))))
    rw[show j+1+k=j+(k+1) by omega]
theorem AM {α ρ:Type}{f:Int→Option (Int⊕(Unit⊕ρ))}{l:List α}(p:α→Bool) (g:Nat→ρ)
  (hf: ∀(i:Nat) (h:i<l.length),f i=if p l[i]=true then some (.inr (.inr (g i))) else some (.inl (i+1)))
  (he:f l.length=some (.inr (.inl ()))):pT f 0=some (sM (fun k=> .inr (g k)) (.inl ()) (l.findIdx? p)):=by
 have:=TF p g hf he l.length 0 (by omega)
 simpa using this
theorem a7g {s:List UInt8}{i:Nat}(h:i<s.length) (ha:s[i].toNat<128):s5 s i=(s[i].toNat:Int)∧wI s i=i+1:=by
 have h1:=Lib.decodeL_drop ⟨s.toArray⟩ i
 have h2:(⟨s.toArray⟩:ByteArray).data.toList.drop i=s[i]::s.drop (i+1):=by
  show s.drop i=_
  rw[List.drop_eq_getElem_cons h]
 rw[h2,Lib.decodeL_ascii _ _ ha] at h1
 unfold s5 wI QX
 rw[←h1,if_pos h]
 exact⟨rfl,rfl⟩
theorem aFt {n b0 b1 b2 b3:Nat}(h:128≤b0):128≤(Lib.decodeN n b0 b1 b2 b3).1:=by
 unfold Lib.decodeN
 repeat' split
 all_goals first|omega|(dsimp only;omega)
theorem a7h {s:List UInt8}{i:Nat}(h:i<s.length) (ha:128≤s[i].toNat):128≤s5 s i:=by
 unfold s5
 rw[Lib.decode_at]
 have:(⟨s.toArray⟩:ByteArray).get! i=s[i]:=by
  show s.toArray[i]! =_
  simp [h]
 rw[this]
 exact Int.ofNat_le.2 (aFt ha)
theorem a7i {ρ:Type}{f:Nat→Option (Nat⊕(Unit⊕ρ))}{s:List UInt8}(p:Int→Bool) (g:Nat→ρ) (hb: ∀c,128≤c→p c=true)
  (hf: ∀(i:Nat) (h:i<s.length),f i=if p (s5 s i)=true then some (.inr (.inr (g i))) else some (.inl (wI s i)))
  (he:f s.length=some (.inr (.inl ()))): ∀(n j:Nat),j+n=s.length→pT f j=some (sM (fun k=> .inr (g (j+k))) (.inl ()) ((s.drop j).findIdx? (fun b=>p b.toNat)))
 |0,j,hj=>by
  have:j=s.length:=by omega
  subst this
  rw[List.drop_length,uU,he]
  rfl
 |n+1,j,hj=>by
  have hlt:j<s.length:=by omega
  rw[uU,hf j hlt,List.drop_eq_getElem_cons hlt,List.findIdx?_cons]
  by_cases ha:s[j].toNat<128
  ·obtain⟨e1,e2⟩:=a7g hlt ha
   rw[e1,e2]
   by_cases hp:p (s[j].toNat:Int)=true
   ·rw[if_pos hp,if_pos hp]
    rfl
   ·rw[if_neg hp,if_neg hp]
    show pT f (j+1)=_
    rw[a7i p g hb hf he n (j+1) (by omega)]
    cases(s.drop (j+1)).findIdx? (fun b=>p b.toNat) with
    |none=>rfl
    |some k=>
     show some (Sum.inr (g (j+1+k)))=some (Sum.inr (g (j+(k+1))))
     rw[show j+1+k=j+(k+1) by omega]
  ·rw[if_pos (hb _ (a7h hlt (by omega))),if_pos (hb _ (by omega))]
   rfl
theorem a7j {ρ:Type}{f:Nat→Option (Nat⊕(Unit⊕ρ))}{s:List UInt8}(p:Int→Bool) (g:Nat→ρ) (hb: ∀c,128≤c→p c=true)
  (hf: ∀(i:Nat) (h:i<s.length),f i=if p (s5 s i)=true then some (.inr (.inr (g i))) else some (.inl (wI s i)))
  (he:f s.length=some (.inr (.inl ()))):pT f 0=some (sM (fun k=> .inr (g k)) (.inl ()) (s.findIdx? (fun b=>p b.toNat))):=by
 have:=a7i p g hb hf he s.length 0 (by omega)
 simpa using this
def pQ {α:Type}(l:List α):Prop:=l.length≤1000000
theorem aKg {n:Nat}(h:n≤1000000000):oT (n:Int):=by unfold oT;omega
end Go.Proofs.YtfchbnahjcdiiaaGreatDoor
namespace Go.Proofs.YtfchbnahjcdiiaaGreatDoor
open Vc
set_option maxRecDepth 100000
set_option maxHeartbeats 4000000
set_option linter.unusedSimpArgs false
set_option linter.unusedVariables false
noncomputable section
def FW (O:((List Int)×Unit)) (Z:(List UInt8)):Option Unit:=
 if List.length O.1+List.length Z≤140737488355328 then
  some (())
 else none
section
variable (O:(List UInt8)) (Z:((List Int)×Unit)) (aA:Nat)
@[reducible] def TG:List Slot:=[(.val .ref (some (0,0)),none),(.val .str O,none)]
@[reducible] def TH:List Blk:=[.cells vD ((some (0,0)),Z) [(1,1)],.grow 5 1 aA]
@[go_sem] def TJ:Ret:=⟨[aA=(List.length Z.1),((FW Z O)).isSome=true],[(.val (.int .i64) (List.length O:Int),none),(.any,none)],[.cells vD ((some (0,0)),((Z.1++s4 O),())) [(1,1)],.grow 5 1 (List.length (Z.1++s4 O))]⟩
def a7k:List Slot→List Blk→Option Ret:=pM (V:=((List UInt8)×((List Int)×Unit)×Nat)) (fun x=>TG x.1) (fun x=>TH x.2.1 x.2.2) fun x=>TJ x.1 x.2.1 x.2.2
@[go_sem] theorem aKh:a7k (no_index (TG O)) (no_index (TH Z aA))=some (TJ O Z aA):=pN (fun⟨a0,a1,a2⟩ ⟨b0,b1,b2⟩ h1 h2=>by cases h1;cases h2;rfl) (O,Z,aA)
end
@[reducible,go_sem] def a7l:Nat×Sig:=(36,⟨[.p vD [1],.v],a7k,[],[],none⟩)
theorem KI:Env Tryz.prog [q8,AG,FT] (pE [OD]):=⟨⟨qA,⟨CE,⟨KD,trivial⟩⟩⟩,oZ TC pP,pH⟩
theorem aFu:pI Tryz.prog a7l:=by
 refine pO KI Tryz.func36 (c:=_) rfl (N:=19) (by kernel_rfl) (ts:=[(4,none),(5,none)]) rfl (fun _ _=>rfl) ?_
 intro⟨O,Z,aA⟩ hs hrow
 dsimp only[TG,TH,TJ,pK,enumH,pD,pG,pL,Nat.reduceAdd] at hs hrow⊢
 obtain⟨rfl,hz⟩:=hs
 obtain⟨z0,hC0⟩:=Option.isSome_iff_exists.1 hz
 try rw[pW hC0]
 clear hz
 unfold FW at hC0
 refine oS KI ?_
 refine oS KI ?_ (hp:=by exact(by first|exact rfl|exact trivial))
 obtain⟨hg1,hC0⟩:=oU hC0
 refine oS KI ?_ (hp:=by exact And.intro (by first|exact rfl|exact trivial) (hg1))
 refine oS KI ?_
 refine oV ?_
 cases hC0
 exact⟨[(0,0),(1,1)],by rfl,by rfl,by rfl⟩
attribute [irreducible] FW
def OE (O:(List (List UInt8))) (Z:(List (List UInt8))):Int→Option (Int⊕(Unit⊕Bool)):=fun aA=>
 if (decide (aA<(List.length O:Int)))=true then
  if 0≤aA∧aA<(List.length O:Int) then
   if 0≤aA∧aA<(List.length Z:Int) then
    if (!decide ((qB .str O aA)=(qB .str Z aA)))=true then
     some (.inr (.inr (false)))
    else
     if oT (aA+(1:Int)) then
      some (.inl (aA+(1:Int)))
     else none
   else none
  else none
 else
  some (.inr (.inl ()))
def uD (O:(List (List UInt8))) (Z:(List (List UInt8))):Option Bool:=
 if (!decide ((List.length O:Int)=(List.length Z:Int)))=true then
  some (false)
 else
  qQ (pT (OE O Z) (0:Int)) fun _=>
  some (true)
section
variable (O:(List (List UInt8))) (Z:(List (List UInt8)))
@[reducible] def TK:List Slot:=[(.val (.list .str) O,none),(.val (.list .str) Z,none)]
@[reducible] def TL:List Blk:=[]
@[go_sem] def TM:Ret:=⟨[((uD O Z)).isSome=true],[(.val .bool (val (uD O Z)),none)],[]⟩
def a7m:List Slot→List Blk→Option Ret:=pM (V:=((List (List UInt8))×(List (List UInt8)))) (fun x=>TK x.1 x.2) (fun x=>TL) fun x=>TM x.1 x.2
@[go_sem] theorem aKi:a7m (no_index (TK O Z)) (no_index TL)=some (TM O Z):=pN (fun⟨a0,a1⟩ ⟨b0,b1⟩ h1 h2=>by cases h1;cases h2;rfl) (O,Z)
end
@[reducible,go_sem] def TN:Nat×Sig:=(46,⟨[.v,.v],a7m,[],[],none⟩)
theorem BF:Env Tryz.prog [q8,vZ] (pE []):=⟨⟨qA,⟨xG,trivial⟩⟩,pP,pH⟩
theorem a7n:pI Tryz.prog TN:=by
 refine pO BF Tryz.func46 (c:=_) rfl (N:=26) (by kernel_rfl) (ts:=[(4,none)]) rfl (fun _ _=>rfl) ?_
 intro⟨O,Z⟩ hs hrow
 dsimp only[TK,TL,TM,pK,enumH,pD,pG,pL,Nat.reduceAdd] at hs hrow⊢
 have hz:=hs
 obtain⟨z0,hC0⟩:=Option.isSome_iff_exists.1 hz
 try rw[pW hC0]
 clear hz hs
 unfold uD at hC0
 refine oS BF ?_
 refine p4 ?_
 refine oS BF ?_
 refine oX hC0 (fun hC0 hc1=> ?_) (fun hC0 hc1=> ?_)
 ·refine oS BF ?_
  refine oV (pC ?_)
  cases hC0
  exact⟨[],by rfl,by rfl,by rfl⟩
 ·refine p7 (oW (p4 ?_))
  refine oS BF ?_
  refine pU ?_
  obtain⟨y1,hy1,hC0⟩:=sK hC0
  refine rI 0 (fun s=> ∃v,y1= .inl v∧s=(fun _=>⟨[],[],0,26,0⟩) v) ?_ ?_
  ·refine rH hy1 (fun x=>⟨[(0,(.val (.list .str) O,none)),(1,(.val (.list .str) Z,none)),(5,(.val (.int .i64) x,none))],[],0,26,0⟩) ⟨[0,1,5],[]⟩ (by rfl) ?_
   intro aA w1 n1 hC1 hN1
   unfold OE at hC1
   dsimp only at hC1⊢
   refine p4 ?_
   refine oS BF ?_
   refine oX hC1 (fun hC1 hc2=> ?_) (fun hC1 hc2=> ?_)
   ·refine p7 (oW (p4 (pU ?_)))
    obtain⟨hg1,hC1⟩:=oU hC1
    obtain⟨hg2,hC1⟩:=oU hC1
    refine qR BF ?_ (hp:=by exact And.intro hg1 (hg2))
    refine oX hC1 (fun hC1 hc3=> ?_) (fun hC1 hc3=> ?_)
    ·refine oS BF ?_
     refine oV (pR (pC (s8 (s7 (pR (pC ?_))))))
     cases hC1
     cases hN1
     dsimp only at hC0
     cases hC0
     exact⟨[],by rfl,by rfl,by rfl⟩
    ·refine p7 (pB (oW ?_))
     obtain⟨hg3,hC1⟩:=oU hC1
     refine pF BF ?_ (hp:=by exact hg3)
     cases hC1
     exact qG ⟨⟨[0,1,5],[]⟩,_,by rfl,hN1⟩
   ·refine qY (r8 (r5 ?_))
    cases hC1
    cases hN1
    exact qZ ⟨⟨[],[]⟩,_,rfl,by rfl⟩
  ·rintro _ ⟨v,rfl,rfl⟩
   dsimp only at hC0⊢
   refine rF (oW ?_)
   refine oS BF ?_
   refine oV ?_
   cases hC0
   exact⟨[],by rfl,by rfl,by rfl⟩
attribute [irreducible] uD
def OF (O:(List p6)) (Z:(List p6)):Int→Option (Int⊕(Unit⊕Bool)):=fun aA=>
 if (decide (aA<(List.length O:Int)))=true then
  if 0≤aA∧aA<(List.length O:Int) then
   if 0≤aA∧aA<(List.length Z:Int) then
    if (!((decide ((qB (.pair .str (.pair .str .unit)) O aA).1=(qB (.pair .str (.pair .str .unit)) Z aA).1))&&(decide ((qB (.pair .str (.pair .str .unit)) O aA).2.1=(qB (.pair .str (.pair .str .unit)) Z aA).2.1))))=true then
     some (.inr (.inr (false)))
    else
     if oT (aA+(1:Int)) then
      some (.inl (aA+(1:Int)))
     else none
   else none
  else none
 else
  some (.inr (.inl ()))
def yE (O:(List p6)) (Z:(List p6)):Option Bool:=
 if (!decide ((List.length O:Int)=(List.length Z:Int)))=true then
  some (false)
 else
  qQ (pT (OF O Z) (0:Int)) fun _=>
  some (true)
section
variable (O:(List p6)) (Z:(List p6))
@[reducible] def TO:List Slot:=[(.val (.list (.pair .str (.pair .str .unit))) O,none),(.val (.list (.pair .str (.pair .str .unit))) Z,none)]
@[reducible] def TP:List Blk:=[]
@[go_sem] def TQ:Ret:=⟨[((yE O Z)).isSome=true],[(.val .bool (val (yE O Z)),none)],[]⟩
def a7o:List Slot→List Blk→Option Ret:=pM (V:=((List p6)×(List p6))) (fun x=>TO x.1 x.2) (fun x=>TP) fun x=>TQ x.1 x.2
@[go_sem] theorem aKj:a7o (no_index (TO O Z)) (no_index TP)=some (TQ O Z):=pN (fun⟨a0,a1⟩ ⟨b0,b1⟩ h1 h2=>by cases h1;cases h2;rfl) (O,Z)
end
@[reducible,go_sem] def TR:Nat×Sig:=(47,⟨[.v,.v],a7o,[],[],none⟩)
theorem BG:Env Tryz.prog [yA,AH] (pE []):=⟨⟨zR,⟨CF,trivial⟩⟩,pP,pH⟩
theorem a7p:pI Tryz.prog TR:=by
 refine pO BG Tryz.func47 (c:=_) rfl (N:=26) (by kernel_rfl) (ts:=[(4,none)]) rfl (fun _ _=>rfl) ?_
 intro⟨O,Z⟩ hs hrow
 dsimp only[TO,TP,TQ,pK,enumH,pD,pG,pL,Nat.reduceAdd] at hs hrow⊢
 have hz:=hs
 obtain⟨z0,hC0⟩:=Option.isSome_iff_exists.1 hz
 try rw[pW hC0]
 clear hz hs
 unfold yE at hC0
 refine oS BG ?_
 refine p4 ?_
 refine oS BG ?_
 refine oX hC0 (fun hC0 hc1=> ?_) (fun hC0 hc1=> ?_)
 ·refine oS BG ?_
  refine oV (pC ?_)
  cases hC0
  exact⟨[],by rfl,by rfl,by rfl⟩
 ·refine p7 (oW (p4 ?_))
  refine oS BG ?_
  refine pU ?_
  obtain⟨y1,hy1,hC0⟩:=sK hC0
  refine rI 0 (fun s=> ∃v,y1= .inl v∧s=(fun _=>⟨[],[],0,26,0⟩) v) ?_ ?_
  ·refine rH hy1 (fun x=>⟨[(0,(.val (.list (.pair .str (.pair .str .unit))) O,none)),(1,(.val (.list (.pair .str (.pair .str .unit))) Z,none)),(5,(.val (.int .i64) x,none))],[],0,26,0⟩) ⟨[0,1,5],[]⟩ (by rfl) ?_
   intro aA w1 n1 hC1 hN1
   unfold OF at hC1
   dsimp only at hC1⊢
   refine p4 ?_
   refine oS BG ?_
   refine oX hC1 (fun hC1 hc2=> ?_) (fun hC1 hc2=> ?_)
   ·refine p7 (oW (p4 (pU ?_)))
    obtain⟨hg1,hC1⟩:=oU hC1
    obtain⟨hg2,hC1⟩:=oU hC1
    refine qR BG ?_ (hp:=by exact And.intro hg1 (hg2))
    refine oX hC1 (fun hC1 hc3=> ?_) (fun hC1 hc3=> ?_)
    ·refine oS BG ?_
     refine oV (pR (pC (s8 (s7 (pR (pC ?_))))))
     cases hC1
     cases hN1
     dsimp only at hC0
     cases hC0
     exact⟨[],by rfl,by rfl,by rfl⟩
    ·refine p7 (pB (oW ?_))
     obtain⟨hg3,hC1⟩:=oU hC1
     refine pF BG ?_ (hp:=by exact hg3)
     cases hC1
     exact qG ⟨⟨[0,1,5],[]⟩,_,by rfl,hN1⟩
   ·refine qY (r8 (r5 ?_))
    cases hC1
    cases hN1
    exact qZ ⟨⟨[],[]⟩,_,rfl,by rfl⟩
  ·rintro _ ⟨v,rfl,rfl⟩
   dsimp only at hC0⊢
   refine rF (oW ?_)
   refine oS BG ?_
   refine oV ?_
   cases hC0
   exact⟨[],by rfl,by rfl,by rfl⟩
attribute [irreducible] yE
def HL (O:pX) (Z:pX):Option Unit:=
 if ((((((decide (O.1=Z.1))&&(decide (O.2.1=Z.2.1)))&&(decide (O.2.2.1=Z.2.2.1)))&&(decide (O.2.2.2.2.2.1=Z.2.2.2.2.2.1)))==true)=true→((uD O.2.2.2.1 Z.2.2.2.1)).isSome=true) then
  if (((((((decide (O.1=Z.1))&&(decide (O.2.1=Z.2.1)))&&(decide (O.2.2.1=Z.2.2.1)))&&(decide (O.2.2.2.2.2.1=Z.2.2.2.2.2.1)))&&(val (uD O.2.2.2.1 Z.2.2.2.1)))==true)=true→((uD O.2.2.2.2.1 Z.2.2.2.2.1)).isSome=true) then
   if ((((((((decide (O.1=Z.1))&&(decide (O.2.1=Z.2.1)))&&(decide (O.2.2.1=Z.2.2.1)))&&(decide (O.2.2.2.2.2.1=Z.2.2.2.2.2.1)))&&(val (uD O.2.2.2.1 Z.2.2.2.1)))&&(val (uD O.2.2.2.2.1 Z.2.2.2.2.1)))==true)=true→((yE O.2.2.2.2.2.2.1 Z.2.2.2.2.2.2.1)).isSome=true) then
    some (())
   else none
  else none
 else none
section
variable (O:pX) (Z:pX)
@[reducible] def TS:List Slot:=[(.val qH O,none),(.val qH Z,none)]
@[reducible] def TT:List Blk:=[]
@[go_sem] def TU:Ret:=⟨[((HL O Z)).isSome=true],[(.val .bool (((((((decide (O.1=Z.1))&&(decide (O.2.1=Z.2.1)))&&(decide (O.2.2.1=Z.2.2.1)))&&(decide (O.2.2.2.2.2.1=Z.2.2.2.2.2.1)))&&(val (uD O.2.2.2.1 Z.2.2.2.1)))&&(val (uD O.2.2.2.2.1 Z.2.2.2.2.1)))&&(val (yE O.2.2.2.2.2.2.1 Z.2.2.2.2.2.2.1))),none)],[]⟩
def a7q:List Slot→List Blk→Option Ret:=pM (V:=(pX×pX)) (fun x=>TS x.1 x.2) (fun x=>TT) fun x=>TU x.1 x.2
@[go_sem] theorem aKk:a7q (no_index (TS O Z)) (no_index TT)=some (TU O Z):=pN (fun⟨a0,a1⟩ ⟨b0,b1⟩ h1 h2=>by cases h1;cases h2;rfl) (O,Z)
end
@[reducible,go_sem] def a7r:Nat×Sig:=(48,⟨[.v,.v],a7q,[],[],none⟩)
theorem TV:Env Tryz.prog [sE,q8,vZ,yA,xH] (pE [TN,TR]):=⟨⟨sL,⟨qA,⟨xG,⟨zR,⟨yW,trivial⟩⟩⟩⟩⟩,oZ a7n (oZ a7p pP),pH⟩
theorem aFv:pI Tryz.prog a7r:=by
 refine pO TV Tryz.func48 (c:=_) rfl (N:=52) (by kernel_rfl) (ts:=[(4,none)]) rfl (fun _ _=>rfl) ?_
 intro⟨O,Z⟩ hs hrow
 dsimp only[TS,TT,TU,pK,enumH,pD,pG,pL,Nat.reduceAdd] at hs hrow⊢
 have hz:=hs
 obtain⟨z0,hC0⟩:=Option.isSome_iff_exists.1 hz
 try rw[pW hC0]
 clear hz hs
 unfold HL at hC0
 refine oS TV ?_
 obtain⟨hg1,hC0⟩:=oU hC0
 obtain⟨hg2,hC0⟩:=oU hC0
 obtain⟨hg3,hC0⟩:=oU hC0
 refine oS TV ?_ (hp:=by exact And.intro (fun hh=>hh) (And.intro (fun hh=>hh) (And.intro (fun hh=>hh) (And.intro (fun hh=>hh) (And.intro (fun hh=>pY hh) (And.intro (fun hh=>hh) (And.intro (fun hh=>hh) (And.intro (fun hh=>hh) (And.intro (fun hh=>hh) (And.intro (fun hh=>pY hh) (And.intro (fun hh=>hh) (And.intro (fun hh=>hh) (And.intro (fun hh=>hh) (And.intro (fun hh=>hh) (And.intro (fun hh=>pY hh) (And.intro (fun hh=>hh) (And.intro (fun hh=>hh) (And.intro (fun hh=>hh) (And.intro (fun hh=>hh) (And.intro hg1 (And.intro (fun hh=>pY hh) (And.intro (fun hh=>hh) (And.intro (fun hh=>hh) (And.intro (fun hh=>hh) (And.intro (fun hh=>hh) (And.intro hg2 (And.intro (fun hh=>pY hh) (And.intro (fun hh=>hh) (And.intro (fun hh=>hh) (And.intro (fun hh=>hh) (And.intro (fun hh=>hh) (And.intro hg3 ((fun hh=>pY hh))))))))))))))))))))))))))))))))))
 refine oV ?_
 cases hC0
 exact⟨[],by rfl,by rfl,by rfl⟩
attribute [irreducible] HL
def a7s (O:Int):Unit:=
 ()
section
variable (O:Int)
@[reducible] def TW:List Slot:=[(.val (.int .u8) O,none)]
@[reducible] def TX:List Blk:=[]
@[go_sem] def TY:Ret:=⟨[],[(.val .bool (((decide ((97:Int)≤O))&&(decide (O≤(122:Int))))||((decide ((65:Int)≤O))&&(decide (O≤(90:Int))))),none)],[]⟩
def a7t:List Slot→List Blk→Option Ret:=pM (V:=Int) (fun x=>TW x) (fun x=>TX) fun x=>TY x
@[go_sem] theorem aKl:a7t (no_index (TW O)) (no_index TX)=some (TY O):=pN (fun a0 b0 h1 h2=>by cases h1;cases h2;rfl) O
end
@[reducible,go_sem] def TZ:Nat×Sig:=(66,⟨[.v],a7t,[],[],none⟩)
theorem U0:Env Tryz.prog [] (pE []):=⟨trivial,pP,pH⟩
theorem a7u:pI Tryz.prog TZ:=by
 refine pO U0 Tryz.func66 (c:=_) rfl (N:=17) (by kernel_rfl) (ts:=[(2,none)]) rfl (fun _ _=>rfl) ?_
 intro O hs hrow
 dsimp only[TW,TX,TY,pK,enumH,pD,pG,pL,Nat.reduceAdd] at hs hrow⊢
 obtain⟨z0,hC0⟩: ∃z,(a7s O)=z:=⟨_,rfl⟩
 try rw[hC0]
 unfold a7s at hC0
 refine oS U0 ?_
 refine oS U0 ?_ (hp:=by exact And.intro (fun hh=>hh) (And.intro (fun hh=>pY hh) (And.intro (fun hh=>hh) (And.intro (fun hh=>hh) (And.intro (fun hh=>hh) (And.intro (fun hh=>hh) (And.intro (fun hG hh=>CD hG hh) ((fun hh=>sH hh)))))))))
 refine oV ?_
 cases hC0
 exact⟨[],by rfl,by rfl,by rfl⟩
def a7v (O:Int):Unit:=
 ()
section
variable (O:Int)
@[reducible] def U1:List Slot:=[(.val (.int .i32) O,none)]
@[reducible] def U2:List Blk:=[]
@[go_sem] def U3:Ret:=⟨[],[(.val .bool ((decide ((127:Int)<O))||(((((!(((decide ((97:Int)≤(IntKind.wrap .u8 O)))&&(decide ((IntKind.wrap .u8 O)≤(122:Int))))||((decide ((65:Int)≤(IntKind.wrap .u8 O)))&&(decide ((IntKind.wrap .u8 O)≤(90:Int))))))&&((decide (O<(48:Int)))||(decide ((57:Int)<O))))&&(!decide (O=(45:Int))))&&(!decide (O=(95:Int))))&&(!decide (O=(46:Int))))),none)],[]⟩
def a7w:List Slot→List Blk→Option Ret:=pM (V:=Int) (fun x=>U1 x) (fun x=>U2) fun x=>U3 x
@[go_sem] theorem aKm:a7w (no_index (U1 O)) (no_index U2)=some (U3 O):=pN (fun a0 b0 h1 h2=>by cases h1;cases h2;rfl) O
end
@[reducible,go_sem] def a7x:Nat×Sig:=(68,⟨[.v],a7w,[],[],none⟩)
theorem U4:Env Tryz.prog [zS,HI] (pE [TZ]):=⟨⟨BD,⟨O5,trivial⟩⟩,oZ a7u pP,pH⟩
theorem aFw:pI Tryz.prog a7x:=by
 refine pO U4 Tryz.func68 (c:=_) rfl (N:=31) (by kernel_rfl) (ts:=[(2,none)]) rfl (fun _ _=>rfl) ?_
 intro O hs hrow
 dsimp only[U1,U2,U3,pK,enumH,pD,pG,pL,Nat.reduceAdd] at hs hrow⊢
 obtain⟨z0,hC0⟩: ∃z,(a7v O)=z:=⟨_,rfl⟩
 try rw[hC0]
 unfold a7v at hC0
 refine oS U4 ?_
 refine oS U4 ?_ (hp:=by exact And.intro (fun hh=>hh) (And.intro (fun hh=>hh) (And.intro (fun hh=>hh) (And.intro (fun hh=>hh) (And.intro (fun hh=>hh) (And.intro (fun hh=>hh) (And.intro (fun hh=>hh) (And.intro (fun hh=>hh) (And.intro (fun hG hh=>y7 hG hh) (And.intro (fun hh=>hh) (And.intro (fun hG hh=>CD hG hh) (And.intro (fun hh=>hh) (And.intro (fun hh=>hh) (And.intro (fun hh=>hh) (And.intro (fun hG hh=>CD hG hh) (And.intro (fun hh=>hh) (And.intro (fun hh=>hh) (And.intro (fun hh=>hh) (And.intro (fun hG hh=>CD hG hh) (And.intro (fun hh=>hh) (And.intro (fun hh=>hh) (And.intro (fun hh=>hh) (And.intro (fun hG hh=>CD hG hh) ((fun hh=>sH hh)))))))))))))))))))))))))
 refine oV ?_
 cases hC0
 exact⟨[],by rfl,by rfl,by rfl⟩
def KJ (O:(List UInt8)):Nat→Option (Nat⊕(Unit⊕Bool)):=fun Z=>
 if (decide (Z<List.length O))=true then
  if (decide (Z<List.length O))=true then
   if (((((decide ((s5 O Z)<(97:Int)))||(decide ((122:Int)<(s5 O Z))))&&((decide ((s5 O Z)<(65:Int)))||(decide ((90:Int)<(s5 O Z)))))&&((decide ((s5 O Z)<(48:Int)))||(decide ((57:Int)<(s5 O Z)))))&&(!decide ((s5 O Z)=(45:Int))))=true then
    some (.inr (.inr (false)))
   else
    some (.inl (wI O Z))
  else none
 else
  some (.inr (.inl ()))
def DX (O:(List UInt8)):Option Bool:=
 qQ (pT (KJ O) 0) fun _=>
 some (((decide ((1:Int)≤(List.length O:Int)))&&(decide ((List.length O:Int)≤(40:Int)))))
section
variable (O:(List UInt8))
@[reducible] def U5:List Slot:=[(.val .str O,none)]
@[reducible] def U6:List Blk:=[]
@[go_sem] def U7:Ret:=⟨[((DX O)).isSome=true],[(.val .bool (val (DX O)),none)],[]⟩
def a7y:List Slot→List Blk→Option Ret:=pM (V:=(List UInt8)) (fun x=>U5 x) (fun x=>U6) fun x=>U7 x
@[go_sem] theorem aKn:a7y (no_index (U5 O)) (no_index U6)=some (U7 O):=pN (fun a0 b0 h1 h2=>by cases h1;cases h2;rfl) O
end
@[reducible,go_sem] def a7z:Nat×Sig:=(71,⟨[.v],a7y,[],[],none⟩)
theorem DY:Env Tryz.prog [q8] (pE []):=⟨⟨qA,trivial⟩,pP,pH⟩
theorem aFx:pI Tryz.prog a7z:=by
 refine pO DY Tryz.func71 (c:=_) rfl (N:=44) (by kernel_rfl) (ts:=[(2,none)]) rfl (fun _ _=>rfl) ?_
 intro O hs hrow
 dsimp only[U5,U6,U7,pK,enumH,pD,pG,pL,Nat.reduceAdd] at hs hrow⊢
 have hz:=hs
 obtain⟨z0,hC0⟩:=Option.isSome_iff_exists.1 hz
 try rw[pW hC0]
 clear hz hs
 unfold DX at hC0
 refine oS DY ?_
 refine p4 ?_
 refine oS DY ?_
 refine pU ?_
 obtain⟨y1,hy1,hC0⟩:=sK hC0
 refine rI 0 (fun s=> ∃v,y1= .inl v∧s=(fun _=>⟨[(0,(.val .str O,none))],[],0,44,0⟩) v) ?_ ?_
 ·refine rH hy1 (fun x=>⟨[(0,(.val .str O,none)),(6,(.val .ref (some (0,0)),none))],[(0,.iter O x)],1,44,0⟩) ⟨[0,6],[(0,32)]⟩ (by rfl) ?_
  intro Z w1 n1 hC1 hN1
  unfold KJ at hC1
  dsimp only at hC1⊢
  refine oS DY ?_
  refine p4 ?_
  refine oX hC1 (fun hC1 hc1=> ?_) (fun hC1 hc1=> ?_)
  ·refine p7 (oW (pU ?_))
   obtain⟨hg1,hC1⟩:=oU hC1
   refine oS DY ?_ (hp:=by exact hg1)
   refine oS DY ?_ (hp:=by exact And.intro (fun hh=>hh) (And.intro (fun hh=>sH hh) (And.intro (fun hh=>hh) (And.intro (fun hh=>hh) (And.intro (fun hh=>hh) (And.intro (fun hh=>hh) (And.intro (fun hG hh=>y7 hG hh) (And.intro (fun hh=>pY hh) (And.intro (fun hh=>hh) (And.intro (fun hh=>hh) (And.intro (fun hh=>hh) (And.intro (fun hh=>hh) (And.intro (fun hG hh=>y7 hG hh) (And.intro (fun hh=>pY hh) (And.intro (fun hh=>hh) ((fun hh=>pY hh)))))))))))))))))
   refine oX hC1 (fun hC1 hc2=> ?_) (fun hC1 hc2=> ?_)
   ·refine oS DY ?_
    refine oV (pR (s8 (s7 (pR (pC ?_)))))
    cases hC1
    cases hN1
    dsimp only at hC0
    cases hC0
    exact⟨[],by rfl,by rfl,by rfl⟩
   ·refine p7 (pB ?_)
    cases hC1
    exact qG ⟨⟨[0,6],[(0,0)]⟩,_,by rfl,hN1⟩
  ·refine qY (r8 (r5 ?_))
   cases hC1
   cases hN1
   exact qZ ⟨⟨[0],[]⟩,_,rfl,by rfl⟩
 ·rintro _ ⟨v,rfl,rfl⟩
  dsimp only at hC0⊢
  refine rF (oW ?_)
  refine oS DY ?_ (hp:=by exact And.intro (fun hh=>hh) (And.intro (fun hh=>hh) ((fun hh=>pY hh))))
  refine oV ?_
  cases hC0
  exact⟨[],by rfl,by rfl,by rfl⟩
attribute [irreducible] DX
end
end Go.Proofs.YtfchbnahjcdiiaaGreatDoor
namespace Go.Proofs.YtfchbnahjcdiiaaGreatDoor
open Vc
set_option maxRecDepth 100000
set_option maxHeartbeats 4000000
set_option linter.unusedSimpArgs false
set_option linter.unusedVariables false
noncomputable section
def a7A (O:(List UInt8)):Unit:=
 ()
section
variable (O:(List UInt8))
@[reducible] def U8:List Slot:=[(.val .str O,none)]
@[reducible] def U9:List Blk:=[]
@[go_sem] def UA:Ret:=⟨[],[(.val .bool false,none)],[]⟩
def a7B:List Slot→List Blk→Option Ret:=pM (V:=(List UInt8)) (fun x=>U8 x) (fun x=>U9) fun x=>UA
@[go_sem] theorem aKo:a7B (no_index (U8 O)) (no_index U9)=some UA:=pN (fun a0 b0 h1 h2=>by cases h1;cases h2;rfl) O
end
@[reducible,go_sem] def OG:Nat×Sig:=(72,⟨[.v],a7B,[],[],none⟩)
theorem UB:Env Tryz.prog [] (pE []):=⟨trivial,pP,pH⟩
theorem UC:pI Tryz.prog OG:=by
 refine pO UB Tryz.func72 (c:=_) rfl (N:=3) (by kernel_rfl) (ts:=[(2,none)]) rfl (fun _ _=>rfl) ?_
 intro O hs hrow
 dsimp only[U8,U9,UA,pK,enumH,pD,pG,pL,Nat.reduceAdd] at hs hrow⊢
 obtain⟨z0,hC0⟩: ∃z,(a7A O)=z:=⟨_,rfl⟩
 try rw[hC0]
 unfold a7A at hC0
 refine oS UB ?_
 refine oS UB ?_
 refine oV ?_
 cases hC0
 exact⟨[],by rfl,by rfl,by rfl⟩
def a7C (O:(List UInt8)):Unit:=
 ()
section
variable (O:(List UInt8))
@[reducible] def UD:List Slot:=[(.val .str O,none)]
@[reducible] def UE:List Blk:=[]
@[go_sem] def UF:Ret:=⟨[],[(.val .bool ((!decide (O=([]:List UInt8)))&&(decide ((List.length O:Int)≤(200:Int)))),none)],[]⟩
def a7D:List Slot→List Blk→Option Ret:=pM (V:=(List UInt8)) (fun x=>UD x) (fun x=>UE) fun x=>UF x
@[go_sem] theorem aKp:a7D (no_index (UD O)) (no_index UE)=some (UF O):=pN (fun a0 b0 h1 h2=>by cases h1;cases h2;rfl) O
end
@[reducible,go_sem] def a7E:Nat×Sig:=(74,⟨[.v],a7D,[],[],none⟩)
theorem UG:Env Tryz.prog [q8] (pE []):=⟨⟨qA,trivial⟩,pP,pH⟩
theorem aFy:pI Tryz.prog a7E:=by
 refine pO UG Tryz.func74 (c:=_) rfl (N:=10) (by kernel_rfl) (ts:=[(2,none)]) rfl (fun _ _=>rfl) ?_
 intro O hs hrow
 dsimp only[UD,UE,UF,pK,enumH,pD,pG,pL,Nat.reduceAdd] at hs hrow⊢
 obtain⟨z0,hC0⟩: ∃z,(a7C O)=z:=⟨_,rfl⟩
 try rw[hC0]
 unfold a7C at hC0
 refine oS UG ?_
 refine oS UG ?_ (hp:=by exact And.intro (fun hh=>hh) (And.intro (fun hh=>hh) ((fun hh=>pY hh))))
 refine oV ?_
 cases hC0
 exact⟨[],by rfl,by rfl,by rfl⟩
def a7F (O:(List UInt8)) (Z:((List UInt8)×(Int×Unit))) (aA:q9) (aB:Int) (aC:Int) (aD:pZ) (aE:((List Int)×(Int×Unit))) (aF:(List ((List UInt8)×Bool))):Unit:=
 ()
section
variable (O:(List UInt8)) (Z:((List UInt8)×(Int×Unit))) (aA:q9) (aB:Int) (aC:Int) (aD:pZ) (aE:((List Int)×(Int×Unit))) (aF:Nat) (aG:Nat) (aH:(List ((List UInt8)×Bool)))
@[reducible] def UH:List Slot:=[(.val .str O,none),(.val .ref (some (0,0)),none)]
@[reducible] def UI:List Blk:=[.cells .ref (some (1,0)) [],.cells q7 (Z,(aA,(aB,(aC,(aD,((some 4),aE)))))) [(11,2),(13,3)],.grow 52 7 aF,.grow 3 1 aG,.map .str .bool aH]
@[go_sem] def UJ:Ret:=⟨[aF=(List.length aD.2.2.2.1),aG=(List.length aE.1)],[(.val .bool (qD .str .bool aH O),none)],[.cells .ref (some (1,0)) [],.cells q7 ((Z.1,(Z.2.1,())),((aA.1,(aA.2.1,(aA.2.2.1,(aA.2.2.2.1,())))),(aB,(aC,((aD.1,(aD.2.1,(aD.2.2.1,(aD.2.2.2.1,())))),((some 4),(aE.1,(aE.2.1,())))))))) [(11,2),(13,3)],.grow 52 7 (List.length aD.2.2.2.1),.grow 3 1 (List.length aE.1),.map .str .bool aH]⟩
def a7G:List Slot→List Blk→Option Ret:=pM (V:=((List UInt8)×((List UInt8)×(Int×Unit))×q9×Int×Int×pZ×((List Int)×(Int×Unit))×Nat×Nat×(List ((List UInt8)×Bool)))) (fun x=>UH x.1) (fun x=>UI x.2.1 x.2.2.1 x.2.2.2.1 x.2.2.2.2.1 x.2.2.2.2.2.1 x.2.2.2.2.2.2.1 x.2.2.2.2.2.2.2.1 x.2.2.2.2.2.2.2.2.1 x.2.2.2.2.2.2.2.2.2) fun x=>UJ x.1 x.2.1 x.2.2.1 x.2.2.2.1 x.2.2.2.2.1 x.2.2.2.2.2.1 x.2.2.2.2.2.2.1 x.2.2.2.2.2.2.2.1 x.2.2.2.2.2.2.2.2.1 x.2.2.2.2.2.2.2.2.2
@[go_sem] theorem aKq:a7G (no_index (UH O)) (no_index (UI Z aA aB aC aD aE aF aG aH))=some (UJ O Z aA aB aC aD aE aF aG aH):=pN (fun⟨a0,a1,a2,a3,a4,a5,a6,a7,a8,a9⟩ ⟨b0,b1,b2,b3,b4,b5,b6,b7,b8,b9⟩ h1 h2=>by cases h1;cases h2;rfl) (O,Z,aA,aB,aC,aD,aE,aF,aG,aH)
end
@[reducible,go_sem] def a7H:Nat×Sig:=(75,⟨[.v,.p .ref []],a7G,[(0,0,.p q7 [11,13]),(1,12,.m)],[0,1,2,3,4],none⟩)
theorem UK:Env Tryz.prog [BE,q8,O6,FU,vE] (pE []):=⟨⟨DU,⟨qA,⟨a67,⟨KE,⟨wL,trivial⟩⟩⟩⟩⟩,pP,pH⟩
theorem aFz:pI Tryz.prog a7H:=by
 refine pO UK Tryz.func75 (c:=_) rfl (N:=10) (by kernel_rfl) (ts:=[(3,none)]) rfl (fun _ _=>rfl) ?_
 intro⟨O,Z,aA,aB,aC,aD,aE,aF,aG,aH⟩ hs hrow
 dsimp only[UH,UI,UJ,pK,enumH,pD,pG,pL,Nat.reduceAdd] at hs hrow⊢
 obtain⟨rfl,rfl⟩:=hs
 obtain⟨z0,hC0⟩: ∃z,(a7F O Z aA aB aC aD aE aH)=z:=⟨_,rfl⟩
 try rw[hC0]
 unfold a7F at hC0
 refine oS UK ?_
 refine oS UK ?_
 refine oV ?_
 cases hC0
 exact⟨[(0,0),(1,1),(2,2),(3,3),(4,4)],by rfl,by rfl,by rfl⟩
def tP (O:tC) (Z:q9) (aA:Int):(Int×Int):=
 if (decide (O.2.2.2.1=(0:Int)))=true then
  (Z.2.2.1,aA)
 else
  (O.2.2.1,O.2.2.2.1)
section
variable (O:tC) (Z:q9) (aA:Int)
@[reducible] def UL:List Slot:=[(.val s0 O,none),(.val uT Z,none),(.val (.int .i64) aA,none)]
@[reducible] def UM:List Blk:=[]
@[go_sem] def UN:Ret:=⟨[],[(.val s0 (O.1,(O.2.1,((tP O Z aA).1,((tP O Z aA).2,((O.2.2.2.2.1.1,(O.2.2.2.2.1.2.1,(O.2.2.2.2.1.2.2.1,(O.2.2.2.2.1.2.2.2.1,())))),(O.2.2.2.2.2.1,())))))),none)],[]⟩
def a7I:List Slot→List Blk→Option Ret:=pM (V:=(tC×q9×Int)) (fun x=>UL x.1 x.2.1 x.2.2) (fun x=>UM) fun x=>UN x.1 x.2.1 x.2.2
@[go_sem] theorem aKr:a7I (no_index (UL O Z aA)) (no_index UM)=some (UN O Z aA):=pN (fun⟨a0,a1,a2⟩ ⟨b0,b1,b2⟩ h1 h2=>by cases h1;cases h2;rfl) (O,Z,aA)
end
@[reducible,go_sem] def DZ:Nat×Sig:=(78,⟨[.v,.v,.v],a7I,[],[],none⟩)
theorem HM:Env Tryz.prog [sE,w4,AI,AJ] (pE []):=⟨⟨sL,⟨xI,⟨CG,⟨CH,trivial⟩⟩⟩⟩,pP,pH⟩
theorem FX:pI Tryz.prog DZ:=by
 refine pO HM Tryz.func78 (c:=_) rfl (N:=16) (by kernel_rfl) (ts:=[(6,some 91)]) rfl (fun _ _=>rfl) ?_
 intro⟨O,Z,aA⟩ hs hrow
 dsimp only[UL,UM,UN,pK,enumH,pD,pG,pL,Nat.reduceAdd] at hs hrow⊢
 obtain⟨z0,hC0⟩: ∃z,(tP O Z aA)=z:=⟨_,rfl⟩
 try rw[hC0]
 unfold tP at hC0
 refine oS HM ?_
 refine p4 ?_
 refine oS HM ?_
 refine oX hC0 (fun hC0 hc1=> ?_) (fun hC0 hc1=> ?_)
 ·refine pF HM ?_
  refine oW ?_
  refine oS HM ?_
  refine oV ?_
  cases hC0
  exact⟨[],by rfl,by rfl,by rfl⟩
 ·refine p7 (oW ?_)
  refine oS HM ?_
  refine oV ?_
  cases hC0
  exact⟨[],by rfl,by rfl,by rfl⟩
def E0 (O:(List UInt8)) (Z:Int) (aA:(List UInt8)):Option Unit:=
 if oT ((List.length O:Int)-Z) then
  if (((decide ((List.length aA:Int)≤((List.length O:Int)-Z)))==true)=true→oT (Z+(List.length aA:Int))) then
   if (((decide ((List.length aA:Int)≤((List.length O:Int)-Z)))==true)=true→0≤Z∧Z≤(Z+(List.length aA:Int))∧(Z+(List.length aA:Int))≤(List.length O:Int)) then
    some (())
   else none
  else none
 else none
section
variable (O:(List UInt8)) (Z:Int) (aA:(List UInt8))
@[reducible] def UO:List Slot:=[(.val .str O,none),(.val (.int .i64) Z,none),(.val .str aA,none)]
@[reducible] def UP:List Blk:=[]
@[go_sem] def UQ:Ret:=⟨[((E0 O Z aA)).isSome=true],[(.val .bool ((decide ((List.length aA:Int)≤((List.length O:Int)-Z)))&&(decide ((p5 O Z (Z+(List.length aA:Int)))=aA))),none)],[]⟩
def a7J:List Slot→List Blk→Option Ret:=pM (V:=((List UInt8)×Int×(List UInt8))) (fun x=>UO x.1 x.2.1 x.2.2) (fun x=>UP) fun x=>UQ x.1 x.2.1 x.2.2
@[go_sem] theorem aKs:a7J (no_index (UO O Z aA)) (no_index UP)=some (UQ O Z aA):=pN (fun⟨a0,a1,a2⟩ ⟨b0,b1,b2⟩ h1 h2=>by cases h1;cases h2;rfl) (O,Z,aA)
end
@[reducible,go_sem] def a7K:Nat×Sig:=(80,⟨[.v,.v,.v],a7J,[],[],none⟩)
theorem UR:Env Tryz.prog [q8] (pE []):=⟨⟨qA,trivial⟩,pP,pH⟩
theorem aFA:pI Tryz.prog a7K:=by
 refine pO UR Tryz.func80 (c:=_) rfl (N:=25) (by kernel_rfl) (ts:=[(6,none)]) rfl (fun _ _=>rfl) ?_
 intro⟨O,Z,aA⟩ hs hrow
 dsimp only[UO,UP,UQ,pK,enumH,pD,pG,pL,Nat.reduceAdd] at hs hrow⊢
 have hz:=hs
 obtain⟨z0,hC0⟩:=Option.isSome_iff_exists.1 hz
 try rw[pW hC0]
 clear hz hs
 unfold E0 at hC0
 refine oS UR ?_
 obtain⟨hg1,hC0⟩:=oU hC0
 obtain⟨hg2,hC0⟩:=oU hC0
 obtain⟨hg3,hC0⟩:=oU hC0
 refine oS UR ?_ (hp:=by exact And.intro hg1 (And.intro (fun hh=>hh) (And.intro (fun hh=>hh) (And.intro (fun hh=>hh) (And.intro hg2 (And.intro (fun hh=>hh) (And.intro (fun hh=>hh) (And.intro (fun hh=>hh) (And.intro hg3 (And.intro (fun hh=>hh) (And.intro (fun hh=>hh) ((fun hh=>pY hh)))))))))))))
 refine oV ?_
 cases hC0
 exact⟨[],by rfl,by rfl,by rfl⟩
attribute [irreducible] E0
def KK (O:pZ) (Z:(List UInt8)):Int→Option (Int⊕(Unit⊕(Int×Bool))):=fun aA=>
 if (decide (aA<(List.length O.2.2.2.1:Int)))=true then
  if 0≤aA∧aA<(List.length O.2.2.2.1:Int) then
   if (decide ((qB qH O.2.2.2.1 aA).1=Z))=true then
    some (.inr (.inr ((aA,true))))
   else
    if oT (aA+(1:Int)) then
     some (.inl (aA+(1:Int)))
    else none
  else none
 else
  some (.inr (.inl ()))
def E1 (O:pZ) (Z:(List UInt8)):Option (Int×Bool):=
 qQ (pT (KK O Z) (0:Int)) fun _=>
 some (((0:Int),false))
section
variable (O:pZ) (Z:(List UInt8))
@[reducible] def US:List Slot:=[(.val y9 O,none),(.val .str Z,none)]
@[reducible] def UT:List Blk:=[]
@[go_sem] def UU:Ret:=⟨[((E1 O Z)).isSome=true],[(.val (.int .i64) ((val (E1 O Z)).1),none),(.val .bool ((val (E1 O Z)).2),none)],[]⟩
def a7L:List Slot→List Blk→Option Ret:=pM (V:=(pZ×(List UInt8))) (fun x=>US x.1 x.2) (fun x=>UT) fun x=>UU x.1 x.2
@[go_sem] theorem aKt:a7L (no_index (US O Z)) (no_index UT)=some (UU O Z):=pN (fun⟨a0,a1⟩ ⟨b0,b1⟩ h1 h2=>by cases h1;cases h2;rfl) (O,Z)
end
@[reducible,go_sem] def a7M:Nat×Sig:=(81,⟨[.v,.v],a7L,[],[],none⟩)
theorem E2:Env Tryz.prog [q8,DW,yB,xH] (pE []):=⟨⟨qA,⟨HJ,⟨zT,⟨yW,trivial⟩⟩⟩⟩,pP,pH⟩
theorem aFB:pI Tryz.prog a7M:=by
 refine pO E2 Tryz.func81 (c:=_) rfl (N:=23) (by kernel_rfl) (ts:=[(4,none),(5,none)]) rfl (fun _ _=>rfl) ?_
 intro⟨O,Z⟩ hs hrow
 dsimp only[US,UT,UU,pK,enumH,pD,pG,pL,Nat.reduceAdd] at hs hrow⊢
 have hz:=hs
 obtain⟨z0,hC0⟩:=Option.isSome_iff_exists.1 hz
 try rw[pW hC0]
 clear hz hs
 unfold E1 at hC0
 refine oS E2 ?_
 refine p4 ?_
 refine oS E2 ?_
 refine pU ?_
 obtain⟨y1,hy1,hC0⟩:=sK hC0
 refine rI 0 (fun s=> ∃v,y1= .inl v∧s=(fun _=>⟨[],[],0,23,0⟩) v) ?_ ?_
 ·refine rH hy1 (fun x=>⟨[(1,(.val .str Z,none)),(2,(.val .ref (some (0,0)),none)),(6,(.val (.int .i64) x,none))],[(0,.cells y9 O [])],1,23,0⟩) ⟨[1,2,6],[(0,0)]⟩ (by rfl) ?_
  intro aA w1 n1 hC1 hN1
  unfold KK at hC1
  dsimp only at hC1⊢
  refine p4 ?_
  refine oS E2 ?_
  refine oX hC1 (fun hC1 hc1=> ?_) (fun hC1 hc1=> ?_)
  ·refine p7 (oW (p4 (pU ?_)))
   obtain⟨hg1,hC1⟩:=oU hC1
   refine oS E2 ?_ (hp:=by exact hg1)
   refine oX hC1 (fun hC1 hc2=> ?_) (fun hC1 hc2=> ?_)
   ·refine oS E2 ?_
    refine oV (pR (pC (s8 (s7 (pR (pC ?_))))))
    cases hC1
    cases hN1
    dsimp only at hC0
    cases hC0
    exact⟨[],by rfl,by rfl,by rfl⟩
   ·refine p7 (pB (oW ?_))
    obtain⟨hg2,hC1⟩:=oU hC1
    refine pF E2 ?_ (hp:=by exact hg2)
    cases hC1
    exact qG ⟨⟨[1,2,6],[(0,0)]⟩,_,by rfl,hN1⟩
  ·refine qY (r8 (r5 ?_))
   cases hC1
   cases hN1
   exact qZ ⟨⟨[],[]⟩,_,rfl,by rfl⟩
 ·rintro _ ⟨v,rfl,rfl⟩
  dsimp only at hC0⊢
  refine rF (oW ?_)
  refine oS E2 ?_
  refine oV ?_
  cases hC0
  exact⟨[],by rfl,by rfl,by rfl⟩
attribute [irreducible] E1
def KL (O:(List p6)) (Z:(List UInt8)):Int→Option (Int⊕(Unit⊕((List UInt8)×Bool))):=fun aA=>
 if (decide (aA<(List.length O:Int)))=true then
  if 0≤aA∧aA<(List.length O:Int) then
   if (decide ((qB (.pair .str (.pair .str .unit)) O aA).1=Z))=true then
    if 0≤aA∧aA<(List.length O:Int) then
     some (.inr (.inr (((qB (.pair .str (.pair .str .unit)) O aA).2.1,true))))
    else none
   else
    if oT (aA+(1:Int)) then
     some (.inl (aA+(1:Int)))
    else none
  else none
 else
  some (.inr (.inl ()))
def E3 (O:(List p6)) (Z:(List UInt8)):Option ((List UInt8)×Bool):=
 qQ (pT (KL O Z) (0:Int)) fun _=>
 some ((([]:List UInt8),false))
section
variable (O:(List p6)) (Z:(List UInt8))
@[reducible] def UV:List Slot:=[(.val (.list (.pair .str (.pair .str .unit))) O,none),(.val .str Z,none)]
@[reducible] def UW:List Blk:=[]
@[go_sem] def UX:Ret:=⟨[((E3 O Z)).isSome=true],[(.val .str ((val (E3 O Z)).1),none),(.val .bool ((val (E3 O Z)).2),none)],[]⟩
def a7N:List Slot→List Blk→Option Ret:=pM (V:=((List p6)×(List UInt8))) (fun x=>UV x.1 x.2) (fun x=>UW) fun x=>UX x.1 x.2
@[go_sem] theorem aKu:a7N (no_index (UV O Z)) (no_index UW)=some (UX O Z):=pN (fun⟨a0,a1⟩ ⟨b0,b1⟩ h1 h2=>by cases h1;cases h2;rfl) (O,Z)
end
@[reducible,go_sem] def a7O:Nat×Sig:=(107,⟨[.v,.v],a7N,[],[],none⟩)
theorem E4:Env Tryz.prog [q8,yA,AH] (pE []):=⟨⟨qA,⟨zR,⟨CF,trivial⟩⟩⟩,pP,pH⟩
theorem aFC:pI Tryz.prog a7O:=by
 refine pO E4 Tryz.func107 (c:=_) rfl (N:=25) (by kernel_rfl) (ts:=[(4,none),(5,none)]) rfl (fun _ _=>rfl) ?_
 intro⟨O,Z⟩ hs hrow
 dsimp only[UV,UW,UX,pK,enumH,pD,pG,pL,Nat.reduceAdd] at hs hrow⊢
 have hz:=hs
 obtain⟨z0,hC0⟩:=Option.isSome_iff_exists.1 hz
 try rw[pW hC0]
 clear hz hs
 unfold E3 at hC0
 refine oS E4 ?_
 refine p4 ?_
 refine oS E4 ?_
 refine pU ?_
 obtain⟨y1,hy1,hC0⟩:=sK hC0
 refine rI 0 (fun s=> ∃v,y1= .inl v∧s=(fun _=>⟨[],[],0,25,0⟩) v) ?_ ?_
 ·refine rH hy1 (fun x=>⟨[(0,(.val (.list (.pair .str (.pair .str .unit))) O,none)),(1,(.val .str Z,none)),(6,(.val (.int .i64) x,none))],[],0,25,0⟩) ⟨[0,1,6],[]⟩ (by rfl) ?_
  intro aA w1 n1 hC1 hN1
  unfold KL at hC1
  dsimp only at hC1⊢
  refine p4 ?_
  refine oS E4 ?_
  refine oX hC1 (fun hC1 hc1=> ?_) (fun hC1 hc1=> ?_)
  ·refine p7 (oW (p4 (pU ?_)))
   obtain⟨hg1,hC1⟩:=oU hC1
   refine oS E4 ?_ (hp:=by exact hg1)
   refine oX hC1 (fun hC1 hc2=> ?_) (fun hC1 hc2=> ?_)
   ·obtain⟨hg2,hC1⟩:=oU hC1
    refine oS E4 ?_ (hp:=by exact hg2)
    refine oV (pR (pC (s8 (s7 (pR (pC ?_))))))
    cases hC1
    cases hN1
    dsimp only at hC0
    cases hC0
    exact⟨[],by rfl,by rfl,by rfl⟩
   ·refine p7 (pB (oW ?_))
    obtain⟨hg3,hC1⟩:=oU hC1
    refine pF E4 ?_ (hp:=by exact hg3)
    cases hC1
    exact qG ⟨⟨[0,1,6],[]⟩,_,by rfl,hN1⟩
  ·refine qY (r8 (r5 ?_))
   cases hC1
   cases hN1
   exact qZ ⟨⟨[],[]⟩,_,rfl,by rfl⟩
 ·rintro _ ⟨v,rfl,rfl⟩
  dsimp only at hC0⊢
  refine rF (oW ?_)
  refine oS E4 ?_
  refine oV ?_
  cases hC0
  exact⟨[],by rfl,by rfl,by rfl⟩
attribute [irreducible] E3
def a7P (O:((List UInt8)×(Int×Unit))) (Z:q9) (aA:Int) (aB:Int) (aC:pZ) (aD:((List Int)×(Int×Unit))) (aE:Int) (aF:(List UInt8)) (aG:(List ((List UInt8)×Bool))):Unit:=
 ()
section
variable (O:Int) (Z:(List UInt8)) (aA:((List UInt8)×(Int×Unit))) (aB:q9) (aC:Int) (aD:Int) (aE:pZ) (aF:((List Int)×(Int×Unit))) (aG:Nat) (aH:Nat) (aI:(List ((List UInt8)×Bool)))
@[reducible] def UY:List Slot:=[(.val .ref (some (0,0)),none),(.val (.int .i64) O,none),(.val .str Z,none)]
@[reducible] def UZ:List Blk:=[.cells q7 (aA,(aB,(aC,(aD,(aE,((some 3),aF)))))) [(11,1),(13,2)],.grow 52 7 aG,.grow 3 1 aH,.map .str .bool aI]
@[go_sem] def V0:Ret:=⟨[aG=(List.length aE.2.2.2.1),aH=(List.length aF.1)],[(.val .bool (((decide (aD=(0:Int)))&&(decide (aB.1=O)))&&(decide (aB.2.1=Z))),none)],[.cells q7 ((aA.1,(aA.2.1,())),((aB.1,(aB.2.1,(aB.2.2.1,(aB.2.2.2.1,())))),(aC,(aD,((aE.1,(aE.2.1,(aE.2.2.1,(aE.2.2.2.1,())))),((some 3),(aF.1,(aF.2.1,())))))))) [(11,1),(13,2)],.grow 52 7 (List.length aE.2.2.2.1),.grow 3 1 (List.length aF.1),.map .str .bool aI]⟩
def a7Q:List Slot→List Blk→Option Ret:=pM (V:=(Int×(List UInt8)×((List UInt8)×(Int×Unit))×q9×Int×Int×pZ×((List Int)×(Int×Unit))×Nat×Nat×(List ((List UInt8)×Bool)))) (fun x=>UY x.1 x.2.1) (fun x=>UZ x.2.2.1 x.2.2.2.1 x.2.2.2.2.1 x.2.2.2.2.2.1 x.2.2.2.2.2.2.1 x.2.2.2.2.2.2.2.1 x.2.2.2.2.2.2.2.2.1 x.2.2.2.2.2.2.2.2.2.1 x.2.2.2.2.2.2.2.2.2.2) fun x=>V0 x.1 x.2.1 x.2.2.1 x.2.2.2.1 x.2.2.2.2.1 x.2.2.2.2.2.1 x.2.2.2.2.2.2.1 x.2.2.2.2.2.2.2.1 x.2.2.2.2.2.2.2.2.1 x.2.2.2.2.2.2.2.2.2.1 x.2.2.2.2.2.2.2.2.2.2
@[go_sem] theorem aKv:a7Q (no_index (UY O Z)) (no_index (UZ aA aB aC aD aE aF aG aH aI))=some (V0 O Z aA aB aC aD aE aF aG aH aI):=pN (fun⟨a0,a1,a2,a3,a4,a5,a6,a7,a8,a9,a10⟩ ⟨b0,b1,b2,b3,b4,b5,b6,b7,b8,b9,b10⟩ h1 h2=>by cases h1;cases h2;rfl) (O,Z,aA,aB,aC,aD,aE,aF,aG,aH,aI)
end
@[reducible,go_sem] def a7R:Nat×Sig:=(113,⟨[.p q7 [11,13],.v,.v],a7Q,[(0,12,.m)],[0,1,2,3],none⟩)
theorem V1:Env Tryz.prog [sE,q8,w4,wM,vE] (pE []):=⟨⟨sL,⟨qA,⟨xI,⟨yC,⟨wL,trivial⟩⟩⟩⟩⟩,pP,pH⟩
theorem aFD:pI Tryz.prog a7R:=by
 refine pO V1 Tryz.func113 (c:=_) rfl (N:=30) (by kernel_rfl) (ts:=[(6,none)]) rfl (fun _ _=>rfl) ?_
 intro⟨O,Z,aA,aB,aC,aD,aE,aF,aG,aH,aI⟩ hs hrow
 dsimp only[UY,UZ,V0,pK,enumH,pD,pG,pL,Nat.reduceAdd] at hs hrow⊢
 obtain⟨rfl,rfl⟩:=hs
 obtain⟨z0,hC0⟩: ∃z,(a7P aA aB aC aD aE aF O Z aI)=z:=⟨_,rfl⟩
 try rw[hC0]
 unfold a7P at hC0
 refine oS V1 ?_
 refine oS V1 ?_ (hp:=by exact And.intro (fun hh=>hh) (And.intro (fun hh=>hh) (And.intro (fun hh=>hh) (And.intro (fun hh=>hh) (And.intro (fun hh=>hh) (And.intro (fun hh=>hh) (And.intro (fun hh=>pY hh) (And.intro (fun hh=>hh) (And.intro (fun hh=>hh) (And.intro (fun hh=>hh) (And.intro (fun hh=>hh) (And.intro (fun hh=>hh) (And.intro (fun hh=>hh) ((fun hh=>pY hh)))))))))))))))
 refine oV ?_
 cases hC0
 exact⟨[(0,0),(1,1),(2,2),(3,3)],by rfl,by rfl,by rfl⟩
end
end Go.Proofs.YtfchbnahjcdiiaaGreatDoor
namespace Go.Proofs.YtfchbnahjcdiiaaGreatDoor
open Vc
set_option maxRecDepth 100000
set_option maxHeartbeats 4000000
set_option linter.unusedSimpArgs false
set_option linter.unusedVariables false
noncomputable section
def KM (O:(List p6)) (Z:(List UInt8)) (aA:(List UInt8)):Int→Option (Int⊕(Unit⊕(List p6))):=fun aB=>
 if (decide (aB<(((List.length (([]:List p6)++O)):Nat):Int)))=true then
  if 0≤aB∧aB<(((List.length (([]:List p6)++O)):Nat):Int) then
   if (decide ((qB (.pair .str (.pair .str .unit)) (([]:List p6)++O) aB).1=Z))=true then
    if 0≤aB∧aB<(((List.length (([]:List p6)++O)):Nat):Int) then
     some (.inr (.inr ((List.set (([]:List p6)++O) (Int.toNat aB) ((qB (.pair .str (.pair .str .unit)) (([]:List p6)++O) aB).1,(aA,(qB (.pair .str (.pair .str .unit)) (([]:List p6)++O) aB).2.2))))))
    else none
   else
    if oT (aB+(1:Int)) then
     some (.inl (aB+(1:Int)))
    else none
  else none
 else
  some (.inr (.inl ()))
def FY (O:(List p6)) (Z:(List UInt8)):Int→Option (Int⊕Int):=fun aA=>
 if (((decide (aA<(List.length O:Int)))==true)=true→0≤aA∧aA<(List.length O:Int)) then
  if ((decide (aA<(List.length O:Int)))&&(Op.bytesLess (qB (.pair .str (.pair .str .unit)) O aA).1 Z||decide ((qB (.pair .str (.pair .str .unit)) O aA).1=Z)))=true then
   if oT (aA+(1:Int)) then
    some (.inl (aA+(1:Int)))
   else none
  else
   some (.inr aA)
 else none
def E6 (O:(List p6)) (Z:(List UInt8)) (aA:(List UInt8)):Option (List p6):=
 if (0+List.length O)*32≤140737488355328 then
  qQ (pT (KM O Z aA) (0:Int)) fun _=>
  qE (pT (FY O Z) (0:Int)) fun aB=>
  if 0≤(0:Int)∧(0:Int)≤aB∧aB≤(List.length O:Int) then
   if (0+List.length (p5 O (0:Int) aB))*32≤140737488355328 then
    if ((List.length (([]:List p6)++(p5 O (0:Int) aB)))+List.length ([(Z,(aA,()))]:List p6))*32≤140737488355328 then
     if 0≤aB∧aB≤(List.length O:Int)∧(List.length O:Int)≤(List.length O:Int) then
      if ((List.length ((([]:List p6)++(p5 O (0:Int) aB))++([(Z,(aA,()))]:List p6)))+List.length (p5 O aB (List.length O:Int)))*32≤140737488355328 then
       some ((((([]:List p6)++(p5 O (0:Int) aB))++([(Z,(aA,()))]:List p6))++(p5 O aB (List.length O:Int))))
      else none
     else none
    else none
   else none
  else none
 else none
section
variable (O:(List p6)) (Z:(List UInt8)) (aA:(List UInt8))
@[reducible] def V2:List Slot:=[(.val (.list (.pair .str (.pair .str .unit))) O,none),(.val .str Z,none),(.val .str aA,none)]
@[reducible] def V3:List Blk:=[]
@[go_sem] def V4:Ret:=⟨[((E6 O Z aA)).isSome=true],[(.val (.list (.pair .str (.pair .str .unit))) (val (E6 O Z aA)),some 0)],[.grow 144 2 (List.length (val (E6 O Z aA)))]⟩
def a7S:List Slot→List Blk→Option Ret:=pM (V:=((List p6)×(List UInt8)×(List UInt8))) (fun x=>V2 x.1 x.2.1 x.2.2) (fun x=>V3) fun x=>V4 x.1 x.2.1 x.2.2
@[go_sem] theorem aKw:a7S (no_index (V2 O Z aA)) (no_index V3)=some (V4 O Z aA):=pN (fun⟨a0,a1,a2⟩ ⟨b0,b1,b2⟩ h1 h2=>by cases h1;cases h2;rfl) (O,Z,aA)
end
@[reducible,go_sem] def a7T:Nat×Sig:=(108,⟨[.v,.v,.v],a7S,[],[],none⟩)
theorem yY:Env Tryz.prog [q8,KF,AH] (pE []):=⟨⟨qA,⟨T9,⟨CF,trivial⟩⟩⟩,pP,pH⟩
theorem aFE:pI Tryz.prog a7T:=by
 refine pO yY Tryz.func108 (c:=_) rfl (N:=61) (by kernel_rfl) (ts:=[(6,none)]) rfl (fun _ _=>rfl) ?_
 intro⟨O,Z,aA⟩ hs hrow
 dsimp only[V2,V3,V4,pK,enumH,pD,pG,pL,Nat.reduceAdd] at hs hrow⊢
 have hz:=hs
 obtain⟨z0,hC0⟩:=Option.isSome_iff_exists.1 hz
 try rw[pW hC0]
 clear hz hs
 unfold E6 at hC0
 refine oS yY ?_
 obtain⟨hg1,hC0⟩:=oU hC0
 refine oS yY ?_ (hp:=by exact And.intro (by first|exact rfl|exact trivial) (hg1))
 refine p4 ?_
 refine oS yY ?_
 refine pU ?_
 obtain⟨y1,hy1,hC0⟩:=sK hC0
 refine rI 0 (fun s=> ∃v,y1= .inl v∧s=(fun _=>⟨[(0,(.val (.list (.pair .str (.pair .str .unit))) O,none)),(1,(.val .str Z,none)),(2,(.val .str aA,none))],[],0,61,0⟩) v) ?_ ?_
 ·refine rH hy1 (fun x=>⟨[(0,(.val (.list (.pair .str (.pair .str .unit))) O,none)),(1,(.val .str Z,none)),(2,(.val .str aA,none)),(7,(.own 0 (List.length (([]:List p6)++O)),none)),(8,(.val (.int .i64) x,none))],[(0,.row 144 (.pair .str (.pair .str .unit)) (([]:List p6)++O) (List.length (([]:List p6)++O)))],1,61,0⟩) ⟨[0,1,2,7,8],[(0,16)]⟩ (by rfl) ?_
  intro aB w1 n1 hC1 hN1
  unfold KM at hC1
  dsimp only at hC1⊢
  refine p4 ?_
  refine oS yY ?_
  refine oX hC1 (fun hC1 hc1=> ?_) (fun hC1 hc1=> ?_)
  ·refine p7 (oW (p4 (pU ?_)))
   obtain⟨hg2,hC1⟩:=oU hC1
   refine oS yY ?_ (hp:=by exact And.intro hg2 ((by first|exact rfl|exact trivial)))
   refine oX hC1 (fun hC1 hc2=> ?_) (fun hC1 hc2=> ?_)
   ·obtain⟨hg3,hC1⟩:=oU hC1
    refine oS yY ?_ (hp:=by exact And.intro hg3 ((by first|exact rfl|exact trivial)))
    refine oS yY ?_
    refine K5 0 rfl (by repeat' (first|exact trivial|apply And.intro|exact(fun _=>rfl) |exact(fun h=>absurd h (by decide)))) ?_
    refine oV (pR (pC (s8 (s7 (pR (pC ?_))))))
    cases hC1
    cases hN1
    dsimp only at hC0
    cases hC0
    exact⟨[(0,0)],by rfl,by rfl,by rfl⟩
   ·refine p7 (pB (oW ?_))
    obtain⟨hg4,hC1⟩:=oU hC1
    refine pF yY ?_ (hp:=by exact hg4)
    cases hC1
    exact qG ⟨⟨[0,1,2,7,8],[(0,0)]⟩,_,by rfl,hN1⟩
  ·refine qY (r8 (r5 ?_))
   cases hC1
   cases hN1
   exact qZ ⟨⟨[0,1,2],[]⟩,_,rfl,by rfl⟩
 ·rintro _ ⟨v,rfl,rfl⟩
  dsimp only at hC0⊢
  refine rF (oW ?_)
  refine oS yY ?_
  refine p4 (pU ?_)
  obtain⟨aC,hy1,hC0⟩:=oY hC0
  refine rI 2 (fun s=>s=(fun x=>⟨[(0,(.val (.list (.pair .str (.pair .str .unit))) O,none)),(1,(.val .str Z,none)),(2,(.val .str aA,none)),(9,(.val (.int .i64) x,none))],[],0,61,0⟩) aC) ?_ ?_
  ·refine rH hy1 (fun x=>⟨[(0,(.val (.list (.pair .str (.pair .str .unit))) O,none)),(1,(.val .str Z,none)),(2,(.val .str aA,none)),(9,(.val (.int .i64) x,none))],[],0,61,0⟩) ⟨[0,1,2,9],[]⟩ (by rfl) ?_
   intro aD w1 n1 hC1 hN1
   unfold FY at hC1
   dsimp only at hC1⊢
   refine p4 ?_
   obtain⟨hg5,hC1⟩:=oU hC1
   refine oS yY ?_ (hp:=by exact And.intro (fun hh=>hh) (And.intro (fun hh=>hh) (And.intro hg5 (And.intro (fun hh=>hh) (And.intro (fun hh=>hh) (And.intro (fun hh=>hh) (And.intro (fun hh=>hh) ((fun hh=>pY hh)))))))))
   refine oX hC1 (fun hC1 hc3=> ?_) (fun hC1 hc3=> ?_)
   ·refine p7 (oW (pU ?_))
    obtain⟨hg6,hC1⟩:=oU hC1
    refine pF yY ?_ (hp:=by exact hg6)
    refine pB ?_
    cases hC1
    exact qG ⟨⟨[0,1,2,9],[]⟩,_,by rfl,hN1⟩
   ·refine qY (r8 (r5 ?_))
    cases hC1
    cases hN1
    exact qZ ⟨⟨[0,1,2,9],[]⟩,by rfl⟩
  ·rintro _ rfl
   dsimp only at hC0⊢
   refine rF (oW ?_)
   obtain⟨hg7,hC0⟩:=oU hC0
   obtain⟨hg8,hC0⟩:=oU hC0
   obtain⟨hg9,hC0⟩:=oU hC0
   obtain⟨hg10,hC0⟩:=oU hC0
   obtain⟨hg11,hC0⟩:=oU hC0
   refine qR yY ?_ (hp:=by exact And.intro hg7 (And.intro (by first|exact rfl|exact trivial) (And.intro hg8 (And.intro (by first|exact rfl|exact trivial) (And.intro hg9 (And.intro hg10 (And.intro (by first|exact rfl|exact trivial) (hg11))))))))
   refine O0 ⟨[0,1,2,9,48,49,50,52,53,54,55,57,58,59,60,6],[(0,0),(128,128)]⟩ ?_
   simp only[go_sem,Nat.max_def]
   refine K5 0 rfl (by repeat' (first|exact trivial|apply And.intro|exact(fun _=>rfl) |exact(fun h=>absurd h (by decide)))) ?_
   refine oV ?_
   cases hC0
   exact⟨[(0,0)],by rfl,by rfl,by rfl⟩
attribute [irreducible] E6
def s9 (O:((List UInt8)×(Int×Unit))) (Z:q9) (aA:Int) (aB:Int) (aC:pZ) (aD:((List Int)×(Int×Unit))) (aE:Int) (aF:(List ((List UInt8)×Bool))):(Int×Int):=
 if (decide (aB=(0:Int)))=true then
  (Z.2.2.1,aE)
 else
  (aA,aB)
section
variable (O:Int) (Z:((List UInt8)×(Int×Unit))) (aA:q9) (aB:Int) (aC:Int) (aD:pZ) (aE:((List Int)×(Int×Unit))) (aF:Nat) (aG:Nat) (aH:(List ((List UInt8)×Bool)))
@[reducible] def V5:List Slot:=[(.val .ref (some (0,0)),none),(.val (.int .i64) O,none)]
@[reducible] def V6:List Blk:=[.cells q7 (Z,(aA,(aB,(aC,(aD,((some 3),aE)))))) [(11,1),(13,2)],.grow 52 7 aF,.grow 3 1 aG,.map .str .bool aH]
@[go_sem] def V7:Ret:=⟨[aF=(List.length aD.2.2.2.1),aG=(List.length aE.1)],[],[.cells q7 ((Z.1,(Z.2.1,())),((aA.1,(aA.2.1,(aA.2.2.1,(aA.2.2.2.1,())))),((s9 Z aA aB aC aD aE O aH).1,((s9 Z aA aB aC aD aE O aH).2,((aD.1,(aD.2.1,(aD.2.2.1,(aD.2.2.2.1,())))),((some 3),(aE.1,(aE.2.1,())))))))) [(11,1),(13,2)],.grow 52 7 (List.length aD.2.2.2.1),.grow 3 1 (List.length aE.1),.map .str .bool aH]⟩
def a7U:List Slot→List Blk→Option Ret:=pM (V:=(Int×((List UInt8)×(Int×Unit))×q9×Int×Int×pZ×((List Int)×(Int×Unit))×Nat×Nat×(List ((List UInt8)×Bool)))) (fun x=>V5 x.1) (fun x=>V6 x.2.1 x.2.2.1 x.2.2.2.1 x.2.2.2.2.1 x.2.2.2.2.2.1 x.2.2.2.2.2.2.1 x.2.2.2.2.2.2.2.1 x.2.2.2.2.2.2.2.2.1 x.2.2.2.2.2.2.2.2.2) fun x=>V7 x.1 x.2.1 x.2.2.1 x.2.2.2.1 x.2.2.2.2.1 x.2.2.2.2.2.1 x.2.2.2.2.2.2.1 x.2.2.2.2.2.2.2.1 x.2.2.2.2.2.2.2.2.1 x.2.2.2.2.2.2.2.2.2
@[go_sem] theorem aKx:a7U (no_index (V5 O)) (no_index (V6 Z aA aB aC aD aE aF aG aH))=some (V7 O Z aA aB aC aD aE aF aG aH):=pN (fun⟨a0,a1,a2,a3,a4,a5,a6,a7,a8,a9⟩ ⟨b0,b1,b2,b3,b4,b5,b6,b7,b8,b9⟩ h1 h2=>by cases h1;cases h2;rfl) (O,Z,aA,aB,aC,aD,aE,aF,aG,aH)
end
@[reducible,go_sem] def wN:Nat×Sig:=(114,⟨[.p q7 [11,13],.v],a7U,[(0,12,.m)],[1,2,3],none⟩)
theorem V8:Env Tryz.prog [sE,w4,wM,vE] (pE []):=⟨⟨sL,⟨xI,⟨yC,⟨wL,trivial⟩⟩⟩⟩,pP,pH⟩
theorem BH:pI Tryz.prog wN:=by
 refine pO V8 Tryz.func114 (c:=_) rfl (N:=21) (by kernel_rfl) (ts:=[]) rfl (fun _ _=>rfl) ?_
 intro⟨O,Z,aA,aB,aC,aD,aE,aF,aG,aH⟩ hs hrow
 dsimp only[V5,V6,V7,pK,enumH,pD,pG,pL,Nat.reduceAdd] at hs hrow⊢
 obtain⟨rfl,rfl⟩:=hs
 obtain⟨z0,hC0⟩: ∃z,(s9 Z aA aB aC aD aE O aH)=z:=⟨_,rfl⟩
 try rw[hC0]
 unfold s9 at hC0
 refine oS V8 ?_
 refine oX hC0 (fun hC0 hc1=> ?_) (fun hC0 hc1=> ?_)
 ·refine pF V8 ?_
  cases hC0
  exact⟨[(0,0),(1,1),(2,2),(3,3)],by rfl,by rfl,by rfl⟩
 ·refine p7 ?_
  cases hC0
  exact⟨[(0,0),(1,1),(2,2),(3,3)],by rfl,by rfl,by rfl⟩
def uE (O:(List UInt8)) (Z:(List UInt8)) (aA:(List UInt8)) (aB:(List (List UInt8))) (aC:(Int×((List p6)×Unit))) (aD:Bool) (aE:(List (List UInt8))) (aF:(List ((List UInt8)×Bool))):(List ((List UInt8)×(Option Nat))):=
 if aD=true then
  (rC .str .fn ([102,108,97,103]:List UInt8) (some 152) (rC .str .fn ([115,116,97,116,101]:List UInt8) (some 151) (rC .str .fn ([116,97,114,103,101,116]:List UInt8) (some 150) (rC .str .fn ([115,111,117,114,99,101]:List UInt8) (some 149) (rC .str .fn ([102,105,101,108,100]:List UInt8) (some 148) (rC .str .fn ([99,111,109,109,101,110,116]:List UInt8) (some 147) ([]:List ((List UInt8)×(Option Nat)))))))))
 else
  (rC .str .fn ([102,105,101,108,100]:List UInt8) (some 148) (rC .str .fn ([99,111,109,109,101,110,116]:List UInt8) (some 147) ([]:List ((List UInt8)×(Option Nat)))))
section
variable (O:(List UInt8)) (Z:(List UInt8)) (aA:(List UInt8)) (aB:(List (List UInt8))) (aC:Nat) (aD:(Int×((List p6)×Unit))) (aE:Bool) (aF:Nat) (aG:Nat) (aH:(List (List UInt8))) (aI:Nat) (aJ:(List ((List UInt8)×Bool)))
@[reducible] def V9:List Slot:=[(.val .ref (some (0,0)),none)]
@[reducible] def VA:List Blk:=[.cells rA ((O,(Z,(aA,(aB,((some (3,aC)),aD))))),(aE,((some 4),()))) [(3,1),(6,2)],.grow 9 1 aF,.grow 144 2 aG,.row 9 .str aH aI,.map .str .bool aJ]
@[go_sem] def VB:Ret:=⟨[aF=(List.length aB),aG=(List.length aD.2.1),aC=aI],[(.val .mp (some 5),none)],[.cells rA ((O,(Z,(aA,(aB,((some (3,(List.length aH))),(aD.1,(aD.2.1,()))))))),(aE,((some 4),()))) [(3,1),(6,2)],.grow 9 1 (List.length aB),.grow 144 2 (List.length aD.2.1),.row 9 .str aH (List.length aH),.map .str .bool aJ,.map .str .fn (uE O Z aA aB aD aE aH aJ)]⟩
def a7V:List Slot→List Blk→Option Ret:=pM (V:=((List UInt8)×(List UInt8)×(List UInt8)×(List (List UInt8))×Nat×(Int×((List p6)×Unit))×Bool×Nat×Nat×(List (List UInt8))×Nat×(List ((List UInt8)×Bool)))) (fun x=>V9) (fun x=>VA x.1 x.2.1 x.2.2.1 x.2.2.2.1 x.2.2.2.2.1 x.2.2.2.2.2.1 x.2.2.2.2.2.2.1 x.2.2.2.2.2.2.2.1 x.2.2.2.2.2.2.2.2.1 x.2.2.2.2.2.2.2.2.2.1 x.2.2.2.2.2.2.2.2.2.2.1 x.2.2.2.2.2.2.2.2.2.2.2) fun x=>VB x.1 x.2.1 x.2.2.1 x.2.2.2.1 x.2.2.2.2.1 x.2.2.2.2.2.1 x.2.2.2.2.2.2.1 x.2.2.2.2.2.2.2.1 x.2.2.2.2.2.2.2.2.1 x.2.2.2.2.2.2.2.2.2.1 x.2.2.2.2.2.2.2.2.2.2.1 x.2.2.2.2.2.2.2.2.2.2.2
@[go_sem] theorem aKy:a7V (no_index V9) (no_index (VA O Z aA aB aC aD aE aF aG aH aI aJ))=some (VB O Z aA aB aC aD aE aF aG aH aI aJ):=pN (fun⟨a0,a1,a2,a3,a4,a5,a6,a7,a8,a9,a10,a11⟩ ⟨b0,b1,b2,b3,b4,b5,b6,b7,b8,b9,b10,b11⟩ h1 h2=>by cases h1;cases h2;rfl) (O,Z,aA,aB,aC,aD,aE,aF,aG,aH,aI,aJ)
end
@[reducible,go_sem] def VC:Nat×Sig:=(116,⟨[.p rA [3,6]],a7V,[(0,4,.r),(0,8,.m)],[0,1,2,3,4],none⟩)
theorem a7W:Env Tryz.prog [] (pE []):=⟨trivial,pP,pH⟩
theorem HN:Env Tryz.prog [BE,q8,yX,O7,O8] (pE []):=⟨⟨DU,⟨qA,⟨AK,⟨a68,⟨a69,trivial⟩⟩⟩⟩⟩,a7W.Γ,pH⟩
theorem aFF:pI Tryz.prog VC:=by
 refine pO a7W Tryz.func116 (c:=_) rfl (N:=15) (by kernel_rfl) (ts:=[(2,none)]) rfl (fun _ _=>rfl) ?_
 intro⟨O,Z,aA,aB,aC,aD,aE,aF,aG,aH,aI,aJ⟩ hs hrow
 dsimp only[V9,VA,VB,pK,enumH,pD,pG,pL,Nat.reduceAdd] at hs hrow⊢
 obtain⟨rfl,rfl,rfl⟩:=hs
 obtain⟨rfl,_⟩:=hrow
 obtain⟨z0,hC0⟩: ∃z,(uE O Z aA aB aD aE aH aJ)=z:=⟨_,rfl⟩
 try rw[hC0]
 unfold uE at hC0
 refine oS HN ?_
 refine oS HN ?_
 refine p4 ?_
 refine oS HN ?_
 refine oX hC0 (fun hC0 hc1=> ?_) (fun hC0 hc1=> ?_)
 ·refine pF HN ?_
  refine oW ?_
  refine oS HN ?_
  refine oV ?_
  cases hC0
  exact⟨[(0,0),(1,1),(2,2),(3,3),(4,4),(5,21)],by rfl,by rfl,by rfl⟩
 ·refine p7 (oW ?_)
  refine oS HN ?_
  refine oV ?_
  cases hC0
  exact⟨[(0,0),(1,1),(2,2),(3,3),(4,4),(5,21)],by rfl,by rfl,by rfl⟩
def a7X (O:Int):Unit:=
 ()
section
variable (O:Int)
@[reducible] def VD:List Slot:=[(.val (.int .u8) O,none)]
@[reducible] def VE:List Blk:=[]
@[go_sem] def VF:Ret:=⟨[],[(.val .bool ((decide ((97:Int)≤O))&&(decide (O≤(122:Int)))),none)],[]⟩
def a7Y:List Slot→List Blk→Option Ret:=pM (V:=Int) (fun x=>VD x) (fun x=>VE) fun x=>VF x
@[go_sem] theorem aKz:a7Y (no_index (VD O)) (no_index VE)=some (VF O):=pN (fun a0 b0 h1 h2=>by cases h1;cases h2;rfl) O
end
@[reducible,go_sem] def VG:Nat×Sig:=(118,⟨[.v],a7Y,[],[],none⟩)
theorem VH:Env Tryz.prog [] (pE []):=⟨trivial,pP,pH⟩
theorem a7Z:pI Tryz.prog VG:=by
 refine pO VH Tryz.func118 (c:=_) rfl (N:=9) (by kernel_rfl) (ts:=[(2,none)]) rfl (fun _ _=>rfl) ?_
 intro O hs hrow
 dsimp only[VD,VE,VF,pK,enumH,pD,pG,pL,Nat.reduceAdd] at hs hrow⊢
 obtain⟨z0,hC0⟩: ∃z,(a7X O)=z:=⟨_,rfl⟩
 try rw[hC0]
 unfold a7X at hC0
 refine oS VH ?_
 refine oS VH ?_ (hp:=by exact And.intro (fun hh=>hh) ((fun hh=>pY hh)))
 refine oV ?_
 cases hC0
 exact⟨[],by rfl,by rfl,by rfl⟩
def a71 (O:Int):Unit:=
 ()
section
variable (O:Int)
@[reducible] def VI:List Slot:=[(.val (.int .u8) O,none)]
@[reducible] def VJ:List Blk:=[]
@[go_sem] def VK:Ret:=⟨[],[(.val .bool ((decide ((48:Int)≤O))&&(decide (O≤(57:Int)))),none)],[]⟩
def a73:List Slot→List Blk→Option Ret:=pM (V:=Int) (fun x=>VI x) (fun x=>VJ) fun x=>VK x
@[go_sem] theorem aKA:a73 (no_index (VI O)) (no_index VJ)=some (VK O):=pN (fun a0 b0 h1 h2=>by cases h1;cases h2;rfl) O
end
@[reducible,go_sem] def VL:Nat×Sig:=(119,⟨[.v],a73,[],[],none⟩)
theorem VM:Env Tryz.prog [] (pE []):=⟨trivial,pP,pH⟩
theorem a74:pI Tryz.prog VL:=by
 refine pO VM Tryz.func119 (c:=_) rfl (N:=9) (by kernel_rfl) (ts:=[(2,none)]) rfl (fun _ _=>rfl) ?_
 intro O hs hrow
 dsimp only[VI,VJ,VK,pK,enumH,pD,pG,pL,Nat.reduceAdd] at hs hrow⊢
 obtain⟨z0,hC0⟩: ∃z,(a71 O)=z:=⟨_,rfl⟩
 try rw[hC0]
 unfold a71 at hC0
 refine oS VM ?_
 refine oS VM ?_ (hp:=by exact And.intro (fun hh=>hh) ((fun hh=>pY hh)))
 refine oV ?_
 cases hC0
 exact⟨[],by rfl,by rfl,by rfl⟩
def HO (O:(List UInt8)) (Z:(List UInt8)):Option Unit:=
 if (((decide ((List.length Z:Int)≤(List.length O:Int)))==true)=true→0≤(0:Int)∧(0:Int)≤(List.length Z:Int)∧(List.length Z:Int)≤(List.length O:Int)) then
  some (())
 else none
section
variable (O:(List UInt8)) (Z:(List UInt8))
@[reducible] def VN:List Slot:=[(.val .str O,none),(.val .str Z,none)]
@[reducible] def VO:List Blk:=[]
@[go_sem] def VP:Ret:=⟨[((HO O Z)).isSome=true],[(.val .bool ((decide ((List.length Z:Int)≤(List.length O:Int)))&&(decide ((p5 O (0:Int) (List.length Z:Int))=Z))),none)],[]⟩
def a75:List Slot→List Blk→Option Ret:=pM (V:=((List UInt8)×(List UInt8))) (fun x=>VN x.1 x.2) (fun x=>VO) fun x=>VP x.1 x.2
@[go_sem] theorem aKB:a75 (no_index (VN O Z)) (no_index VO)=some (VP O Z):=pN (fun⟨a0,a1⟩ ⟨b0,b1⟩ h1 h2=>by cases h1;cases h2;rfl) (O,Z)
end
@[reducible,go_sem] def VQ:Nat×Sig:=(122,⟨[.v,.v],a75,[],[],none⟩)
theorem VR:Env Tryz.prog [q8] (pE []):=⟨⟨qA,trivial⟩,pP,pH⟩
theorem a76:pI Tryz.prog VQ:=by
 refine pO VR Tryz.func122 (c:=_) rfl (N:=18) (by kernel_rfl) (ts:=[(4,none)]) rfl (fun _ _=>rfl) ?_
 intro⟨O,Z⟩ hs hrow
 dsimp only[VN,VO,VP,pK,enumH,pD,pG,pL,Nat.reduceAdd] at hs hrow⊢
 have hz:=hs
 obtain⟨z0,hC0⟩:=Option.isSome_iff_exists.1 hz
 try rw[pW hC0]
 clear hz hs
 unfold HO at hC0
 refine oS VR ?_
 obtain⟨hg1,hC0⟩:=oU hC0
 refine oS VR ?_ (hp:=by exact And.intro (fun hh=>hh) (And.intro (fun hh=>hh) (And.intro (fun hh=>hh) (And.intro hg1 (And.intro (fun hh=>hh) (And.intro (fun hh=>hh) ((fun hh=>pY hh))))))))
 refine oV ?_
 cases hC0
 exact⟨[],by rfl,by rfl,by rfl⟩
attribute [irreducible] HO
end
end Go.Proofs.YtfchbnahjcdiiaaGreatDoor
namespace Go.Proofs.YtfchbnahjcdiiaaGreatDoor
open Vc
set_option maxRecDepth 100000
set_option maxHeartbeats 4000000
set_option linter.unusedSimpArgs false
set_option linter.unusedVariables false
noncomputable section
def HP (O:(List UInt8)) (Z:(List UInt8)):Option ((List UInt8)×Bool):=
 (HO O Z).bind fun aA=>
 if (!((decide ((List.length Z:Int)≤(List.length O:Int)))&&(decide ((p5 O (0:Int) (List.length Z:Int))=Z))))=true then
  some ((O,false))
 else
  if 0≤(List.length Z:Int)∧(List.length Z:Int)≤(List.length O:Int)∧(List.length O:Int)≤(List.length O:Int) then
   some (((p5 O (List.length Z:Int) (List.length O:Int)),true))
  else none
section
variable (O:(List UInt8)) (Z:(List UInt8))
@[reducible] def VS:List Slot:=[(.val .str O,none),(.val .str Z,none)]
@[reducible] def VT:List Blk:=[]
@[go_sem] def VU:Ret:=⟨[((HP O Z)).isSome=true],[(.val .str ((val (HP O Z)).1),none),(.val .bool ((val (HP O Z)).2),none)],[]⟩
def a77:List Slot→List Blk→Option Ret:=pM (V:=((List UInt8)×(List UInt8))) (fun x=>VS x.1 x.2) (fun x=>VT) fun x=>VU x.1 x.2
@[go_sem] theorem aKC:a77 (no_index (VS O Z)) (no_index VT)=some (VU O Z):=pN (fun⟨a0,a1⟩ ⟨b0,b1⟩ h1 h2=>by cases h1;cases h2;rfl) (O,Z)
end
@[reducible,go_sem] def a78:Nat×Sig:=(123,⟨[.v,.v],a77,[],[],none⟩)
theorem KN:Env Tryz.prog [q8] (pE [VQ]):=⟨⟨qA,trivial⟩,oZ a76 pP,pH⟩
theorem aFG:pI Tryz.prog a78:=by
 refine pO KN Tryz.func123 (c:=_) rfl (N:=15) (by kernel_rfl) (ts:=[(4,none),(5,none)]) rfl (fun _ _=>rfl) ?_
 intro⟨O,Z⟩ hs hrow
 dsimp only[VS,VT,VU,pK,enumH,pD,pG,pL,Nat.reduceAdd] at hs hrow⊢
 have hz:=hs
 obtain⟨z0,hC0⟩:=Option.isSome_iff_exists.1 hz
 try rw[pW hC0]
 clear hz hs
 unfold HP at hC0
 refine oS KN ?_
 refine p4 ?_
 obtain⟨aA,hv1,hw1,hC0⟩:=p9 hC0
 try simp only[go_sem] at hw1
 refine oS KN ?_ (hp:=by exact(p8 hv1)) (h:=by simp only[go_sem,hw1];rfl)
 refine oX hC0 (fun hC0 hc1=> ?_) (fun hC0 hc1=> ?_)
 ·refine oS KN ?_
  refine oV (pC ?_)
  cases hC0
  exact⟨[],by rfl,by rfl,by rfl⟩
 ·refine p7 (oW ?_)
  obtain⟨hg2,hC0⟩:=oU hC0
  refine oS KN ?_ (hp:=by exact hg2)
  refine oV ?_
  cases hC0
  exact⟨[],by rfl,by rfl,by rfl⟩
attribute [irreducible] HP
def a79 (O:Int):Unit:=
 ()
section
variable (O:Int)
@[reducible] def VV:List Slot:=[(.val (.int .i64) O,none)]
@[reducible] def VW:List Blk:=[]
@[go_sem] def VX:Ret:=⟨[],[(.val .bool ((decide ((1:Int)≤O))&&(decide (O≤(4:Int)))),none)],[]⟩
def a8a:List Slot→List Blk→Option Ret:=pM (V:=Int) (fun x=>VV x) (fun x=>VW) fun x=>VX x
@[go_sem] theorem aKD:a8a (no_index (VV O)) (no_index VW)=some (VX O):=pN (fun a0 b0 h1 h2=>by cases h1;cases h2;rfl) O
end
@[reducible,go_sem] def VY:Nat×Sig:=(124,⟨[.v],a8a,[],[],none⟩)
theorem VZ:Env Tryz.prog [] (pE []):=⟨trivial,pP,pH⟩
theorem a8b:pI Tryz.prog VY:=by
 refine pO VZ Tryz.func124 (c:=_) rfl (N:=9) (by kernel_rfl) (ts:=[(2,none)]) rfl (fun _ _=>rfl) ?_
 intro O hs hrow
 dsimp only[VV,VW,VX,pK,enumH,pD,pG,pL,Nat.reduceAdd] at hs hrow⊢
 obtain⟨z0,hC0⟩: ∃z,(a79 O)=z:=⟨_,rfl⟩
 try rw[hC0]
 unfold a79 at hC0
 refine oS VZ ?_
 refine oS VZ ?_ (hp:=by exact And.intro (fun hh=>hh) ((fun hh=>pY hh)))
 refine oV ?_
 cases hC0
 exact⟨[],by rfl,by rfl,by rfl⟩
def HQ (O:(List UInt8)):Nat→Option (Nat⊕(Unit⊕Bool)):=fun Z=>
 if (decide (Z<List.length O))=true then
  if (decide (Z<List.length O))=true then
   if (decide (Z<List.length O))=true then
    if ((decide ((97:Int)≤(s5 O Z)))&&(decide ((s5 O Z)≤(122:Int))))=true then
     some (.inl (wI O Z))
    else
     if ((decide ((0:Int)<((Z:Nat):Int)))&&(((((decide ((48:Int)≤(s5 O Z)))&&(decide ((s5 O Z)≤(57:Int))))||(decide ((s5 O Z)=(45:Int))))||(decide ((s5 O Z)=(95:Int))))||(decide ((s5 O Z)=(46:Int)))))=true then
      some (.inl (wI O Z))
     else
      some (.inr (.inr (false)))
   else none
  else none
 else
  some (.inr (.inl ()))
def BI (O:(List UInt8)):Option Bool:=
 qQ (pT (HQ O) 0) fun _=>
 some (((decide ((1:Int)≤(List.length O:Int)))&&(decide ((List.length O:Int)≤(40:Int)))))
section
variable (O:(List UInt8))
@[reducible] def W0:List Slot:=[(.val .str O,none)]
@[reducible] def W2:List Blk:=[]
@[go_sem] def W3:Ret:=⟨[((BI O)).isSome=true],[(.val .bool (val (BI O)),none)],[]⟩
def a8c:List Slot→List Blk→Option Ret:=pM (V:=(List UInt8)) (fun x=>W0 x) (fun x=>W2) fun x=>W3 x
@[go_sem] theorem aKE:a8c (no_index (W0 O)) (no_index W2)=some (W3 O):=pN (fun a0 b0 h1 h2=>by cases h1;cases h2;rfl) O
end
@[reducible,go_sem] def KO:Nat×Sig:=(128,⟨[.v],a8c,[],[],none⟩)
theorem BJ:Env Tryz.prog [q8] (pE []):=⟨⟨qA,trivial⟩,pP,pH⟩
theorem a8d:pI Tryz.prog KO:=by
 refine pO BJ Tryz.func128 (c:=_) rfl (N:=51) (by kernel_rfl) (ts:=[(2,none)]) rfl (fun _ _=>rfl) ?_
 intro O hs hrow
 dsimp only[W0,W2,W3,pK,enumH,pD,pG,pL,Nat.reduceAdd] at hs hrow⊢
 have hz:=hs
 obtain⟨z0,hC0⟩:=Option.isSome_iff_exists.1 hz
 try rw[pW hC0]
 clear hz hs
 unfold BI at hC0
 refine oS BJ ?_
 refine p4 ?_
 refine oS BJ ?_
 refine pU ?_
 obtain⟨y1,hy1,hC0⟩:=sK hC0
 refine rI 0 (fun s=> ∃v,y1= .inl v∧s=(fun _=>⟨[(0,(.val .str O,none))],[],0,51,0⟩) v) ?_ ?_
 ·refine rH hy1 (fun x=>⟨[(0,(.val .str O,none)),(7,(.val .ref (some (0,0)),none))],[(0,.iter O x)],1,51,0⟩) ⟨[0,7],[(0,32)]⟩ (by rfl) ?_
  intro Z w1 n1 hC1 hN1
  unfold HQ at hC1
  dsimp only at hC1⊢
  refine oS BJ ?_
  refine p4 ?_
  refine oX hC1 (fun hC1 hc1=> ?_) (fun hC1 hc1=> ?_)
  ·refine p7 (oW (pU ?_))
   obtain⟨hg1,hC1⟩:=oU hC1
   obtain⟨hg2,hC1⟩:=oU hC1
   refine oS BJ ?_ (hp:=by exact And.intro hg1 (hg2))
   refine oS BJ ?_ (hp:=by exact And.intro (fun hh=>hh) ((fun hh=>pY hh)))
   refine pU ?_
   refine oS BJ ?_
   refine oX hC1 (fun hC1 hc2=> ?_) (fun hC1 hc2=> ?_)
   ·refine p7 (pB (pB ?_))
    cases hC1
    exact qG ⟨⟨[0,7],[(0,0)]⟩,_,by rfl,hN1⟩
   ·refine oS BJ ?_ (hp:=by exact And.intro (fun hh=>hh) (And.intro (fun hh=>hh) (And.intro (fun hh=>hh) (And.intro (fun hh=>hh) (And.intro (fun hG hh=>CD hG hh) (And.intro (fun hh=>hh) (And.intro (fun hh=>hh) (And.intro (fun hh=>hh) (And.intro (fun hG hh=>y7 hG hh) (And.intro (fun hh=>hh) (And.intro (fun hh=>hh) (And.intro (fun hh=>hh) (And.intro (fun hG hh=>y7 hG hh) (And.intro (fun hh=>hh) (And.intro (fun hh=>hh) (And.intro (fun hh=>hh) (And.intro (fun hG hh=>y7 hG hh) ((fun hh=>pY hh)))))))))))))))))))
    refine oX hC1 (fun hC1 hc3=> ?_) (fun hC1 hc3=> ?_)
    ·refine p7 (pB (pB ?_))
     cases hC1
     exact qG ⟨⟨[0,7],[(0,0)]⟩,_,by rfl,hN1⟩
    ·refine oS BJ ?_
     refine oV (pR (pR (s8 (s7 (pR (pC ?_))))))
     cases hC1
     cases hN1
     dsimp only at hC0
     cases hC0
     exact⟨[],by rfl,by rfl,by rfl⟩
  ·refine qY (r8 (r5 ?_))
   cases hC1
   cases hN1
   exact qZ ⟨⟨[0],[]⟩,_,rfl,by rfl⟩
 ·rintro _ ⟨v,rfl,rfl⟩
  dsimp only at hC0⊢
  refine rF (oW ?_)
  refine oS BJ ?_ (hp:=by exact And.intro (fun hh=>hh) (And.intro (fun hh=>hh) ((fun hh=>pY hh))))
  refine oV ?_
  cases hC0
  exact⟨[],by rfl,by rfl,by rfl⟩
attribute [irreducible] BI
def KP (O:(List (List UInt8))) (Z:(List UInt8)):Int→Option (Int⊕(Unit⊕Int)):=fun aA=>
 if (decide (aA<(List.length O:Int)))=true then
  if 0≤aA∧aA<(List.length O:Int) then
   if (decide (Z=(qB .str O aA)))=true then
    some (.inr (.inr (aA)))
   else
    if oT (aA+(1:Int)) then
     some (.inl (aA+(1:Int)))
    else none
  else none
 else
  some (.inr (.inl ()))
def yZ (O:(List (List UInt8))) (Z:(List UInt8)):Option Int:=
 qQ (pT (KP O Z) (0:Int)) fun _=>
 some ((-1:Int))
section
variable (O:(List (List UInt8))) (Z:(List UInt8))
@[reducible] def W4:List Slot:=[(.val (.list .str) O,none),(.val .str Z,none)]
@[reducible] def W5:List Blk:=[]
@[go_sem] def W6:Ret:=⟨[((yZ O Z)).isSome=true],[(.val (.int .i64) (val (yZ O Z)),none)],[]⟩
def a8e:List Slot→List Blk→Option Ret:=pM (V:=((List (List UInt8))×(List UInt8))) (fun x=>W4 x.1 x.2) (fun x=>W5) fun x=>W6 x.1 x.2
@[go_sem] theorem aKF:a8e (no_index (W4 O Z)) (no_index W5)=some (W6 O Z):=pN (fun⟨a0,a1⟩ ⟨b0,b1⟩ h1 h2=>by cases h1;cases h2;rfl) (O,Z)
end
@[reducible,go_sem] def OH:Nat×Sig:=(135,⟨[.v,.v],a8e,[],[],none⟩)
theorem CK:Env Tryz.prog [q8,vZ] (pE []):=⟨⟨qA,⟨xG,trivial⟩⟩,pP,pH⟩
theorem a8f:pI Tryz.prog OH:=by
 refine pO CK Tryz.func135 (c:=_) rfl (N:=19) (by kernel_rfl) (ts:=[(4,none)]) rfl (fun _ _=>rfl) ?_
 intro⟨O,Z⟩ hs hrow
 dsimp only[W4,W5,W6,pK,enumH,pD,pG,pL,Nat.reduceAdd] at hs hrow⊢
 have hz:=hs
 obtain⟨z0,hC0⟩:=Option.isSome_iff_exists.1 hz
 try rw[pW hC0]
 clear hz hs
 unfold yZ at hC0
 refine oS CK ?_
 refine p4 ?_
 refine oS CK ?_
 refine pU ?_
 obtain⟨y1,hy1,hC0⟩:=sK hC0
 refine rI 0 (fun s=> ∃v,y1= .inl v∧s=(fun _=>⟨[],[],0,19,0⟩) v) ?_ ?_
 ·refine rH hy1 (fun x=>⟨[(0,(.val (.list .str) O,none)),(1,(.val .str Z,none)),(7,(.val (.int .i64) (List.length O:Int),none)),(8,(.val (.int .i64) x,none))],[],0,19,0⟩) ⟨[0,1,7,8],[]⟩ (by rfl) ?_
  intro aA w1 n1 hC1 hN1
  unfold KP at hC1
  dsimp only at hC1⊢
  refine oS CK ?_
  refine p4 ?_
  refine oX hC1 (fun hC1 hc1=> ?_) (fun hC1 hc1=> ?_)
  ·refine p7 (oW (p4 (pU ?_)))
   refine oS CK ?_
   obtain⟨hg1,hC1⟩:=oU hC1
   refine oS CK ?_ (hp:=by exact hg1)
   refine oX hC1 (fun hC1 hc2=> ?_) (fun hC1 hc2=> ?_)
   ·refine oS CK ?_
    refine oV (pR (pC (s8 (s7 (pR (pC ?_))))))
    cases hC1
    cases hN1
    dsimp only at hC0
    cases hC0
    exact⟨[],by rfl,by rfl,by rfl⟩
   ·refine p7 (pB (oW ?_))
    obtain⟨hg2,hC1⟩:=oU hC1
    refine pF CK ?_ (hp:=by exact hg2)
    cases hC1
    exact qG ⟨⟨[0,1,7,8],[]⟩,_,by rfl,hN1⟩
  ·refine qY (r8 (r5 ?_))
   cases hC1
   cases hN1
   exact qZ ⟨⟨[],[]⟩,_,rfl,by rfl⟩
 ·rintro _ ⟨v,rfl,rfl⟩
  dsimp only at hC0⊢
  refine rF (oW ?_)
  refine oS CK ?_
  refine oV ?_
  cases hC0
  exact⟨[],by rfl,by rfl,by rfl⟩
attribute [irreducible] yZ
def KQ (O:Int):Option Unit:=
 if 0≤O∧O<(List.length ([([110,101,119]:List UInt8),([102,117,122,122,121]:List UInt8),([116,114,97,110,115,108,97,116,101,100]:List UInt8),([114,101,118,105,101,119,101,100]:List UInt8),([111,98,115,111,108,101,116,101]:List UInt8)]:List (List UInt8)):Int) then
  some (())
 else none
section
variable (O:Int)
@[reducible] def W7:List Slot:=[(.val (.int .i64) O,none)]
@[reducible] def W8:List Blk:=[]
@[go_sem] def W9:Ret:=⟨[((KQ O)).isSome=true],[(.val .str (qB .str ([([110,101,119]:List UInt8),([102,117,122,122,121]:List UInt8),([116,114,97,110,115,108,97,116,101,100]:List UInt8),([114,101,118,105,101,119,101,100]:List UInt8),([111,98,115,111,108,101,116,101]:List UInt8)]:List (List UInt8)) O),none)],[]⟩
def a8g:List Slot→List Blk→Option Ret:=pM (V:=Int) (fun x=>W7 x) (fun x=>W8) fun x=>W9 x
@[go_sem] theorem aKG:a8g (no_index (W7 O)) (no_index W8)=some (W9 O):=pN (fun a0 b0 h1 h2=>by cases h1;cases h2;rfl) O
end
@[reducible,go_sem] def a8h:Nat×Sig:=(140,⟨[.v],a8g,[],[],none⟩)
theorem OI:Env Tryz.prog [q8,vZ] (pE []):=⟨⟨qA,⟨xG,trivial⟩⟩,pP,pH⟩
theorem aFH:pI Tryz.prog a8h:=by
 refine pO OI Tryz.func140 (c:=_) rfl (N:=9) (by kernel_rfl) (ts:=[(2,none)]) rfl (fun _ _=>rfl) ?_
 intro O hs hrow
 dsimp only[W7,W8,W9,pK,enumH,pD,pG,pL,Nat.reduceAdd] at hs hrow⊢
 have hz:=hs
 obtain⟨z0,hC0⟩:=Option.isSome_iff_exists.1 hz
 try rw[pW hC0]
 clear hz hs
 unfold KQ at hC0
 refine oS OI ?_
 refine oS OI ?_
 obtain⟨hg1,hC0⟩:=oU hC0
 refine oS OI ?_ (hp:=by exact hg1)
 refine oV ?_
 cases hC0
 exact⟨[],by rfl,by rfl,by rfl⟩
attribute [irreducible] KQ
def FZ (O:Int) (Z:Int):Bool:=
 if (decide (O=(1:Int)))=true then
  (decide (Z=(10:Int)))
 else
  q6 (σ:=Bool) (
    if (decide (O=(2:Int)))=true then
     (decide (O=(2:Int)))
    else
     (decide (O=(3:Int)))
   ) fun aA=>
  if aA=true then
   ((decide (Z=(10:Int)))||(decide (Z=(34:Int))))
  else
   ((decide (Z=(60:Int)))||(decide (Z=(34:Int))))
section
variable (O:Int) (Z:Int)
@[reducible] def WA:List Slot:=[(.val (.int .i64) O,none),(.val (.int .u8) Z,none)]
@[reducible] def WB:List Blk:=[]
@[go_sem] def WC:Ret:=⟨[],[(.val .bool (FZ O Z),none)],[]⟩
def a8i:List Slot→List Blk→Option Ret:=pM (V:=(Int×Int)) (fun x=>WA x.1 x.2) (fun x=>WB) fun x=>WC x.1 x.2
@[go_sem] theorem aKH:a8i (no_index (WA O Z)) (no_index WB)=some (WC O Z):=pN (fun⟨a0,a1⟩ ⟨b0,b1⟩ h1 h2=>by cases h1;cases h2;rfl) (O,Z)
end
@[reducible,go_sem] def a8j:Nat×Sig:=(144,⟨[.v,.v],a8i,[],[],none⟩)
theorem CL:Env Tryz.prog [] (pE []):=⟨trivial,pP,pH⟩
theorem aFI:pI Tryz.prog a8j:=by
 refine pO CL Tryz.func144 (c:=_) rfl (N:=25) (by kernel_rfl) (ts:=[(4,none)]) rfl (fun _ _=>rfl) ?_
 intro⟨O,Z⟩ hs hrow
 dsimp only[WA,WB,WC,pK,enumH,pD,pG,pL,Nat.reduceAdd] at hs hrow⊢
 obtain⟨z0,hC0⟩: ∃z,(FZ O Z)=z:=⟨_,rfl⟩
 try rw[hC0]
 unfold FZ at hC0
 refine oS CL ?_
 refine p4 ?_
 refine oS CL ?_
 refine pU ?_
 refine oS CL ?_
 refine oX hC0 (fun hC0 hc1=> ?_) (fun hC0 hc1=> ?_)
 ·refine oS CL ?_
  refine oV (pR (pC ?_))
  cases hC0
  exact⟨[],by rfl,by rfl,by rfl⟩
 ·refine p4 ?_
  refine oS CL ?_
  obtain⟨aA,hC1,hC0⟩:=rJ hC0
  refine y6 (fun s=>s=(fun x=>⟨[(1,(.val (.int .u8) Z,none)),(10,(.val .bool x,none))],[],0,25,0⟩) aA) ?_ ?_
  ·refine oX hC1 (fun hC1 hc2=> ?_) (fun hC1 hc2=> ?_)
   ·refine p7 ?_
    cases hC1
    exact rL ⟨⟨[1,10],[]⟩,by rfl⟩
   ·refine pF CL ?_
    cases hC1
    exact rL ⟨⟨[1,10],[]⟩,by rfl⟩
  ·rintro _ rfl
   dsimp only at hC0⊢
   refine oW ?_
   refine oX hC0 (fun hC0 hc3=> ?_) (fun hC0 hc3=> ?_)
   ·refine oS CL ?_ (hp:=by exact And.intro (fun hh=>hh) ((fun hh=>sH hh)))
    refine oV (pR (pC ?_))
    cases hC0
    exact⟨[],by rfl,by rfl,by rfl⟩
   ·refine p7 (pB (oW ?_))
    refine oS CL ?_ (hp:=by exact And.intro (fun hh=>hh) ((fun hh=>sH hh)))
    refine oV ?_
    cases hC0
    exact⟨[],by rfl,by rfl,by rfl⟩
def G0 (O:((List Int)×Unit)) (Z:Int):Option Unit:=
 if (List.length O.1+List.length ([Z]:List Int))*1≤140737488355328 then
  some (())
 else none
section
variable (O:Int) (Z:((List Int)×Unit)) (aA:Nat)
@[reducible] def WD:List Slot:=[(.val .ref (some (0,0)),none),(.val (.int .u8) O,none)]
@[reducible] def WE:List Blk:=[.cells vD ((some (0,0)),Z) [(1,1)],.grow 5 1 aA]
@[go_sem] def WF:Ret:=⟨[aA=(List.length Z.1),((G0 Z O)).isSome=true],[(.any,none)],[.cells vD ((some (0,0)),((Z.1++([O]:List Int)),())) [(1,1)],.grow 5 1 (List.length (Z.1++([O]:List Int)))]⟩
def a8k:List Slot→List Blk→Option Ret:=pM (V:=(Int×((List Int)×Unit)×Nat)) (fun x=>WD x.1) (fun x=>WE x.2.1 x.2.2) fun x=>WF x.1 x.2.1 x.2.2
@[go_sem] theorem aKI:a8k (no_index (WD O)) (no_index (WE Z aA))=some (WF O Z aA):=pN (fun⟨a0,a1,a2⟩ ⟨b0,b1,b2⟩ h1 h2=>by cases h1;cases h2;rfl) (O,Z,aA)
end
@[reducible,go_sem] def a8l:Nat×Sig:=(145,⟨[.p vD [1],.v],a8k,[],[],none⟩)
theorem KR:Env Tryz.prog [AG,FT] (pE [OD]):=⟨⟨CE,⟨KD,trivial⟩⟩,oZ TC pP,pH⟩
theorem aFJ:pI Tryz.prog a8l:=by
 refine pO KR Tryz.func145 (c:=_) rfl (N:=17) (by kernel_rfl) (ts:=[(4,none)]) rfl (fun _ _=>rfl) ?_
 intro⟨O,Z,aA⟩ hs hrow
 dsimp only[WD,WE,WF,pK,enumH,pD,pG,pL,Nat.reduceAdd] at hs hrow⊢
 obtain⟨rfl,hz⟩:=hs
 obtain⟨z0,hC0⟩:=Option.isSome_iff_exists.1 hz
 try rw[pW hC0]
 clear hz
 unfold G0 at hC0
 refine oS KR ?_
 refine oS KR ?_ (hp:=by exact(by first|exact rfl|exact trivial))
 obtain⟨hg1,hC0⟩:=oU hC0
 refine oS KR ?_ (hp:=by exact And.intro (by first|exact rfl|exact trivial) (hg1))
 refine oS KR ?_
 refine oV ?_
 cases hC0
 exact⟨[(0,0),(1,1)],by rfl,by rfl,by rfl⟩
attribute [irreducible] G0
def KS (O:(List UInt8)):Option Unit:=
 if List.length O≤9223372036854775807 then
  some (())
 else none
section
variable (O:(List UInt8))
@[reducible] def WG:List Slot:=[(.val .str O,none)]
@[reducible] def WH:List Blk:=[]
@[go_sem] def WI:Ret:=⟨[((KS O)).isSome=true],[(.val .bool (Lib.validD O),none)],[]⟩
def a8m:List Slot→List Blk→Option Ret:=pM (V:=(List UInt8)) (fun x=>WG x) (fun x=>WH) fun x=>WI x
@[go_sem] theorem aKJ:a8m (no_index (WG O)) (no_index WH)=some (WI O):=pN (fun a0 b0 h1 h2=>by cases h1;cases h2;rfl) O
end
@[reducible,go_sem] def a8n:Nat×Sig:=(146,⟨[.v],a8m,[],[],none⟩)
theorem WJ:Env Tryz.prog [] (pE [a7c]):=⟨trivial,oZ aFo pP,pH⟩
theorem aFK:pI Tryz.prog a8n:=by
 refine pO WJ Tryz.func146 (c:=_) rfl (N:=5) (by kernel_rfl) (ts:=[(2,none)]) rfl (fun _ _=>rfl) ?_
 intro O hs hrow
 dsimp only[WG,WH,WI,pK,enumH,pD,pG,pL,Nat.reduceAdd] at hs hrow⊢
 have hz:=hs
 obtain⟨z0,hC0⟩:=Option.isSome_iff_exists.1 hz
 try rw[pW hC0]
 clear hz hs
 unfold KS at hC0
 refine oS WJ ?_
 obtain⟨hg1,hC0⟩:=oU hC0
 refine oS WJ ?_ (hp:=by exact hg1)
 refine oV ?_
 cases hC0
 exact⟨[],by rfl,by rfl,by rfl⟩
attribute [irreducible] KS
end
end Go.Proofs.YtfchbnahjcdiiaaGreatDoor
namespace Go.Proofs.YtfchbnahjcdiiaaGreatDoor
open Vc
set_option maxRecDepth 100000
set_option maxHeartbeats 4000000
set_option linter.unusedSimpArgs false
set_option linter.unusedVariables false
noncomputable section
def a8o (O:Int):Unit:=
 ()
section
variable (O:Int)
@[reducible] def WK:List Slot:=[(.val (.int .u8) O,none)]
@[reducible] def WL:List Blk:=[]
@[go_sem] def WM:Ret:=⟨[],[(.val .bool (((decide ((97:Int)≤O))&&(decide (O≤(122:Int))))||((decide ((65:Int)≤O))&&(decide (O≤(90:Int))))),none)],[]⟩
def a8p:List Slot→List Blk→Option Ret:=pM (V:=Int) (fun x=>WK x) (fun x=>WL) fun x=>WM x
@[go_sem] theorem aKK:a8p (no_index (WK O)) (no_index WL)=some (WM O):=pN (fun a0 b0 h1 h2=>by cases h1;cases h2;rfl) O
end
@[reducible,go_sem] def a8q:Nat×Sig:=(153,⟨[.v],a8p,[],[],none⟩)
theorem WN:Env Tryz.prog [] (pE []):=⟨trivial,pP,pH⟩
theorem aFL:pI Tryz.prog a8q:=by
 refine pO WN Tryz.func153 (c:=_) rfl (N:=17) (by kernel_rfl) (ts:=[(2,none)]) rfl (fun _ _=>rfl) ?_
 intro O hs hrow
 dsimp only[WK,WL,WM,pK,enumH,pD,pG,pL,Nat.reduceAdd] at hs hrow⊢
 obtain⟨z0,hC0⟩: ∃z,(a8o O)=z:=⟨_,rfl⟩
 try rw[hC0]
 unfold a8o at hC0
 refine oS WN ?_
 refine oS WN ?_ (hp:=by exact And.intro (fun hh=>hh) (And.intro (fun hh=>pY hh) (And.intro (fun hh=>hh) (And.intro (fun hh=>hh) (And.intro (fun hh=>hh) (And.intro (fun hh=>hh) (And.intro (fun hG hh=>CD hG hh) ((fun hh=>sH hh)))))))))
 refine oV ?_
 cases hC0
 exact⟨[],by rfl,by rfl,by rfl⟩
def a8r (O:p6) (Z:(List UInt8)):Unit:=
 ()
section
variable (O:p6) (Z:(List UInt8))
@[reducible] def WO:List Slot:=[(.val (.pair .str (.pair .str .unit)) O,none),(.val .ref (some (0,0)),none)]
@[reducible] def WP:List Blk:=[.cells .str Z []]
@[go_sem] def WQ:Ret:=⟨[],[(.val .bool (!(Op.bytesLess O.1 Z||decide (O.1=Z))),none)],[.cells .str Z []]⟩
def a8s:List Slot→List Blk→Option Ret:=pM (V:=(p6×(List UInt8))) (fun x=>WO x.1) (fun x=>WP x.2) fun x=>WQ x.1 x.2
@[go_sem] theorem aKL:a8s (no_index (WO O)) (no_index (WP Z))=some (WQ O Z):=pN (fun⟨a0,a1⟩ ⟨b0,b1⟩ h1 h2=>by cases h1;cases h2;rfl) (O,Z)
end
@[reducible,go_sem] def a8t:Nat×Sig:=(173,⟨[.v,.p .str []],a8s,[],[0],none⟩)
theorem WR:Env Tryz.prog [q8,AH] (pE []):=⟨⟨qA,⟨CF,trivial⟩⟩,pP,pH⟩
theorem aFM:pI Tryz.prog a8t:=by
 refine pO WR Tryz.func173 (c:=_) rfl (N:=8) (by kernel_rfl) (ts:=[(3,none)]) rfl (fun _ _=>rfl) ?_
 intro⟨O,Z⟩ hs hrow
 dsimp only[WO,WP,WQ,pK,enumH,pD,pG,pL,Nat.reduceAdd] at hs hrow⊢
 obtain⟨z0,hC0⟩: ∃z,(a8r O Z)=z:=⟨_,rfl⟩
 try rw[hC0]
 unfold a8r at hC0
 refine oS WR ?_
 refine oS WR ?_
 refine oV ?_
 cases hC0
 exact⟨[(0,0)],by rfl,by rfl,by rfl⟩
def a8u (O:Int):Unit:=
 ()
section
variable (O:Int)
@[reducible] def WS:List Slot:=[(.val (.int .i64) O,none)]
@[reducible] def WT:List Blk:=[]
@[go_sem] def WU:Ret:=⟨[],[(.val .bool ((decide ((1:Int)≤O))&&(decide (O≤(4:Int)))),none)],[]⟩
def a8v:List Slot→List Blk→Option Ret:=pM (V:=Int) (fun x=>WS x) (fun x=>WT) fun x=>WU x
@[go_sem] theorem aKM:a8v (no_index (WS O)) (no_index WT)=some (WU O):=pN (fun a0 b0 h1 h2=>by cases h1;cases h2;rfl) O
end
@[reducible,go_sem] def WV:Nat×Sig:=(175,⟨[.v],a8v,[],[],none⟩)
theorem WW:Env Tryz.prog [] (pE []):=⟨trivial,pP,pH⟩
theorem a8w:pI Tryz.prog WV:=by
 refine pO WW Tryz.func175 (c:=_) rfl (N:=9) (by kernel_rfl) (ts:=[(2,none)]) rfl (fun _ _=>rfl) ?_
 intro O hs hrow
 dsimp only[WS,WT,WU,pK,enumH,pD,pG,pL,Nat.reduceAdd] at hs hrow⊢
 obtain⟨z0,hC0⟩: ∃z,(a8u O)=z:=⟨_,rfl⟩
 try rw[hC0]
 unfold a8u at hC0
 refine oS WW ?_
 refine oS WW ?_ (hp:=by exact And.intro (fun hh=>hh) ((fun hh=>pY hh)))
 refine oV ?_
 cases hC0
 exact⟨[],by rfl,by rfl,by rfl⟩
def KT (O:Int) (Z:(List UInt8)):Int→Option (Int⊕(Unit⊕Bool)):=fun aA=>
 if (decide (aA<(List.length Z:Int)))=true then
  if 0≤aA∧aA<(List.length Z:Int) then
   if (decide ((pA Z aA)=O))=true then
    some (.inr (.inr (true)))
   else
    if oT (aA+(1:Int)) then
     some (.inl (aA+(1:Int)))
    else none
  else none
 else
  some (.inr (.inl ()))
def CM (O:Int) (Z:(List UInt8)):Option Bool:=
 qQ (pT (KT O Z) (0:Int)) fun _=>
 some (false)
section
variable (O:Int) (Z:(List UInt8))
@[reducible] def WX:List Slot:=[(.val (.int .u8) O,none),(.val .str Z,none)]
@[reducible] def WY:List Blk:=[]
@[go_sem] def WZ:Ret:=⟨[((CM O Z)).isSome=true],[(.val .bool (val (CM O Z)),none)],[]⟩
def a8x:List Slot→List Blk→Option Ret:=pM (V:=(Int×(List UInt8))) (fun x=>WX x.1 x.2) (fun x=>WY) fun x=>WZ x.1 x.2
@[go_sem] theorem aKN:a8x (no_index (WX O Z)) (no_index WY)=some (WZ O Z):=pN (fun⟨a0,a1⟩ ⟨b0,b1⟩ h1 h2=>by cases h1;cases h2;rfl) (O,Z)
end
@[reducible,go_sem] def X0:Nat×Sig:=(178,⟨[.v,.v],a8x,[],[],none⟩)
theorem E8:Env Tryz.prog [q8] (pE []):=⟨⟨qA,trivial⟩,pP,pH⟩
theorem a8y:pI Tryz.prog X0:=by
 refine pO E8 Tryz.func178 (c:=_) rfl (N:=17) (by kernel_rfl) (ts:=[(4,none)]) rfl (fun _ _=>rfl) ?_
 intro⟨O,Z⟩ hs hrow
 dsimp only[WX,WY,WZ,pK,enumH,pD,pG,pL,Nat.reduceAdd] at hs hrow⊢
 have hz:=hs
 obtain⟨z0,hC0⟩:=Option.isSome_iff_exists.1 hz
 try rw[pW hC0]
 clear hz hs
 unfold CM at hC0
 refine oS E8 ?_
 refine p4 ?_
 refine oS E8 ?_
 refine pU ?_
 obtain⟨y1,hy1,hC0⟩:=sK hC0
 refine rI 0 (fun s=> ∃v,y1= .inl v∧s=(fun _=>⟨[],[],0,17,0⟩) v) ?_ ?_
 ·refine rH hy1 (fun x=>⟨[(0,(.val (.int .u8) O,none)),(1,(.val .str Z,none)),(5,(.val (.int .i64) x,none))],[],0,17,0⟩) ⟨[0,1,5],[]⟩ (by rfl) ?_
  intro aA w1 n1 hC1 hN1
  unfold KT at hC1
  dsimp only at hC1⊢
  refine p4 ?_
  refine oS E8 ?_
  refine oX hC1 (fun hC1 hc1=> ?_) (fun hC1 hc1=> ?_)
  ·refine p7 (oW (p4 (pU ?_)))
   obtain⟨hg1,hC1⟩:=oU hC1
   refine oS E8 ?_ (hp:=by exact hg1)
   refine oX hC1 (fun hC1 hc2=> ?_) (fun hC1 hc2=> ?_)
   ·refine oS E8 ?_
    refine oV (pR (pC (s8 (s7 (pR (pC ?_))))))
    cases hC1
    cases hN1
    dsimp only at hC0
    cases hC0
    exact⟨[],by rfl,by rfl,by rfl⟩
   ·refine p7 (pB (oW ?_))
    obtain⟨hg2,hC1⟩:=oU hC1
    refine pF E8 ?_ (hp:=by exact hg2)
    cases hC1
    exact qG ⟨⟨[0,1,5],[]⟩,_,by rfl,hN1⟩
  ·refine qY (r8 (r5 ?_))
   cases hC1
   cases hN1
   exact qZ ⟨⟨[],[]⟩,_,rfl,by rfl⟩
 ·rintro _ ⟨v,rfl,rfl⟩
  dsimp only at hC0⊢
  refine rF (oW ?_)
  refine oS E8 ?_
  refine oV ?_
  cases hC0
  exact⟨[],by rfl,by rfl,by rfl⟩
attribute [irreducible] CM
def HR (O:(List UInt8)) (Z:Int):(Int×Int)→Option ((Int×Int)⊕(Int⊕(Int×Bool))):=fun(aA,aB)=>
 if (decide (aB<(List.length O:Int)))=true then
  if 0≤aB∧aB<(List.length O:Int) then
   if 0≤aB∧aB<(List.length O:Int) then
    if (((decide ((65:Int)≤(pA O aB)))==true)=true→0≤aB∧aB<(List.length O:Int)) then
     qE (σ:=Int) (
       if ((decide ((65:Int)≤(pA O aB)))&&(decide ((pA O aB)≤(70:Int))))=true then
        if 0≤aB∧aB<(List.length O:Int) then
         if oT ((IntKind.wrap .i64 (IntKind.wrap .u8 ((pA O aB)- (65:Int))))+(10:Int)) then
          some (((IntKind.wrap .i64 (IntKind.wrap .u8 ((pA O aB)- (65:Int))))+(10:Int)))
         else none
        else none
       else
        some ((rW ([48,49,50,51,52,53,54,55,56,57,97,98,99,100,101,102]:List UInt8) (pA O aB)))
      ) fun aC=>
     if ((decide (aC<(0:Int)))||(decide (Z≤aC)))=true then
      some (.inr (.inr (((0:Int),false))))
     else
      if oT (aA*Z) then
       if oT ((aA*Z)+aC) then
        if oT (aB+(1:Int)) then
         some (.inl (((aA*Z)+aC),(aB+(1:Int))))
        else none
       else none
      else none
    else none
   else none
  else none
 else
  some (.inr (.inl aA))
def BK (O:(List UInt8)) (Z:Int):Option (Int×Bool):=
 qQ (pT (HR O Z) ((0:Int),(0:Int))) fun aA=>
 some ((aA,(!decide (O=([]:List UInt8)))))
section
variable (O:(List UInt8)) (Z:Int)
@[reducible] def X1:List Slot:=[(.val .str O,none),(.val (.int .i64) Z,none)]
@[reducible] def X2:List Blk:=[]
@[go_sem] def X3:Ret:=⟨[((BK O Z)).isSome=true],[(.val (.int .i64) ((val (BK O Z)).1),none),(.val .bool ((val (BK O Z)).2),none)],[]⟩
def a8z:List Slot→List Blk→Option Ret:=pM (V:=((List UInt8)×Int)) (fun x=>X1 x.1 x.2) (fun x=>X2) fun x=>X3 x.1 x.2
@[go_sem] theorem aKO:a8z (no_index (X1 O Z)) (no_index X2)=some (X3 O Z):=pN (fun⟨a0,a1⟩ ⟨b0,b1⟩ h1 h2=>by cases h1;cases h2;rfl) (O,Z)
end
@[reducible,go_sem] def X4:Nat×Sig:=(183,⟨[.v,.v],a8z,[],[],none⟩)
theorem yF:Env Tryz.prog [sE,zS,q8] (pE [KH]):=⟨⟨sL,⟨BD,⟨qA,trivial⟩⟩⟩,oZ OC pP,pH⟩
theorem a8A:pI Tryz.prog X4:=by
 refine pO yF Tryz.func183 (c:=_) rfl (N:=50) (by kernel_rfl) (ts:=[(4,none),(5,none)]) rfl (fun _ _=>rfl) ?_
 intro⟨O,Z⟩ hs hrow
 dsimp only[X1,X2,X3,pK,enumH,pD,pG,pL,Nat.reduceAdd] at hs hrow⊢
 have hz:=hs
 obtain⟨z0,hC0⟩:=Option.isSome_iff_exists.1 hz
 try rw[pW hC0]
 clear hz hs
 unfold BK at hC0
 refine oS yF ?_
 refine oS yF ?_
 refine p4 ?_
 refine oS yF ?_
 refine pU ?_
 obtain⟨y1,hy1,hC0⟩:=sK hC0
 refine rI 0 (fun s=> ∃v,y1= .inl v∧s=(fun x=>⟨[(0,(.val .str O,none)),(6,(.val (.int .i64) x,none))],[],0,50,0⟩) v) ?_ ?_
 ·refine rH hy1 (fun x=>⟨[(0,(.val .str O,none)),(1,(.val (.int .i64) Z,none)),(6,(.val (.int .i64) x.1,none)),(10,(.val (.int .i64) (List.length O:Int),none)),(11,(.val (.int .i64) x.2,none))],[],0,50,0⟩) ⟨[0,1,6,10,11],[]⟩ (by rfl) ?_
  intro x1 w1 n1 hC1 hN1
  obtain⟨aA,aB⟩:=x1
  unfold HR at hC1
  dsimp only at hC1⊢
  refine oS yF ?_
  refine p4 ?_
  refine oX hC1 (fun hC1 hc1=> ?_) (fun hC1 hc1=> ?_)
  ·refine p7 (oW (p4 (pU ?_)))
   refine oS yF ?_
   obtain⟨hg1,hC1⟩:=oU hC1
   refine oS yF ?_ (hp:=by exact hg1)
   refine p4 ?_
   obtain⟨hg2,hC1⟩:=oU hC1
   obtain⟨hg3,hC1⟩:=oU hC1
   refine oS yF ?_ (hp:=by exact And.intro hg2 (And.intro (fun hh=>hh) (And.intro (fun hh=>hh) (And.intro hg3 (And.intro (fun hh=>hh) ((fun hh=>pY hh)))))))
   obtain⟨aC,hC2,hC1⟩:=oY hC1
   refine y6 (fun s=>s=(fun x=>⟨[(0,(.val .str O,none)),(1,(.val (.int .i64) Z,none)),(6,(.val (.int .i64) aA,none)),(8,(.val (.int .i64) x,none)),(10,(.val (.int .i64) (List.length O:Int),none)),(11,(.val (.int .i64) aB,none))],[],0,50,0⟩) aC) ?_ ?_
   ·refine oX hC2 (fun hC2 hc2=> ?_) (fun hC2 hc2=> ?_)
    ·obtain⟨hg4,hC2⟩:=oU hC2
     obtain⟨hg5,hC2⟩:=oU hC2
     refine pF yF ?_ (hp:=by exact And.intro hg4 (hg5))
     cases hC2
     exact rL ⟨⟨[0,1,6,8,10,11],[]⟩,by rfl⟩
    ·refine p7 ?_
     cases hC2
     exact rL ⟨⟨[0,1,6,8,10,11],[]⟩,by rfl⟩
   ·rintro _ rfl
    dsimp only at hC1⊢
    refine oW (p4 ?_)
    refine oS yF ?_ (hp:=by exact And.intro (fun hh=>hh) (And.intro (fun hh=>hh) ((fun hh=>sH hh))))
    refine oX hC1 (fun hC1 hc3=> ?_) (fun hC1 hc3=> ?_)
    ·refine oS yF ?_
     refine oV (pC (pR (pC (s8 (s7 (pR (pC ?_)))))))
     cases hC1
     cases hN1
     dsimp only at hC0
     cases hC0
     exact⟨[],by rfl,by rfl,by rfl⟩
    ·refine p7 (oW ?_)
     obtain⟨hg6,hC1⟩:=oU hC1
     obtain⟨hg7,hC1⟩:=oU hC1
     refine pF yF ?_ (hp:=by exact And.intro hg6 (hg7))
     refine pB (oW ?_)
     obtain⟨hg8,hC1⟩:=oU hC1
     refine pF yF ?_ (hp:=by exact hg8)
     cases hC1
     exact qG ⟨⟨[0,1,6,10,11],[]⟩,_,by rfl,hN1⟩
  ·refine qY (r8 (r5 ?_))
   cases hC1
   cases hN1
   exact qZ ⟨⟨[0,6],[]⟩,_,rfl,by rfl⟩
 ·rintro _ ⟨aD,rfl,rfl⟩
  dsimp only at hC0⊢
  refine rF (oW ?_)
  refine oS yF ?_
  refine oV ?_
  cases hC0
  exact⟨[],by rfl,by rfl,by rfl⟩
attribute [irreducible] BK
def a8B:Unit:=
 ()
section
@[reducible] def X5:List Slot:=[]
@[reducible] def X6:List Blk:=[]
@[go_sem] def X7:Ret:=⟨[],[(.val (.list .str) ([([110,101,119]:List UInt8),([102,117,122,122,121]:List UInt8),([116,114,97,110,115,108,97,116,101,100]:List UInt8),([114,101,118,105,101,119,101,100]:List UInt8),([111,98,115,111,108,101,116,101]:List UInt8)]:List (List UInt8)),some 0)],[.grow 9 1 (List.length ([([110,101,119]:List UInt8),([102,117,122,122,121]:List UInt8),([116,114,97,110,115,108,97,116,101,100]:List UInt8),([114,101,118,105,101,119,101,100]:List UInt8),([111,98,115,111,108,101,116,101]:List UInt8)]:List (List UInt8)))]⟩
def a8C:List Slot→List Blk→Option Ret:=pM (V:=Unit) (fun x=>X5) (fun x=>X6) fun x=>X7
@[go_sem] theorem aKP:a8C (no_index X5) (no_index X6)=some X7:=pN (fun _ _ h1 h2=>by cases h1;cases h2;rfl) ()
end
@[reducible,go_sem] def OJ:Nat×Sig:=(191,⟨[],a8C,[],[],none⟩)
theorem X8:Env Tryz.prog [vZ] (pE []):=⟨⟨xG,trivial⟩,pP,pH⟩
theorem a8D:pI Tryz.prog OJ:=by
 refine pO X8 Tryz.func191 (c:=_) rfl (N:=2) (by kernel_rfl) (ts:=[(0,none)]) rfl (fun _ _=>rfl) ?_
 intro⟨⟩ hs hrow
 dsimp only[X5,X6,X7,pK,enumH,pD,pG,pL,Nat.reduceAdd] at hs hrow⊢
 obtain⟨z0,hC0⟩: ∃z,a8B=z:=⟨_,rfl⟩
 try rw[hC0]
 unfold a8B at hC0
 refine oS X8 ?_
 refine oS X8 ?_
 refine oV ?_
 cases hC0
 exact⟨[(0,16)],by rfl,by rfl,by rfl⟩
def KU (O:(List (List UInt8))) (Z:(List UInt8)):Int→Option (Int⊕(Unit⊕Bool)):=fun aA=>
 if (decide (aA<(List.length O:Int)))=true then
  if 0≤aA∧aA<(List.length O:Int) then
   if (decide ((qB .str O aA)=Z))=true then
    some (.inr (.inr (true)))
   else
    if oT (aA+(1:Int)) then
     some (.inl (aA+(1:Int)))
    else none
  else none
 else
  some (.inr (.inl ()))
def G1 (O:(List (List UInt8))) (Z:(List UInt8)):Option Bool:=
 qQ (pT (KU O Z) (0:Int)) fun _=>
 some (false)
section
variable (O:(List (List UInt8))) (Z:(List UInt8))
@[reducible] def X9:List Slot:=[(.val (.list .str) O,none),(.val .str Z,none)]
@[reducible] def XA:List Blk:=[]
@[go_sem] def XB:Ret:=⟨[((G1 O Z)).isSome=true],[(.val .bool (val (G1 O Z)),none)],[]⟩
def a8E:List Slot→List Blk→Option Ret:=pM (V:=((List (List UInt8))×(List UInt8))) (fun x=>X9 x.1 x.2) (fun x=>XA) fun x=>XB x.1 x.2
@[go_sem] theorem aKQ:a8E (no_index (X9 O Z)) (no_index XA)=some (XB O Z):=pN (fun⟨a0,a1⟩ ⟨b0,b1⟩ h1 h2=>by cases h1;cases h2;rfl) (O,Z)
end
@[reducible,go_sem] def a8F:Nat×Sig:=(193,⟨[.v,.v],a8E,[],[],none⟩)
theorem E9:Env Tryz.prog [q8,vZ] (pE []):=⟨⟨qA,⟨xG,trivial⟩⟩,pP,pH⟩
theorem aFN:pI Tryz.prog a8F:=by
 refine pO E9 Tryz.func193 (c:=_) rfl (N:=18) (by kernel_rfl) (ts:=[(4,none)]) rfl (fun _ _=>rfl) ?_
 intro⟨O,Z⟩ hs hrow
 dsimp only[X9,XA,XB,pK,enumH,pD,pG,pL,Nat.reduceAdd] at hs hrow⊢
 have hz:=hs
 obtain⟨z0,hC0⟩:=Option.isSome_iff_exists.1 hz
 try rw[pW hC0]
 clear hz hs
 unfold G1 at hC0
 refine oS E9 ?_
 refine p4 ?_
 refine oS E9 ?_
 refine pU ?_
 obtain⟨y1,hy1,hC0⟩:=sK hC0
 refine rI 0 (fun s=> ∃v,y1= .inl v∧s=(fun _=>⟨[],[],0,18,0⟩) v) ?_ ?_
 ·refine rH hy1 (fun x=>⟨[(0,(.val (.list .str) O,none)),(1,(.val .str Z,none)),(5,(.val (.int .i64) x,none))],[],0,18,0⟩) ⟨[0,1,5],[]⟩ (by rfl) ?_
  intro aA w1 n1 hC1 hN1
  unfold KU at hC1
  dsimp only at hC1⊢
  refine p4 ?_
  refine oS E9 ?_
  refine oX hC1 (fun hC1 hc1=> ?_) (fun hC1 hc1=> ?_)
  ·refine p7 (oW (p4 (pU ?_)))
   obtain⟨hg1,hC1⟩:=oU hC1
   refine oS E9 ?_ (hp:=by exact hg1)
   refine oX hC1 (fun hC1 hc2=> ?_) (fun hC1 hc2=> ?_)
   ·refine oS E9 ?_
    refine oV (pR (pC (s8 (s7 (pR (pC ?_))))))
    cases hC1
    cases hN1
    dsimp only at hC0
    cases hC0
    exact⟨[],by rfl,by rfl,by rfl⟩
   ·refine p7 (pB (oW ?_))
    obtain⟨hg2,hC1⟩:=oU hC1
    refine pF E9 ?_ (hp:=by exact hg2)
    cases hC1
    exact qG ⟨⟨[0,1,5],[]⟩,_,by rfl,hN1⟩
  ·refine qY (r8 (r5 ?_))
   cases hC1
   cases hN1
   exact qZ ⟨⟨[],[]⟩,_,rfl,by rfl⟩
 ·rintro _ ⟨v,rfl,rfl⟩
  dsimp only at hC0⊢
  refine rF (oW ?_)
  refine oS E9 ?_
  refine oV ?_
  cases hC0
  exact⟨[],by rfl,by rfl,by rfl⟩
attribute [irreducible] G1
def a8G (O:p6) (Z:(List UInt8)):Unit:=
 ()
section
variable (O:p6) (Z:(List UInt8))
@[reducible] def XC:List Slot:=[(.val (.pair .str (.pair .str .unit)) O,none),(.val .ref (some (0,0)),none)]
@[reducible] def XD:List Blk:=[.cells .str Z []]
@[go_sem] def XE:Ret:=⟨[],[(.val .bool (decide (O.1=Z)),none)],[.cells .str Z []]⟩
def a8H:List Slot→List Blk→Option Ret:=pM (V:=(p6×(List UInt8))) (fun x=>XC x.1) (fun x=>XD x.2) fun x=>XE x.1 x.2
@[go_sem] theorem aKR:a8H (no_index (XC O)) (no_index (XD Z))=some (XE O Z):=pN (fun⟨a0,a1⟩ ⟨b0,b1⟩ h1 h2=>by cases h1;cases h2;rfl) (O,Z)
end
@[reducible,go_sem] def a8I:Nat×Sig:=(201,⟨[.v,.p .str []],a8H,[],[0],none⟩)
theorem XF:Env Tryz.prog [q8,AH] (pE []):=⟨⟨qA,⟨CF,trivial⟩⟩,pP,pH⟩
theorem aFO:pI Tryz.prog a8I:=by
 refine pO XF Tryz.func201 (c:=_) rfl (N:=8) (by kernel_rfl) (ts:=[(3,none)]) rfl (fun _ _=>rfl) ?_
 intro⟨O,Z⟩ hs hrow
 dsimp only[XC,XD,XE,pK,enumH,pD,pG,pL,Nat.reduceAdd] at hs hrow⊢
 obtain⟨z0,hC0⟩: ∃z,(a8G O Z)=z:=⟨_,rfl⟩
 try rw[hC0]
 unfold a8G at hC0
 refine oS XF ?_
 refine oS XF ?_
 refine oV ?_
 cases hC0
 exact⟨[(0,0)],by rfl,by rfl,by rfl⟩
def a8J (O:Int):Unit:=
 ()
section
variable (O:Int)
@[reducible] def XG:List Slot:=[(.val (.int .i64) O,none)]
@[reducible] def XH:List Blk:=[]
@[go_sem] def XI:Ret:=⟨[],[(.val .bool (((decide ((0:Int)≤O))&&(decide (O≤(1114111:Int))))&&((decide (O<(55296:Int)))||(decide ((57343:Int)<O)))),none)],[]⟩
def a8K:List Slot→List Blk→Option Ret:=pM (V:=Int) (fun x=>XG x) (fun x=>XH) fun x=>XI x
@[go_sem] theorem aKS:a8K (no_index (XG O)) (no_index XH)=some (XI O):=pN (fun a0 b0 h1 h2=>by cases h1;cases h2;rfl) O
end
@[reducible,go_sem] def KV:Nat×Sig:=(205,⟨[.v],a8K,[],[],none⟩)
theorem XJ:Env Tryz.prog [] (pE []):=⟨trivial,pP,pH⟩
theorem OK:pI Tryz.prog KV:=by
 refine pO XJ Tryz.func205 (c:=_) rfl (N:=17) (by kernel_rfl) (ts:=[(2,none)]) rfl (fun _ _=>rfl) ?_
 intro O hs hrow
 dsimp only[XG,XH,XI,pK,enumH,pD,pG,pL,Nat.reduceAdd] at hs hrow⊢
 obtain⟨z0,hC0⟩: ∃z,(a8J O)=z:=⟨_,rfl⟩
 try rw[hC0]
 unfold a8J at hC0
 refine oS XJ ?_
 refine oS XJ ?_ (hp:=by exact And.intro (fun hh=>hh) (And.intro (fun hh=>pY hh) (And.intro (fun hh=>hh) (And.intro (fun hh=>hh) (And.intro (fun hh=>hh) (And.intro (fun hh=>hh) (And.intro (fun hG hh=>y7 hG hh) ((fun hh=>pY hh)))))))))
 refine oV ?_
 cases hC0
 exact⟨[],by rfl,by rfl,by rfl⟩
end
end Go.Proofs.YtfchbnahjcdiiaaGreatDoor
namespace Go.Proofs.YtfchbnahjcdiiaaGreatDoor
open Vc
set_option maxRecDepth 100000
set_option maxHeartbeats 4000000
set_option linter.unusedSimpArgs false
set_option linter.unusedVariables false
noncomputable section
def yG (O:Int):Option (List UInt8):=
 if (decide (O<(128:Int)))=true then
  some ((rB ([(IntKind.wrap .u8 O)]:List Int)))
 else
  if (decide (O<(2048:Int)))=true then
   if oT ((192:Int)+(IntKind.wrap .i64 (Int.tdiv O (64:Int)))) then
    if oT ((128:Int)+(Int.tmod O (64:Int))) then
     some ((rB ([(IntKind.wrap .u8 ((192:Int)+(IntKind.wrap .i64 (Int.tdiv O (64:Int))))),(IntKind.wrap .u8 ((128:Int)+(Int.tmod O (64:Int))))]:List Int)))
    else none
   else none
  else
   if (decide (O<(65536:Int)))=true then
    if oT ((224:Int)+(IntKind.wrap .i64 (Int.tdiv O (4096:Int)))) then
     if oT ((128:Int)+(Int.tmod (IntKind.wrap .i64 (Int.tdiv O (64:Int))) (64:Int))) then
      if oT ((128:Int)+(Int.tmod O (64:Int))) then
       some ((rB ([(IntKind.wrap .u8 ((224:Int)+(IntKind.wrap .i64 (Int.tdiv O (4096:Int))))),(IntKind.wrap .u8 ((128:Int)+(Int.tmod (IntKind.wrap .i64 (Int.tdiv O (64:Int))) (64:Int)))),(IntKind.wrap .u8 ((128:Int)+(Int.tmod O (64:Int))))]:List Int)))
      else none
     else none
    else none
   else
    if oT ((240:Int)+(IntKind.wrap .i64 (Int.tdiv O (262144:Int)))) then
     if oT ((128:Int)+(Int.tmod (IntKind.wrap .i64 (Int.tdiv O (4096:Int))) (64:Int))) then
      if oT ((128:Int)+(Int.tmod (IntKind.wrap .i64 (Int.tdiv O (64:Int))) (64:Int))) then
       if oT ((128:Int)+(Int.tmod O (64:Int))) then
        some ((rB ([(IntKind.wrap .u8 ((240:Int)+(IntKind.wrap .i64 (Int.tdiv O (262144:Int))))),(IntKind.wrap .u8 ((128:Int)+(Int.tmod (IntKind.wrap .i64 (Int.tdiv O (4096:Int))) (64:Int)))),(IntKind.wrap .u8 ((128:Int)+(Int.tmod (IntKind.wrap .i64 (Int.tdiv O (64:Int))) (64:Int)))),(IntKind.wrap .u8 ((128:Int)+(Int.tmod O (64:Int))))]:List Int)))
       else none
      else none
     else none
    else none
section
variable (O:Int)
@[reducible] def XK:List Slot:=[(.val (.int .i64) O,none)]
@[reducible] def XL:List Blk:=[]
@[go_sem] def XM:Ret:=⟨[((yG O)).isSome=true],[(.val .str (val (yG O)),none)],[]⟩
def a8L:List Slot→List Blk→Option Ret:=pM (V:=Int) (fun x=>XK x) (fun x=>XL) fun x=>XM x
@[go_sem] theorem aKT:a8L (no_index (XK O)) (no_index XL)=some (XM O):=pN (fun a0 b0 h1 h2=>by cases h1;cases h2;rfl) O
end
@[reducible,go_sem] def KW:Nat×Sig:=(206,⟨[.v],a8L,[],[],none⟩)
theorem CN:Env Tryz.prog [sE,zS,q8,AG] (pE []):=⟨⟨sL,⟨BD,⟨qA,⟨CE,trivial⟩⟩⟩⟩,pP,pH⟩
theorem OL:pI Tryz.prog KW:=by
 refine pO CN Tryz.func206 (c:=_) rfl (N:=61) (by kernel_rfl) (ts:=[(2,none)]) rfl (fun _ _=>rfl) ?_
 intro O hs hrow
 dsimp only[XK,XL,XM,pK,enumH,pD,pG,pL,Nat.reduceAdd] at hs hrow⊢
 have hz:=hs
 obtain⟨z0,hC0⟩:=Option.isSome_iff_exists.1 hz
 try rw[pW hC0]
 clear hz hs
 unfold yG at hC0
 refine oS CN ?_
 refine p4 (pU ?_)
 refine oS CN ?_
 refine oX hC0 (fun hC0 hc1=> ?_) (fun hC0 hc1=> ?_)
 ·refine oS CN ?_
  refine oV (pR (pC ?_))
  cases hC0
  exact⟨[],by rfl,by rfl,by rfl⟩
 ·refine oS CN ?_
  refine oX hC0 (fun hC0 hc2=> ?_) (fun hC0 hc2=> ?_)
  ·obtain⟨hg1,hC0⟩:=oU hC0
   obtain⟨hg2,hC0⟩:=oU hC0
   refine oS CN ?_ (hp:=by exact And.intro (show (64:Int)≠0 from by decide) (And.intro hg1 (And.intro (show (64:Int)≠0 from by decide) (hg2))))
   refine oV (pR (pC ?_))
   cases hC0
   exact⟨[],by rfl,by rfl,by rfl⟩
  ·refine oS CN ?_
   refine oX hC0 (fun hC0 hc3=> ?_) (fun hC0 hc3=> ?_)
   ·obtain⟨hg3,hC0⟩:=oU hC0
    obtain⟨hg4,hC0⟩:=oU hC0
    obtain⟨hg5,hC0⟩:=oU hC0
    refine oS CN ?_ (hp:=by exact And.intro (show (4096:Int)≠0 from by decide) (And.intro hg3 (And.intro (show (64:Int)≠0 from by decide) (And.intro (show (64:Int)≠0 from by decide) (And.intro hg4 (And.intro (show (64:Int)≠0 from by decide) (hg5)))))))
    refine oV (pR (pC ?_))
    cases hC0
    exact⟨[],by rfl,by rfl,by rfl⟩
   ·refine p7 (pB (oW ?_))
    obtain⟨hg6,hC0⟩:=oU hC0
    obtain⟨hg7,hC0⟩:=oU hC0
    obtain⟨hg8,hC0⟩:=oU hC0
    obtain⟨hg9,hC0⟩:=oU hC0
    refine oS CN ?_ (hp:=by exact And.intro (show (262144:Int)≠0 from by decide) (And.intro hg6 (And.intro (show (4096:Int)≠0 from by decide) (And.intro (show (64:Int)≠0 from by decide) (And.intro hg7 (And.intro (show (64:Int)≠0 from by decide) (And.intro (show (64:Int)≠0 from by decide) (And.intro hg8 (And.intro (show (64:Int)≠0 from by decide) (hg9))))))))))
    refine oV ?_
    cases hC0
    exact⟨[],by rfl,by rfl,by rfl⟩
attribute [irreducible] yG
def HS (O:(List Int)):((List UInt8)×Int)→Option (((List UInt8)×Int)⊕(List UInt8)):=fun(Z,aA)=>
 if (decide (aA<(List.length O:Int)))=true then
  if 0≤aA∧aA<(List.length O:Int) then
   if (((decide ((0:Int)≤(qB (.int .i64) O aA)))&&(decide ((qB (.int .i64) O aA)≤(1114111:Int))))&&((decide ((qB (.int .i64) O aA)<(55296:Int)))||(decide ((57343:Int)<(qB (.int .i64) O aA)))))=true then
    if 0≤aA∧aA<(List.length O:Int) then
     (yG (qB (.int .i64) O aA)).bind fun aB=>
     if ((Z++aB).length:Int)≤9223372036854775807 then
      if oT (aA+(1:Int)) then
       some (.inl ((Z++aB),(aA+(1:Int))))
      else none
     else none
    else none
   else
    (yG (65533:Int)).bind fun aC=>
    if ((Z++aC).length:Int)≤9223372036854775807 then
     if oT (aA+(1:Int)) then
      some (.inl ((Z++aC),(aA+(1:Int))))
     else none
    else none
  else none
 else
  some (.inr Z)
def G2 (O:(List Int)):Option (List UInt8):=
 qE (pT (HS O) (([]:List UInt8),(0:Int))) fun Z=>
 some (Z)
section
variable (O:(List Int))
@[reducible] def XN:List Slot:=[(.val (.list (.int .i64)) O,none)]
@[reducible] def XO:List Blk:=[]
@[go_sem] def XP:Ret:=⟨[((G2 O)).isSome=true],[(.val .str (val (G2 O)),none)],[]⟩
def a8M:List Slot→List Blk→Option Ret:=pM (V:=(List Int)) (fun x=>XN x) (fun x=>XO) fun x=>XP x
@[go_sem] theorem aKU:a8M (no_index (XN O)) (no_index XO)=some (XP O):=pN (fun a0 b0 h1 h2=>by cases h1;cases h2;rfl) O
end
@[reducible,go_sem] def a8N:Nat×Sig:=(207,⟨[.v],a8M,[],[],none⟩)
theorem AN:Env Tryz.prog [sE,CI] (pE [KV,KW]):=⟨⟨sL,⟨FV,trivial⟩⟩,oZ OK (oZ OL pP),pH⟩
theorem aFP:pI Tryz.prog a8N:=by
 refine pO AN Tryz.func207 (c:=_) rfl (N:=27) (by kernel_rfl) (ts:=[(2,none)]) rfl (fun _ _=>rfl) ?_
 intro O hs hrow
 dsimp only[XN,XO,XP,pK,enumH,pD,pG,pL,Nat.reduceAdd] at hs hrow⊢
 have hz:=hs
 obtain⟨z0,hC0⟩:=Option.isSome_iff_exists.1 hz
 try rw[pW hC0]
 clear hz hs
 unfold G2 at hC0
 refine oS AN ?_
 refine oS AN ?_
 refine p4 ?_
 refine oS AN ?_
 refine pU ?_
 obtain⟨Z,hy1,hC0⟩:=oY hC0
 refine rI 0 (fun s=>s=(fun x=>⟨[(3,(.val .str x,none))],[],0,27,0⟩) Z) ?_ ?_
 ·refine rH hy1 (fun x=>⟨[(0,(.val (.list (.int .i64)) O,none)),(3,(.val .str x.1,none)),(4,(.val (.int .i64) x.2,none))],[],0,27,0⟩) ⟨[0,3,4],[]⟩ (by rfl) ?_
  intro x1 w1 n1 hC1 hN1
  obtain⟨aA,aB⟩:=x1
  unfold HS at hC1
  dsimp only at hC1⊢
  refine p4 ?_
  refine oS AN ?_
  refine oX hC1 (fun hC1 hc1=> ?_) (fun hC1 hc1=> ?_)
  ·refine p7 (oW (p4 (pU ?_)))
   obtain⟨hg1,hC1⟩:=oU hC1
   refine oS AN ?_ (hp:=by exact hg1)
   refine oX hC1 (fun hC1 hc2=> ?_) (fun hC1 hc2=> ?_)
   ·obtain⟨hg2,hC1⟩:=oU hC1
    obtain⟨aC,hv3,hw3,hC1⟩:=p9 hC1
    try simp only[go_sem] at hw3
    obtain⟨hg4,hC1⟩:=oU hC1
    refine pF AN ?_ (hp:=by exact And.intro hg2 (And.intro (p8 hv3) (hg4))) (h:=by simp only[go_sem,hw3];rfl)
    refine pB (oW ?_)
    obtain⟨hg5,hC1⟩:=oU hC1
    refine pF AN ?_ (hp:=by exact hg5)
    cases hC1
    exact qG ⟨⟨[0,3,4],[]⟩,_,by rfl,hN1⟩
   ·obtain⟨aD,hv6,hw6,hC1⟩:=p9 hC1
    try simp only[go_sem] at hw6
    obtain⟨hg7,hC1⟩:=oU hC1
    refine pF AN ?_ (hp:=by exact And.intro (p8 hv6) (hg7)) (h:=by simp only[go_sem,hw6];rfl)
    refine pB (oW ?_)
    obtain⟨hg8,hC1⟩:=oU hC1
    refine pF AN ?_ (hp:=by exact hg8)
    cases hC1
    exact qG ⟨⟨[0,3,4],[]⟩,_,by rfl,hN1⟩
  ·refine qY (r8 (r5 ?_))
   cases hC1
   cases hN1
   exact qZ ⟨⟨[3],[]⟩,by rfl⟩
 ·rintro _ rfl
  dsimp only at hC0⊢
  refine rF (oW ?_)
  refine oS AN ?_
  refine oV ?_
  cases hC0
  exact⟨[],by rfl,by rfl,by rfl⟩
attribute [irreducible] G2
def a8O (O:(List UInt8)):Unit:=
 ()
section
variable (O:(List UInt8))
@[reducible] def XQ:List Slot:=[(.val .str O,none)]
@[reducible] def XR:List Blk:=[]
@[go_sem] def XS:Ret:=⟨[],[(.val .bool true,none)],[]⟩
def a8P:List Slot→List Blk→Option Ret:=pM (V:=(List UInt8)) (fun x=>XQ x) (fun x=>XR) fun x=>XS
@[go_sem] theorem aKV:a8P (no_index (XQ O)) (no_index XR)=some XS:=pN (fun a0 b0 h1 h2=>by cases h1;cases h2;rfl) O
end
@[reducible,go_sem] def a8Q:Nat×Sig:=(212,⟨[.v],a8P,[],[],none⟩)
theorem XT:Env Tryz.prog [] (pE []):=⟨trivial,pP,pH⟩
theorem aFQ:pI Tryz.prog a8Q:=by
 refine pO XT Tryz.func212 (c:=_) rfl (N:=3) (by kernel_rfl) (ts:=[(2,none)]) rfl (fun _ _=>rfl) ?_
 intro O hs hrow
 dsimp only[XQ,XR,XS,pK,enumH,pD,pG,pL,Nat.reduceAdd] at hs hrow⊢
 obtain⟨z0,hC0⟩: ∃z,(a8O O)=z:=⟨_,rfl⟩
 try rw[hC0]
 unfold a8O at hC0
 refine oS XT ?_
 refine oS XT ?_
 refine oV ?_
 cases hC0
 exact⟨[],by rfl,by rfl,by rfl⟩
def G3 (O:Int) (Z:Int):Option Int:=
 qE (σ:=Int) (
   if ((decide ((48:Int)≤O))&&(decide (O≤(57:Int))))=true then
    some ((IntKind.wrap .i64 (IntKind.wrap .u8 (O- (48:Int)))))
   else
    if ((decide ((97:Int)≤O))&&(decide (O≤(102:Int))))=true then
     if oT ((IntKind.wrap .i64 (IntKind.wrap .u8 (O- (97:Int))))+(10:Int)) then
      some (((IntKind.wrap .i64 (IntKind.wrap .u8 (O- (97:Int))))+(10:Int)))
     else none
    else
     if ((decide ((65:Int)≤O))&&(decide (O≤(70:Int))))=true then
      if oT ((IntKind.wrap .i64 (IntKind.wrap .u8 (O- (65:Int))))+(10:Int)) then
       some (((IntKind.wrap .i64 (IntKind.wrap .u8 (O- (65:Int))))+(10:Int)))
      else none
     else
      some ((-1:Int))
  ) fun aA=>
 if (decide (Z≤aA))=true then
  some ((-1:Int))
 else
  some (aA)
section
variable (O:Int) (Z:Int)
@[reducible] def XU:List Slot:=[(.val (.int .u8) O,none),(.val (.int .i64) Z,none)]
@[reducible] def XV:List Blk:=[]
@[go_sem] def XW:Ret:=⟨[((G3 O Z)).isSome=true],[(.val (.int .i64) (val (G3 O Z)),none)],[]⟩
def a8R:List Slot→List Blk→Option Ret:=pM (V:=(Int×Int)) (fun x=>XU x.1 x.2) (fun x=>XV) fun x=>XW x.1 x.2
@[go_sem] theorem aKW:a8R (no_index (XU O Z)) (no_index XV)=some (XW O Z):=pN (fun⟨a0,a1⟩ ⟨b0,b1⟩ h1 h2=>by cases h1;cases h2;rfl) (O,Z)
end
@[reducible,go_sem] def a8S:Nat×Sig:=(215,⟨[.v,.v],a8R,[],[],none⟩)
theorem zU:Env Tryz.prog [sE,zS] (pE []):=⟨⟨sL,⟨BD,trivial⟩⟩,pP,pH⟩
theorem aFR:pI Tryz.prog a8S:=by
 refine pO zU Tryz.func215 (c:=_) rfl (N:=42) (by kernel_rfl) (ts:=[(4,none)]) rfl (fun _ _=>rfl) ?_
 intro⟨O,Z⟩ hs hrow
 dsimp only[XU,XV,XW,pK,enumH,pD,pG,pL,Nat.reduceAdd] at hs hrow⊢
 have hz:=hs
 obtain⟨z0,hC0⟩:=Option.isSome_iff_exists.1 hz
 try rw[pW hC0]
 clear hz hs
 unfold G3 at hC0
 refine oS zU ?_
 refine oS zU ?_
 refine p4 ?_
 obtain⟨aA,hC1,hC0⟩:=oY hC0
 refine y6 (fun s=>s=(fun x=>⟨[(1,(.val (.int .i64) Z,none)),(5,(.val (.int .i64) x,none))],[],0,42,0⟩) aA) ?_ ?_
 ·refine pU ?_
  refine oS zU ?_ (hp:=by exact And.intro (fun hh=>hh) ((fun hh=>pY hh)))
  refine oX hC1 (fun hC1 hc1=> ?_) (fun hC1 hc1=> ?_)
  ·refine pF zU ?_
   refine pB ?_
   cases hC1
   exact rL ⟨⟨[1,5],[]⟩,by rfl⟩
  ·refine oS zU ?_ (hp:=by exact And.intro (fun hh=>hh) ((fun hh=>pY hh)))
   refine oX hC1 (fun hC1 hc2=> ?_) (fun hC1 hc2=> ?_)
   ·obtain⟨hg1,hC1⟩:=oU hC1
    refine pF zU ?_ (hp:=by exact hg1)
    refine pB ?_
    cases hC1
    exact rL ⟨⟨[1,5],[]⟩,by rfl⟩
   ·refine oS zU ?_ (hp:=by exact And.intro (fun hh=>hh) ((fun hh=>pY hh)))
    refine oX hC1 (fun hC1 hc3=> ?_) (fun hC1 hc3=> ?_)
    ·obtain⟨hg2,hC1⟩:=oU hC1
     refine pF zU ?_ (hp:=by exact hg2)
     refine pB ?_
     cases hC1
     exact rL ⟨⟨[1,5],[]⟩,by rfl⟩
    ·refine p7 (pB ?_)
     cases hC1
     exact rL ⟨⟨[1,5],[]⟩,by rfl⟩
 ·rintro _ rfl
  dsimp only at hC0⊢
  refine oW (p4 ?_)
  refine oS zU ?_
  refine oX hC0 (fun hC0 hc4=> ?_) (fun hC0 hc4=> ?_)
  ·refine oS zU ?_
   refine oV (pC ?_)
   cases hC0
   exact⟨[],by rfl,by rfl,by rfl⟩
  ·refine p7 (oW ?_)
   refine oS zU ?_
   refine oV ?_
   cases hC0
   exact⟨[],by rfl,by rfl,by rfl⟩
attribute [irreducible] G3
def a8T (O:Int):Unit:=
 ()
section
variable (O:Int)
@[reducible] def XX:List Slot:=[(.val (.int .i64) O,none)]
@[reducible] def XY:List Blk:=[]
@[go_sem] def XZ:Ret:=⟨[],[(.val .bool (((decide ((0:Int)≤O))&&(decide (O≤(1114111:Int))))&&((decide (O<(55296:Int)))||(decide ((57343:Int)<O)))),none)],[]⟩
def a8U:List Slot→List Blk→Option Ret:=pM (V:=Int) (fun x=>XX x) (fun x=>XY) fun x=>XZ x
@[go_sem] theorem aKX:a8U (no_index (XX O)) (no_index XY)=some (XZ O):=pN (fun a0 b0 h1 h2=>by cases h1;cases h2;rfl) O
end
@[reducible,go_sem] def a8V:Nat×Sig:=(217,⟨[.v],a8U,[],[],none⟩)
theorem Y0:Env Tryz.prog [] (pE []):=⟨trivial,pP,pH⟩
theorem aFS:pI Tryz.prog a8V:=by
 refine pO Y0 Tryz.func217 (c:=_) rfl (N:=17) (by kernel_rfl) (ts:=[(2,none)]) rfl (fun _ _=>rfl) ?_
 intro O hs hrow
 dsimp only[XX,XY,XZ,pK,enumH,pD,pG,pL,Nat.reduceAdd] at hs hrow⊢
 obtain⟨z0,hC0⟩: ∃z,(a8T O)=z:=⟨_,rfl⟩
 try rw[hC0]
 unfold a8T at hC0
 refine oS Y0 ?_
 refine oS Y0 ?_ (hp:=by exact And.intro (fun hh=>hh) (And.intro (fun hh=>pY hh) (And.intro (fun hh=>hh) (And.intro (fun hh=>hh) (And.intro (fun hh=>hh) (And.intro (fun hh=>hh) (And.intro (fun hG hh=>y7 hG hh) ((fun hh=>pY hh)))))))))
 refine oV ?_
 cases hC0
 exact⟨[],by rfl,by rfl,by rfl⟩
def KX (O:(List p6)) (Z:(List UInt8)):Int→Option (Int⊕(Unit⊕Int)):=fun aA=>
 if (decide (aA<(List.length O:Int)))=true then
  if 0≤aA∧aA<(List.length O:Int) then
   if (decide (((qB (.pair .str (.pair .str .unit)) O aA).1)=Z))=true then
    some (.inr (.inr (aA)))
   else
    if oT (aA+(1:Int)) then
     some (.inl (aA+(1:Int)))
    else none
  else none
 else
  some (.inr (.inl ()))
def HT (O:(List p6)) (Z:(List UInt8)):Option Int:=
 qQ (pT (KX O Z) (0:Int)) fun _=>
 some ((-1:Int))
section
variable (O:(List p6)) (Z:(List UInt8))
@[reducible] def Y1:List Slot:=[(.val (.list (.pair .str (.pair .str .unit))) O,none),(.val .clo (some (201,[(0,0)])),none)]
@[reducible] def Y2:List Blk:=[.cells .str Z []]
@[go_sem] def Y3:Ret:=⟨[((HT O Z)).isSome=true],[(.val (.int .i64) (val (HT O Z)),none)],[.cells .str Z []]⟩
def a8W:List Slot→List Blk→Option Ret:=pM (V:=((List p6)×(List UInt8))) (fun x=>Y1 x.1) (fun x=>Y2 x.2) fun x=>Y3 x.1 x.2
@[go_sem] theorem aKY:a8W (no_index (Y1 O)) (no_index (Y2 Z))=some (Y3 O Z):=pN (fun⟨a0,a1⟩ ⟨b0,b1⟩ h1 h2=>by cases h1;cases h2;rfl) (O,Z)
end
@[reducible,go_sem] def a8X:Nat×Sig:=(172,⟨[.v,.f [(.str,[])]],a8W,[],[0],none⟩)
theorem CO:Env Tryz.prog [yA,AH] (pE [a8I]):=⟨⟨zR,⟨CF,trivial⟩⟩,oZ aFO pP,pH⟩
theorem aFT:pI Tryz.prog a8X:=by
 refine pO CO Tryz.func172 (c:=_) rfl (N:=19) (by kernel_rfl) (ts:=[(4,none)]) rfl (fun _ _=>rfl) ?_
 intro⟨O,Z⟩ hs hrow
 dsimp only[Y1,Y2,Y3,pK,enumH,pD,pG,pL,Nat.reduceAdd] at hs hrow⊢
 have hz:=hs
 obtain⟨z0,hC0⟩:=Option.isSome_iff_exists.1 hz
 try rw[pW hC0]
 clear hz hs
 unfold HT at hC0
 refine oS CO ?_
 refine p4 ?_
 refine oS CO ?_
 refine pU ?_
 obtain⟨y1,hy1,hC0⟩:=sK hC0
 refine rI 0 (fun s=> ∃v,y1= .inl v∧s=(fun _=>⟨[],[(0,.cells .str Z [])],1,19,1⟩) v) ?_ ?_
 ·refine rH hy1 (fun x=>⟨[(0,(.val (.list (.pair .str (.pair .str .unit))) O,none)),(1,(.val .clo (some (201,[(0,0)])),none)),(7,(.val (.int .i64) (List.length O:Int),none)),(8,(.val (.int .i64) x,none))],[(0,.cells .str Z [])],1,19,1⟩) ⟨[0,1,7,8],[(0,0)]⟩ (by rfl) ?_
  intro aA w1 n1 hC1 hN1
  unfold KX at hC1
  dsimp only at hC1⊢
  refine oS CO ?_
  refine p4 ?_
  refine oX hC1 (fun hC1 hc1=> ?_) (fun hC1 hc1=> ?_)
  ·refine p7 (oW (p4 (pU ?_)))
   refine oS CO ?_
   obtain⟨hg1,hC1⟩:=oU hC1
   refine oS CO ?_ (hp:=by exact And.intro hg1 ((by first|exact rfl|exact trivial)))
   refine oX hC1 (fun hC1 hc2=> ?_) (fun hC1 hc2=> ?_)
   ·refine oS CO ?_
    refine oV (pR (pC (s8 (s7 (pR (pC ?_))))))
    cases hC1
    cases hN1
    dsimp only at hC0
    cases hC0
    exact⟨[(0,0)],by rfl,by rfl,by rfl⟩
   ·refine p7 (pB (oW ?_))
    obtain⟨hg2,hC1⟩:=oU hC1
    refine pF CO ?_ (hp:=by exact hg2)
    cases hC1
    exact qG ⟨⟨[0,1,7,8],[(0,0)]⟩,_,by rfl,hN1⟩
  ·refine qY (r8 (r5 ?_))
   cases hC1
   cases hN1
   exact qZ ⟨⟨[],[(0,0)]⟩,_,rfl,by rfl⟩
 ·rintro _ ⟨v,rfl,rfl⟩
  dsimp only at hC0⊢
  refine rF (oW ?_)
  refine oS CO ?_
  refine oV ?_
  cases hC0
  exact⟨[(0,0)],by rfl,by rfl,by rfl⟩
attribute [irreducible] HT
def G4 (O:(List UInt8)) (Z:(List UInt8)):Option Unit:=
 (HO O Z).bind fun aA=>
 some (())
section
variable (O:(List UInt8)) (Z:(List UInt8))
@[reducible] def Y4:List Slot:=[(.val .str O,none),(.val .str Z,none)]
@[reducible] def Y5:List Blk:=[]
@[go_sem] def Y6:Ret:=⟨[((G4 O Z)).isSome=true],[(.val .bool ((decide ((List.length Z:Int)≤(List.length O:Int)))&&(decide ((p5 O (0:Int) (List.length Z:Int))=Z))),none)],[]⟩
def a8Y:List Slot→List Blk→Option Ret:=pM (V:=((List UInt8)×(List UInt8))) (fun x=>Y4 x.1 x.2) (fun x=>Y5) fun x=>Y6 x.1 x.2
@[go_sem] theorem aKZ:a8Y (no_index (Y4 O Z)) (no_index Y5)=some (Y6 O Z):=pN (fun⟨a0,a1⟩ ⟨b0,b1⟩ h1 h2=>by cases h1;cases h2;rfl) (O,Z)
end
@[reducible,go_sem] def a8Z:Nat×Sig:=(85,⟨[.v,.v],a8Y,[],[],none⟩)
theorem Y7:Env Tryz.prog [] (pE [VQ]):=⟨trivial,oZ a76 pP,pH⟩
theorem aFU:pI Tryz.prog a8Z:=by
 refine pO Y7 Tryz.func85 (c:=_) rfl (N:=8) (by kernel_rfl) (ts:=[(4,none)]) rfl (fun _ _=>rfl) ?_
 intro⟨O,Z⟩ hs hrow
 dsimp only[Y4,Y5,Y6,pK,enumH,pD,pG,pL,Nat.reduceAdd] at hs hrow⊢
 have hz:=hs
 obtain⟨z0,hC0⟩:=Option.isSome_iff_exists.1 hz
 try rw[pW hC0]
 clear hz hs
 unfold G4 at hC0
 refine oS Y7 ?_
 obtain⟨aA,hv1,hw1,hC0⟩:=p9 hC0
 try simp only[go_sem] at hw1
 refine oS Y7 ?_ (hp:=by exact(p8 hv1)) (h:=by simp only[go_sem,hw1];rfl)
 refine oV ?_
 cases hC0
 exact⟨[],by rfl,by rfl,by rfl⟩
attribute [irreducible] G4
end
end Go.Proofs.YtfchbnahjcdiiaaGreatDoor
namespace Go.Proofs.YtfchbnahjcdiiaaGreatDoor
open Vc
set_option maxRecDepth 100000
set_option maxHeartbeats 4000000
set_option linter.unusedSimpArgs false
set_option linter.unusedVariables false
noncomputable section
def AO (O:(List UInt8)) (Z:Int):(Int×Int)→Option ((Int×Int)⊕(Int⊕(Int×Int))):=fun(aA,aB)=>
 if (decide (aB<Z))=true then
  if 0≤aB∧aB<(List.length O:Int) then
   if (((decide ((pA O aB)<(128:Int)))==false)=true→0≤aB∧aB<(List.length O:Int)) then
    if ((decide ((pA O aB)<(128:Int)))||(decide ((191:Int)<(pA O aB))))=true then
     some (.inr (.inr (((65533:Int),(1:Int)))))
    else
     if oT ((64:Int)*aA) then
      if 0≤aB∧aB<(List.length O:Int) then
       if oT (((64:Int)*aA)+(IntKind.wrap .i64 (pA O aB))) then
        if oT ((((64:Int)*aA)+(IntKind.wrap .i64 (pA O aB)))- (128:Int)) then
         if oT (aB+(1:Int)) then
          some (.inl (((((64:Int)*aA)+(IntKind.wrap .i64 (pA O aB)))- (128:Int)),(aB+(1:Int))))
         else none
        else none
       else none
      else none
     else none
   else none
  else none
 else
  some (.inr (.inl aA))
def EA (O:(List UInt8)):Option (Int×Int):=
 if 0≤(0:Int)∧(0:Int)<(List.length O:Int) then
  qQ (σ:=(Int×Int)) (
    if (decide ((IntKind.wrap .i64 (pA O (0:Int)))<(128:Int)))=true then
     some (.inr (((IntKind.wrap .i64 (pA O (0:Int))),(1:Int))))
    else
     if ((decide ((192:Int)≤(IntKind.wrap .i64 (pA O (0:Int)))))&&(decide ((IntKind.wrap .i64 (pA O (0:Int)))<(224:Int))))=true then
      if oT ((IntKind.wrap .i64 (pA O (0:Int)))- (192:Int)) then
       some (.inl (((IntKind.wrap .i64 (pA O (0:Int)))- (192:Int)),(2:Int)))
      else none
     else
      if ((decide ((224:Int)≤(IntKind.wrap .i64 (pA O (0:Int)))))&&(decide ((IntKind.wrap .i64 (pA O (0:Int)))<(240:Int))))=true then
       if oT ((IntKind.wrap .i64 (pA O (0:Int)))- (224:Int)) then
        some (.inl (((IntKind.wrap .i64 (pA O (0:Int)))- (224:Int)),(3:Int)))
       else none
      else
       if ((decide ((240:Int)≤(IntKind.wrap .i64 (pA O (0:Int)))))&&(decide ((IntKind.wrap .i64 (pA O (0:Int)))<(248:Int))))=true then
        if oT ((IntKind.wrap .i64 (pA O (0:Int)))- (240:Int)) then
         some (.inl (((IntKind.wrap .i64 (pA O (0:Int)))- (240:Int)),(4:Int)))
        else none
       else
        some (.inr (((65533:Int),(1:Int))))
   ) fun(Z,aA)=>
  if (decide ((List.length O:Int)<aA))=true then
   some (((65533:Int),(1:Int)))
  else
   qQ (pT (AO O aA) (Z,(1:Int))) fun aB=>
   if (((!(((decide ((0:Int)≤aB))&&(decide (aB≤(1114111:Int))))&&((decide (aB<(55296:Int)))||(decide ((57343:Int)<aB)))))==false)=true→((yG aB)).isSome=true) then
    if (((!(((decide ((0:Int)≤aB))&&(decide (aB≤(1114111:Int))))&&((decide (aB<(55296:Int)))||(decide ((57343:Int)<aB)))))==false)=true→0≤(0:Int)∧(0:Int)≤aA∧aA≤(List.length O:Int)) then
     if ((!(((decide ((0:Int)≤aB))&&(decide (aB≤(1114111:Int))))&&((decide (aB<(55296:Int)))||(decide ((57343:Int)<aB)))))||(!decide ((val (yG aB))=(p5 O (0:Int) aA))))=true then
      some (((65533:Int),(1:Int)))
     else
      some ((aB,aA))
    else none
   else none
 else none
section
variable (O:(List UInt8))
@[reducible] def Y8:List Slot:=[(.val .str O,none)]
@[reducible] def Y9:List Blk:=[]
@[go_sem] def YA:Ret:=⟨[((EA O)).isSome=true],[(.val (.int .i64) ((val (EA O)).1),none),(.val (.int .i64) ((val (EA O)).2),none)],[]⟩
def a80:List Slot→List Blk→Option Ret:=pM (V:=(List UInt8)) (fun x=>Y8 x) (fun x=>Y9) fun x=>YA x
@[go_sem] theorem aK0:a80 (no_index (Y8 O)) (no_index Y9)=some (YA O):=pN (fun a0 b0 h1 h2=>by cases h1;cases h2;rfl) O
end
@[reducible,go_sem] def a81:Nat×Sig:=(216,⟨[.v],a80,[],[],none⟩)
theorem tQ:Env Tryz.prog [sE,zS,q8] (pE [KV,KW]):=⟨⟨sL,⟨BD,⟨qA,trivial⟩⟩⟩,oZ OK (oZ OL pP),pH⟩
theorem aFV:pI Tryz.prog a81:=by
 refine pO tQ Tryz.func216 (c:=_) rfl (N:=81) (by kernel_rfl) (ts:=[(2,none),(3,none)]) rfl (fun _ _=>rfl) ?_
 intro O hs hrow
 dsimp only[Y8,Y9,YA,pK,enumH,pD,pG,pL,Nat.reduceAdd] at hs hrow⊢
 have hz:=hs
 obtain⟨z0,hC0⟩:=Option.isSome_iff_exists.1 hz
 try rw[pW hC0]
 clear hz hs
 unfold EA at hC0
 refine oS tQ ?_
 obtain⟨hg1,hC0⟩:=oU hC0
 refine oS tQ ?_ (hp:=by exact hg1)
 refine p4 ?_
 obtain⟨y1,hC1,hC0⟩:=sK hC0
 refine y6 (fun s=> ∃v,y1= .inl v∧s=(fun x=>⟨[(0,(.val .str O,none)),(4,(.val (.int .i64) x.1,none)),(5,(.val (.int .i64) x.2,none))],[],0,81,0⟩) v) ?_ ?_
 ·refine pU ?_
  refine oS tQ ?_
  refine oX hC1 (fun hC1 hc1=> ?_) (fun hC1 hc1=> ?_)
  ·refine oS tQ ?_
   refine oV (pR (a6N (pC ?_)))
   cases hC1
   dsimp only at hC0
   cases hC0
   exact⟨[],by rfl,by rfl,by rfl⟩
  ·refine oS tQ ?_ (hp:=by exact And.intro (fun hh=>hh) ((fun hh=>pY hh)))
   refine oX hC1 (fun hC1 hc2=> ?_) (fun hC1 hc2=> ?_)
   ·obtain⟨hg2,hC1⟩:=oU hC1
    refine pF tQ ?_ (hp:=by exact hg2)
    refine pB ?_
    cases hC1
    exact rL ⟨⟨[0,4,5],[]⟩,_,rfl,by rfl⟩
   ·refine oS tQ ?_ (hp:=by exact And.intro (fun hh=>hh) ((fun hh=>pY hh)))
    refine oX hC1 (fun hC1 hc3=> ?_) (fun hC1 hc3=> ?_)
    ·obtain⟨hg3,hC1⟩:=oU hC1
     refine pF tQ ?_ (hp:=by exact hg3)
     refine pB ?_
     cases hC1
     exact rL ⟨⟨[0,4,5],[]⟩,_,rfl,by rfl⟩
    ·refine oS tQ ?_ (hp:=by exact And.intro (fun hh=>hh) ((fun hh=>pY hh)))
     refine oX hC1 (fun hC1 hc4=> ?_) (fun hC1 hc4=> ?_)
     ·obtain⟨hg4,hC1⟩:=oU hC1
      refine pF tQ ?_ (hp:=by exact hg4)
      refine pB ?_
      cases hC1
      exact rL ⟨⟨[0,4,5],[]⟩,_,rfl,by rfl⟩
     ·refine oS tQ ?_
      refine oV (pR (a6N (pC ?_)))
      cases hC1
      dsimp only at hC0
      cases hC0
      exact⟨[],by rfl,by rfl,by rfl⟩
 ·rintro _ ⟨v,rfl,rfl⟩
  obtain⟨Z,aA⟩:=v
  dsimp only at hC0⊢
  refine oW (p4 ?_)
  refine oS tQ ?_
  refine oX hC0 (fun hC0 hc5=> ?_) (fun hC0 hc5=> ?_)
  ·refine oS tQ ?_
   refine oV (pC ?_)
   cases hC0
   exact⟨[],by rfl,by rfl,by rfl⟩
  ·refine p7 (oW (p4 ?_))
   refine oS tQ ?_
   refine pU ?_
   obtain⟨y1,hy1,hC0⟩:=sK hC0
   refine rI 1 (fun s=> ∃v,y1= .inl v∧s=(fun x=>⟨[(0,(.val .str O,none)),(4,(.val (.int .i64) x,none)),(5,(.val (.int .i64) aA,none))],[],0,81,0⟩) v) ?_ ?_
   ·refine rH hy1 (fun x=>⟨[(0,(.val .str O,none)),(4,(.val (.int .i64) x.1,none)),(5,(.val (.int .i64) aA,none)),(6,(.val (.int .i64) x.2,none))],[],0,81,0⟩) ⟨[0,4,5,6],[]⟩ (by rfl) ?_
    intro x1 w1 n1 hC1 hN1
    obtain⟨aB,aC⟩:=x1
    unfold AO at hC1
    dsimp only at hC1⊢
    refine p4 ?_
    refine oS tQ ?_
    refine oX hC1 (fun hC1 hc6=> ?_) (fun hC1 hc6=> ?_)
    ·refine p7 (oW (p4 (pU (p4 ?_))))
     obtain⟨hg5,hC1⟩:=oU hC1
     obtain⟨hg6,hC1⟩:=oU hC1
     refine oS tQ ?_ (hp:=by exact And.intro hg5 (And.intro (fun hh=>hh) (And.intro (fun hh=>hh) (And.intro hg6 (And.intro (fun hh=>hh) ((fun hh=>sH hh)))))))
     refine oX hC1 (fun hC1 hc7=> ?_) (fun hC1 hc7=> ?_)
     ·refine oS tQ ?_
      refine oV (pC (pR (pC (s8 (s7 (pR (pC ?_)))))))
      cases hC1
      cases hN1
      dsimp only at hC0
      cases hC0
      exact⟨[],by rfl,by rfl,by rfl⟩
     ·refine p7 (oW ?_)
      obtain⟨hg7,hC1⟩:=oU hC1
      obtain⟨hg8,hC1⟩:=oU hC1
      obtain⟨hg9,hC1⟩:=oU hC1
      obtain⟨hg10,hC1⟩:=oU hC1
      refine pF tQ ?_ (hp:=by exact And.intro hg7 (And.intro hg8 (And.intro hg9 (hg10))))
      refine pB (oW ?_)
      obtain⟨hg11,hC1⟩:=oU hC1
      refine pF tQ ?_ (hp:=by exact hg11)
      cases hC1
      exact qG ⟨⟨[0,4,5,6],[]⟩,_,by rfl,hN1⟩
    ·refine qY (r8 (r5 ?_))
     cases hC1
     cases hN1
     exact qZ ⟨⟨[0,4,5],[]⟩,_,rfl,by rfl⟩
   ·rintro _ ⟨aD,rfl,rfl⟩
    dsimp only at hC0⊢
    refine rF (oW (p4 ?_))
    obtain⟨hg12,hC0⟩:=oU hC0
    obtain⟨hg13,hC0⟩:=oU hC0
    refine qR tQ ?_ (hp:=by exact And.intro (fun hh=>hh) (And.intro hg12 (And.intro (fun hh=>hh) (And.intro (fun hh=>hh) (And.intro hg13 (And.intro (fun hh=>hh) (And.intro (fun hh=>hh) ((fun hh=>sH hh)))))))))
    refine oX hC0 (fun hC0 hc8=> ?_) (fun hC0 hc8=> ?_)
    ·refine oS tQ ?_
     refine oV (pC ?_)
     cases hC0
     exact⟨[],by rfl,by rfl,by rfl⟩
    ·refine p7 (oW ?_)
     refine oS tQ ?_
     refine oV ?_
     cases hC0
     exact⟨[],by rfl,by rfl,by rfl⟩
attribute [irreducible] EA
def G5 (O:(List Int)) (Z:Int):Option (List Int):=
 if (decide ((IntKind.wrap .u32 Z)≤(2047:Int)))=true then
  if (List.length O+List.length ([(bits .or .u8 (192:Int) (IntKind.wrap .u8 (uF .i32 Z (6:Int)))),(bits .or .u8 (128:Int) (bits .and .u8 (IntKind.wrap .u8 Z) (63:Int)))]:List Int))*1≤140737488355328 then
   some ((O++([(bits .or .u8 (192:Int) (IntKind.wrap .u8 (uF .i32 Z (6:Int)))),(bits .or .u8 (128:Int) (bits .and .u8 (IntKind.wrap .u8 Z) (63:Int)))]:List Int)))
  else none
 else
  qE (σ:=Bool) (
    if (decide ((IntKind.wrap .u32 Z)<(55296:Int)))=true then
     some ((decide ((IntKind.wrap .u32 Z)<(55296:Int))))
    else
     some (((decide ((57343:Int)<(IntKind.wrap .u32 Z)))&&(decide ((IntKind.wrap .u32 Z)≤(65535:Int)))))
   ) fun aA=>
  if aA=true then
   if (List.length O+List.length ([(bits .or .u8 (224:Int) (IntKind.wrap .u8 (uF .i32 Z (12:Int)))),(bits .or .u8 (128:Int) (bits .and .u8 (IntKind.wrap .u8 (uF .i32 Z (6:Int))) (63:Int))),(bits .or .u8 (128:Int) (bits .and .u8 (IntKind.wrap .u8 Z) (63:Int)))]:List Int))*1≤140737488355328 then
    some ((O++([(bits .or .u8 (224:Int) (IntKind.wrap .u8 (uF .i32 Z (12:Int)))),(bits .or .u8 (128:Int) (bits .and .u8 (IntKind.wrap .u8 (uF .i32 Z (6:Int))) (63:Int))),(bits .or .u8 (128:Int) (bits .and .u8 (IntKind.wrap .u8 Z) (63:Int)))]:List Int)))
   else none
  else
   if ((decide ((65535:Int)<(IntKind.wrap .u32 Z)))&&(decide ((IntKind.wrap .u32 Z)≤(1114111:Int))))=true then
    if (List.length O+List.length ([(bits .or .u8 (240:Int) (IntKind.wrap .u8 (uF .i32 Z (18:Int)))),(bits .or .u8 (128:Int) (bits .and .u8 (IntKind.wrap .u8 (uF .i32 Z (12:Int))) (63:Int))),(bits .or .u8 (128:Int) (bits .and .u8 (IntKind.wrap .u8 (uF .i32 Z (6:Int))) (63:Int))),(bits .or .u8 (128:Int) (bits .and .u8 (IntKind.wrap .u8 Z) (63:Int)))]:List Int))*1≤140737488355328 then
     some ((O++([(bits .or .u8 (240:Int) (IntKind.wrap .u8 (uF .i32 Z (18:Int)))),(bits .or .u8 (128:Int) (bits .and .u8 (IntKind.wrap .u8 (uF .i32 Z (12:Int))) (63:Int))),(bits .or .u8 (128:Int) (bits .and .u8 (IntKind.wrap .u8 (uF .i32 Z (6:Int))) (63:Int))),(bits .or .u8 (128:Int) (bits .and .u8 (IntKind.wrap .u8 Z) (63:Int)))]:List Int)))
    else none
   else
    if (List.length O+List.length ([(239:Int),(191:Int),(189:Int)]:List Int))*1≤140737488355328 then
     some ((O++([(239:Int),(191:Int),(189:Int)]:List Int)))
    else none
section
variable (O:(List Int)) (Z:Int) (aA:Nat)
@[reducible] def YB:List Slot:=[(.val (.list (.int .u8)) O,some 0),(.val (.int .i32) Z,none)]
@[reducible] def YC:List Blk:=[.grow 5 1 aA]
@[go_sem] def YD:Ret:=⟨[aA=(List.length O),((G5 O Z)).isSome=true],[(.val (.list (.int .u8)) (val (G5 O Z)),some 0)],[.grow 5 1 (List.length (val (G5 O Z)))]⟩
def a82:List Slot→List Blk→Option Ret:=pM (V:=((List Int)×Int×Nat)) (fun x=>YB x.1 x.2.1) (fun x=>YC x.2.2) fun x=>YD x.1 x.2.1 x.2.2
@[go_sem] theorem aK1:a82 (no_index (YB O Z)) (no_index (YC aA))=some (YD O Z aA):=pN (fun⟨a0,a1,a2⟩ ⟨b0,b1,b2⟩ h1 h2=>by cases h1;cases h2;rfl) (O,Z,aA)
end
@[reducible,go_sem] def a83:Nat×Sig:=(221,⟨[.own,.v],a82,[],[],none⟩)
theorem AP:Env Tryz.prog [zS,HI,AG,O9] (pE []):=⟨⟨BD,⟨O5,⟨CE,⟨a7a,trivial⟩⟩⟩⟩,pP,pH⟩
theorem aFW:pI Tryz.prog a83:=by
 refine pO AP Tryz.func221 (c:=_) rfl (N:=78) (by kernel_rfl) (ts:=[(4,none)]) rfl (fun _ _=>rfl) ?_
 intro⟨O,Z,aA⟩ hs hrow
 dsimp only[YB,YC,YD,pK,enumH,pD,pG,pL,Nat.reduceAdd] at hs hrow⊢
 obtain⟨rfl,hz⟩:=hs
 obtain⟨z0,hC0⟩:=Option.isSome_iff_exists.1 hz
 try rw[pW hC0]
 clear hz
 unfold G5 at hC0
 refine oS AP ?_
 refine oS AP ?_
 refine pU ?_
 refine oS AP ?_
 refine oX hC0 (fun hC0 hc1=> ?_) (fun hC0 hc1=> ?_)
 ·obtain⟨hg1,hC0⟩:=oU hC0
  refine oS AP ?_ (hp:=by exact And.intro (show (0:Int)≤(6:Int) from by decide) (And.intro (by first|exact rfl|exact trivial) (hg1)))
  refine oV (pR ?_)
  cases hC0
  exact⟨[(0,0)],by rfl,by rfl,by rfl⟩
 ·refine p4 ?_
  refine oS AP ?_
  obtain⟨aB,hC1,hC0⟩:=oY hC0
  refine y6 (fun s=>s=(fun x=>⟨[(0,(.val (.list (.int .u8)) O,some 0)),(1,(.val (.int .i32) Z,none)),(5,(.val (.int .u32) (IntKind.wrap .u32 Z),none)),(25,(.val .bool x,none))],[(0,.grow 5 1 (List.length O))],1,78,1⟩) aB) ?_ ?_
  ·refine oX hC1 (fun hC1 hc2=> ?_) (fun hC1 hc2=> ?_)
   ·refine p7 ?_
    cases hC1
    exact rL ⟨⟨[0,1,5,25],[(0,0)]⟩,by rfl⟩
   ·refine pF AP ?_ (hp:=by exact And.intro (fun hh=>hh) ((fun hh=>pY hh)))
    cases hC1
    exact rL ⟨⟨[0,1,5,25],[(0,0)]⟩,by rfl⟩
  ·rintro _ rfl
   dsimp only at hC0⊢
   refine oW ?_
   refine oX hC0 (fun hC0 hc3=> ?_) (fun hC0 hc3=> ?_)
   ·obtain⟨hg2,hC0⟩:=oU hC0
    refine oS AP ?_ (hp:=by exact And.intro (show (0:Int)≤(12:Int) from by decide) (And.intro (show (0:Int)≤(6:Int) from by decide) (And.intro (by first|exact rfl|exact trivial) (hg2))))
    refine oV (pR ?_)
    cases hC0
    exact⟨[(0,0)],by rfl,by rfl,by rfl⟩
   ·refine oS AP ?_ (hp:=by exact And.intro (fun hh=>hh) ((fun hh=>pY hh)))
    refine oX hC0 (fun hC0 hc4=> ?_) (fun hC0 hc4=> ?_)
    ·obtain⟨hg3,hC0⟩:=oU hC0
     refine oS AP ?_ (hp:=by exact And.intro (show (0:Int)≤(18:Int) from by decide) (And.intro (show (0:Int)≤(12:Int) from by decide) (And.intro (show (0:Int)≤(6:Int) from by decide) (And.intro (by first|exact rfl|exact trivial) (hg3)))))
     refine oV (pR ?_)
     cases hC0
     exact⟨[(0,0)],by rfl,by rfl,by rfl⟩
    ·obtain⟨hg4,hC0⟩:=oU hC0
     refine oS AP ?_ (hp:=by exact And.intro (by first|exact rfl|exact trivial) (hg4))
     refine oV (pR ?_)
     cases hC0
     exact⟨[(0,0)],by rfl,by rfl,by rfl⟩
attribute [irreducible] G5
def KY (O:(List p6)) (Z:(List UInt8)):Int→Option (Int⊕(Unit⊕Int)):=fun aA=>
 if (decide (aA<(List.length O:Int)))=true then
  if 0≤aA∧aA<(List.length O:Int) then
   if (!(Op.bytesLess ((qB (.pair .str (.pair .str .unit)) O aA).1) Z||decide (((qB (.pair .str (.pair .str .unit)) O aA).1)=Z)))=true then
    some (.inr (.inr (aA)))
   else
    if oT (aA+(1:Int)) then
     some (.inl (aA+(1:Int)))
    else none
  else none
 else
  some (.inr (.inl ()))
def HU (O:(List p6)) (Z:(List UInt8)):Option Int:=
 qQ (pT (KY O Z) (0:Int)) fun _=>
 some ((-1:Int))
section
variable (O:(List p6)) (Z:(List UInt8))
@[reducible] def YE:List Slot:=[(.val (.list (.pair .str (.pair .str .unit))) O,none),(.val .clo (some (173,[(0,0)])),none)]
@[reducible] def YF:List Blk:=[.cells .str Z []]
@[go_sem] def YG:Ret:=⟨[((HU O Z)).isSome=true],[(.val (.int .i64) (val (HU O Z)),none)],[.cells .str Z []]⟩
def a84:List Slot→List Blk→Option Ret:=pM (V:=((List p6)×(List UInt8))) (fun x=>YE x.1) (fun x=>YF x.2) fun x=>YG x.1 x.2
@[go_sem] theorem aK2:a84 (no_index (YE O)) (no_index (YF Z))=some (YG O Z):=pN (fun⟨a0,a1⟩ ⟨b0,b1⟩ h1 h2=>by cases h1;cases h2;rfl) (O,Z)
end
@[reducible,go_sem] def a85:Nat×Sig:=(172,⟨[.v,.f [(.str,[])]],a84,[],[0],none⟩)
theorem CP:Env Tryz.prog [yA,AH] (pE [a8t]):=⟨⟨zR,⟨CF,trivial⟩⟩,oZ aFM pP,pH⟩
theorem aFX:pI Tryz.prog a85:=by
 refine pO CP Tryz.func172 (c:=_) rfl (N:=19) (by kernel_rfl) (ts:=[(4,none)]) rfl (fun _ _=>rfl) ?_
 intro⟨O,Z⟩ hs hrow
 dsimp only[YE,YF,YG,pK,enumH,pD,pG,pL,Nat.reduceAdd] at hs hrow⊢
 have hz:=hs
 obtain⟨z0,hC0⟩:=Option.isSome_iff_exists.1 hz
 try rw[pW hC0]
 clear hz hs
 unfold HU at hC0
 refine oS CP ?_
 refine p4 ?_
 refine oS CP ?_
 refine pU ?_
 obtain⟨y1,hy1,hC0⟩:=sK hC0
 refine rI 0 (fun s=> ∃v,y1= .inl v∧s=(fun _=>⟨[],[(0,.cells .str Z [])],1,19,1⟩) v) ?_ ?_
 ·refine rH hy1 (fun x=>⟨[(0,(.val (.list (.pair .str (.pair .str .unit))) O,none)),(1,(.val .clo (some (173,[(0,0)])),none)),(7,(.val (.int .i64) (List.length O:Int),none)),(8,(.val (.int .i64) x,none))],[(0,.cells .str Z [])],1,19,1⟩) ⟨[0,1,7,8],[(0,0)]⟩ (by rfl) ?_
  intro aA w1 n1 hC1 hN1
  unfold KY at hC1
  dsimp only at hC1⊢
  refine oS CP ?_
  refine p4 ?_
  refine oX hC1 (fun hC1 hc1=> ?_) (fun hC1 hc1=> ?_)
  ·refine p7 (oW (p4 (pU ?_)))
   refine oS CP ?_
   obtain⟨hg1,hC1⟩:=oU hC1
   refine oS CP ?_ (hp:=by exact And.intro hg1 ((by first|exact rfl|exact trivial)))
   refine oX hC1 (fun hC1 hc2=> ?_) (fun hC1 hc2=> ?_)
   ·refine oS CP ?_
    refine oV (pR (pC (s8 (s7 (pR (pC ?_))))))
    cases hC1
    cases hN1
    dsimp only at hC0
    cases hC0
    exact⟨[(0,0)],by rfl,by rfl,by rfl⟩
   ·refine p7 (pB (oW ?_))
    obtain⟨hg2,hC1⟩:=oU hC1
    refine pF CP ?_ (hp:=by exact hg2)
    cases hC1
    exact qG ⟨⟨[0,1,7,8],[(0,0)]⟩,_,by rfl,hN1⟩
  ·refine qY (r8 (r5 ?_))
   cases hC1
   cases hN1
   exact qZ ⟨⟨[],[(0,0)]⟩,_,rfl,by rfl⟩
 ·rintro _ ⟨v,rfl,rfl⟩
  dsimp only at hC0⊢
  refine rF (oW ?_)
  refine oS CP ?_
  refine oV ?_
  cases hC0
  exact⟨[(0,0)],by rfl,by rfl,by rfl⟩
attribute [irreducible] HU
end
end Go.Proofs.YtfchbnahjcdiiaaGreatDoor
namespace Go.Proofs.YtfchbnahjcdiiaaGreatDoor
open Vc
set_option maxRecDepth 100000
set_option maxHeartbeats 4000000
set_option linter.unusedSimpArgs false
set_option linter.unusedVariables false
noncomputable section
def EB (O:(List p6)):Option (List p6):=
 if (0+List.length O)*32≤140737488355328 then
  some ((([]:List p6)++O))
 else none
section
variable (O:(List p6))
@[reducible] def YH:List Slot:=[(.val (.list (.pair .str (.pair .str .unit))) O,none)]
@[reducible] def YI:List Blk:=[]
@[go_sem] def YJ:Ret:=⟨[((EB O)).isSome=true],[(.own 0 (List.length (val (EB O))),none)],[.row 144 (.pair .str (.pair .str .unit)) (val (EB O)) (List.length (val (EB O)))]⟩
def a86:List Slot→List Blk→Option Ret:=pM (V:=(List p6)) (fun x=>YH x) (fun x=>YI) fun x=>YJ x
@[go_sem] theorem aK3:a86 (no_index (YH O)) (no_index YI)=some (YJ O):=pN (fun a0 b0 h1 h2=>by cases h1;cases h2;rfl) O
end
@[reducible,go_sem] def a87:Nat×Sig:=(170,⟨[.v],a86,[],[],none⟩)
theorem KZ:Env Tryz.prog [KF] (pE []):=⟨⟨T9,trivial⟩,pP,pH⟩
theorem aFY:pI Tryz.prog a87:=by
 refine pO KZ Tryz.func170 (c:=_) rfl (N:=8) (by kernel_rfl) (ts:=[(2,none)]) rfl (fun _ _=>rfl) ?_
 intro O hs hrow
 dsimp only[YH,YI,YJ,pK,enumH,pD,pG,pL,Nat.reduceAdd] at hs hrow⊢
 have hz:=hs
 obtain⟨z0,hC0⟩:=Option.isSome_iff_exists.1 hz
 try rw[pW hC0]
 clear hz hs
 unfold EB at hC0
 refine oS KZ ?_
 refine p4 ?_
 refine oS KZ ?_
 refine aED (by simp only[go_sem];rfl) (fun hnil=> ?_) (fun hnil=> ?_)
 ·subst hnil
  obtain⟨_,hC0⟩:=oU hC0
  refine oS KZ ?_
  refine oV (pC ?_)
  cases hC0
  exact⟨[(0,48)],by rfl,by rfl,by rfl⟩
 ·refine p7 (oW ?_)
  obtain⟨hg1,hC0⟩:=oU hC0
  refine oS KZ ?_ (hp:=by exact And.intro (by first|exact rfl|exact trivial) (hg1))
  refine oV ?_
  cases hC0
  exact⟨[(0,48)],by rfl,by rfl,by rfl⟩
attribute [irreducible] EB
def L1 (O:(List UInt8)) (Z:Bool):Nat→Option (Nat⊕(Unit⊕Int)):=fun aA=>
 if (decide (aA<List.length O))=true then
  if (decide (aA<List.length O))=true then
   if (decide (aA<List.length O))=true then
    if (((decide ((127:Int)<(s5 O aA)))||(((((!(((decide ((97:Int)≤(IntKind.wrap .u8 (s5 O aA))))&&(decide ((IntKind.wrap .u8 (s5 O aA))≤(122:Int))))||((decide ((65:Int)≤(IntKind.wrap .u8 (s5 O aA))))&&(decide ((IntKind.wrap .u8 (s5 O aA))≤(90:Int))))))&&((decide ((s5 O aA)<(48:Int)))||(decide ((57:Int)<(s5 O aA)))))&&(!decide ((s5 O aA)=(45:Int))))&&(!decide ((s5 O aA)=(95:Int))))&&(!decide ((s5 O aA)=(46:Int)))))==Z)=true then
     some (.inr (.inr (((aA:Nat):Int))))
    else
     some (.inl (wI O aA))
   else none
  else none
 else
  some (.inr (.inl ()))
def HV (O:(List UInt8)) (Z:Bool):Option Int:=
 qQ (pT (L1 O Z) 0) fun _=>
 some ((-1:Int))
section
variable (O:(List UInt8)) (Z:Bool)
@[reducible] def YK:List Slot:=[(.val .str O,none),(.val .clo (some (68,[])),none),(.val .bool Z,none)]
@[reducible] def YL:List Blk:=[]
@[go_sem] def YM:Ret:=⟨[((HV O Z)).isSome=true],[(.val (.int .i64) (val (HV O Z)),none)],[]⟩
def a88:List Slot→List Blk→Option Ret:=pM (V:=((List UInt8)×Bool)) (fun x=>YK x.1 x.2) (fun x=>YL) fun x=>YM x.1 x.2
@[go_sem] theorem aK4:a88 (no_index (YK O Z)) (no_index YL)=some (YM O Z):=pN (fun⟨a0,a1⟩ ⟨b0,b1⟩ h1 h2=>by cases h1;cases h2;rfl) (O,Z)
end
@[reducible,go_sem] def a89:Nat×Sig:=(112,⟨[.v,.v,.v],a88,[],[],none⟩)
theorem EC:Env Tryz.prog [BE,q8] (pE [a7x]):=⟨⟨DU,⟨qA,trivial⟩⟩,oZ aFw pP,pH⟩
theorem aFZ:pI Tryz.prog a89:=by
 refine pO EC Tryz.func112 (c:=_) rfl (N:=21) (by kernel_rfl) (ts:=[(6,none)]) rfl (fun _ _=>rfl) ?_
 intro⟨O,Z⟩ hs hrow
 dsimp only[YK,YL,YM,pK,enumH,pD,pG,pL,Nat.reduceAdd] at hs hrow⊢
 have hz:=hs
 obtain⟨z0,hC0⟩:=Option.isSome_iff_exists.1 hz
 try rw[pW hC0]
 clear hz hs
 unfold HV at hC0
 refine oS EC ?_
 refine p4 ?_
 refine oS EC ?_
 refine pU ?_
 obtain⟨y1,hy1,hC0⟩:=sK hC0
 refine rI 0 (fun s=> ∃v,y1= .inl v∧s=(fun _=>⟨[],[],0,21,0⟩) v) ?_ ?_
 ·refine rH hy1 (fun x=>⟨[(1,(.val .clo (some (68,[])),none)),(2,(.val .bool Z,none)),(10,(.val .ref (some (0,0)),none))],[(0,.iter O x)],1,21,0⟩) ⟨[1,2,10],[(0,32)]⟩ (by rfl) ?_
  intro aA w1 n1 hC1 hN1
  unfold L1 at hC1
  dsimp only at hC1⊢
  refine oS EC ?_
  refine p4 ?_
  refine oX hC1 (fun hC1 hc1=> ?_) (fun hC1 hc1=> ?_)
  ·refine p7 (oW (pU ?_))
   obtain⟨hg1,hC1⟩:=oU hC1
   obtain⟨hg2,hC1⟩:=oU hC1
   refine oS EC ?_ (hp:=by exact And.intro hg1 (hg2))
   refine oS EC ?_
   refine oX hC1 (fun hC1 hc2=> ?_) (fun hC1 hc2=> ?_)
   ·refine oS EC ?_
    refine oV (pR (s8 (s7 (pR (pC ?_)))))
    cases hC1
    cases hN1
    dsimp only at hC0
    cases hC0
    exact⟨[],by rfl,by rfl,by rfl⟩
   ·refine p7 (pB ?_)
    cases hC1
    exact qG ⟨⟨[1,2,10],[(0,0)]⟩,_,by rfl,hN1⟩
  ·refine qY (r8 (r5 ?_))
   cases hC1
   cases hN1
   exact qZ ⟨⟨[],[]⟩,_,rfl,by rfl⟩
 ·rintro _ ⟨v,rfl,rfl⟩
  dsimp only at hC0⊢
  refine rF (oW ?_)
  refine oS EC ?_
  refine oV ?_
  cases hC0
  exact⟨[],by rfl,by rfl,by rfl⟩
attribute [irreducible] HV
def G6 (O:(List UInt8)):Option Int:=
 (HV O true).bind fun Z=>
 some (Z)
section
variable (O:(List UInt8))
@[reducible] def YN:List Slot:=[(.val .str O,none),(.val .clo (some (68,[])),none)]
@[reducible] def YO:List Blk:=[]
@[go_sem] def YP:Ret:=⟨[((G6 O)).isSome=true],[(.val (.int .i64) (val (G6 O)),none)],[]⟩
def a9a:List Slot→List Blk→Option Ret:=pM (V:=(List UInt8)) (fun x=>YN x) (fun x=>YO) fun x=>YP x
@[go_sem] theorem aK5:a9a (no_index (YN O)) (no_index YO)=some (YP O):=pN (fun a0 b0 h1 h2=>by cases h1;cases h2;rfl) O
end
@[reducible,go_sem] def a9b:Nat×Sig:=(67,⟨[.v,.v],a9a,[],[],none⟩)
theorem YQ:Env Tryz.prog [] (pE [a89]):=⟨trivial,oZ aFZ pP,pH⟩
theorem aF0:pI Tryz.prog a9b:=by
 refine pO YQ Tryz.func67 (c:=_) rfl (N:=8) (by kernel_rfl) (ts:=[(4,none)]) rfl (fun _ _=>rfl) ?_
 intro O hs hrow
 dsimp only[YN,YO,YP,pK,enumH,pD,pG,pL,Nat.reduceAdd] at hs hrow⊢
 have hz:=hs
 obtain⟨z0,hC0⟩:=Option.isSome_iff_exists.1 hz
 try rw[pW hC0]
 clear hz hs
 unfold G6 at hC0
 refine oS YQ ?_
 obtain⟨Z,hv1,hw1,hC0⟩:=p9 hC0
 try simp only[go_sem] at hw1
 refine oS YQ ?_ (hp:=by exact(p8 hv1)) (h:=by simp only[go_sem,hw1];rfl)
 refine oV ?_
 cases hC0
 exact⟨[],by rfl,by rfl,by rfl⟩
attribute [irreducible] G6
def L2 (O:pZ) (Z:pZ):Option Unit:=
 if (((decide (O.1=Z.1))==true)=true→((uD O.2.1 Z.2.1)).isSome=true) then
  if ((((decide (O.1=Z.1))&&(val (uD O.2.1 Z.2.1)))==true)=true→((yE O.2.2.1 Z.2.2.1)).isSome=true) then
   some (())
  else none
 else none
section
variable (O:pZ) (Z:pZ)
@[reducible] def YR:List Slot:=[(.val y9 O,none),(.val y9 Z,none)]
@[reducible] def YS:List Blk:=[]
@[go_sem] def YT:Ret:=⟨[((L2 O Z)).isSome=true],[(.val .bool (((decide (O.1=Z.1))&&(val (uD O.2.1 Z.2.1)))&&(val (yE O.2.2.1 Z.2.2.1))),none)],[]⟩
def a9c:List Slot→List Blk→Option Ret:=pM (V:=(pZ×pZ)) (fun x=>YR x.1 x.2) (fun x=>YS) fun x=>YT x.1 x.2
@[go_sem] theorem aK6:a9c (no_index (YR O Z)) (no_index YS)=some (YT O Z):=pN (fun⟨a0,a1⟩ ⟨b0,b1⟩ h1 h2=>by cases h1;cases h2;rfl) (O,Z)
end
@[reducible,go_sem] def a9d:Nat×Sig:=(29,⟨[.v,.v],a9c,[],[],none⟩)
theorem YU:Env Tryz.prog [q8,vZ,yA,yB] (pE [TN,TR]):=⟨⟨qA,⟨xG,⟨zR,⟨zT,trivial⟩⟩⟩⟩,oZ a7n (oZ a7p pP),pH⟩
theorem aF1:pI Tryz.prog a9d:=by
 refine pO YU Tryz.func29 (c:=_) rfl (N:=24) (by kernel_rfl) (ts:=[(4,none)]) rfl (fun _ _=>rfl) ?_
 intro⟨O,Z⟩ hs hrow
 dsimp only[YR,YS,YT,pK,enumH,pD,pG,pL,Nat.reduceAdd] at hs hrow⊢
 have hz:=hs
 obtain⟨z0,hC0⟩:=Option.isSome_iff_exists.1 hz
 try rw[pW hC0]
 clear hz hs
 unfold L2 at hC0
 refine oS YU ?_
 obtain⟨hg1,hC0⟩:=oU hC0
 obtain⟨hg2,hC0⟩:=oU hC0
 refine oS YU ?_ (hp:=by exact And.intro (fun hh=>hh) (And.intro (fun hh=>hh) (And.intro (fun hh=>hh) (And.intro (fun hh=>hh) (And.intro hg1 (And.intro (fun hh=>pY hh) (And.intro (fun hh=>hh) (And.intro (fun hh=>hh) (And.intro (fun hh=>hh) (And.intro (fun hh=>hh) (And.intro hg2 ((fun hh=>pY hh)))))))))))))
 refine oV ?_
 cases hC0
 exact⟨[],by rfl,by rfl,by rfl⟩
attribute [irreducible] L2
def OM (O:(List pX)) (Z:(List pX)):Int→Option (Int⊕(Unit⊕Bool)):=fun aA=>
 if (decide (aA<(List.length O:Int)))=true then
  if 0≤aA∧aA<(List.length O:Int) then
   if 0≤aA∧aA<(List.length Z:Int) then
    (HL (qB qH O aA) (qB qH Z aA)).bind fun aB=>
    if (!(((((((decide (((qB qH O aA).1)=((qB qH Z aA).1)))&&(decide (((qB qH O aA).2.1)=((qB qH Z aA).2.1))))&&(decide (((qB qH O aA).2.2.1)=((qB qH Z aA).2.2.1))))&&(decide (((qB qH O aA).2.2.2.2.2.1)=((qB qH Z aA).2.2.2.2.2.1))))&&(val (uD ((qB qH O aA).2.2.2.1) ((qB qH Z aA).2.2.2.1))))&&(val (uD ((qB qH O aA).2.2.2.2.1) ((qB qH Z aA).2.2.2.2.1))))&&(val (yE ((qB qH O aA).2.2.2.2.2.2.1) ((qB qH Z aA).2.2.2.2.2.2.1)))))=true then
     some (.inr (.inr (false)))
    else
     if oT (aA+(1:Int)) then
      some (.inl (aA+(1:Int)))
     else none
   else none
  else none
 else
  some (.inr (.inl ()))
def CQ (O:(List pX)) (Z:(List pX)):Option Bool:=
 if (!decide ((List.length O:Int)=(List.length Z:Int)))=true then
  some (false)
 else
  qQ (pT (OM O Z) (0:Int)) fun _=>
  some (true)
section
variable (O:(List pX)) (Z:(List pX))
@[reducible] def YV:List Slot:=[(.val (.list qH) O,none),(.val (.list qH) Z,none)]
@[reducible] def YW:List Blk:=[]
@[go_sem] def YX:Ret:=⟨[((CQ O Z)).isSome=true],[(.val .bool (val (CQ O Z)),none)],[]⟩
def a9e:List Slot→List Blk→Option Ret:=pM (V:=((List pX)×(List pX))) (fun x=>YV x.1 x.2) (fun x=>YW) fun x=>YX x.1 x.2
@[go_sem] theorem aK7:a9e (no_index (YV O Z)) (no_index YW)=some (YX O Z):=pN (fun⟨a0,a1⟩ ⟨b0,b1⟩ h1 h2=>by cases h1;cases h2;rfl) (O,Z)
end
@[reducible,go_sem] def a9f:Nat×Sig:=(30,⟨[.v,.v],a9e,[],[],none⟩)
theorem BL:Env Tryz.prog [DW,xH] (pE [a7r]):=⟨⟨HJ,⟨yW,trivial⟩⟩,oZ aFv pP,pH⟩
theorem aF2:pI Tryz.prog a9f:=by
 refine pO BL Tryz.func30 (c:=_) rfl (N:=27) (by kernel_rfl) (ts:=[(4,none)]) rfl (fun _ _=>rfl) ?_
 intro⟨O,Z⟩ hs hrow
 dsimp only[YV,YW,YX,pK,enumH,pD,pG,pL,Nat.reduceAdd] at hs hrow⊢
 have hz:=hs
 obtain⟨z0,hC0⟩:=Option.isSome_iff_exists.1 hz
 try rw[pW hC0]
 clear hz hs
 unfold CQ at hC0
 refine oS BL ?_
 refine p4 ?_
 refine oS BL ?_
 refine oX hC0 (fun hC0 hc1=> ?_) (fun hC0 hc1=> ?_)
 ·refine oS BL ?_
  refine oV (pC ?_)
  cases hC0
  exact⟨[],by rfl,by rfl,by rfl⟩
 ·refine p7 (oW (p4 ?_))
  refine oS BL ?_
  refine pU ?_
  obtain⟨y1,hy1,hC0⟩:=sK hC0
  refine rI 0 (fun s=> ∃v,y1= .inl v∧s=(fun _=>⟨[],[],0,27,0⟩) v) ?_ ?_
  ·refine rH hy1 (fun x=>⟨[(0,(.val (.list qH) O,none)),(1,(.val (.list qH) Z,none)),(5,(.val (.int .i64) x,none))],[],0,27,0⟩) ⟨[0,1,5],[]⟩ (by rfl) ?_
   intro aA w1 n1 hC1 hN1
   unfold OM at hC1
   dsimp only at hC1⊢
   refine p4 ?_
   refine oS BL ?_
   refine oX hC1 (fun hC1 hc2=> ?_) (fun hC1 hc2=> ?_)
   ·refine p7 (oW (p4 (pU ?_)))
    obtain⟨hg1,hC1⟩:=oU hC1
    obtain⟨hg2,hC1⟩:=oU hC1
    obtain⟨aB,hv3,hw3,hC1⟩:=p9 hC1
    try simp only[go_sem] at hw3
    refine qR BL ?_ (hp:=by exact And.intro hg1 (And.intro hg2 ((p8 hv3)))) (h:=by simp only[go_sem,hw3];rfl)
    refine oX hC1 (fun hC1 hc3=> ?_) (fun hC1 hc3=> ?_)
    ·refine oS BL ?_
     refine oV (pR (pC (s8 (s7 (pR (pC ?_))))))
     cases hC1
     cases hN1
     dsimp only at hC0
     cases hC0
     exact⟨[],by rfl,by rfl,by rfl⟩
    ·refine p7 (pB (oW ?_))
     obtain⟨hg4,hC1⟩:=oU hC1
     refine pF BL ?_ (hp:=by exact hg4)
     cases hC1
     exact qG ⟨⟨[0,1,5],[]⟩,_,by rfl,hN1⟩
   ·refine qY (r8 (r5 ?_))
    cases hC1
    cases hN1
    exact qZ ⟨⟨[],[]⟩,_,rfl,by rfl⟩
  ·rintro _ ⟨v,rfl,rfl⟩
   dsimp only at hC0⊢
   refine rF (oW ?_)
   refine oS BL ?_
   refine oV ?_
   cases hC0
   exact⟨[],by rfl,by rfl,by rfl⟩
attribute [irreducible] CQ
def L3 (O:(List UInt8)):Int→Option (Int⊕(Unit⊕Bool)):=fun Z=>
 if (decide (Z<(List.length O:Int)))=true then
  if 0≤Z∧Z<(List.length O:Int) then
   if ((((!((decide ((97:Int)≤(pA O Z)))&&(decide ((pA O Z)≤(122:Int)))))&&(!((decide ((48:Int)≤(pA O Z)))&&(decide ((pA O Z)≤(57:Int))))))&&(!decide ((pA O Z)=(45:Int))))&&((decide ((pA O Z)<(65:Int)))||(decide ((90:Int)<(pA O Z)))))=true then
    some (.inr (.inr (false)))
   else
    if oT (Z+(1:Int)) then
     some (.inl (Z+(1:Int)))
    else none
  else none
 else
  some (.inr (.inl ()))
def ED (O:(List UInt8)):Option Bool:=
 qQ (pT (L3 O) (0:Int)) fun _=>
 some (((decide ((1:Int)≤(List.length O:Int)))&&(decide ((List.length O:Int)≤(40:Int)))))
section
variable (O:(List UInt8))
@[reducible] def YY:List Slot:=[(.val .str O,none)]
@[reducible] def YZ:List Blk:=[]
@[go_sem] def Z0:Ret:=⟨[((ED O)).isSome=true],[(.val .bool (val (ED O)),none)],[]⟩
def a9g:List Slot→List Blk→Option Ret:=pM (V:=(List UInt8)) (fun x=>YY x) (fun x=>YZ) fun x=>Z0 x
@[go_sem] theorem aK8:a9g (no_index (YY O)) (no_index YZ)=some (Z0 O):=pN (fun a0 b0 h1 h2=>by cases h1;cases h2;rfl) O
end
@[reducible,go_sem] def a9h:Nat×Sig:=(77,⟨[.v],a9g,[],[],none⟩)
theorem CR:Env Tryz.prog [q8] (pE [VG,VL]):=⟨⟨qA,trivial⟩,oZ a7Z (oZ a74 pP),pH⟩
theorem aF3:pI Tryz.prog a9h:=by
 refine pO CR Tryz.func77 (c:=_) rfl (N:=42) (by kernel_rfl) (ts:=[(2,none)]) rfl (fun _ _=>rfl) ?_
 intro O hs hrow
 dsimp only[YY,YZ,Z0,pK,enumH,pD,pG,pL,Nat.reduceAdd] at hs hrow⊢
 have hz:=hs
 obtain⟨z0,hC0⟩:=Option.isSome_iff_exists.1 hz
 try rw[pW hC0]
 clear hz hs
 unfold ED at hC0
 refine oS CR ?_
 refine p4 ?_
 refine oS CR ?_
 refine pU ?_
 obtain⟨y1,hy1,hC0⟩:=sK hC0
 refine rI 0 (fun s=> ∃v,y1= .inl v∧s=(fun _=>⟨[(0,(.val .str O,none))],[],0,42,0⟩) v) ?_ ?_
 ·refine rH hy1 (fun x=>⟨[(0,(.val .str O,none)),(3,(.val (.int .i64) x,none))],[],0,42,0⟩) ⟨[0,3],[]⟩ (by rfl) ?_
  intro Z w1 n1 hC1 hN1
  unfold L3 at hC1
  dsimp only at hC1⊢
  refine p4 ?_
  refine oS CR ?_
  refine oX hC1 (fun hC1 hc1=> ?_) (fun hC1 hc1=> ?_)
  ·refine p7 (oW (p4 (pU ?_)))
   obtain⟨hg1,hC1⟩:=oU hC1
   refine oS CR ?_ (hp:=by exact hg1)
   refine oS CR ?_ (hp:=by exact And.intro (fun hh=>hh) (And.intro (fun hh=>hh) (And.intro (fun hh=>pY hh) (And.intro (fun hh=>hh) (And.intro (fun hh=>pY hh) (And.intro (fun hh=>hh) (And.intro (fun hh=>hh) (And.intro (fun hh=>hh) (And.intro (fun hh=>hh) (And.intro (fun hG hh=>y7 hG hh) ((fun hh=>pY hh))))))))))))
   refine oX hC1 (fun hC1 hc2=> ?_) (fun hC1 hc2=> ?_)
   ·refine oS CR ?_
    refine oV (pR (pC (s8 (s7 (pR (pC ?_))))))
    cases hC1
    cases hN1
    dsimp only at hC0
    cases hC0
    exact⟨[],by rfl,by rfl,by rfl⟩
   ·refine p7 (pB (oW ?_))
    obtain⟨hg2,hC1⟩:=oU hC1
    refine pF CR ?_ (hp:=by exact hg2)
    cases hC1
    exact qG ⟨⟨[0,3],[]⟩,_,by rfl,hN1⟩
  ·refine qY (r8 (r5 ?_))
   cases hC1
   cases hN1
   exact qZ ⟨⟨[0],[]⟩,_,rfl,by rfl⟩
 ·rintro _ ⟨v,rfl,rfl⟩
  dsimp only at hC0⊢
  refine rF (oW ?_)
  refine oS CR ?_ (hp:=by exact And.intro (fun hh=>hh) (And.intro (fun hh=>hh) ((fun hh=>pY hh))))
  refine oV ?_
  cases hC0
  exact⟨[],by rfl,by rfl,by rfl⟩
attribute [irreducible] ED
def G7 (O:(List UInt8)) (Z:(List UInt8)):Option ((List UInt8)×Bool):=
 (HP O Z).bind fun aA=>
 some ((aA.1,aA.2))
section
variable (O:(List UInt8)) (Z:(List UInt8))
@[reducible] def Z1:List Slot:=[(.val .str O,none),(.val .str Z,none)]
@[reducible] def Z2:List Blk:=[]
@[go_sem] def Z3:Ret:=⟨[((G7 O Z)).isSome=true],[(.val .str ((val (G7 O Z)).1),none),(.val .bool ((val (G7 O Z)).2),none)],[]⟩
def a9i:List Slot→List Blk→Option Ret:=pM (V:=((List UInt8)×(List UInt8))) (fun x=>Z1 x.1 x.2) (fun x=>Z2) fun x=>Z3 x.1 x.2
@[go_sem] theorem aK9:a9i (no_index (Z1 O Z)) (no_index Z2)=some (Z3 O Z):=pN (fun⟨a0,a1⟩ ⟨b0,b1⟩ h1 h2=>by cases h1;cases h2;rfl) (O,Z)
end
@[reducible,go_sem] def a9j:Nat×Sig:=(86,⟨[.v,.v],a9i,[],[],none⟩)
theorem Z4:Env Tryz.prog [] (pE [a78]):=⟨trivial,oZ aFG pP,pH⟩
theorem aF4:pI Tryz.prog a9j:=by
 refine pO Z4 Tryz.func86 (c:=_) rfl (N:=11) (by kernel_rfl) (ts:=[(4,none),(5,none)]) rfl (fun _ _=>rfl) ?_
 intro⟨O,Z⟩ hs hrow
 dsimp only[Z1,Z2,Z3,pK,enumH,pD,pG,pL,Nat.reduceAdd] at hs hrow⊢
 have hz:=hs
 obtain⟨z0,hC0⟩:=Option.isSome_iff_exists.1 hz
 try rw[pW hC0]
 clear hz hs
 unfold G7 at hC0
 refine oS Z4 ?_
 obtain⟨aA,hv1,hw1,hC0⟩:=p9 hC0
 try simp only[go_sem] at hw1
 refine oS Z4 ?_ (hp:=by exact(p8 hv1)) (h:=by simp only[go_sem,hw1];rfl)
 refine oV ?_
 cases hC0
 exact⟨[],by rfl,by rfl,by rfl⟩
attribute [irreducible] G7
end
end Go.Proofs.YtfchbnahjcdiiaaGreatDoor
namespace Go.Proofs.YtfchbnahjcdiiaaGreatDoor
open Vc
set_option maxRecDepth 100000
set_option maxHeartbeats 4000000
set_option linter.unusedSimpArgs false
set_option linter.unusedVariables false
noncomputable section
def HW (O:(List UInt8)):Int→Option (Int⊕Int):=fun Z=>
 if (((decide (Z<(List.length O:Int)))==true)=true→0≤Z∧Z<(List.length O:Int)) then
  if ((decide (Z<(List.length O:Int)))&&(!decide ((pA O Z)=(10:Int))))=true then
   if oT (Z+(1:Int)) then
    some (.inl (Z+(1:Int)))
   else none
  else
   some (.inr Z)
 else none
def HX (O:(List UInt8)):Int→Option (Int⊕Int):=fun Z=>
 if (((decide (Z<(List.length O:Int)))==true)=true→((E0 O Z ([42,47]:List UInt8))).isSome=true) then
  if ((decide (Z<(List.length O:Int)))&&(!((decide ((List.length ([42,47]:List UInt8):Int)≤((List.length O:Int)-Z)))&&(decide ((p5 O Z (Z+(List.length ([42,47]:List UInt8):Int)))=([42,47]:List UInt8))))))=true then
   if oT (Z+(1:Int)) then
    some (.inl (Z+(1:Int)))
   else none
  else
   some (.inr Z)
 else none
def EE (O:(List UInt8)):Int→Option (Int⊕(Int⊕Int)):=fun Z=>
 if (decide (Z<(List.length O:Int)))=true then
  if 0≤Z∧Z<(List.length O:Int) then
   if (((decide ((pA O Z)=(32:Int)))==false)=true→0≤Z∧Z<(List.length O:Int)) then
    if ((((decide ((pA O Z)=(32:Int)))||(decide ((pA O Z)=(9:Int))))==false)=true→0≤Z∧Z<(List.length O:Int)) then
     if (((((decide ((pA O Z)=(32:Int)))||(decide ((pA O Z)=(9:Int))))||(decide ((pA O Z)=(10:Int))))==false)=true→0≤Z∧Z<(List.length O:Int)) then
      if ((((decide ((pA O Z)=(32:Int)))||(decide ((pA O Z)=(9:Int))))||(decide ((pA O Z)=(10:Int))))||(decide ((pA O Z)=(13:Int))))=true then
       if oT (Z+(1:Int)) then
        some (.inl (Z+(1:Int)))
       else none
      else
       (E0 O Z ([47,47]:List UInt8)).bind fun aA=>
       if ((decide ((List.length ([47,47]:List UInt8):Int)≤((List.length O:Int)-Z)))&&(decide ((p5 O Z (Z+(List.length ([47,47]:List UInt8):Int)))=([47,47]:List UInt8))))=true then
        qE (pT (HW O) Z) fun aB=>
        some (.inl aB)
       else
        (E0 O Z ([47,42]:List UInt8)).bind fun aC=>
        if ((decide ((List.length ([47,42]:List UInt8):Int)≤((List.length O:Int)-Z)))&&(decide ((p5 O Z (Z+(List.length ([47,42]:List UInt8):Int)))=([47,42]:List UInt8))))=true then
         if oT (Z+(2:Int)) then
          qE (pT (HX O) (Z+(2:Int))) fun aD=>
          if (decide ((List.length O:Int)≤aD))=true then
           some (.inr (.inr (Z)))
          else
           if oT (aD+(2:Int)) then
            some (.inl (aD+(2:Int)))
           else none
         else none
        else
         some (.inr (.inr (Z)))
     else none
    else none
   else none
  else none
 else
  some (.inr (.inl Z))
def CS (O:(List UInt8)) (Z:Int):Option Int:=
 qQ (pT (EE O) Z) fun aA=>
 some (aA)
section
variable (O:(List UInt8)) (Z:Int)
@[reducible] def Z5:List Slot:=[(.val .str O,none),(.val (.int .i64) Z,none)]
@[reducible] def Z6:List Blk:=[]
@[go_sem] def Z7:Ret:=⟨[((CS O Z)).isSome=true],[(.val (.int .i64) (val (CS O Z)),none)],[]⟩
def a9k:List Slot→List Blk→Option Ret:=pM (V:=((List UInt8)×Int)) (fun x=>Z5 x.1 x.2) (fun x=>Z6) fun x=>Z7 x.1 x.2
@[go_sem] theorem aLa:a9k (no_index (Z5 O Z)) (no_index Z6)=some (Z7 O Z):=pN (fun⟨a0,a1⟩ ⟨b0,b1⟩ h1 h2=>by cases h1;cases h2;rfl) (O,Z)
end
@[reducible,go_sem] def Z8:Nat×Sig:=(44,⟨[.v,.v],a9k,[],[],none⟩)
theorem w5:Env Tryz.prog [q8] (pE [a7K]):=⟨⟨qA,trivial⟩,oZ aFA pP,pH⟩
theorem a9l:pI Tryz.prog Z8:=by
 refine pO w5 Tryz.func44 (c:=_) rfl (N:=78) (by kernel_rfl) (ts:=[(4,none)]) rfl (fun _ _=>rfl) ?_
 intro⟨O,Z⟩ hs hrow
 dsimp only[Z5,Z6,Z7,pK,enumH,pD,pG,pL,Nat.reduceAdd] at hs hrow⊢
 have hz:=hs
 obtain⟨z0,hC0⟩:=Option.isSome_iff_exists.1 hz
 try rw[pW hC0]
 clear hz hs
 unfold CS at hC0
 refine oS w5 ?_
 refine p4 (pU ?_)
 obtain⟨y1,hy1,hC0⟩:=sK hC0
 refine rI 0 (fun s=> ∃v,y1= .inl v∧s=(fun x=>⟨[(1,(.val (.int .i64) x,none))],[],0,78,0⟩) v) ?_ ?_
 ·refine rH hy1 (fun x=>⟨[(0,(.val .str O,none)),(1,(.val (.int .i64) x,none))],[],0,78,0⟩) ⟨[0,1],[]⟩ (by rfl) ?_
  intro aA w1 n1 hC1 hN1
  unfold EE at hC1
  dsimp only at hC1⊢
  refine p4 ?_
  refine oS w5 ?_
  refine oX hC1 (fun hC1 hc1=> ?_) (fun hC1 hc1=> ?_)
  ·refine p7 (oW (pU (pU ?_)))
   obtain⟨hg1,hC1⟩:=oU hC1
   obtain⟨hg2,hC1⟩:=oU hC1
   obtain⟨hg3,hC1⟩:=oU hC1
   obtain⟨hg4,hC1⟩:=oU hC1
   refine oS w5 ?_ (hp:=by exact And.intro hg1 (And.intro (fun hh=>hh) (And.intro (fun hh=>hh) (And.intro hg2 (And.intro (fun hh=>hh) (And.intro (fun hh=>sH hh) (And.intro (fun hh=>hh) (And.intro (fun hh=>hh) (And.intro hg3 (And.intro (fun hh=>hh) (And.intro (fun hh=>sH hh) (And.intro (fun hh=>hh) (And.intro (fun hh=>hh) (And.intro hg4 (And.intro (fun hh=>hh) ((fun hh=>sH hh)))))))))))))))))
   refine oX hC1 (fun hC1 hc2=> ?_) (fun hC1 hc2=> ?_)
   ·obtain⟨hg5,hC1⟩:=oU hC1
    refine pF w5 ?_ (hp:=by exact hg5)
    refine pB (pB ?_)
    cases hC1
    exact qG ⟨⟨[0,1],[]⟩,_,by rfl,hN1⟩
   ·obtain⟨aB,hv6,hw6,hC1⟩:=p9 hC1
    try simp only[go_sem] at hw6
    refine oS w5 ?_ (hp:=by exact(p8 hv6)) (h:=by simp only[go_sem,hw6];rfl)
    refine oX hC1 (fun hC1 hc3=> ?_) (fun hC1 hc3=> ?_)
    ·refine pU ?_
     obtain⟨aC,hy2,hC1⟩:=oY hC1
     refine rI 3 (fun s=>s=(fun x=>⟨[(0,(.val .str O,none)),(1,(.val (.int .i64) x,none))],[],0,78,0⟩) aC) ?_ ?_
     ·refine rH hy2 (fun x=>⟨[(0,(.val .str O,none)),(1,(.val (.int .i64) x,none))],[],0,78,0⟩) ⟨[0,1],[]⟩ (by rfl) ?_
      intro aD w2 n2 hC2 hN2
      unfold HW at hC2
      dsimp only at hC2⊢
      refine p4 ?_
      obtain⟨hg7,hC2⟩:=oU hC2
      refine oS w5 ?_ (hp:=by exact And.intro (fun hh=>hh) (And.intro (fun hh=>hh) (And.intro hg7 (And.intro (fun hh=>hh) ((fun hh=>pY hh))))))
      refine oX hC2 (fun hC2 hc4=> ?_) (fun hC2 hc4=> ?_)
      ·refine p7 (oW (pU ?_))
       obtain⟨hg8,hC2⟩:=oU hC2
       refine pF w5 ?_ (hp:=by exact hg8)
       refine pB ?_
       cases hC2
       exact qG ⟨⟨[0,1],[]⟩,_,by rfl,hN2⟩
      ·refine qY (r8 (r5 ?_))
       cases hC2
       cases hN2
       exact qZ ⟨⟨[0,1],[]⟩,by rfl⟩
     ·rintro _ rfl
      dsimp only at hC1⊢
      refine rF (pB (pB ?_))
      cases hC1
      exact qG ⟨⟨[0,1],[]⟩,_,by rfl,hN1⟩
    ·obtain⟨aE,hv9,hw9,hC1⟩:=p9 hC1
     try simp only[go_sem] at hw9
     refine oS w5 ?_ (hp:=by exact(p8 hv9)) (h:=by simp only[go_sem,hw9];rfl)
     refine oX hC1 (fun hC1 hc5=> ?_) (fun hC1 hc5=> ?_)
     ·obtain⟨hg10,hC1⟩:=oU hC1
      refine oS w5 ?_ (hp:=by exact hg10)
      refine p4 (pU ?_)
      obtain⟨aF,hy2,hC1⟩:=oY hC1
      refine rI 5 (fun s=>s=(fun x=>⟨[(0,(.val .str O,none)),(1,(.val (.int .i64) aA,none)),(5,(.val (.int .i64) x,none))],[],0,78,0⟩) aF) ?_ ?_
      ·refine rH hy2 (fun x=>⟨[(0,(.val .str O,none)),(1,(.val (.int .i64) aA,none)),(5,(.val (.int .i64) x,none))],[],0,78,0⟩) ⟨[0,1,5],[]⟩ (by rfl) ?_
       intro aG w2 n2 hC2 hN2
       unfold HX at hC2
       dsimp only at hC2⊢
       refine p4 ?_
       obtain⟨hg11,hC2⟩:=oU hC2
       refine oS w5 ?_ (hp:=by exact And.intro (fun hh=>hh) (And.intro (fun hh=>hh) (And.intro hg11 (And.intro (fun hh=>hh) ((fun hh=>pY hh))))))
       refine oX hC2 (fun hC2 hc6=> ?_) (fun hC2 hc6=> ?_)
       ·refine p7 (oW (pU ?_))
        obtain⟨hg12,hC2⟩:=oU hC2
        refine pF w5 ?_ (hp:=by exact hg12)
        refine pB ?_
        cases hC2
        exact qG ⟨⟨[0,1,5],[]⟩,_,by rfl,hN2⟩
       ·refine qY (r8 (r5 ?_))
        cases hC2
        cases hN2
        exact qZ ⟨⟨[0,1,5],[]⟩,by rfl⟩
      ·rintro _ rfl
       dsimp only at hC1⊢
       refine rF (oW (p4 ?_))
       refine oS w5 ?_
       refine oX hC1 (fun hC1 hc7=> ?_) (fun hC1 hc7=> ?_)
       ·refine oS w5 ?_
        refine oV (pC (pR (pR (s8 (s7 (pR (pC ?_)))))))
        cases hC1
        cases hN1
        dsimp only at hC0
        cases hC0
        exact⟨[],by rfl,by rfl,by rfl⟩
       ·refine p7 (oW ?_)
        obtain⟨hg13,hC1⟩:=oU hC1
        refine pF w5 ?_ (hp:=by exact hg13)
        refine pB (pB ?_)
        cases hC1
        exact qG ⟨⟨[0,1],[]⟩,_,by rfl,hN1⟩
     ·refine oS w5 ?_
      refine oV (pR (pR (s8 (s7 (pR (pC ?_))))))
      cases hC1
      cases hN1
      dsimp only at hC0
      cases hC0
      exact⟨[],by rfl,by rfl,by rfl⟩
  ·refine qY (r8 (r5 ?_))
   cases hC1
   cases hN1
   exact qZ ⟨⟨[1],[]⟩,_,rfl,by rfl⟩
 ·rintro _ ⟨aH,rfl,rfl⟩
  dsimp only at hC0⊢
  refine rF (oW ?_)
  refine oS w5 ?_
  refine oV ?_
  cases hC0
  exact⟨[],by rfl,by rfl,by rfl⟩
attribute [irreducible] CS
def a9m (O:Int) (Z:(List UInt8)) (aA:Int):Int→Option (Int⊕(Unit⊕Int)):=fun aB=>
 if (decide (aB<(List.length Z:Int)))=true then
  if 0≤aB∧aB<(List.length Z:Int) then
   if (decide ((pA Z aB)=aA))=true then
    some (.inr (.inr (aB)))
   else
    if (((!decide (O=(4:Int)))==true)=true→0≤aB∧aB<(List.length Z:Int)) then
     if ((!decide (O=(4:Int)))&&(decide ((pA Z aB)=(92:Int))))=true then
      if oT (aB+(1:Int)) then
       if oT ((aB+(1:Int))+(1:Int)) then
        some (.inl ((aB+(1:Int))+(1:Int)))
       else none
      else none
     else
      if oT (aB+(1:Int)) then
       some (.inl (aB+(1:Int)))
      else none
    else none
  else none
 else
  some (.inr (.inl ()))
def G8 (O:Int) (Z:(List UInt8)) (aA:Int):Option Int:=
 if (!((decide ((1:Int)≤O))&&(decide (O≤(4:Int)))))=true then
  some ((-1:Int))
 else
  qQ (pT (a9m O Z aA) (0:Int)) fun _=>
  some ((-1:Int))
section
variable (O:Int) (Z:(List UInt8)) (aA:Int)
@[reducible] def Z9:List Slot:=[(.val (.int .i64) O,none),(.val .str Z,none),(.val (.int .u8) aA,none)]
@[reducible] def ZA:List Blk:=[]
@[go_sem] def ZB:Ret:=⟨[((G8 O Z aA)).isSome=true],[(.val (.int .i64) (val (G8 O Z aA)),none)],[]⟩
def a9n:List Slot→List Blk→Option Ret:=pM (V:=(Int×(List UInt8)×Int)) (fun x=>Z9 x.1 x.2.1 x.2.2) (fun x=>ZA) fun x=>ZB x.1 x.2.1 x.2.2
@[go_sem] theorem aLb:a9n (no_index (Z9 O Z aA)) (no_index ZA)=some (ZB O Z aA):=pN (fun⟨a0,a1,a2⟩ ⟨b0,b1,b2⟩ h1 h2=>by cases h1;cases h2;rfl) (O,Z,aA)
end
@[reducible,go_sem] def a9o:Nat×Sig:=(88,⟨[.v,.v,.v],a9n,[],[],none⟩)
theorem z6:Env Tryz.prog [q8] (pE [VY]):=⟨⟨qA,trivial⟩,oZ a8b pP,pH⟩
theorem aF5:pI Tryz.prog a9o:=by
 refine pO z6 Tryz.func88 (c:=_) rfl (N:=33) (by kernel_rfl) (ts:=[(6,none)]) rfl (fun _ _=>rfl) ?_
 intro⟨O,Z,aA⟩ hs hrow
 dsimp only[Z9,ZA,ZB,pK,enumH,pD,pG,pL,Nat.reduceAdd] at hs hrow⊢
 have hz:=hs
 obtain⟨z0,hC0⟩:=Option.isSome_iff_exists.1 hz
 try rw[pW hC0]
 clear hz hs
 unfold G8 at hC0
 refine oS z6 ?_
 refine p4 ?_
 refine oS z6 ?_
 refine oX hC0 (fun hC0 hc1=> ?_) (fun hC0 hc1=> ?_)
 ·refine oS z6 ?_
  refine oV (pC ?_)
  cases hC0
  exact⟨[],by rfl,by rfl,by rfl⟩
 ·refine p7 (oW (p4 ?_))
  refine oS z6 ?_
  refine pU ?_
  obtain⟨y1,hy1,hC0⟩:=sK hC0
  refine rI 0 (fun s=> ∃v,y1= .inl v∧s=(fun _=>⟨[],[],0,33,0⟩) v) ?_ ?_
  ·refine rH hy1 (fun x=>⟨[(0,(.val (.int .i64) O,none)),(1,(.val .str Z,none)),(2,(.val (.int .u8) aA,none)),(7,(.val (.int .i64) x,none))],[],0,33,0⟩) ⟨[0,1,2,7],[]⟩ (by rfl) ?_
   intro aB w1 n1 hC1 hN1
   unfold a9m at hC1
   dsimp only at hC1⊢
   refine p4 ?_
   refine oS z6 ?_
   refine oX hC1 (fun hC1 hc2=> ?_) (fun hC1 hc2=> ?_)
   ·refine p7 (oW (p4 (pU (p4 ?_))))
    obtain⟨hg1,hC1⟩:=oU hC1
    refine oS z6 ?_ (hp:=by exact hg1)
    refine oX hC1 (fun hC1 hc3=> ?_) (fun hC1 hc3=> ?_)
    ·refine oS z6 ?_
     refine oV (pC (pR (pC (s8 (s7 (pR (pC ?_)))))))
     cases hC1
     cases hN1
     dsimp only at hC0
     cases hC0
     exact⟨[],by rfl,by rfl,by rfl⟩
    ·refine p7 (oW ?_)
     obtain⟨hg2,hC1⟩:=oU hC1
     refine oS z6 ?_ (hp:=by exact And.intro (fun hh=>hh) (And.intro (fun hh=>hh) (And.intro hg2 (And.intro (fun hh=>hh) ((fun hh=>pY hh))))))
     refine oX hC1 (fun hC1 hc4=> ?_) (fun hC1 hc4=> ?_)
     ·obtain⟨hg3,hC1⟩:=oU hC1
      refine pF z6 ?_ (hp:=by exact hg3)
      refine pB (oW ?_)
      obtain⟨hg4,hC1⟩:=oU hC1
      refine pF z6 ?_ (hp:=by exact hg4)
      cases hC1
      exact qG ⟨⟨[0,1,2,7],[]⟩,_,by rfl,hN1⟩
     ·refine p7 (pB (oW ?_))
      obtain⟨hg5,hC1⟩:=oU hC1
      refine pF z6 ?_ (hp:=by exact hg5)
      cases hC1
      exact qG ⟨⟨[0,1,2,7],[]⟩,_,by rfl,hN1⟩
   ·refine qY (r8 (r5 ?_))
    cases hC1
    cases hN1
    exact qZ ⟨⟨[],[]⟩,_,rfl,by rfl⟩
  ·rintro _ ⟨v,rfl,rfl⟩
   dsimp only at hC0⊢
   refine rF (oW ?_)
   refine oS z6 ?_
   refine oV ?_
   cases hC0
   exact⟨[],by rfl,by rfl,by rfl⟩
attribute [irreducible] G8
def L4 (O:(List UInt8)):Int→Option (Int⊕(Unit⊕Int)):=fun Z=>
 if (decide (Z≤(4:Int)))=true then
  (KQ Z).bind fun aA=>
  if (decide ((qB .str ([([110,101,119]:List UInt8),([102,117,122,122,121]:List UInt8),([116,114,97,110,115,108,97,116,101,100]:List UInt8),([114,101,118,105,101,119,101,100]:List UInt8),([111,98,115,111,108,101,116,101]:List UInt8)]:List (List UInt8)) Z)=O))=true then
   some (.inr (.inr (Z)))
  else
   if oT (Z+(1:Int)) then
    some (.inl (Z+(1:Int)))
   else none
 else
  some (.inr (.inl ()))
def CT (O:(List UInt8)):Option Int:=
 qQ (pT (L4 O) (0:Int)) fun _=>
 some ((-1:Int))
section
variable (O:(List UInt8))
@[reducible] def ZC:List Slot:=[(.val .str O,none)]
@[reducible] def ZD:List Blk:=[]
@[go_sem] def ZE:Ret:=⟨[((CT O)).isSome=true],[(.val (.int .i64) (val (CT O)),none)],[]⟩
def a9p:List Slot→List Blk→Option Ret:=pM (V:=(List UInt8)) (fun x=>ZC x) (fun x=>ZD) fun x=>ZE x
@[go_sem] theorem aLc:a9p (no_index (ZC O)) (no_index ZD)=some (ZE O):=pN (fun a0 b0 h1 h2=>by cases h1;cases h2;rfl) O
end
@[reducible,go_sem] def a9q:Nat×Sig:=(103,⟨[.v],a9p,[],[],none⟩)
theorem EF:Env Tryz.prog [] (pE [a8h]):=⟨trivial,oZ aFH pP,pH⟩
theorem aF6:pI Tryz.prog a9q:=by
 refine pO EF Tryz.func103 (c:=_) rfl (N:=13) (by kernel_rfl) (ts:=[(2,none)]) rfl (fun _ _=>rfl) ?_
 intro O hs hrow
 dsimp only[ZC,ZD,ZE,pK,enumH,pD,pG,pL,Nat.reduceAdd] at hs hrow⊢
 have hz:=hs
 obtain⟨z0,hC0⟩:=Option.isSome_iff_exists.1 hz
 try rw[pW hC0]
 clear hz hs
 unfold CT at hC0
 refine oS EF ?_
 refine p4 ?_
 refine oS EF ?_
 refine pU ?_
 obtain⟨y1,hy1,hC0⟩:=sK hC0
 refine rI 0 (fun s=> ∃v,y1= .inl v∧s=(fun _=>⟨[],[],0,13,0⟩) v) ?_ ?_
 ·refine rH hy1 (fun x=>⟨[(0,(.val .str O,none)),(3,(.val (.int .i64) x,none))],[],0,13,0⟩) ⟨[0,3],[]⟩ (by rfl) ?_
  intro Z w1 n1 hC1 hN1
  unfold L4 at hC1
  dsimp only at hC1⊢
  refine p4 ?_
  refine oS EF ?_
  refine oX hC1 (fun hC1 hc1=> ?_) (fun hC1 hc1=> ?_)
  ·refine p7 (oW (p4 (pU ?_)))
   obtain⟨aA,hv1,hw1,hC1⟩:=p9 hC1
   try simp only[go_sem] at hw1
   refine oS EF ?_ (hp:=by exact(p8 hv1)) (h:=by simp only[go_sem,hw1];rfl)
   refine oX hC1 (fun hC1 hc2=> ?_) (fun hC1 hc2=> ?_)
   ·refine oS EF ?_
    refine oV (pR (pC (s8 (s7 (pR (pC ?_))))))
    cases hC1
    cases hN1
    dsimp only at hC0
    cases hC0
    exact⟨[],by rfl,by rfl,by rfl⟩
   ·refine p7 (pB (oW ?_))
    obtain⟨hg2,hC1⟩:=oU hC1
    refine pF EF ?_ (hp:=by exact hg2)
    cases hC1
    exact qG ⟨⟨[0,3],[]⟩,_,by rfl,hN1⟩
  ·refine qY (r8 (r5 ?_))
   cases hC1
   cases hN1
   exact qZ ⟨⟨[],[]⟩,_,rfl,by rfl⟩
 ·rintro _ ⟨v,rfl,rfl⟩
  dsimp only at hC0⊢
  refine rF (oW ?_)
  refine oS EF ?_
  refine oV ?_
  cases hC0
  exact⟨[],by rfl,by rfl,by rfl⟩
attribute [irreducible] CT
def L5 (O:(List UInt8)):Int→Option (Int⊕(Unit⊕Bool)):=fun Z=>
 if (decide (Z<(List.length O:Int)))=true then
  if 0≤Z∧Z<(List.length O:Int) then
   if (((((!((decide ((97:Int)≤(pA O Z)))&&(decide ((pA O Z)≤(122:Int)))))&&(!((decide ((48:Int)≤(pA O Z)))&&(decide ((pA O Z)≤(57:Int))))))&&(!decide ((pA O Z)=(45:Int))))&&(!decide ((pA O Z)=(95:Int))))&&(!decide ((pA O Z)=(46:Int))))=true then
    some (.inr (.inr (false)))
   else
    if oT (Z+(1:Int)) then
     some (.inl (Z+(1:Int)))
    else none
  else none
 else
  some (.inr (.inl ()))
def EG (O:(List UInt8)):Option Bool:=
 if ((((decide ((List.length O:Int)<(1:Int)))||(decide ((40:Int)<(List.length O:Int))))==false)=true→0≤(0:Int)∧(0:Int)<(List.length O:Int)) then
  if (((decide ((List.length O:Int)<(1:Int)))||(decide ((40:Int)<(List.length O:Int))))||(!((decide ((97:Int)≤(pA O (0:Int))))&&(decide ((pA O (0:Int))≤(122:Int))))))=true then
   some (false)
  else
   qQ (pT (L5 O) (1:Int)) fun _=>
   some (true)
 else none
section
variable (O:(List UInt8))
@[reducible] def ZF:List Slot:=[(.val .str O,none)]
@[reducible] def ZG:List Blk:=[]
@[go_sem] def ZH:Ret:=⟨[((EG O)).isSome=true],[(.val .bool (val (EG O)),none)],[]⟩
def a9r:List Slot→List Blk→Option Ret:=pM (V:=(List UInt8)) (fun x=>ZF x) (fun x=>ZG) fun x=>ZH x
@[go_sem] theorem aLd:a9r (no_index (ZF O)) (no_index ZG)=some (ZH O):=pN (fun a0 b0 h1 h2=>by cases h1;cases h2;rfl) O
end
@[reducible,go_sem] def ZI:Nat×Sig:=(104,⟨[.v],a9r,[],[],none⟩)
theorem AQ:Env Tryz.prog [q8] (pE [VG,VL]):=⟨⟨qA,trivial⟩,oZ a7Z (oZ a74 pP),pH⟩
theorem a9s:pI Tryz.prog ZI:=by
 refine pO AQ Tryz.func104 (c:=_) rfl (N:=48) (by kernel_rfl) (ts:=[(2,none)]) rfl (fun _ _=>rfl) ?_
 intro O hs hrow
 dsimp only[ZF,ZG,ZH,pK,enumH,pD,pG,pL,Nat.reduceAdd] at hs hrow⊢
 have hz:=hs
 obtain⟨z0,hC0⟩:=Option.isSome_iff_exists.1 hz
 try rw[pW hC0]
 clear hz hs
 unfold EG at hC0
 refine oS AQ ?_
 refine p4 ?_
 obtain⟨hg1,hC0⟩:=oU hC0
 refine oS AQ ?_ (hp:=by exact And.intro (fun hh=>hh) (And.intro (fun hh=>hh) (And.intro (fun hh=>sH hh) (And.intro (fun hh=>hh) (And.intro hg1 (And.intro (fun hh=>hh) (And.intro (fun hh=>hh) ((fun hh=>sH hh)))))))))
 refine oX hC0 (fun hC0 hc1=> ?_) (fun hC0 hc1=> ?_)
 ·refine oS AQ ?_
  refine oV (pC ?_)
  cases hC0
  exact⟨[],by rfl,by rfl,by rfl⟩
 ·refine p7 (oW (p4 ?_))
  refine oS AQ ?_
  refine pU ?_
  obtain⟨y1,hy1,hC0⟩:=sK hC0
  refine rI 0 (fun s=> ∃v,y1= .inl v∧s=(fun _=>⟨[],[],0,48,0⟩) v) ?_ ?_
  ·refine rH hy1 (fun x=>⟨[(0,(.val .str O,none)),(3,(.val (.int .i64) x,none))],[],0,48,0⟩) ⟨[0,3],[]⟩ (by rfl) ?_
   intro Z w1 n1 hC1 hN1
   unfold L5 at hC1
   dsimp only at hC1⊢
   refine p4 ?_
   refine oS AQ ?_
   refine oX hC1 (fun hC1 hc2=> ?_) (fun hC1 hc2=> ?_)
   ·refine p7 (oW (p4 (pU ?_)))
    obtain⟨hg2,hC1⟩:=oU hC1
    refine oS AQ ?_ (hp:=by exact hg2)
    refine oS AQ ?_ (hp:=by exact And.intro (fun hh=>hh) (And.intro (fun hh=>hh) (And.intro (fun hh=>pY hh) (And.intro (fun hh=>hh) (And.intro (fun hh=>pY hh) (And.intro (fun hh=>hh) (And.intro (fun hh=>pY hh) (And.intro (fun hh=>hh) ((fun hh=>pY hh))))))))))
    refine oX hC1 (fun hC1 hc3=> ?_) (fun hC1 hc3=> ?_)
    ·refine oS AQ ?_
     refine oV (pR (pC (s8 (s7 (pR (pC ?_))))))
     cases hC1
     cases hN1
     dsimp only at hC0
     cases hC0
     exact⟨[],by rfl,by rfl,by rfl⟩
    ·refine p7 (pB (oW ?_))
     obtain⟨hg3,hC1⟩:=oU hC1
     refine pF AQ ?_ (hp:=by exact hg3)
     cases hC1
     exact qG ⟨⟨[0,3],[]⟩,_,by rfl,hN1⟩
   ·refine qY (r8 (r5 ?_))
    cases hC1
    cases hN1
    exact qZ ⟨⟨[],[]⟩,_,rfl,by rfl⟩
  ·rintro _ ⟨v,rfl,rfl⟩
   dsimp only at hC0⊢
   refine rF (oW ?_)
   refine oS AQ ?_
   refine oV ?_
   cases hC0
   exact⟨[],by rfl,by rfl,by rfl⟩
attribute [irreducible] EG
end
end Go.Proofs.YtfchbnahjcdiiaaGreatDoor
namespace Go.Proofs.YtfchbnahjcdiiaaGreatDoor
open Vc
set_option maxRecDepth 100000
set_option maxHeartbeats 4000000
set_option linter.unusedSimpArgs false
set_option linter.unusedVariables false
noncomputable section
def HY (O:(List UInt8)):Option Unit:=
 if (((decide ((List.length O:Int)≤(4000:Int)))==true)=true→((KS O)).isSome=true) then
  some (())
 else none
section
variable (O:(List UInt8))
@[reducible] def ZJ:List Slot:=[(.val .str O,none)]
@[reducible] def ZK:List Blk:=[]
@[go_sem] def ZL:Ret:=⟨[((HY O)).isSome=true],[(.val .bool ((decide ((List.length O:Int)≤(4000:Int)))&&(Lib.validD O)),none)],[]⟩
def a9t:List Slot→List Blk→Option Ret:=pM (V:=(List UInt8)) (fun x=>ZJ x) (fun x=>ZK) fun x=>ZL x
@[go_sem] theorem aLe:a9t (no_index (ZJ O)) (no_index ZK)=some (ZL O):=pN (fun a0 b0 h1 h2=>by cases h1;cases h2;rfl) O
end
@[reducible,go_sem] def a9u:Nat×Sig:=(111,⟨[.v],a9t,[],[],none⟩)
theorem ZM:Env Tryz.prog [q8] (pE [a8n]):=⟨⟨qA,trivial⟩,oZ aFK pP,pH⟩
theorem aF7:pI Tryz.prog a9u:=by
 refine pO ZM Tryz.func111 (c:=_) rfl (N:=10) (by kernel_rfl) (ts:=[(2,none)]) rfl (fun _ _=>rfl) ?_
 intro O hs hrow
 dsimp only[ZJ,ZK,ZL,pK,enumH,pD,pG,pL,Nat.reduceAdd] at hs hrow⊢
 have hz:=hs
 obtain⟨z0,hC0⟩:=Option.isSome_iff_exists.1 hz
 try rw[pW hC0]
 clear hz hs
 unfold HY at hC0
 refine oS ZM ?_
 obtain⟨hg1,hC0⟩:=oU hC0
 refine oS ZM ?_ (hp:=by exact And.intro (fun hh=>hh) (And.intro hg1 ((fun hh=>pY hh))))
 refine oV ?_
 cases hC0
 exact⟨[],by rfl,by rfl,by rfl⟩
attribute [irreducible] HY
def CU (O:(List (List UInt8))) (Z:(List UInt8)):Option Bool:=
 (yZ O Z).bind fun aA=>
 some ((decide ((0:Int)≤aA)))
section
variable (O:(List (List UInt8))) (Z:(List UInt8))
@[reducible] def ZN:List Slot:=[(.val (.list .str) O,none),(.val .str Z,none)]
@[reducible] def ZO:List Blk:=[]
@[go_sem] def ZP:Ret:=⟨[((CU O Z)).isSome=true],[(.val .bool (val (CU O Z)),none)],[]⟩
def a9v:List Slot→List Blk→Option Ret:=pM (V:=((List (List UInt8))×(List UInt8))) (fun x=>ZN x.1 x.2) (fun x=>ZO) fun x=>ZP x.1 x.2
@[go_sem] theorem aLf:a9v (no_index (ZN O Z)) (no_index ZO)=some (ZP O Z):=pN (fun⟨a0,a1⟩ ⟨b0,b1⟩ h1 h2=>by cases h1;cases h2;rfl) (O,Z)
end
@[reducible,go_sem] def ON:Nat×Sig:=(126,⟨[.v,.v],a9v,[],[],none⟩)
theorem ZQ:Env Tryz.prog [] (pE [OH]):=⟨trivial,oZ a8f pP,pH⟩
theorem a9w:pI Tryz.prog ON:=by
 refine pO ZQ Tryz.func126 (c:=_) rfl (N:=9) (by kernel_rfl) (ts:=[(4,none)]) rfl (fun _ _=>rfl) ?_
 intro⟨O,Z⟩ hs hrow
 dsimp only[ZN,ZO,ZP,pK,enumH,pD,pG,pL,Nat.reduceAdd] at hs hrow⊢
 have hz:=hs
 obtain⟨z0,hC0⟩:=Option.isSome_iff_exists.1 hz
 try rw[pW hC0]
 clear hz hs
 unfold CU at hC0
 refine oS ZQ ?_
 obtain⟨aA,hv1,hw1,hC0⟩:=p9 hC0
 try simp only[go_sem] at hw1
 refine oS ZQ ?_ (hp:=by exact(p8 hv1)) (h:=by simp only[go_sem,hw1];rfl)
 refine oV ?_
 cases hC0
 exact⟨[],by rfl,by rfl,by rfl⟩
attribute [irreducible] CU
def G9 (O:Int) (Z:(List UInt8)) (aA:Int):Int→Option (Int⊕(Unit⊕Int)):=fun aB=>
 if (decide (aB<(List.length Z:Int)))=true then
  if 0≤aB∧aB<(List.length Z:Int) then
   if (decide ((pA Z aB)=aA))=true then
    some (.inr (.inr (aB)))
   else
    if (((!decide (O=(4:Int)))==true)=true→0≤aB∧aB<(List.length Z:Int)) then
     if ((!decide (O=(4:Int)))&&(decide ((pA Z aB)=(92:Int))))=true then
      if oT (aB+(1:Int)) then
       if oT ((aB+(1:Int))+(1:Int)) then
        some (.inl ((aB+(1:Int))+(1:Int)))
       else none
      else none
     else
      if oT (aB+(1:Int)) then
       some (.inl (aB+(1:Int)))
      else none
    else none
  else none
 else
  some (.inr (.inl ()))
def CV (O:Int) (Z:(List UInt8)) (aA:Int):Option Int:=
 if (!((decide ((1:Int)≤O))&&(decide (O≤(4:Int)))))=true then
  some ((-1:Int))
 else
  qQ (pT (G9 O Z aA) (0:Int)) fun _=>
  some ((-1:Int))
section
variable (O:Int) (Z:(List UInt8)) (aA:Int)
@[reducible] def ZR:List Slot:=[(.val (.int .i64) O,none),(.val .str Z,none),(.val (.int .u8) aA,none)]
@[reducible] def ZS:List Blk:=[]
@[go_sem] def ZT:Ret:=⟨[((CV O Z aA)).isSome=true],[(.val (.int .i64) (val (CV O Z aA)),none)],[]⟩
def a9x:List Slot→List Blk→Option Ret:=pM (V:=(Int×(List UInt8)×Int)) (fun x=>ZR x.1 x.2.1 x.2.2) (fun x=>ZS) fun x=>ZT x.1 x.2.1 x.2.2
@[go_sem] theorem aLg:a9x (no_index (ZR O Z aA)) (no_index ZS)=some (ZT O Z aA):=pN (fun⟨a0,a1,a2⟩ ⟨b0,b1,b2⟩ h1 h2=>by cases h1;cases h2;rfl) (O,Z,aA)
end
@[reducible,go_sem] def a9y:Nat×Sig:=(139,⟨[.v,.v,.v],a9x,[],[],none⟩)
theorem z7:Env Tryz.prog [q8] (pE [WV]):=⟨⟨qA,trivial⟩,oZ a8w pP,pH⟩
theorem aF8:pI Tryz.prog a9y:=by
 refine pO z7 Tryz.func139 (c:=_) rfl (N:=33) (by kernel_rfl) (ts:=[(6,none)]) rfl (fun _ _=>rfl) ?_
 intro⟨O,Z,aA⟩ hs hrow
 dsimp only[ZR,ZS,ZT,pK,enumH,pD,pG,pL,Nat.reduceAdd] at hs hrow⊢
 have hz:=hs
 obtain⟨z0,hC0⟩:=Option.isSome_iff_exists.1 hz
 try rw[pW hC0]
 clear hz hs
 unfold CV at hC0
 refine oS z7 ?_
 refine p4 ?_
 refine oS z7 ?_
 refine oX hC0 (fun hC0 hc1=> ?_) (fun hC0 hc1=> ?_)
 ·refine oS z7 ?_
  refine oV (pC ?_)
  cases hC0
  exact⟨[],by rfl,by rfl,by rfl⟩
 ·refine p7 (oW (p4 ?_))
  refine oS z7 ?_
  refine pU ?_
  obtain⟨y1,hy1,hC0⟩:=sK hC0
  refine rI 0 (fun s=> ∃v,y1= .inl v∧s=(fun _=>⟨[],[],0,33,0⟩) v) ?_ ?_
  ·refine rH hy1 (fun x=>⟨[(0,(.val (.int .i64) O,none)),(1,(.val .str Z,none)),(2,(.val (.int .u8) aA,none)),(7,(.val (.int .i64) x,none))],[],0,33,0⟩) ⟨[0,1,2,7],[]⟩ (by rfl) ?_
   intro aB w1 n1 hC1 hN1
   unfold G9 at hC1
   dsimp only at hC1⊢
   refine p4 ?_
   refine oS z7 ?_
   refine oX hC1 (fun hC1 hc2=> ?_) (fun hC1 hc2=> ?_)
   ·refine p7 (oW (p4 (pU (p4 ?_))))
    obtain⟨hg1,hC1⟩:=oU hC1
    refine oS z7 ?_ (hp:=by exact hg1)
    refine oX hC1 (fun hC1 hc3=> ?_) (fun hC1 hc3=> ?_)
    ·refine oS z7 ?_
     refine oV (pC (pR (pC (s8 (s7 (pR (pC ?_)))))))
     cases hC1
     cases hN1
     dsimp only at hC0
     cases hC0
     exact⟨[],by rfl,by rfl,by rfl⟩
    ·refine p7 (oW ?_)
     obtain⟨hg2,hC1⟩:=oU hC1
     refine oS z7 ?_ (hp:=by exact And.intro (fun hh=>hh) (And.intro (fun hh=>hh) (And.intro hg2 (And.intro (fun hh=>hh) ((fun hh=>pY hh))))))
     refine oX hC1 (fun hC1 hc4=> ?_) (fun hC1 hc4=> ?_)
     ·obtain⟨hg3,hC1⟩:=oU hC1
      refine pF z7 ?_ (hp:=by exact hg3)
      refine pB (oW ?_)
      obtain⟨hg4,hC1⟩:=oU hC1
      refine pF z7 ?_ (hp:=by exact hg4)
      cases hC1
      exact qG ⟨⟨[0,1,2,7],[]⟩,_,by rfl,hN1⟩
     ·refine p7 (pB (oW ?_))
      obtain⟨hg5,hC1⟩:=oU hC1
      refine pF z7 ?_ (hp:=by exact hg5)
      cases hC1
      exact qG ⟨⟨[0,1,2,7],[]⟩,_,by rfl,hN1⟩
   ·refine qY (r8 (r5 ?_))
    cases hC1
    cases hN1
    exact qZ ⟨⟨[],[]⟩,_,rfl,by rfl⟩
  ·rintro _ ⟨v,rfl,rfl⟩
   dsimp only at hC0⊢
   refine rF (oW ?_)
   refine oS z7 ?_
   refine oV ?_
   cases hC0
   exact⟨[],by rfl,by rfl,by rfl⟩
attribute [irreducible] CV
def CW (O:(List p6)) (Z:(List UInt8)):Option Int:=
 (HT O Z).bind fun aA=>
 some (aA)
section
variable (O:(List p6)) (Z:(List UInt8))
@[reducible] def ZU:List Slot:=[(.val (.list (.pair .str (.pair .str .unit))) O,none),(.val .str Z,none)]
@[reducible] def ZV:List Blk:=[]
@[go_sem] def ZW:Ret:=⟨[((CW O Z)).isSome=true],[(.val (.int .i64) (val (CW O Z)),none)],[]⟩
def a9z:List Slot→List Blk→Option Ret:=pM (V:=((List p6)×(List UInt8))) (fun x=>ZU x.1 x.2) (fun x=>ZV) fun x=>ZW x.1 x.2
@[go_sem] theorem aLh:a9z (no_index (ZU O Z)) (no_index ZV)=some (ZW O Z):=pN (fun⟨a0,a1⟩ ⟨b0,b1⟩ h1 h2=>by cases h1;cases h2;rfl) (O,Z)
end
@[reducible,go_sem] def ZX:Nat×Sig:=(171,⟨[.v,.v],a9z,[],[],none⟩)
theorem ZY:Env Tryz.prog [q8] (pE [a8X]):=⟨⟨qA,trivial⟩,oZ aFT pP,pH⟩
theorem a9A:pI Tryz.prog ZX:=by
 refine pO ZY Tryz.func171 (c:=_) rfl (N:=8) (by kernel_rfl) (ts:=[(4,none)]) rfl (fun _ _=>rfl) ?_
 intro⟨O,Z⟩ hs hrow
 dsimp only[ZU,ZV,ZW,pK,enumH,pD,pG,pL,Nat.reduceAdd] at hs hrow⊢
 have hz:=hs
 obtain⟨z0,hC0⟩:=Option.isSome_iff_exists.1 hz
 try rw[pW hC0]
 clear hz hs
 unfold CW at hC0
 refine oS ZY ?_
 obtain⟨aA,hv1,hw1,hC0⟩:=p9 hC0
 try simp only[go_sem] at hw1
 refine oS ZY ?_ (hp:=by exact And.intro (by first|exact rfl|exact trivial) ((p8 hv1))) (h:=by simp only[go_sem,hw1];rfl)
 refine oV ?_
 cases hC0
 exact⟨[],by rfl,by rfl,by rfl⟩
attribute [irreducible] CW
def EH (O:(List p6)) (Z:(List UInt8)):Option ((List UInt8)×Bool):=
 (CW O Z).bind fun aA=>
 if (decide (aA<(0:Int)))=true then
  some ((([]:List UInt8),false))
 else
  if 0≤aA∧aA<(List.length O:Int) then
   some (((qB (.pair .str (.pair .str .unit)) O aA).2.1,true))
  else none
section
variable (O:(List p6)) (Z:(List UInt8))
@[reducible] def ZZ:List Slot:=[(.val (.list (.pair .str (.pair .str .unit))) O,none),(.val .str Z,none)]
@[reducible] def a0a:List Blk:=[]
@[go_sem] def a0b:Ret:=⟨[((EH O Z)).isSome=true],[(.val .str ((val (EH O Z)).1),none),(.val .bool ((val (EH O Z)).2),none)],[]⟩
def a9B:List Slot→List Blk→Option Ret:=pM (V:=((List p6)×(List UInt8))) (fun x=>ZZ x.1 x.2) (fun x=>a0a) fun x=>a0b x.1 x.2
@[go_sem] theorem aLi:a9B (no_index (ZZ O Z)) (no_index a0a)=some (a0b O Z):=pN (fun⟨a0,a1⟩ ⟨b0,b1⟩ h1 h2=>by cases h1;cases h2;rfl) (O,Z)
end
@[reducible,go_sem] def a0c:Nat×Sig:=(188,⟨[.v,.v],a9B,[],[],none⟩)
theorem HZ:Env Tryz.prog [q8,yA,AH] (pE [ZX]):=⟨⟨qA,⟨zR,⟨CF,trivial⟩⟩⟩,oZ a9A pP,pH⟩
theorem aF9:pI Tryz.prog a0c:=by
 refine pO HZ Tryz.func188 (c:=_) rfl (N:=17) (by kernel_rfl) (ts:=[(4,none),(5,none)]) rfl (fun _ _=>rfl) ?_
 intro⟨O,Z⟩ hs hrow
 dsimp only[ZZ,a0a,a0b,pK,enumH,pD,pG,pL,Nat.reduceAdd] at hs hrow⊢
 have hz:=hs
 obtain⟨z0,hC0⟩:=Option.isSome_iff_exists.1 hz
 try rw[pW hC0]
 clear hz hs
 unfold EH at hC0
 refine oS HZ ?_
 obtain⟨aA,hv1,hw1,hC0⟩:=p9 hC0
 try simp only[go_sem] at hw1
 refine oS HZ ?_ (hp:=by exact(p8 hv1)) (h:=by simp only[go_sem,hw1];rfl)
 refine p4 ?_
 refine oS HZ ?_
 refine oX hC0 (fun hC0 hc1=> ?_) (fun hC0 hc1=> ?_)
 ·refine oS HZ ?_
  refine oV (pC ?_)
  cases hC0
  exact⟨[],by rfl,by rfl,by rfl⟩
 ·refine p7 (oW ?_)
  obtain⟨hg2,hC0⟩:=oU hC0
  refine oS HZ ?_ (hp:=by exact hg2)
  refine oV ?_
  cases hC0
  exact⟨[],by rfl,by rfl,by rfl⟩
attribute [irreducible] EH
def EI (O:(List UInt8)):Option Bool:=
 (CU ([([110,101,119]:List UInt8),([102,117,122,122,121]:List UInt8),([116,114,97,110,115,108,97,116,101,100]:List UInt8),([114,101,118,105,101,119,101,100]:List UInt8),([111,98,115,111,108,101,116,101]:List UInt8)]:List (List UInt8)) O).bind fun Z=>
 some (Z)
section
variable (O:(List UInt8))
@[reducible] def a0d:List Slot:=[(.val .str O,none)]
@[reducible] def a0e:List Blk:=[]
@[go_sem] def a0f:Ret:=⟨[((EI O)).isSome=true],[(.val .bool (val (EI O)),none)],[]⟩
def a9C:List Slot→List Blk→Option Ret:=pM (V:=(List UInt8)) (fun x=>a0d x) (fun x=>a0e) fun x=>a0f x
@[go_sem] theorem aLj:a9C (no_index (a0d O)) (no_index a0e)=some (a0f O):=pN (fun a0 b0 h1 h2=>by cases h1;cases h2;rfl) O
end
@[reducible,go_sem] def a9D:Nat×Sig:=(190,⟨[.v],a9C,[],[],none⟩)
theorem a0g:Env Tryz.prog [] (pE [OJ,ON]):=⟨trivial,oZ a8D (oZ a9w pP),pH⟩
theorem aGa:pI Tryz.prog a9D:=by
 refine pO a0g Tryz.func190 (c:=_) rfl (N:=6) (by kernel_rfl) (ts:=[(2,none)]) rfl (fun _ _=>rfl) ?_
 intro O hs hrow
 dsimp only[a0d,a0e,a0f,pK,enumH,pD,pG,pL,Nat.reduceAdd] at hs hrow⊢
 have hz:=hs
 obtain⟨z0,hC0⟩:=Option.isSome_iff_exists.1 hz
 try rw[pW hC0]
 clear hz hs
 unfold EI at hC0
 refine oS a0g ?_
 obtain⟨Z,hv1,hw1,hC0⟩:=p9 hC0
 try simp only[go_sem] at hw1
 refine oS a0g ?_ (hp:=by exact(p8 hv1)) (h:=by simp only[go_sem,hw1];rfl)
 refine oV ?_
 cases hC0
 exact⟨[],by rfl,by rfl,by rfl⟩
attribute [irreducible] EI
def GA (O:(List UInt8)) (Z:(List UInt8)) (aA:(List UInt8)) (aB:(List UInt8)) (aC:(List (List UInt8))) (aD:(Int×((List p6)×Unit))) (aE:Bool) (aF:(List (List UInt8))) (aG:(List ((List UInt8)×Bool))):Option Bool:=
 (CU aF O).bind fun aH=>
 some (aH)
section
variable (O:(List UInt8)) (Z:(List UInt8)) (aA:(List UInt8)) (aB:(List UInt8)) (aC:(List (List UInt8))) (aD:Nat) (aE:(Int×((List p6)×Unit))) (aF:Bool) (aG:Nat) (aH:Nat) (aI:(List (List UInt8))) (aJ:Nat) (aK:(List ((List UInt8)×Bool)))
@[reducible] def a0h:List Slot:=[(.val .str O,none),(.val .ref (some (0,0)),none)]
@[reducible] def a0i:List Blk:=[.cells .ref (some (1,0)) [],.cells rA ((Z,(aA,(aB,(aC,((some (4,aD)),aE))))),(aF,((some 5),()))) [(3,2),(6,3)],.grow 9 1 aG,.grow 144 2 aH,.row 9 .str aI aJ,.map .str .bool aK]
@[go_sem] def a0j:Ret:=⟨[aG=(List.length aC),aH=(List.length aE.2.1),aD=aJ,((GA O Z aA aB aC aE aF aI aK)).isSome=true],[(.val .bool (val (GA O Z aA aB aC aE aF aI aK)),none)],[.cells .ref (some (1,0)) [],.cells rA ((Z,(aA,(aB,(aC,((some (4,(List.length aI))),(aE.1,(aE.2.1,()))))))),(aF,((some 5),()))) [(3,2),(6,3)],.grow 9 1 (List.length aC),.grow 144 2 (List.length aE.2.1),.row 9 .str aI (List.length aI),.map .str .bool aK]⟩
def a9E:List Slot→List Blk→Option Ret:=pM (V:=((List UInt8)×(List UInt8)×(List UInt8)×(List UInt8)×(List (List UInt8))×Nat×(Int×((List p6)×Unit))×Bool×Nat×Nat×(List (List UInt8))×Nat×(List ((List UInt8)×Bool)))) (fun x=>a0h x.1) (fun x=>a0i x.2.1 x.2.2.1 x.2.2.2.1 x.2.2.2.2.1 x.2.2.2.2.2.1 x.2.2.2.2.2.2.1 x.2.2.2.2.2.2.2.1 x.2.2.2.2.2.2.2.2.1 x.2.2.2.2.2.2.2.2.2.1 x.2.2.2.2.2.2.2.2.2.2.1 x.2.2.2.2.2.2.2.2.2.2.2.1 x.2.2.2.2.2.2.2.2.2.2.2.2) fun x=>a0j x.1 x.2.1 x.2.2.1 x.2.2.2.1 x.2.2.2.2.1 x.2.2.2.2.2.1 x.2.2.2.2.2.2.1 x.2.2.2.2.2.2.2.1 x.2.2.2.2.2.2.2.2.1 x.2.2.2.2.2.2.2.2.2.1 x.2.2.2.2.2.2.2.2.2.2.1 x.2.2.2.2.2.2.2.2.2.2.2.1 x.2.2.2.2.2.2.2.2.2.2.2.2
@[go_sem] theorem aLk:a9E (no_index (a0h O)) (no_index (a0i Z aA aB aC aD aE aF aG aH aI aJ aK))=some (a0j O Z aA aB aC aD aE aF aG aH aI aJ aK):=pN (fun⟨a0,a1,a2,a3,a4,a5,a6,a7,a8,a9,a10,a11,a12⟩ ⟨b0,b1,b2,b3,b4,b5,b6,b7,b8,b9,b10,b11,b12⟩ h1 h2=>by cases h1;cases h2;rfl) (O,Z,aA,aB,aC,aD,aE,aF,aG,aH,aI,aJ,aK)
end
@[reducible,go_sem] def a0k:Nat×Sig:=(192,⟨[.v,.p .ref []],a9E,[(0,0,.p rA [3,6]),(1,4,.r),(1,8,.m)],[0,1,2,3,4,5],none⟩)
theorem a9F:Env Tryz.prog [] (pE [ON]):=⟨trivial,oZ a9w pP,pH⟩
theorem a9G:Env Tryz.prog [vZ,AL,HK,yX] (pE [ON]):=⟨⟨xG,⟨CJ,⟨OA,⟨AK,trivial⟩⟩⟩⟩,a9F.Γ,pH⟩
theorem aGb:pI Tryz.prog a0k:=by
 refine pO a9F Tryz.func192 (c:=_) rfl (N:=11) (by kernel_rfl) (ts:=[(3,none)]) rfl (fun _ _=>rfl) ?_
 intro⟨O,Z,aA,aB,aC,aD,aE,aF,aG,aH,aI,aJ,aK⟩ hs hrow
 dsimp only[a0h,a0i,a0j,pK,enumH,pD,pG,pL,Nat.reduceAdd] at hs hrow⊢
 obtain⟨rfl,rfl,rfl,hz⟩:=hs
 obtain⟨rfl,_⟩:=hrow
 obtain⟨z0,hC0⟩:=Option.isSome_iff_exists.1 hz
 try rw[pW hC0]
 clear hz
 unfold GA at hC0
 refine oS a9G ?_
 obtain⟨aL,hv1,hw1,hC0⟩:=p9 hC0
 try simp only[go_sem] at hw1
 refine oS a9G ?_ (hp:=by exact And.intro (fun _=>by first|exact rfl|exact trivial) ((p8 hv1))) (h:=by simp only[go_sem,hw1];rfl)
 refine oV ?_
 cases hC0
 exact⟨[(0,0),(1,1),(2,2),(3,3),(4,4),(5,5)],by rfl,by rfl,by rfl⟩
attribute [irreducible] GA
def I0 (O:pZ) (Z:pZ):Option Unit:=
 (L2 O Z).bind fun aA=>
 if (((((decide (O.1=Z.1))&&(val (uD O.2.1 Z.2.1)))&&(val (yE O.2.2.1 Z.2.2.1)))==true)=true→((CQ O.2.2.2.1 Z.2.2.2.1)).isSome=true) then
  some (())
 else none
section
variable (O:pZ) (Z:pZ)
@[reducible] def a0l:List Slot:=[(.val y9 O,none),(.val y9 Z,none)]
@[reducible] def a0m:List Blk:=[]
@[go_sem] def a0n:Ret:=⟨[((I0 O Z)).isSome=true],[(.val .bool ((((decide (O.1=Z.1))&&(val (uD O.2.1 Z.2.1)))&&(val (yE O.2.2.1 Z.2.2.1)))&&(val (CQ O.2.2.2.1 Z.2.2.2.1))),none)],[]⟩
def a9H:List Slot→List Blk→Option Ret:=pM (V:=(pZ×pZ)) (fun x=>a0l x.1 x.2) (fun x=>a0m) fun x=>a0n x.1 x.2
@[go_sem] theorem aLl:a9H (no_index (a0l O Z)) (no_index a0m)=some (a0n O Z):=pN (fun⟨a0,a1⟩ ⟨b0,b1⟩ h1 h2=>by cases h1;cases h2;rfl) (O,Z)
end
@[reducible,go_sem] def a9I:Nat×Sig:=(12,⟨[.v,.v],a9H,[],[],none⟩)
theorem a0o:Env Tryz.prog [DW,yB] (pE [a9d,a9f]):=⟨⟨HJ,⟨zT,trivial⟩⟩,oZ aF1 (oZ aF2 pP),pH⟩
theorem aGc:pI Tryz.prog a9I:=by
 refine pO a0o Tryz.func12 (c:=_) rfl (N:=15) (by kernel_rfl) (ts:=[(4,none)]) rfl (fun _ _=>rfl) ?_
 intro⟨O,Z⟩ hs hrow
 dsimp only[a0l,a0m,a0n,pK,enumH,pD,pG,pL,Nat.reduceAdd] at hs hrow⊢
 have hz:=hs
 obtain⟨z0,hC0⟩:=Option.isSome_iff_exists.1 hz
 try rw[pW hC0]
 clear hz hs
 unfold I0 at hC0
 refine oS a0o ?_
 obtain⟨aA,hv1,hw1,hC0⟩:=p9 hC0
 try simp only[go_sem] at hw1
 obtain⟨hg2,hC0⟩:=oU hC0
 refine oS a0o ?_ (hp:=by exact And.intro (p8 hv1) (And.intro (fun hh=>hh) (And.intro (fun hh=>hh) (And.intro (fun hh=>hh) (And.intro (fun hh=>hh) (And.intro hg2 ((fun hh=>pY hh)))))))) (h:=by simp only[go_sem,hw1];rfl)
 refine oV ?_
 cases hC0
 exact⟨[],by rfl,by rfl,by rfl⟩
attribute [irreducible] I0
end
end Go.Proofs.YtfchbnahjcdiiaaGreatDoor
namespace Go.Proofs.YtfchbnahjcdiiaaGreatDoor
open Vc
set_option maxRecDepth 100000
set_option maxHeartbeats 4000000
set_option linter.unusedSimpArgs false
set_option linter.unusedVariables false
noncomputable section
def I1 (O:(List UInt8)) (Z:Int):(Int×Int)→Option ((Int×Int)⊕(Int⊕Int)):=fun(aA,aB)=>
 if (decide (aB<(List.length O:Int)))=true then
  if 0≤aB∧aB<(List.length O:Int) then
   (G3 (pA O aB) Z).bind fun aC=>
   if (decide (aC<(0:Int)))=true then
    some (.inr (.inr ((-1:Int))))
   else
    if oT (Z*aA) then
     if oT ((Z*aA)+aC) then
      if oT (aB+(1:Int)) then
       some (.inl (((Z*aA)+aC),(aB+(1:Int))))
      else none
     else none
    else none
  else none
 else
  some (.inr (.inl aA))
def BM (O:(List UInt8)) (Z:Int):Option Int:=
 qQ (pT (I1 O Z) ((0:Int),(0:Int))) fun aA=>
 if (decide (O=([]:List UInt8)))=true then
  some ((-1:Int))
 else
  some (aA)
section
variable (O:(List UInt8)) (Z:Int)
@[reducible] def a0p:List Slot:=[(.val .str O,none),(.val (.int .i64) Z,none)]
@[reducible] def a0q:List Blk:=[]
@[go_sem] def a0r:Ret:=⟨[((BM O Z)).isSome=true],[(.val (.int .i64) (val (BM O Z)),none)],[]⟩
def a9J:List Slot→List Blk→Option Ret:=pM (V:=((List UInt8)×Int)) (fun x=>a0p x.1 x.2) (fun x=>a0q) fun x=>a0r x.1 x.2
@[go_sem] theorem aLm:a9J (no_index (a0p O Z)) (no_index a0q)=some (a0r O Z):=pN (fun⟨a0,a1⟩ ⟨b0,b1⟩ h1 h2=>by cases h1;cases h2;rfl) (O,Z)
end
@[reducible,go_sem] def a0s:Nat×Sig:=(204,⟨[.v,.v],a9J,[],[],none⟩)
theorem z8:Env Tryz.prog [q8] (pE [a8S]):=⟨⟨qA,trivial⟩,oZ aFR pP,pH⟩
theorem a9K:pI Tryz.prog a0s:=by
 refine pO z8 Tryz.func204 (c:=_) rfl (N:=29) (by kernel_rfl) (ts:=[(4,none)]) rfl (fun _ _=>rfl) ?_
 intro⟨O,Z⟩ hs hrow
 dsimp only[a0p,a0q,a0r,pK,enumH,pD,pG,pL,Nat.reduceAdd] at hs hrow⊢
 have hz:=hs
 obtain⟨z0,hC0⟩:=Option.isSome_iff_exists.1 hz
 try rw[pW hC0]
 clear hz hs
 unfold BM at hC0
 refine oS z8 ?_
 refine oS z8 ?_
 refine p4 ?_
 refine oS z8 ?_
 refine pU ?_
 obtain⟨y1,hy1,hC0⟩:=sK hC0
 refine rI 0 (fun s=> ∃v,y1= .inl v∧s=(fun x=>⟨[(0,(.val .str O,none)),(5,(.val (.int .i64) x,none))],[],0,29,0⟩) v) ?_ ?_
 ·refine rH hy1 (fun x=>⟨[(0,(.val .str O,none)),(1,(.val (.int .i64) Z,none)),(5,(.val (.int .i64) x.1,none)),(6,(.val (.int .i64) x.2,none))],[],0,29,0⟩) ⟨[0,1,5,6],[]⟩ (by rfl) ?_
  intro x1 w1 n1 hC1 hN1
  obtain⟨aA,aB⟩:=x1
  unfold I1 at hC1
  dsimp only at hC1⊢
  refine p4 ?_
  refine oS z8 ?_
  refine oX hC1 (fun hC1 hc1=> ?_) (fun hC1 hc1=> ?_)
  ·refine p7 (oW (p4 (pU ?_)))
   obtain⟨hg1,hC1⟩:=oU hC1
   obtain⟨aC,hv2,hw2,hC1⟩:=p9 hC1
   try simp only[go_sem] at hw2
   refine oS z8 ?_ (hp:=by exact And.intro hg1 ((p8 hv2))) (h:=by simp only[go_sem,hw2];rfl)
   refine p4 ?_
   refine oS z8 ?_
   refine oX hC1 (fun hC1 hc2=> ?_) (fun hC1 hc2=> ?_)
   ·refine oS z8 ?_
    refine oV (pC (pR (pC (s8 (s7 (pR (pC ?_)))))))
    cases hC1
    cases hN1
    dsimp only at hC0
    cases hC0
    exact⟨[],by rfl,by rfl,by rfl⟩
   ·refine p7 (oW ?_)
    obtain⟨hg3,hC1⟩:=oU hC1
    obtain⟨hg4,hC1⟩:=oU hC1
    refine pF z8 ?_ (hp:=by exact And.intro hg3 (hg4))
    refine pB (oW ?_)
    obtain⟨hg5,hC1⟩:=oU hC1
    refine pF z8 ?_ (hp:=by exact hg5)
    cases hC1
    exact qG ⟨⟨[0,1,5,6],[]⟩,_,by rfl,hN1⟩
  ·refine qY (r8 (r5 ?_))
   cases hC1
   cases hN1
   exact qZ ⟨⟨[0,5],[]⟩,_,rfl,by rfl⟩
 ·rintro _ ⟨aD,rfl,rfl⟩
  dsimp only at hC0⊢
  refine rF (oW (p4 ?_))
  refine oS z8 ?_
  refine oX hC0 (fun hC0 hc3=> ?_) (fun hC0 hc3=> ?_)
  ·refine oS z8 ?_
   refine oV (pC ?_)
   cases hC0
   exact⟨[],by rfl,by rfl,by rfl⟩
  ·refine p7 (oW ?_)
   refine oS z8 ?_
   refine oV ?_
   cases hC0
   exact⟨[],by rfl,by rfl,by rfl⟩
attribute [irreducible] BM
def I2:((List UInt8)×(List Int))→Option (((List UInt8)×(List Int))⊕(List Int)):=fun(O,Z)=>
 if (decide ((0:Int)<(List.length O:Int)))=true then
  (EA O).bind fun aA=>
  if (List.length Z+List.length ([aA.1]:List Int))*8≤140737488355328 then
   if 0≤aA.2∧aA.2≤(List.length O:Int)∧(List.length O:Int)≤(List.length O:Int) then
    some (.inl ((p5 O aA.2 (List.length O:Int)),(Z++([aA.1]:List Int))))
   else none
  else none
 else
  some (.inr Z)
def EJ (O:(List UInt8)):Option (List Int):=
 qE (pT I2 (O,([]:List Int))) fun Z=>
 some (Z)
section
variable (O:(List UInt8))
@[reducible] def a0t:List Slot:=[(.val .str O,none)]
@[reducible] def a0u:List Blk:=[]
@[go_sem] def a0v:Ret:=⟨[((EJ O)).isSome=true],[(.val (.list (.int .i64)) (val (EJ O)),some 0)],[.grow 3 1 (List.length (val (EJ O)))]⟩
def a9L:List Slot→List Blk→Option Ret:=pM (V:=(List UInt8)) (fun x=>a0t x) (fun x=>a0u) fun x=>a0v x
@[go_sem] theorem aLn:a9L (no_index (a0t O)) (no_index a0u)=some (a0v O):=pN (fun a0 b0 h1 h2=>by cases h1;cases h2;rfl) O
end
@[reducible,go_sem] def a9M:Nat×Sig:=(208,⟨[.v],a9L,[],[],none⟩)
theorem EK:Env Tryz.prog [q8,CI] (pE [a81]):=⟨⟨qA,⟨FV,trivial⟩⟩,oZ aFV pP,pH⟩
theorem aGd:pI Tryz.prog a9M:=by
 refine pO EK Tryz.func208 (c:=_) rfl (N:=22) (by kernel_rfl) (ts:=[(2,none)]) rfl (fun _ _=>rfl) ?_
 intro O hs hrow
 dsimp only[a0t,a0u,a0v,pK,enumH,pD,pG,pL,Nat.reduceAdd] at hs hrow⊢
 have hz:=hs
 obtain⟨z0,hC0⟩:=Option.isSome_iff_exists.1 hz
 try rw[pW hC0]
 clear hz hs
 unfold EJ at hC0
 refine oS EK ?_
 refine oS EK ?_
 refine p4 (pU ?_)
 obtain⟨Z,hy1,hC0⟩:=oY hC0
 refine rI 0 (fun s=>s=(fun x=>⟨[(3,(.val (.list (.int .i64)) x,some 0))],[(0,.grow 3 1 (List.length x))],1,22,0⟩) Z) ?_ ?_
 ·refine rH hy1 (fun x=>⟨[(0,(.val .str x.1,none)),(3,(.val (.list (.int .i64)) x.2,some 0))],[(0,.grow 3 1 (List.length x.2))],1,22,0⟩) ⟨[0,3],[(0,16)]⟩ (by rfl) ?_
  intro x1 w1 n1 hC1 hN1
  obtain⟨aA,aB⟩:=x1
  unfold I2 at hC1
  dsimp only at hC1⊢
  refine p4 ?_
  refine oS EK ?_
  refine oX hC1 (fun hC1 hc1=> ?_) (fun hC1 hc1=> ?_)
  ·refine p7 (oW (pU ?_))
   obtain⟨aC,hv1,hw1,hC1⟩:=p9 hC1
   try simp only[go_sem] at hw1
   refine oS EK ?_ (hp:=by exact(p8 hv1)) (h:=by simp only[go_sem,hw1];rfl)
   obtain⟨hg2,hC1⟩:=oU hC1
   refine oS EK ?_ (hp:=by exact And.intro (by first|exact rfl|exact trivial) (hg2))
   obtain⟨hg3,hC1⟩:=oU hC1
   refine pF EK ?_ (hp:=by exact hg3)
   refine pB ?_
   cases hC1
   exact qG ⟨⟨[0,3],[(0,0)]⟩,_,by rfl,hN1⟩
  ·refine qY (r8 (r5 ?_))
   cases hC1
   cases hN1
   exact qZ ⟨⟨[3],[(0,0)]⟩,by rfl⟩
 ·rintro _ rfl
  dsimp only at hC0⊢
  refine rF (oW ?_)
  refine oS EK ?_
  refine oV ?_
  cases hC0
  exact⟨[(0,0)],by rfl,by rfl,by rfl⟩
attribute [irreducible] EJ
def EL (O:(List Int)) (Z:Int):Option (List Int):=
 if (decide ((IntKind.wrap .u32 Z)≤(127:Int)))=true then
  if (List.length O+List.length ([(IntKind.wrap .u8 Z)]:List Int))*1≤140737488355328 then
   some ((O++([(IntKind.wrap .u8 Z)]:List Int)))
  else none
 else
  (G5 O Z).bind fun aA=>
  some (aA)
section
variable (O:(List Int)) (Z:Int) (aA:Nat)
@[reducible] def a0w:List Slot:=[(.val (.list (.int .u8)) O,some 0),(.val (.int .i32) Z,none)]
@[reducible] def a0x:List Blk:=[.grow 5 1 aA]
@[go_sem] def a0y:Ret:=⟨[aA=(List.length O),((EL O Z)).isSome=true],[(.val (.list (.int .u8)) (val (EL O Z)),some 0)],[.grow 5 1 (List.length (val (EL O Z)))]⟩
def a9N:List Slot→List Blk→Option Ret:=pM (V:=((List Int)×Int×Nat)) (fun x=>a0w x.1 x.2.1) (fun x=>a0x x.2.2) fun x=>a0y x.1 x.2.1 x.2.2
@[go_sem] theorem aLo:a9N (no_index (a0w O Z)) (no_index (a0x aA))=some (a0y O Z aA):=pN (fun⟨a0,a1,a2⟩ ⟨b0,b1,b2⟩ h1 h2=>by cases h1;cases h2;rfl) (O,Z,aA)
end
@[reducible,go_sem] def a9O:Nat×Sig:=(220,⟨[.own,.v],a9N,[],[],none⟩)
theorem L6:Env Tryz.prog [zS,HI,AG,O9] (pE [a83]):=⟨⟨BD,⟨O5,⟨CE,⟨a7a,trivial⟩⟩⟩⟩,oZ aFW pP,pH⟩
theorem aGe:pI Tryz.prog a9O:=by
 refine pO L6 Tryz.func220 (c:=_) rfl (N:=16) (by kernel_rfl) (ts:=[(4,none)]) rfl (fun _ _=>rfl) ?_
 intro⟨O,Z,aA⟩ hs hrow
 dsimp only[a0w,a0x,a0y,pK,enumH,pD,pG,pL,Nat.reduceAdd] at hs hrow⊢
 obtain⟨rfl,hz⟩:=hs
 obtain⟨z0,hC0⟩:=Option.isSome_iff_exists.1 hz
 try rw[pW hC0]
 clear hz
 unfold EL at hC0
 refine oS L6 ?_
 refine p4 ?_
 refine oS L6 ?_
 refine oX hC0 (fun hC0 hc1=> ?_) (fun hC0 hc1=> ?_)
 ·obtain⟨hg1,hC0⟩:=oU hC0
  refine oS L6 ?_ (hp:=by exact And.intro (by first|exact rfl|exact trivial) (hg1))
  refine oV (pC ?_)
  cases hC0
  exact⟨[(0,0)],by rfl,by rfl,by rfl⟩
 ·refine p7 (oW ?_)
  obtain⟨aB,hv2,hw2,hC0⟩:=p9 hC0
  try simp only[go_sem] at hw2
  refine oS L6 ?_ (hp:=by exact And.intro (by first|exact rfl|exact trivial) ((p8 hv2))) (h:=by simp only[go_sem,hw2];rfl)
  refine oV ?_
  cases hC0
  exact⟨[(0,0)],by rfl,by rfl,by rfl⟩
attribute [irreducible] EL
def EM (O:(List p6)) (Z:(List UInt8)) (aA:(List UInt8)):Option (List p6):=
 (EB O).bind fun aB=>
 (CW aB Z).bind fun aC=>
 if (decide ((0:Int)≤aC))=true then
  if 0≤aC∧aC<(((List.length aB):Nat):Int) then
   some ((List.set aB (Int.toNat aC) ((qB (.pair .str (.pair .str .unit)) aB aC).1,(aA,(qB (.pair .str (.pair .str .unit)) aB aC).2.2))))
  else none
 else
  (HU aB Z).bind fun aD=>
  if (decide (aD<(0:Int)))=true then
   if 0≤(((List.length aB):Nat):Int)∧(((List.length aB):Nat):Int)≤List.length aB then
    if (List.length aB+List.length ([(Z,(aA,()))]:List p6))*32≤140737488355328 then
     some ((y8 aB (((List.length aB):Nat):Int) ([(Z,(aA,()))]:List p6)))
    else none
   else none
  else
   if 0≤aD∧aD≤List.length aB then
    if (List.length aB+List.length ([(Z,(aA,()))]:List p6))*32≤140737488355328 then
     some ((y8 aB aD ([(Z,(aA,()))]:List p6)))
    else none
   else none
section
variable (O:(List p6)) (Z:(List UInt8)) (aA:(List UInt8))
@[reducible] def a0z:List Slot:=[(.val (.list (.pair .str (.pair .str .unit))) O,none),(.val .str Z,none),(.val .str aA,none)]
@[reducible] def a0A:List Blk:=[]
@[go_sem] def a0B:Ret:=⟨[((EM O Z aA)).isSome=true],[(.val (.list (.pair .str (.pair .str .unit))) (val (EM O Z aA)),some 0)],[.grow 144 2 (List.length (val (EM O Z aA)))]⟩
def a9P:List Slot→List Blk→Option Ret:=pM (V:=((List p6)×(List UInt8)×(List UInt8))) (fun x=>a0z x.1 x.2.1 x.2.2) (fun x=>a0A) fun x=>a0B x.1 x.2.1 x.2.2
@[go_sem] theorem aLp:a9P (no_index (a0z O Z aA)) (no_index a0A)=some (a0B O Z aA):=pN (fun⟨a0,a1,a2⟩ ⟨b0,b1,b2⟩ h1 h2=>by cases h1;cases h2;rfl) (O,Z,aA)
end
@[reducible,go_sem] def a0C:Nat×Sig:=(136,⟨[.v,.v,.v],a9P,[],[],none⟩)
theorem zV:Env Tryz.prog [q8,KF,AH] (pE [a87,ZX,a85,a7f]):=⟨⟨qA,⟨T9,⟨CF,trivial⟩⟩⟩,oZ aFY (oZ a9A (oZ aFX (oZ aFr pP))),pH⟩
theorem aGf:pI Tryz.prog a0C:=by
 refine pO zV Tryz.func136 (c:=_) rfl (N:=37) (by kernel_rfl) (ts:=[(6,none)]) rfl (fun _ _=>rfl) ?_
 intro⟨O,Z,aA⟩ hs hrow
 dsimp only[a0z,a0A,a0B,pK,enumH,pD,pG,pL,Nat.reduceAdd] at hs hrow⊢
 have hz:=hs
 obtain⟨z0,hC0⟩:=Option.isSome_iff_exists.1 hz
 try rw[pW hC0]
 clear hz hs
 unfold EM at hC0
 refine oS zV ?_
 obtain⟨aB,hv1,hw1,hC0⟩:=p9 hC0
 try simp only[go_sem] at hw1
 refine oS zV ?_ (hp:=by exact(p8 hv1)) (h:=by simp only[go_sem,hw1];rfl)
 refine p4 ?_
 obtain⟨aC,hv2,hw2,hC0⟩:=p9 hC0
 try simp only[go_sem] at hw2
 refine oS zV ?_ (hp:=by exact And.intro (fun _=>by first|exact rfl|exact trivial) ((p8 hv2))) (h:=by simp only[go_sem,hw2];rfl)
 refine oS zV ?_
 refine oX hC0 (fun hC0 hc1=> ?_) (fun hC0 hc1=> ?_)
 ·obtain⟨hg3,hC0⟩:=oU hC0
  refine oS zV ?_ (hp:=by exact And.intro hg3 ((by first|exact rfl|exact trivial)))
  refine oS zV ?_
  refine K5 48 rfl (by repeat' (first|exact trivial|apply And.intro|exact(fun _=>rfl) |exact(fun h=>absurd h (by decide)))) ?_
  refine oV (pC ?_)
  cases hC0
  exact⟨[(0,48)],by rfl,by rfl,by rfl⟩
 ·refine p7 (oW ?_)
  obtain⟨aD,hv4,hw4,hC0⟩:=p9 hC0
  try simp only[go_sem] at hw4
  refine oS zV ?_ (hp:=by exact And.intro (by first|exact rfl|exact trivial) (And.intro (fun _=>by first|exact rfl|exact trivial) ((p8 hv4)))) (h:=by simp only[go_sem,hw4];rfl)
  refine p4 ?_
  refine oS zV ?_
  refine oX hC0 (fun hC0 hc2=> ?_) (fun hC0 hc2=> ?_)
  ·refine pF zV ?_
   refine oW ?_
   obtain⟨hg5,hC0⟩:=oU hC0
   obtain⟨hg6,hC0⟩:=oU hC0
   refine oS zV ?_ (hp:=by exact And.intro (by first|exact rfl|exact trivial) (And.intro hg5 (hg6)))
   refine O0 ⟨[0,1,2,4,6,10,13,14,8,15,16,24,25,9,26,27,29,31,32,33,34,35,36],[(0,0),(16,16),(48,48),(400,400)]⟩ ?_
   simp only[go_sem,Nat.max_def]
   refine K5 48 rfl (by repeat' (first|exact trivial|apply And.intro|exact(fun _=>rfl) |exact(fun h=>absurd h (by decide)))) ?_
   refine oV ?_
   cases hC0
   exact⟨[(0,48)],by rfl,by rfl,by rfl⟩
  ·refine p7 (oW ?_)
   obtain⟨hg7,hC0⟩:=oU hC0
   obtain⟨hg8,hC0⟩:=oU hC0
   refine oS zV ?_ (hp:=by exact And.intro (by first|exact rfl|exact trivial) (And.intro hg7 (hg8)))
   refine O0 ⟨[0,1,2,4,6,10,13,14,8,15,16,24,25,9,26,27,31,32,33,34,35,36],[(0,0),(16,16),(48,48),(352,352)]⟩ ?_
   simp only[go_sem,Nat.max_def]
   refine K5 48 rfl (by repeat' (first|exact trivial|apply And.intro|exact(fun _=>rfl) |exact(fun h=>absurd h (by decide)))) ?_
   refine oV ?_
   cases hC0
   exact⟨[(0,48)],by rfl,by rfl,by rfl⟩
attribute [irreducible] EM
def BN (O:(List UInt8)):Option Bool:=
 (EJ O).bind fun Z=>
 (G2 Z).bind fun aA=>
 some ((decide (aA=O)))
section
variable (O:(List UInt8))
@[reducible] def a0D:List Slot:=[(.val .str O,none)]
@[reducible] def a0E:List Blk:=[]
@[go_sem] def a0F:Ret:=⟨[((BN O)).isSome=true],[(.val .bool (val (BN O)),none)],[]⟩
def a9Q:List Slot→List Blk→Option Ret:=pM (V:=(List UInt8)) (fun x=>a0D x) (fun x=>a0E) fun x=>a0F x
@[go_sem] theorem aLq:a9Q (no_index (a0D O)) (no_index a0E)=some (a0F O):=pN (fun a0 b0 h1 h2=>by cases h1;cases h2;rfl) O
end
@[reducible,go_sem] def a9R:Nat×Sig:=(179,⟨[.v],a9Q,[],[],none⟩)
theorem a0G:Env Tryz.prog [] (pE [a9M,a8N]):=⟨trivial,oZ aGd (oZ aFP pP),pH⟩
theorem aGg:pI Tryz.prog a9R:=by
 refine pO a0G Tryz.func179 (c:=_) rfl (N:=8) (by kernel_rfl) (ts:=[(2,none)]) rfl (fun _ _=>rfl) ?_
 intro O hs hrow
 dsimp only[a0D,a0E,a0F,pK,enumH,pD,pG,pL,Nat.reduceAdd] at hs hrow⊢
 have hz:=hs
 obtain⟨z0,hC0⟩:=Option.isSome_iff_exists.1 hz
 try rw[pW hC0]
 clear hz hs
 unfold BN at hC0
 refine oS a0G ?_
 obtain⟨Z,hv1,hw1,hC0⟩:=p9 hC0
 try simp only[go_sem] at hw1
 obtain⟨aA,hv2,hw2,hC0⟩:=p9 hC0
 try simp only[go_sem] at hw2
 refine oS a0G ?_ (hp:=by exact And.intro (p8 hv1) ((p8 hv2))) (h:=by simp only[go_sem,hw1,hw2];rfl)
 refine oV ?_
 cases hC0
 exact⟨[],by rfl,by rfl,by rfl⟩
attribute [irreducible] BN
def GB (O:(List UInt8)) (Z:(List UInt8)) (aA:(List UInt8)) (aB:(List UInt8)) (aC:(List (List UInt8))) (aD:(Int×((List p6)×Unit))) (aE:Bool) (aF:(List (List UInt8))) (aG:(List ((List UInt8)×Bool))):Option Bool:=
 (EH aD.2.1 O).bind fun aH=>
 some (aH.2)
section
variable (O:(List UInt8)) (Z:(List UInt8)) (aA:(List UInt8)) (aB:(List UInt8)) (aC:(List (List UInt8))) (aD:Nat) (aE:(Int×((List p6)×Unit))) (aF:Bool) (aG:Nat) (aH:Nat) (aI:(List (List UInt8))) (aJ:Nat) (aK:(List ((List UInt8)×Bool)))
@[reducible] def a0H:List Slot:=[(.val .str O,none),(.val .ref (some (0,0)),none)]
@[reducible] def a0I:List Blk:=[.cells .ref (some (1,0)) [],.cells rA ((Z,(aA,(aB,(aC,((some (4,aD)),aE))))),(aF,((some 5),()))) [(3,2),(6,3)],.grow 9 1 aG,.grow 144 2 aH,.row 9 .str aI aJ,.map .str .bool aK]
@[go_sem] def a0J:Ret:=⟨[aG=(List.length aC),aH=(List.length aE.2.1),aD=aJ,((GB O Z aA aB aC aE aF aI aK)).isSome=true],[(.val .bool (val (GB O Z aA aB aC aE aF aI aK)),none)],[.cells .ref (some (1,0)) [],.cells rA ((Z,(aA,(aB,(aC,((some (4,(List.length aI))),(aE.1,(aE.2.1,()))))))),(aF,((some 5),()))) [(3,2),(6,3)],.grow 9 1 (List.length aC),.grow 144 2 (List.length aE.2.1),.row 9 .str aI (List.length aI),.map .str .bool aK]⟩
def a9S:List Slot→List Blk→Option Ret:=pM (V:=((List UInt8)×(List UInt8)×(List UInt8)×(List UInt8)×(List (List UInt8))×Nat×(Int×((List p6)×Unit))×Bool×Nat×Nat×(List (List UInt8))×Nat×(List ((List UInt8)×Bool)))) (fun x=>a0H x.1) (fun x=>a0I x.2.1 x.2.2.1 x.2.2.2.1 x.2.2.2.2.1 x.2.2.2.2.2.1 x.2.2.2.2.2.2.1 x.2.2.2.2.2.2.2.1 x.2.2.2.2.2.2.2.2.1 x.2.2.2.2.2.2.2.2.2.1 x.2.2.2.2.2.2.2.2.2.2.1 x.2.2.2.2.2.2.2.2.2.2.2.1 x.2.2.2.2.2.2.2.2.2.2.2.2) fun x=>a0J x.1 x.2.1 x.2.2.1 x.2.2.2.1 x.2.2.2.2.1 x.2.2.2.2.2.1 x.2.2.2.2.2.2.1 x.2.2.2.2.2.2.2.1 x.2.2.2.2.2.2.2.2.1 x.2.2.2.2.2.2.2.2.2.1 x.2.2.2.2.2.2.2.2.2.2.1 x.2.2.2.2.2.2.2.2.2.2.2.1 x.2.2.2.2.2.2.2.2.2.2.2.2
@[go_sem] theorem aLr:a9S (no_index (a0H O)) (no_index (a0I Z aA aB aC aD aE aF aG aH aI aJ aK))=some (a0J O Z aA aB aC aD aE aF aG aH aI aJ aK):=pN (fun⟨a0,a1,a2,a3,a4,a5,a6,a7,a8,a9,a10,a11,a12⟩ ⟨b0,b1,b2,b3,b4,b5,b6,b7,b8,b9,b10,b11,b12⟩ h1 h2=>by cases h1;cases h2;rfl) (O,Z,aA,aB,aC,aD,aE,aF,aG,aH,aI,aJ,aK)
end
@[reducible,go_sem] def a0K:Nat×Sig:=(187,⟨[.v,.p .ref []],a9S,[(0,0,.p rA [3,6]),(1,4,.r),(1,8,.m)],[0,1,2,3,4,5],none⟩)
theorem a9T:Env Tryz.prog [] (pE [a0c]):=⟨trivial,oZ aF9 pP,pH⟩
theorem a0L:Env Tryz.prog [yA,AL,HK,yX] (pE [a0c]):=⟨⟨zR,⟨CJ,⟨OA,⟨AK,trivial⟩⟩⟩⟩,a9T.Γ,pH⟩
theorem aGh:pI Tryz.prog a0K:=by
 refine pO a9T Tryz.func187 (c:=_) rfl (N:=17) (by kernel_rfl) (ts:=[(3,none)]) rfl (fun _ _=>rfl) ?_
 intro⟨O,Z,aA,aB,aC,aD,aE,aF,aG,aH,aI,aJ,aK⟩ hs hrow
 dsimp only[a0H,a0I,a0J,pK,enumH,pD,pG,pL,Nat.reduceAdd] at hs hrow⊢
 obtain⟨rfl,rfl,rfl,hz⟩:=hs
 obtain⟨rfl,_⟩:=hrow
 obtain⟨z0,hC0⟩:=Option.isSome_iff_exists.1 hz
 try rw[pW hC0]
 clear hz
 unfold GB at hC0
 refine oS a0L ?_
 obtain⟨aL,hv1,hw1,hC0⟩:=p9 hC0
 try simp only[go_sem] at hw1
 refine oS a0L ?_ (hp:=by exact(p8 hv1)) (h:=by simp only[go_sem,hw1];rfl)
 refine oS a0L ?_
 refine oV ?_
 cases hC0
 exact⟨[(0,0),(1,1),(2,2),(3,3),(4,4),(5,5)],by rfl,by rfl,by rfl⟩
attribute [irreducible] GB
end
end Go.Proofs.YtfchbnahjcdiiaaGreatDoor
