/- The contracts of the library's functions that this proof uses, at this program; printed by a tool of the kit, then cut down to what is used. -/
import Derived.Shelf.Strings.Builder1
import Derived.Shelf.Strings.Builder2
import Derived.Shelf.Strings.OnBuilder
import Derived.Shelf.Strings.Trim
import Derived.Shelf.Strings.TrimSpace
import Derived.Shelf.Small.Utf8
import Derived.Shelf.Small.Strs
import Derived.Shelf.Small.Wraps
import Derived.Shelf.Strings.BuilderF
import Derived.Shelf.Strings.BuilderK
import Derived.Shelf.Utf8.AppendRunePlain
import Derived.Shelf.Strconv.Atoi
import Derived.Shelf.Strconv.Itoa0
import Derived.Shelf.Strconv.Itoa1
import Derived.Shelf.LaysM
import Derived.Shelf.Strconv.Itoa2
import Derived.Shelf.Strconv.Itoa3
import Derived.Shelf.Strconv.AtoiErrFast
import Derived.Shelf.Strconv.ParseIntEmpty
import Derived.Shelf.Strconv.AtoiFail
import Derived.Shelf.Strconv.Clone
import Derived.Shelf.Strconv.SyntaxError
import Derived.Shelf.LaysC
import Derived.Shelf.Strconv.ToError
import Derived.Shelf.Strconv.Lower
import Derived.Shelf.Strconv.ParseUint10
import Derived.Shelf.Strconv.ParseUint10Empty
import Derived.Shelf.Strconv.ParseUint10Any
import Derived.Shelf.Strconv.ParseInt10
import Derived.Shelf.Strconv.AtoiLong
import Derived.Shelf.Strconv.AtoiInnerAll
import Derived.Shelf.Strconv.RangeError
import Derived.Shelf.Strconv.ToErrorRange
import Derived.Shelf.Strconv.AtoiAll
import Derived.Shelf.Strconv.ErrVarAll
import Derived.Shelf.Strconv.ParseUintEmpty
import Derived.Shelf.Strconv.ParseUint10b64
import Derived.Shelf.Strconv.ParseUint10b32
import Derived.Shelf.Strconv.ParseUint10b16
import Derived.Shelf.Strconv.ParseUint10b8
import Derived.Shelf.Strconv.ParseUint10At
import Derived.Ground.MpProg
import Derived.Shelf.Pu.ParseUintPublic10
import Derived.Shelf.Pu.ErrVarParseUint
import Derived.Shelf.Strings.Search1
import Derived.Shelf.Strings.Search2
import Derived.Shelf.Strings.Search3
import Derived.Shelf.Strings.Cut
import Derived.Shelf.Strings.Count
import Derived.Shelf.Strings.Shaped
import Derived.Shelf.Strconv.AppendUint10
import Derived.Shelf.Strconv.AppendInt10
import Derived.Shelf.Strconv.AppendIntPublic10
import Derived.Shelf.Strings.Prefix
import Derived.Shelf.Strings.Split
import Derived.Shelf.Strings.SplitShaped
import Derived.Shelf.Unicode.Latin
import Derived.Shelf.Unicode.Decode
import Derived.Shelf.Strings.Runes
import Derived.Shelf.Strings.RuneCount
import Derived.Shelf.Strings.AsciiSet
import Derived.Shelf.Strings.Explode
import Derived.Shelf.Bits.Mul64
import Derived.Shelf.Unicode.DecodeSlow
import Derived.Shelf.Unicode.DecodeAny
import Derived.Shelf.Unicode.Is16White
import Derived.Shelf.Unicode.IsSpaceAny
import Derived.Shelf.Unicode.DecodeLast
import Derived.Shelf.Strings.TrimSpaceAny
import Derived.Shelf.Unicode.Is16Any
import Derived.Shelf.Unicode.Is32Any
import Derived.Shelf.Unicode.ExclAny
import Derived.Test.YtdhehcobnbcmdaaGreatDoorProg
set_option linter.all false
namespace Go.Proofs
open Go.Shelf
def Tryz.lays165_ren:Go.Shelf.Ren:=⟨fun|165=>100|240=>133|241=>134|276=>165|277=>166|n=>n,fun|70=>131|3=>3|0=>0|4=>4|9=>9|20=>20|72=>134|37=>132|164=>238|5=>5|n=>n,fun|n=>n⟩
theorem Tryz.lays165:Go.Proofs.Lays.n165 Tryz.prog Tryz.lays165_ren:={
  mixed:=by kernel_rfl
  f165:=Tryz.func100.trans (congrArg some (by kernel_rfl))
  f240:=Tryz.func133.trans (congrArg some (by kernel_rfl))
  f241:=Tryz.func134.trans (congrArg some (by kernel_rfl))
  f276:=Tryz.func165.trans (congrArg some (by kernel_rfl))
  f277:=Tryz.func166.trans (congrArg some (by kernel_rfl))
  t0:=Tryz.underlying0
  a0:=Tryz.isAgg0
  z0:=Tryz.sizeOf0
  v0:=Tryz.zeroValue0
  t3:=Tryz.underlying3
  a3:=Tryz.isAgg3
  z3:=Tryz.sizeOf3
  v3:=Tryz.zeroValue3
  t4:=Tryz.underlying4
  a4:=Tryz.isAgg4
  z4:=Tryz.sizeOf4
  v4:=Tryz.zeroValue4
  t9:=Tryz.underlying9
  a9:=Tryz.isAgg9
  z9:=Tryz.sizeOf9
  v9:=Tryz.zeroValue9
  t20:=Tryz.underlying20
  a20:=Tryz.isAgg20
  z20:=Tryz.sizeOf20
  v20:=Tryz.zeroValue20
  t37:=Tryz.underlying132
  a37:=Tryz.isAgg132
  z37:=Tryz.sizeOf132
  v37:=Tryz.zeroValue132
  t70:=Tryz.underlying131
  a70:=Tryz.isAgg131
  z70:=Tryz.sizeOf131
  v70:=Tryz.zeroValue131
  t72:=Tryz.underlying134
  a72:=Tryz.isAgg134
  z72:=Tryz.sizeOf134
  v72:=Tryz.zeroValue134
  t164:=Tryz.underlying238
  a164:=Tryz.isAgg238
  z164:=Tryz.sizeOf238
  v164:=Tryz.zeroValue238 }
theorem Tryz.Builder_Extra_165:Builder.Extra Tryz.prog Tryz.lays165_ren:={
  sizeBuilder:=by kernel_rfl
  liesBuilder:=by kernel_rfl
  t5:=Tryz.underlying5
  a5:=Tryz.isAgg5
  z5:=Tryz.sizeOf5
  v5:=Tryz.zeroValue5
  infoByte:=by kernel_rfl
  cellsByte:=by kernel_rfl
  sizeByte:=by kernel_rfl
  neB5:=by decide }
open Go.RowKit in
theorem Tryz.Builder_Grow_fresh (B b n:Nat)(w:World)(hB:B≤b)(hbk:w.heap[b]?=some (.cells #[.pointer none, .slice none 0 0] 134 (0,0)))(hBw:B≤w.heap.size)(hn:n≤281474976710656) :
    Calls Tryz.prog 100 #[.pointer (some ⟨b,0,none⟩), .int .i64 n] w fun e w'=>e=.returned (.tuple #[])∧(Lib.BuilderAt 134 5 B b (.pointer (some ⟨b,0,none⟩)) [] w'∧Below B w w'):=Any.Builder_Grow_fresh Tryz.lays165 Tryz.Builder_Extra_165 B b n w hB hbk hBw hn
def Tryz.lays156_ren:Go.Shelf.Ren:=⟨fun|156=>63|165=>100|166=>101|169=>86|240=>133|241=>134|276=>165|277=>166|n=>n,fun|31=>29|9=>9|3=>3|4=>4|0=>0|20=>20|72=>134|76=>159|70=>131|37=>132|75=>158|127=>174|164=>238|5=>5|80=>141|n=>n,fun|n=>n⟩
theorem Tryz.lays156:Go.Proofs.Lays.n156 Tryz.prog Tryz.lays156_ren:={
  mixed:=by kernel_rfl
  f156:=Tryz.func63.trans (congrArg some (by kernel_rfl))
  f165:=Tryz.func100.trans (congrArg some (by kernel_rfl))
  f166:=Tryz.func101.trans (congrArg some (by kernel_rfl))
  f169:=Tryz.func86.trans (congrArg some (by kernel_rfl))
  f240:=Tryz.func133.trans (congrArg some (by kernel_rfl))
  f241:=Tryz.func134.trans (congrArg some (by kernel_rfl))
  f276:=Tryz.func165.trans (congrArg some (by kernel_rfl))
  f277:=Tryz.func166.trans (congrArg some (by kernel_rfl))
  t0:=Tryz.underlying0
  a0:=Tryz.isAgg0
  z0:=Tryz.sizeOf0
  v0:=Tryz.zeroValue0
  t3:=Tryz.underlying3
  a3:=Tryz.isAgg3
  z3:=Tryz.sizeOf3
  v3:=Tryz.zeroValue3
  t4:=Tryz.underlying4
  a4:=Tryz.isAgg4
  z4:=Tryz.sizeOf4
  v4:=Tryz.zeroValue4
  t9:=Tryz.underlying9
  a9:=Tryz.isAgg9
  z9:=Tryz.sizeOf9
  v9:=Tryz.zeroValue9
  t20:=Tryz.underlying20
  a20:=Tryz.isAgg20
  z20:=Tryz.sizeOf20
  v20:=Tryz.zeroValue20
  t31:=Tryz.underlying29
  a31:=Tryz.isAgg29
  z31:=Tryz.sizeOf29
  v31:=Tryz.zeroValue29
  t37:=Tryz.underlying132
  a37:=Tryz.isAgg132
  z37:=Tryz.sizeOf132
  v37:=Tryz.zeroValue132
  t70:=Tryz.underlying131
  a70:=Tryz.isAgg131
  z70:=Tryz.sizeOf131
  v70:=Tryz.zeroValue131
  t72:=Tryz.underlying134
  a72:=Tryz.isAgg134
  z72:=Tryz.sizeOf134
  v72:=Tryz.zeroValue134
  t75:=Tryz.underlying158
  a75:=Tryz.isAgg158
  z75:=Tryz.sizeOf158
  v75:=Tryz.zeroValue158
  t76:=Tryz.underlying159
  a76:=Tryz.isAgg159
  z76:=Tryz.sizeOf159
  v76:=Tryz.zeroValue159
  t127:=Tryz.underlying174
  a127:=Tryz.isAgg174
  z127:=Tryz.sizeOf174
  v127:=Tryz.zeroValue174
  t164:=Tryz.underlying238
  a164:=Tryz.isAgg238
  z164:=Tryz.sizeOf238
  v164:=Tryz.zeroValue238 }
theorem Tryz.Builder_Extra_156:Builder.Extra Tryz.prog Tryz.lays156_ren:={
  sizeBuilder:=by kernel_rfl
  liesBuilder:=by kernel_rfl
  t5:=Tryz.underlying5
  a5:=Tryz.isAgg5
  z5:=Tryz.sizeOf5
  v5:=Tryz.zeroValue5
  infoByte:=by kernel_rfl
  cellsByte:=by kernel_rfl
  sizeByte:=by kernel_rfl
  neB5:=by decide }
open Go.RowKit in
theorem Tryz.strings_Join (bk o c:Nat)(xs:List ByteArray)(sep:ByteArray)(w:World)(hcells:∀ (j:Nat) x,xs[j]?=some x→w.cell? ⟨bk,o+j,none⟩=some (.string x))(hbk:bk<w.heap.size)(hN:xs.length≤140737488355328)(hcap:xs.length≤c)(hlen:(Lib.join (xs.map (·.data.toList)) sep.data.toList).length≤140737488355328) :
    Calls Tryz.prog 63 #[.slice (some ⟨bk,o,none⟩) xs.length c, .string sep] w fun e w'=>e=.returned (.string ⟨(Lib.join (xs.map (·.data.toList)) sep.data.toList).toArray⟩)∧Below w.heap.size w w':=Any.strings_Join Tryz.lays156 Tryz.Builder_Extra_156 bk o c xs sep w hcells hbk hN hcap hlen
def Tryz.lays160_ren:Go.Shelf.Ren:=⟨fun|160=>186|232=>210|231=>209|227=>211|234=>213|233=>212|236=>215|235=>214|228=>229|271=>149|151=>230|197=>120|120=>177|152=>170|260=>150|137=>199|119=>200|224=>180|225=>179|217=>178|266=>204|n=>n,fun|9=>9|4=>4|3=>3|5=>5|117=>283|116=>282|0=>0|124=>286|21=>21|105=>179|46=>221|119=>144|139=>250|138=>249|n=>n,fun|3=>3|4=>4|n=>n⟩
theorem Tryz.lays160:Go.Proofs.Lays.n160 Tryz.prog Tryz.lays160_ren:={
  mixed:=by kernel_rfl
  f119:=Tryz.func200.trans (congrArg some (by kernel_rfl))
  f120:=Tryz.func177.trans (congrArg some (by kernel_rfl))
  f137:=Tryz.func199.trans (congrArg some (by kernel_rfl))
  f151:=Tryz.func230.trans (congrArg some (by kernel_rfl))
  f152:=Tryz.func170.trans (congrArg some (by kernel_rfl))
  f160:=Tryz.func186.trans (congrArg some (by kernel_rfl))
  f197:=Tryz.func120.trans (congrArg some (by kernel_rfl))
  f217:=Tryz.func178.trans (congrArg some (by kernel_rfl))
  f224:=Tryz.func180.trans (congrArg some (by kernel_rfl))
  f225:=Tryz.func179.trans (congrArg some (by kernel_rfl))
  f227:=Tryz.func211.trans (congrArg some (by kernel_rfl))
  f228:=Tryz.func229.trans (congrArg some (by kernel_rfl))
  f231:=Tryz.func209.trans (congrArg some (by kernel_rfl))
  f232:=Tryz.func210.trans (congrArg some (by kernel_rfl))
  f233:=Tryz.func212.trans (congrArg some (by kernel_rfl))
  f234:=Tryz.func213.trans (congrArg some (by kernel_rfl))
  f235:=Tryz.func214.trans (congrArg some (by kernel_rfl))
  f236:=Tryz.func215.trans (congrArg some (by kernel_rfl))
  f260:=Tryz.func150.trans (congrArg some (by kernel_rfl))
  f266:=Tryz.func204.trans (congrArg some (by kernel_rfl))
  f271:=Tryz.func149.trans (congrArg some (by kernel_rfl))
  t0:=Tryz.underlying0
  a0:=Tryz.isAgg0
  z0:=Tryz.sizeOf0
  v0:=Tryz.zeroValue0
  t3:=Tryz.underlying3
  a3:=Tryz.isAgg3
  z3:=Tryz.sizeOf3
  v3:=Tryz.zeroValue3
  t4:=Tryz.underlying4
  a4:=Tryz.isAgg4
  z4:=Tryz.sizeOf4
  v4:=Tryz.zeroValue4
  t5:=Tryz.underlying5
  a5:=Tryz.isAgg5
  z5:=Tryz.sizeOf5
  v5:=Tryz.zeroValue5
  t9:=Tryz.underlying9
  a9:=Tryz.isAgg9
  z9:=Tryz.sizeOf9
  v9:=Tryz.zeroValue9
  t21:=Tryz.underlying21
  a21:=Tryz.isAgg21
  z21:=Tryz.sizeOf21
  v21:=Tryz.zeroValue21
  t46:=Tryz.underlying221
  a46:=Tryz.isAgg221
  z46:=Tryz.sizeOf221
  v46:=Tryz.zeroValue221
  t105:=Tryz.underlying179
  a105:=Tryz.isAgg179
  z105:=Tryz.sizeOf179
  v105:=Tryz.zeroValue179
  t116:=Tryz.underlying282
  a116:=Tryz.isAgg282
  z116:=Tryz.sizeOf282
  t117:=Tryz.underlying283
  a117:=Tryz.isAgg283
  z117:=Tryz.sizeOf283
  v117:=Tryz.zeroValue283
  t119:=Tryz.underlying144
  a119:=Tryz.isAgg144
  z119:=Tryz.sizeOf144
  t124:=Tryz.underlying286
  a124:=Tryz.isAgg286
  z124:=Tryz.sizeOf286
  v124:=Tryz.zeroValue286
  t138:=Tryz.underlying249
  a138:=Tryz.isAgg249
  z138:=Tryz.sizeOf249
  v138:=Tryz.zeroValue249
  t139:=Tryz.underlying250
  a139:=Tryz.isAgg250
  z139:=Tryz.sizeOf250
  v139:=Tryz.zeroValue250
  g3:=by kernel_rfl
  g4:=by kernel_rfl }
def Tryz.lays163_ren:Go.Shelf.Ren:=⟨fun|163=>46|237=>87|199=>88|238=>89|272=>117|261=>118|273=>119|197=>120|315=>146|311=>147|312=>148|271=>149|260=>150|120=>177|n=>n,fun|9=>9|37=>132|3=>3|0=>0|5=>5|4=>4|40=>143|119=>144|21=>21|51=>175|141=>177|105=>179|196=>206|193=>203|198=>209|49=>207|194=>204|201=>212|226=>245|46=>221|227=>246|139=>250|138=>249|n=>n,fun|0=>0|6=>1|3=>3|4=>4|n=>n⟩
theorem Tryz.lays163:Go.Proofs.Lays.n163 Tryz.prog Tryz.lays163_ren:={
  mixed:=by kernel_rfl
  f120:=Tryz.func177.trans (congrArg some (by kernel_rfl))
  f163:=Tryz.func46.trans (congrArg some (by kernel_rfl))
  f197:=Tryz.func120.trans (congrArg some (by kernel_rfl))
  f199:=Tryz.func88.trans (congrArg some (by kernel_rfl))
  f237:=Tryz.func87.trans (congrArg some (by kernel_rfl))
  f238:=Tryz.func89.trans (congrArg some (by kernel_rfl))
  f260:=Tryz.func150.trans (congrArg some (by kernel_rfl))
  f261:=Tryz.func118.trans (congrArg some (by kernel_rfl))
  f271:=Tryz.func149.trans (congrArg some (by kernel_rfl))
  f272:=Tryz.func117.trans (congrArg some (by kernel_rfl))
  f273:=Tryz.func119.trans (congrArg some (by kernel_rfl))
  f311:=Tryz.func147.trans (congrArg some (by kernel_rfl))
  f312:=Tryz.func148.trans (congrArg some (by kernel_rfl))
  f315:=Tryz.func146.trans (congrArg some (by kernel_rfl))
  t0:=Tryz.underlying0
  a0:=Tryz.isAgg0
  z0:=Tryz.sizeOf0
  v0:=Tryz.zeroValue0
  t3:=Tryz.underlying3
  a3:=Tryz.isAgg3
  z3:=Tryz.sizeOf3
  v3:=Tryz.zeroValue3
  t4:=Tryz.underlying4
  a4:=Tryz.isAgg4
  z4:=Tryz.sizeOf4
  v4:=Tryz.zeroValue4
  t5:=Tryz.underlying5
  a5:=Tryz.isAgg5
  z5:=Tryz.sizeOf5
  v5:=Tryz.zeroValue5
  t9:=Tryz.underlying9
  a9:=Tryz.isAgg9
  z9:=Tryz.sizeOf9
  v9:=Tryz.zeroValue9
  t21:=Tryz.underlying21
  a21:=Tryz.isAgg21
  z21:=Tryz.sizeOf21
  v21:=Tryz.zeroValue21
  t37:=Tryz.underlying132
  a37:=Tryz.isAgg132
  z37:=Tryz.sizeOf132
  v37:=Tryz.zeroValue132
  t40:=Tryz.underlying143
  a40:=Tryz.isAgg143
  z40:=Tryz.sizeOf143
  v40:=Tryz.zeroValue143
  t46:=Tryz.underlying221
  a46:=Tryz.isAgg221
  z46:=Tryz.sizeOf221
  v46:=Tryz.zeroValue221
  t49:=Tryz.underlying207
  a49:=Tryz.isAgg207
  z49:=Tryz.sizeOf207
  v49:=Tryz.zeroValue207
  t51:=Tryz.underlying175
  a51:=Tryz.isAgg175
  z51:=Tryz.sizeOf175
  v51:=Tryz.zeroValue175
  t105:=Tryz.underlying179
  a105:=Tryz.isAgg179
  z105:=Tryz.sizeOf179
  v105:=Tryz.zeroValue179
  t119:=Tryz.underlying144
  a119:=Tryz.isAgg144
  z119:=Tryz.sizeOf144
  t138:=Tryz.underlying249
  a138:=Tryz.isAgg249
  z138:=Tryz.sizeOf249
  v138:=Tryz.zeroValue249
  t139:=Tryz.underlying250
  a139:=Tryz.isAgg250
  z139:=Tryz.sizeOf250
  v139:=Tryz.zeroValue250
  t141:=Tryz.underlying177
  a141:=Tryz.isAgg177
  z141:=Tryz.sizeOf177
  v141:=Tryz.zeroValue177
  t193:=Tryz.underlying203
  a193:=Tryz.isAgg203
  z193:=Tryz.sizeOf203
  v193:=Tryz.zeroValue203
  t194:=Tryz.underlying204
  a194:=Tryz.isAgg204
  z194:=Tryz.sizeOf204
  v194:=Tryz.zeroValue204
  t196:=Tryz.underlying206
  a196:=Tryz.isAgg206
  z196:=Tryz.sizeOf206
  v196:=Tryz.zeroValue206
  t198:=Tryz.underlying209
  a198:=Tryz.isAgg209
  z198:=Tryz.sizeOf209
  v198:=Tryz.zeroValue209
  t201:=Tryz.underlying212
  a201:=Tryz.isAgg212
  z201:=Tryz.sizeOf212
  v201:=Tryz.zeroValue212
  t226:=Tryz.underlying245
  a226:=Tryz.isAgg245
  z226:=Tryz.sizeOf245
  v226:=Tryz.zeroValue245
  t227:=Tryz.underlying246
  a227:=Tryz.isAgg246
  z227:=Tryz.sizeOf246
  v227:=Tryz.zeroValue246
  g0:=by kernel_rfl
  g3:=by kernel_rfl
  g4:=by kernel_rfl
  g6:=by kernel_rfl }
theorem Tryz.Space_Extra_163:Space.Extra Tryz.prog Tryz.lays163_ren:={
  gNamed:=by kernel_rfl }
def Tryz.lays119_ren:Go.Shelf.Ren:=⟨fun|119=>200|n=>n,fun|21=>21|4=>4|n=>n,fun|n=>n⟩
theorem Tryz.lays119:Go.Proofs.Lays.n119 Tryz.prog Tryz.lays119_ren:={
  mixed:=by kernel_rfl
  f119:=Tryz.func200.trans (congrArg some (by kernel_rfl))
  t4:=Tryz.underlying4
  a4:=Tryz.isAgg4
  z4:=Tryz.sizeOf4
  v4:=Tryz.zeroValue4
  t21:=Tryz.underlying21
  a21:=Tryz.isAgg21
  z21:=Tryz.sizeOf21
  v21:=Tryz.zeroValue21 }
theorem Tryz.utf8_ValidRune (r:Int)(w:World) :
    Calls Tryz.prog 200 #[.int .i32 r] w fun e w'=>e=.returned (.bool (Lib.validRune r))∧w'=w:=Any.utf8_ValidRune Tryz.lays119 r w
def Tryz.lays137_ren:Go.Shelf.Ren:=⟨fun|137=>199|217=>178|266=>204|n=>n,fun|9=>9|5=>5|3=>3|n=>n,fun|n=>n⟩
theorem Tryz.lays137:Go.Proofs.Lays.n137 Tryz.prog Tryz.lays137_ren:={
  mixed:=by kernel_rfl
  f137:=Tryz.func199.trans (congrArg some (by kernel_rfl))
  f217:=Tryz.func178.trans (congrArg some (by kernel_rfl))
  f266:=Tryz.func204.trans (congrArg some (by kernel_rfl))
  t3:=Tryz.underlying3
  a3:=Tryz.isAgg3
  z3:=Tryz.sizeOf3
  v3:=Tryz.zeroValue3
  t5:=Tryz.underlying5
  a5:=Tryz.isAgg5
  z5:=Tryz.sizeOf5
  v5:=Tryz.zeroValue5
  t9:=Tryz.underlying9
  a9:=Tryz.isAgg9
  z9:=Tryz.sizeOf9
  v9:=Tryz.zeroValue9 }
open Go.RowKit in
theorem Tryz.strings_IndexByte (s:ByteArray)(c:Int)(w:World) :
    Calls Tryz.prog 199 #[.string s, .int .u8 c] w fun e w'=>e=.returned (.int .i64 (Lib.indexByte s.data.toList c.toNat.toUInt8))∧w'=w:=Any.strings_IndexByte Tryz.lays137 s c w
def Tryz.lays210_ren:Go.Shelf.Ren:=⟨fun|210=>254|206=>208|n=>n,fun|9=>9|4=>4|3=>3|n=>n,fun|n=>n⟩
def Tryz.lays103_ren:Go.Shelf.Ren:=⟨fun|103=>250|210=>254|206=>208|n=>n,fun|9=>9|4=>4|24=>324|3=>3|n=>n,fun|n=>n⟩
theorem Tryz.lays103:Go.Proofs.Lays.n103 Tryz.prog Tryz.lays103_ren:={
  mixed:=by kernel_rfl
  f103:=Tryz.func250.trans (congrArg some (by kernel_rfl))
  f206:=Tryz.func208.trans (congrArg some (by kernel_rfl))
  f210:=Tryz.func254.trans (congrArg some (by kernel_rfl))
  t3:=Tryz.underlying3
  a3:=Tryz.isAgg3
  z3:=Tryz.sizeOf3
  v3:=Tryz.zeroValue3
  t4:=Tryz.underlying4
  a4:=Tryz.isAgg4
  z4:=Tryz.sizeOf4
  v4:=Tryz.zeroValue4
  t9:=Tryz.underlying9
  a9:=Tryz.isAgg9
  z9:=Tryz.sizeOf9
  v9:=Tryz.zeroValue9
  t24:=Tryz.underlying324
  a24:=Tryz.isAgg324
  z24:=Tryz.sizeOf324
  v24:=Tryz.zeroValue324 }
open Go.RowKit in
theorem Tryz.strings_CutPrefix (s p:ByteArray)(w:World) :
    Calls Tryz.prog 250 #[.string s, .string p] w fun e w'=>e=.returned (.tuple #[.string ⟨(Lib.trimPrefix s.data.toList p.data.toList).toArray⟩, .bool (Lib.hasPrefix s.data.toList p.data.toList)])∧w'=w:=Any.strings_CutPrefix Tryz.lays103 s p w
def Tryz.lays242_ren:Go.Shelf.Ren:=⟨fun|242=>172|278=>201|n=>n,fun|37=>132|21=>21|51=>175|4=>4|5=>5|46=>221|n=>n,fun|n=>n⟩
theorem Tryz.lays242:Go.Proofs.Lays.n242 Tryz.prog Tryz.lays242_ren:={
  mixed:=by kernel_rfl
  f242:=Tryz.func172.trans (congrArg some (by kernel_rfl))
  f278:=Tryz.func201.trans (congrArg some (by kernel_rfl))
  t4:=Tryz.underlying4
  a4:=Tryz.isAgg4
  z4:=Tryz.sizeOf4
  v4:=Tryz.zeroValue4
  t5:=Tryz.underlying5
  a5:=Tryz.isAgg5
  z5:=Tryz.sizeOf5
  v5:=Tryz.zeroValue5
  t21:=Tryz.underlying21
  a21:=Tryz.isAgg21
  z21:=Tryz.sizeOf21
  v21:=Tryz.zeroValue21
  t37:=Tryz.underlying132
  a37:=Tryz.isAgg132
  z37:=Tryz.sizeOf132
  v37:=Tryz.zeroValue132
  t46:=Tryz.underlying221
  a46:=Tryz.isAgg221
  z46:=Tryz.sizeOf221
  v46:=Tryz.zeroValue221
  t51:=Tryz.underlying175
  a51:=Tryz.isAgg175
  z51:=Tryz.sizeOf175
  v51:=Tryz.zeroValue175 }
open Go.RowKit in
theorem Tryz.utf8_AppendRune_plain (B:Nat)(v:Value)(n:Nat)(xs:List Value)(r:Int)(hr0 : -2147483648≤r)(hr1:r≤2147483647)(w:World)(hown:w.ownsRow B 5 1 v n xs)(hlen:n+4≤140737488355328)(hBw:B≤w.heap.size) :
    Calls Tryz.prog 172 #[v, .int .i32 r] w fun e w'=>∃ v',e=.returned v'∧w'.ownsRow B 5 1 v' (n+(Lib.runeCells r).length) (xs++Lib.runeCells r)∧∃ o,(w.alloc o).grownBy w' v.ownBlock:=Any.utf8_AppendRune_plain Tryz.lays242 (by kernel_rfl) B v n xs r hr0 hr1 w hown hlen hBw
def Tryz.lays172_ren:Go.Shelf.Ren:=⟨fun|172=>257|244=>260|245=>259|247=>267|279=>263|280=>264|281=>265|282=>266|287=>258|316=>268|171=>21|205=>269|321=>261|322=>262|243=>53|246=>92|283=>124|284=>125|285=>126|286=>127|129=>155|317=>154|318=>156|319=>157|320=>158|337=>182|338=>183|n=>n,fun|9=>9|3=>3|75=>158|76=>159|4=>4|5=>5|167=>333|37=>132|0=>0|85=>338|2=>2|168=>335|53=>184|175=>330|46=>221|210=>341|127=>174|145=>345|143=>343|21=>21|171=>183|173=>187|212=>218|51=>175|20=>20|213=>219|232=>275|233=>276|80=>141|n=>n,fun|15=>10|16=>11|17=>2|18=>7|19=>8|n=>n⟩
theorem Tryz.lays172:Go.Proofs.Lays.n172 Tryz.prog Tryz.lays172_ren:={
  mixed:=by kernel_rfl
  f129:=Tryz.func155.trans (congrArg some (by kernel_rfl))
  f171:=Tryz.func21.trans (congrArg some (by kernel_rfl))
  f172:=Tryz.func257.trans (congrArg some (by kernel_rfl))
  f205:=Tryz.func269.trans (congrArg some (by kernel_rfl))
  f243:=Tryz.func53.trans (congrArg some (by kernel_rfl))
  f244:=Tryz.func260.trans (congrArg some (by kernel_rfl))
  f245:=Tryz.func259.trans (congrArg some (by kernel_rfl))
  f246:=Tryz.func92.trans (congrArg some (by kernel_rfl))
  f247:=Tryz.func267.trans (congrArg some (by kernel_rfl))
  f279:=Tryz.func263.trans (congrArg some (by kernel_rfl))
  f280:=Tryz.func264.trans (congrArg some (by kernel_rfl))
  f281:=Tryz.func265.trans (congrArg some (by kernel_rfl))
  f282:=Tryz.func266.trans (congrArg some (by kernel_rfl))
  f283:=Tryz.func124.trans (congrArg some (by kernel_rfl))
  f284:=Tryz.func125.trans (congrArg some (by kernel_rfl))
  f285:=Tryz.func126.trans (congrArg some (by kernel_rfl))
  f286:=Tryz.func127.trans (congrArg some (by kernel_rfl))
  f287:=Tryz.func258.trans (congrArg some (by kernel_rfl))
  f316:=Tryz.func268.trans (congrArg some (by kernel_rfl))
  f317:=Tryz.func154.trans (congrArg some (by kernel_rfl))
  f318:=Tryz.func156.trans (congrArg some (by kernel_rfl))
  f319:=Tryz.func157.trans (congrArg some (by kernel_rfl))
  f320:=Tryz.func158.trans (congrArg some (by kernel_rfl))
  f321:=Tryz.func261.trans (congrArg some (by kernel_rfl))
  f322:=Tryz.func262.trans (congrArg some (by kernel_rfl))
  f337:=Tryz.func182.trans (congrArg some (by kernel_rfl))
  f338:=Tryz.func183.trans (congrArg some (by kernel_rfl))
  t0:=Tryz.underlying0
  a0:=Tryz.isAgg0
  z0:=Tryz.sizeOf0
  v0:=Tryz.zeroValue0
  t2:=Tryz.underlying2
  a2:=Tryz.isAgg2
  z2:=Tryz.sizeOf2
  v2:=Tryz.zeroValue2
  t3:=Tryz.underlying3
  a3:=Tryz.isAgg3
  z3:=Tryz.sizeOf3
  v3:=Tryz.zeroValue3
  t4:=Tryz.underlying4
  a4:=Tryz.isAgg4
  z4:=Tryz.sizeOf4
  v4:=Tryz.zeroValue4
  t5:=Tryz.underlying5
  a5:=Tryz.isAgg5
  z5:=Tryz.sizeOf5
  v5:=Tryz.zeroValue5
  t9:=Tryz.underlying9
  a9:=Tryz.isAgg9
  z9:=Tryz.sizeOf9
  v9:=Tryz.zeroValue9
  t20:=Tryz.underlying20
  a20:=Tryz.isAgg20
  z20:=Tryz.sizeOf20
  v20:=Tryz.zeroValue20
  t21:=Tryz.underlying21
  a21:=Tryz.isAgg21
  z21:=Tryz.sizeOf21
  v21:=Tryz.zeroValue21
  t37:=Tryz.underlying132
  a37:=Tryz.isAgg132
  z37:=Tryz.sizeOf132
  v37:=Tryz.zeroValue132
  t46:=Tryz.underlying221
  a46:=Tryz.isAgg221
  z46:=Tryz.sizeOf221
  v46:=Tryz.zeroValue221
  t51:=Tryz.underlying175
  a51:=Tryz.isAgg175
  z51:=Tryz.sizeOf175
  v51:=Tryz.zeroValue175
  t53:=Tryz.underlying184
  a53:=Tryz.isAgg184
  z53:=Tryz.sizeOf184
  v53:=Tryz.zeroValue184
  t75:=Tryz.underlying158
  a75:=Tryz.isAgg158
  z75:=Tryz.sizeOf158
  v75:=Tryz.zeroValue158
  t76:=Tryz.underlying159
  a76:=Tryz.isAgg159
  z76:=Tryz.sizeOf159
  v76:=Tryz.zeroValue159
  t85:=Tryz.underlying338
  a85:=Tryz.isAgg338
  z85:=Tryz.sizeOf338
  v85:=Tryz.zeroValue338
  t127:=Tryz.underlying174
  a127:=Tryz.isAgg174
  z127:=Tryz.sizeOf174
  v127:=Tryz.zeroValue174
  t143:=Tryz.underlying343
  a143:=Tryz.isAgg343
  z143:=Tryz.sizeOf343
  v143:=Tryz.zeroValue343
  t145:=Tryz.underlying345
  a145:=Tryz.isAgg345
  z145:=Tryz.sizeOf345
  v145:=Tryz.zeroValue345
  t167:=Tryz.underlying333
  a167:=Tryz.isAgg333
  z167:=Tryz.sizeOf333
  v167:=Tryz.zeroValue333
  t168:=Tryz.underlying335
  a168:=Tryz.isAgg335
  z168:=Tryz.sizeOf335
  v168:=Tryz.zeroValue335
  t171:=Tryz.underlying183
  a171:=Tryz.isAgg183
  z171:=Tryz.sizeOf183
  v171:=Tryz.zeroValue183
  t173:=Tryz.underlying187
  a173:=Tryz.isAgg187
  z173:=Tryz.sizeOf187
  v173:=Tryz.zeroValue187
  t175:=Tryz.underlying330
  a175:=Tryz.isAgg330
  z175:=Tryz.sizeOf330
  v175:=Tryz.zeroValue330
  t210:=Tryz.underlying341
  a210:=Tryz.isAgg341
  z210:=Tryz.sizeOf341
  v210:=Tryz.zeroValue341
  t212:=Tryz.underlying218
  a212:=Tryz.isAgg218
  z212:=Tryz.sizeOf218
  v212:=Tryz.zeroValue218
  t213:=Tryz.underlying219
  a213:=Tryz.isAgg219
  z213:=Tryz.sizeOf219
  t232:=Tryz.underlying275
  a232:=Tryz.isAgg275
  z232:=Tryz.sizeOf275
  v232:=Tryz.zeroValue275
  t233:=Tryz.underlying276
  a233:=Tryz.isAgg276
  z233:=Tryz.sizeOf276
  v233:=Tryz.zeroValue276
  g15:=by kernel_rfl
  g16:=by kernel_rfl
  g17:=by kernel_rfl
  g18:=by kernel_rfl
  g19:=by kernel_rfl }
open Go.RowKit in
theorem Tryz.strconv_Atoi (s:ByteArray)(n:Int)(hl:s.size≤18)(h:Lib.atoi s.data.toList=some n)(w:World) :
    Calls Tryz.prog 257 #[.string s] w fun e w'=>e=.returned (.tuple #[.int .i64 n, .nilIface])∧∃ t,w'=Lib.bytesWorld w 5 t:=Any.strconv_Atoi Tryz.lays172 s n hl h w
def Tryz.laysM246_ren:Go.Shelf.Ren:=⟨fun|246=>92|283=>124|284=>125|285=>126|286=>127|129=>155|317=>154|318=>156|319=>157|320=>158|337=>182|338=>183|n=>n,fun|2=>2|3=>3|9=>9|4=>4|171=>183|0=>0|53=>184|37=>132|5=>5|173=>187|212=>218|51=>175|20=>20|213=>219|46=>221|232=>275|233=>276|n=>n,fun|17=>2|18=>7|19=>8|n=>n⟩
def Tryz.laysM243_ren:Go.Shelf.Ren:=⟨fun|243=>53|246=>92|283=>124|284=>125|285=>126|286=>127|129=>155|317=>154|318=>156|319=>157|320=>158|337=>182|338=>183|n=>n,fun|3=>3|9=>9|2=>2|4=>4|171=>183|0=>0|53=>184|37=>132|5=>5|173=>187|212=>218|51=>175|20=>20|213=>219|46=>221|232=>275|233=>276|n=>n,fun|17=>2|18=>7|19=>8|n=>n⟩
def Tryz.laysM171_ren:Go.Shelf.Ren:=⟨fun|171=>21|243=>53|246=>92|283=>124|284=>125|285=>126|286=>127|129=>155|317=>154|318=>156|319=>157|320=>158|337=>182|338=>183|n=>n,fun|3=>3|9=>9|2=>2|4=>4|171=>183|0=>0|53=>184|37=>132|5=>5|173=>187|212=>218|51=>175|20=>20|213=>219|46=>221|232=>275|233=>276|n=>n,fun|17=>2|18=>7|19=>8|n=>n⟩
theorem Tryz.laysM171:Go.Proofs.LaysM.n171 Tryz.prog Tryz.laysM171_ren:={
  mixed:=by kernel_rfl
  f129:=Tryz.func155.trans (congrArg some (by kernel_rfl))
  f171:=Tryz.func21.trans (congrArg some (by kernel_rfl))
  f243:=Tryz.func53.trans (congrArg some (by kernel_rfl))
  f246:=Tryz.func92.trans (congrArg some (by kernel_rfl))
  f283:=Tryz.func124.trans (congrArg some (by kernel_rfl))
  f284:=Tryz.func125.trans (congrArg some (by kernel_rfl))
  f285:=Tryz.func126.trans (congrArg some (by kernel_rfl))
  f286:=Tryz.func127.trans (congrArg some (by kernel_rfl))
  f317:=Tryz.func154.trans (congrArg some (by kernel_rfl))
  f318:=Tryz.func156.trans (congrArg some (by kernel_rfl))
  f319:=Tryz.func157.trans (congrArg some (by kernel_rfl))
  f320:=Tryz.func158.trans (congrArg some (by kernel_rfl))
  f337:=Tryz.func182.trans (congrArg some (by kernel_rfl))
  f338:=Tryz.func183.trans (congrArg some (by kernel_rfl))
  t0:=Tryz.underlying0
  a0:=Tryz.isAgg0
  z0:=Tryz.sizeOf0
  v0:=Tryz.zeroValue0
  t2:=Tryz.underlying2
  a2:=Tryz.isAgg2
  z2:=Tryz.sizeOf2
  v2:=Tryz.zeroValue2
  t3:=Tryz.underlying3
  a3:=Tryz.isAgg3
  z3:=Tryz.sizeOf3
  v3:=Tryz.zeroValue3
  t4:=Tryz.underlying4
  a4:=Tryz.isAgg4
  z4:=Tryz.sizeOf4
  v4:=Tryz.zeroValue4
  t5:=Tryz.underlying5
  a5:=Tryz.isAgg5
  z5:=Tryz.sizeOf5
  v5:=Tryz.zeroValue5
  t9:=Tryz.underlying9
  a9:=Tryz.isAgg9
  z9:=Tryz.sizeOf9
  v9:=Tryz.zeroValue9
  t20:=Tryz.underlying20
  a20:=Tryz.isAgg20
  z20:=Tryz.sizeOf20
  v20:=Tryz.zeroValue20
  t37:=Tryz.underlying132
  a37:=Tryz.isAgg132
  z37:=Tryz.sizeOf132
  v37:=Tryz.zeroValue132
  t46:=Tryz.underlying221
  a46:=Tryz.isAgg221
  z46:=Tryz.sizeOf221
  v46:=Tryz.zeroValue221
  t51:=Tryz.underlying175
  a51:=Tryz.isAgg175
  z51:=Tryz.sizeOf175
  v51:=Tryz.zeroValue175
  t53:=Tryz.underlying184
  a53:=Tryz.isAgg184
  z53:=Tryz.sizeOf184
  v53:=Tryz.zeroValue184
  t171:=Tryz.underlying183
  a171:=Tryz.isAgg183
  z171:=Tryz.sizeOf183
  v171:=Tryz.zeroValue183
  t173:=Tryz.underlying187
  a173:=Tryz.isAgg187
  z173:=Tryz.sizeOf187
  v173:=Tryz.zeroValue187
  t212:=Tryz.underlying218
  a212:=Tryz.isAgg218
  z212:=Tryz.sizeOf218
  v212:=Tryz.zeroValue218
  t213:=Tryz.underlying219
  a213:=Tryz.isAgg219
  z213:=Tryz.sizeOf219
  t232:=Tryz.underlying275
  a232:=Tryz.isAgg275
  z232:=Tryz.sizeOf275
  v232:=Tryz.zeroValue275
  t233:=Tryz.underlying276
  a233:=Tryz.isAgg276
  z233:=Tryz.sizeOf276
  v233:=Tryz.zeroValue276
  g17:=by kernel_rfl
  g18:=by kernel_rfl
  g19:=by kernel_rfl
  i0:=by kernel_rfl
  i2:=by kernel_rfl
  i3:=by kernel_rfl
  i4:=by kernel_rfl
  i5:=by kernel_rfl
  i9:=by kernel_rfl
  i20:=by kernel_rfl
  i37:=by kernel_rfl
  i46:=by kernel_rfl
  i51:=by kernel_rfl
  i53:=by kernel_rfl
  i171:=by kernel_rfl
  i173:=by kernel_rfl
  i212:=by kernel_rfl
  i232:=by kernel_rfl
  i233:=by kernel_rfl
  m17:=by kernel_rfl
  m18:=by kernel_rfl
  m19:=by kernel_rfl }
open Go.RowKit Go.Sort Go.Lib in
theorem Tryz.strconv_Itoa (n : Int) (h0 : -9223372036854775808 ≤ n) (h1 : n ≤ 9223372036854775807) (w : World) (htab : Lib.TabIs Tryz.prog w "internal/strconv.uint64pow10" .u64 Lib.pow10Tab) :
    Calls Tryz.prog 21 #[.int .i64 n] w fun e w'=>e=.returned (.string ⟨(Lib.itoa n).toArray⟩)∧∃ k os,w'=grow (w.drewN k) os:=Any.strconv_Itoa Tryz.laysM171 n h0 h1 w htab
def Tryz.laysC245_ren:Go.Shelf.Ren:=⟨fun|245=>259|279=>263|280=>264|281=>265|282=>266|316=>268|171=>21|205=>269|243=>53|246=>92|283=>124|284=>125|285=>126|286=>127|129=>155|317=>154|318=>156|319=>157|320=>158|337=>182|338=>183|n=>n,fun|9=>9|3=>3|75=>158|167=>333|4=>4|168=>335|210=>341|37=>132|0=>0|127=>174|145=>345|143=>343|2=>2|171=>183|53=>184|5=>5|173=>187|212=>218|51=>175|20=>20|213=>219|46=>221|232=>275|233=>276|80=>141|n=>n,fun|15=>10|16=>11|17=>2|18=>7|19=>8|n=>n⟩
theorem Tryz.laysC245:Go.Proofs.LaysC.n245 Tryz.prog Tryz.laysC245_ren:={
  mixed:=by kernel_rfl
  f129:=Tryz.func155.trans (congrArg some (by kernel_rfl))
  f171:=Tryz.func21.trans (congrArg some (by kernel_rfl))
  f205:=Tryz.func269.trans (congrArg some (by kernel_rfl))
  f243:=Tryz.func53.trans (congrArg some (by kernel_rfl))
  f245:=Tryz.func259.trans (congrArg some (by kernel_rfl))
  f246:=Tryz.func92.trans (congrArg some (by kernel_rfl))
  f279:=Tryz.func263.trans (congrArg some (by kernel_rfl))
  f280:=Tryz.func264.trans (congrArg some (by kernel_rfl))
  f281:=Tryz.func265.trans (congrArg some (by kernel_rfl))
  f282:=Tryz.func266.trans (congrArg some (by kernel_rfl))
  f283:=Tryz.func124.trans (congrArg some (by kernel_rfl))
  f284:=Tryz.func125.trans (congrArg some (by kernel_rfl))
  f285:=Tryz.func126.trans (congrArg some (by kernel_rfl))
  f286:=Tryz.func127.trans (congrArg some (by kernel_rfl))
  f316:=Tryz.func268.trans (congrArg some (by kernel_rfl))
  f317:=Tryz.func154.trans (congrArg some (by kernel_rfl))
  f318:=Tryz.func156.trans (congrArg some (by kernel_rfl))
  f319:=Tryz.func157.trans (congrArg some (by kernel_rfl))
  f320:=Tryz.func158.trans (congrArg some (by kernel_rfl))
  f337:=Tryz.func182.trans (congrArg some (by kernel_rfl))
  f338:=Tryz.func183.trans (congrArg some (by kernel_rfl))
  t0:=Tryz.underlying0
  a0:=Tryz.isAgg0
  z0:=Tryz.sizeOf0
  v0:=Tryz.zeroValue0
  t2:=Tryz.underlying2
  a2:=Tryz.isAgg2
  z2:=Tryz.sizeOf2
  v2:=Tryz.zeroValue2
  t3:=Tryz.underlying3
  a3:=Tryz.isAgg3
  z3:=Tryz.sizeOf3
  v3:=Tryz.zeroValue3
  t4:=Tryz.underlying4
  a4:=Tryz.isAgg4
  z4:=Tryz.sizeOf4
  v4:=Tryz.zeroValue4
  t5:=Tryz.underlying5
  a5:=Tryz.isAgg5
  z5:=Tryz.sizeOf5
  v5:=Tryz.zeroValue5
  t9:=Tryz.underlying9
  a9:=Tryz.isAgg9
  z9:=Tryz.sizeOf9
  v9:=Tryz.zeroValue9
  t20:=Tryz.underlying20
  a20:=Tryz.isAgg20
  z20:=Tryz.sizeOf20
  v20:=Tryz.zeroValue20
  t37:=Tryz.underlying132
  a37:=Tryz.isAgg132
  z37:=Tryz.sizeOf132
  v37:=Tryz.zeroValue132
  t46:=Tryz.underlying221
  a46:=Tryz.isAgg221
  z46:=Tryz.sizeOf221
  v46:=Tryz.zeroValue221
  t51:=Tryz.underlying175
  a51:=Tryz.isAgg175
  z51:=Tryz.sizeOf175
  v51:=Tryz.zeroValue175
  t53:=Tryz.underlying184
  a53:=Tryz.isAgg184
  z53:=Tryz.sizeOf184
  v53:=Tryz.zeroValue184
  t75:=Tryz.underlying158
  a75:=Tryz.isAgg158
  z75:=Tryz.sizeOf158
  v75:=Tryz.zeroValue158
  t127:=Tryz.underlying174
  a127:=Tryz.isAgg174
  z127:=Tryz.sizeOf174
  v127:=Tryz.zeroValue174
  t143:=Tryz.underlying343
  a143:=Tryz.isAgg343
  z143:=Tryz.sizeOf343
  v143:=Tryz.zeroValue343
  t145:=Tryz.underlying345
  a145:=Tryz.isAgg345
  z145:=Tryz.sizeOf345
  v145:=Tryz.zeroValue345
  t167:=Tryz.underlying333
  a167:=Tryz.isAgg333
  z167:=Tryz.sizeOf333
  v167:=Tryz.zeroValue333
  t168:=Tryz.underlying335
  a168:=Tryz.isAgg335
  z168:=Tryz.sizeOf335
  v168:=Tryz.zeroValue335
  t171:=Tryz.underlying183
  a171:=Tryz.isAgg183
  z171:=Tryz.sizeOf183
  v171:=Tryz.zeroValue183
  t173:=Tryz.underlying187
  a173:=Tryz.isAgg187
  z173:=Tryz.sizeOf187
  v173:=Tryz.zeroValue187
  t210:=Tryz.underlying341
  a210:=Tryz.isAgg341
  z210:=Tryz.sizeOf341
  v210:=Tryz.zeroValue341
  t212:=Tryz.underlying218
  a212:=Tryz.isAgg218
  z212:=Tryz.sizeOf218
  v212:=Tryz.zeroValue218
  t213:=Tryz.underlying219
  a213:=Tryz.isAgg219
  z213:=Tryz.sizeOf219
  t232:=Tryz.underlying275
  a232:=Tryz.isAgg275
  z232:=Tryz.sizeOf275
  v232:=Tryz.zeroValue275
  t233:=Tryz.underlying276
  a233:=Tryz.isAgg276
  z233:=Tryz.sizeOf276
  v233:=Tryz.zeroValue276
  g15:=by kernel_rfl
  g16:=by kernel_rfl
  g17:=by kernel_rfl
  g18:=by kernel_rfl
  g19:=by kernel_rfl
  t80:=Tryz.underlying141
  a80:=Tryz.isAgg141
  z80:=Tryz.sizeOf141
  v80:=Tryz.zeroValue141
  i0:=by kernel_rfl
  i2:=by kernel_rfl
  i3:=by kernel_rfl
  i4:=by kernel_rfl
  i5:=by kernel_rfl
  i9:=by kernel_rfl
  i20:=by kernel_rfl
  i37:=by kernel_rfl
  i46:=by kernel_rfl
  i51:=by kernel_rfl
  i53:=by kernel_rfl
  i75:=by kernel_rfl
  i80:=by kernel_rfl
  i127:=by kernel_rfl
  i143:=by kernel_rfl
  i145:=by kernel_rfl
  i167:=by kernel_rfl
  i168:=by kernel_rfl
  i171:=by kernel_rfl
  i173:=by kernel_rfl
  i210:=by kernel_rfl
  i212:=by kernel_rfl
  i232:=by kernel_rfl
  i233:=by kernel_rfl
  m15:=by kernel_rfl
  m16:=by kernel_rfl
  m17:=by kernel_rfl
  m18:=by kernel_rfl
  m19:=by kernel_rfl
  c0:=by kernel_rfl
  c2:=by kernel_rfl
  c3:=by kernel_rfl
  c4:=by kernel_rfl
  c5:=by kernel_rfl
  c9:=by kernel_rfl
  c20:=by kernel_rfl
  c37:=by kernel_rfl
  c46:=by kernel_rfl
  c51:=by kernel_rfl
  c53:=by kernel_rfl
  c75:=by kernel_rfl
  c80:=by kernel_rfl
  c127:=by kernel_rfl
  c143:=by kernel_rfl
  c145:=by kernel_rfl
  c167:=by kernel_rfl
  c168:=by kernel_rfl
  c171:=by kernel_rfl
  c173:=by kernel_rfl
  c210:=by kernel_rfl
  c212:=by kernel_rfl
  c213:=by kernel_rfl
  c232:=by kernel_rfl
  c233:=by kernel_rfl }
open Go.RowKit in
theorem Tryz.strconv_toError_syntax (fn s:ByteArray)(base bits:Int)(ev:Value)(w:World)(hlim:s.size≤281474976710656)(hv:w.cell? ⟨10,0,none⟩=some ev)(hev:ev=.nilIface∨∃ te pe,ev=.iface te pe) :
    Calls Tryz.prog 259 #[.string fn, .string s, .int .i64 base, .int .i64 bits, .iface 333 (.int .i64 2)] w fun e w'=>∃ N,e=.returned (.iface 335 (.pointer (some ⟨N,0,none⟩)))∧w.heap.size≤N∧w'.heap[N]?=some (.cells #[.string fn, .string s,ev] 341 (0,0))∧Below w.heap.size w w':=Any.strconv_toError_syntax Tryz.laysC245 fn s base bits ev w hlim hv hev
def Tryz.lays321_ren:Go.Shelf.Ren:=⟨fun|321=>261|n=>n,fun|5=>5|n=>n,fun|n=>n⟩
theorem Tryz.lays321:Go.Proofs.Lays.n321 Tryz.prog Tryz.lays321_ren:={
  mixed:=by kernel_rfl
  f321:=Tryz.func261.trans (congrArg some (by kernel_rfl))
  t5:=Tryz.underlying5
  a5:=Tryz.isAgg5
  z5:=Tryz.sizeOf5
  v5:=Tryz.zeroValue5 }
open Go.RowKit in
theorem Tryz.internal_strconv_lower (c:Int)(w:World) :
    Calls Tryz.prog 261 #[.int .u8 c] w fun e w'=>e=.returned (.int .u8 (bits .or .u8 c 32))∧w'=w:=Any.internal_strconv_lower Tryz.lays321 c w
def Tryz.lays219_ren:Go.Shelf.Ren:=⟨fun|219=>153|217=>178|225=>179|224=>180|267=>181|266=>204|314=>205|n=>n,fun|9=>9|3=>3|4=>4|5=>5|46=>221|146=>273|51=>175|n=>n,fun|1=>5|n=>n⟩
def Tryz.lays144_ren:Go.Shelf.Ren:=⟨fun|144=>248|143=>123|219=>153|217=>178|225=>179|224=>180|267=>181|266=>204|314=>205|n=>n,fun|9=>9|4=>4|3=>3|5=>5|46=>221|146=>273|51=>175|n=>n,fun|1=>5|n=>n⟩
theorem Tryz.lays144:Go.Proofs.Lays.n144 Tryz.prog Tryz.lays144_ren:={
  mixed:=by kernel_rfl
  f143:=Tryz.func123.trans (congrArg some (by kernel_rfl))
  f144:=Tryz.func248.trans (congrArg some (by kernel_rfl))
  f217:=Tryz.func178.trans (congrArg some (by kernel_rfl))
  f219:=Tryz.func153.trans (congrArg some (by kernel_rfl))
  f224:=Tryz.func180.trans (congrArg some (by kernel_rfl))
  f225:=Tryz.func179.trans (congrArg some (by kernel_rfl))
  f266:=Tryz.func204.trans (congrArg some (by kernel_rfl))
  f267:=Tryz.func181.trans (congrArg some (by kernel_rfl))
  f314:=Tryz.func205.trans (congrArg some (by kernel_rfl))
  t3:=Tryz.underlying3
  a3:=Tryz.isAgg3
  z3:=Tryz.sizeOf3
  v3:=Tryz.zeroValue3
  t4:=Tryz.underlying4
  a4:=Tryz.isAgg4
  z4:=Tryz.sizeOf4
  v4:=Tryz.zeroValue4
  t5:=Tryz.underlying5
  a5:=Tryz.isAgg5
  z5:=Tryz.sizeOf5
  v5:=Tryz.zeroValue5
  t9:=Tryz.underlying9
  a9:=Tryz.isAgg9
  z9:=Tryz.sizeOf9
  v9:=Tryz.zeroValue9
  t46:=Tryz.underlying221
  a46:=Tryz.isAgg221
  z46:=Tryz.sizeOf221
  v46:=Tryz.zeroValue221
  t51:=Tryz.underlying175
  a51:=Tryz.isAgg175
  z51:=Tryz.sizeOf175
  v51:=Tryz.zeroValue175
  t146:=Tryz.underlying273
  a146:=Tryz.isAgg273
  z146:=Tryz.sizeOf273
  v146:=Tryz.zeroValue273
  g1:=by kernel_rfl }
open Go.RowKit Go.Lib in
theorem Tryz.strings_Contains_one (s:ByteArray)(c:UInt8)(w:World) :
    Calls Tryz.prog 248 #[.string s, .string ⟨#[c]⟩] w fun e w'=>e=.returned (.bool (decide (0≤Lib.indexByte s.data.toList c)))∧w'=w:=Any.strings_Contains_one Tryz.lays144 s c w
def Tryz.lays145_ren:Go.Shelf.Ren:=⟨fun|145=>141|220=>173|219=>153|217=>178|225=>179|224=>180|267=>181|266=>204|314=>205|n=>n,fun|9=>9|4=>4|59=>198|3=>3|5=>5|46=>221|146=>273|51=>175|n=>n,fun|1=>5|n=>n⟩
theorem Tryz.lays145:Go.Proofs.Lays.n145 Tryz.prog Tryz.lays145_ren:={
  mixed:=by kernel_rfl
  f145:=Tryz.func141.trans (congrArg some (by kernel_rfl))
  f217:=Tryz.func178.trans (congrArg some (by kernel_rfl))
  f219:=Tryz.func153.trans (congrArg some (by kernel_rfl))
  f220:=Tryz.func173.trans (congrArg some (by kernel_rfl))
  f224:=Tryz.func180.trans (congrArg some (by kernel_rfl))
  f225:=Tryz.func179.trans (congrArg some (by kernel_rfl))
  f266:=Tryz.func204.trans (congrArg some (by kernel_rfl))
  f267:=Tryz.func181.trans (congrArg some (by kernel_rfl))
  f314:=Tryz.func205.trans (congrArg some (by kernel_rfl))
  t3:=Tryz.underlying3
  a3:=Tryz.isAgg3
  z3:=Tryz.sizeOf3
  v3:=Tryz.zeroValue3
  t4:=Tryz.underlying4
  a4:=Tryz.isAgg4
  z4:=Tryz.sizeOf4
  v4:=Tryz.zeroValue4
  t5:=Tryz.underlying5
  a5:=Tryz.isAgg5
  z5:=Tryz.sizeOf5
  v5:=Tryz.zeroValue5
  t9:=Tryz.underlying9
  a9:=Tryz.isAgg9
  z9:=Tryz.sizeOf9
  v9:=Tryz.zeroValue9
  t46:=Tryz.underlying221
  a46:=Tryz.isAgg221
  z46:=Tryz.sizeOf221
  v46:=Tryz.zeroValue221
  t51:=Tryz.underlying175
  a51:=Tryz.isAgg175
  z51:=Tryz.sizeOf175
  v51:=Tryz.zeroValue175
  t59:=Tryz.underlying198
  a59:=Tryz.isAgg198
  z59:=Tryz.sizeOf198
  v59:=Tryz.zeroValue198
  t146:=Tryz.underlying273
  a146:=Tryz.isAgg273
  z146:=Tryz.sizeOf273
  v146:=Tryz.zeroValue273
  g1:=by kernel_rfl }
open Go.RowKit Go.Lib in
theorem Tryz.strings_Cut (s sep:ByteArray)(m:Int)(w:World)(hs:s.size<4294967281)(hm:w.cell? ⟨5,0,none⟩=some (.int .i64 m)) :
    Calls Tryz.prog 141 #[.string s, .string sep] w fun e w'=>e=.returned (.tuple #[.string ⟨(Lib.cut s.data.toList sep.data.toList).1.toArray⟩, .string ⟨(Lib.cut s.data.toList sep.data.toList).2.1.toArray⟩, .bool (Lib.cut s.data.toList sep.data.toList).2.2])∧∃ n,w'=w.drewN n:=Any.strings_Cut Tryz.lays145 s sep m w hs hm
def Tryz.laysM249_ren:Go.Shelf.Ren:=⟨fun|249=>174|288=>202|283=>124|284=>125|285=>126|286=>127|129=>155|317=>154|318=>156|319=>157|320=>158|337=>182|338=>183|n=>n,fun|37=>132|2=>2|3=>3|53=>184|4=>4|9=>9|171=>183|0=>0|173=>187|212=>218|51=>175|5=>5|20=>20|213=>219|46=>221|232=>275|233=>276|n=>n,fun|17=>2|18=>7|19=>8|n=>n⟩
def Tryz.laysM176_ren:Go.Shelf.Ren:=⟨fun|176=>142|249=>174|288=>202|283=>124|284=>125|285=>126|286=>127|129=>155|317=>154|318=>156|319=>157|320=>158|337=>182|338=>183|n=>n,fun|37=>132|2=>2|3=>3|53=>184|4=>4|9=>9|171=>183|0=>0|173=>187|212=>218|51=>175|5=>5|20=>20|213=>219|46=>221|232=>275|233=>276|n=>n,fun|17=>2|18=>7|19=>8|n=>n⟩
theorem Tryz.laysM176:Go.Proofs.LaysM.n176 Tryz.prog Tryz.laysM176_ren:={
  mixed:=by kernel_rfl
  f129:=Tryz.func155.trans (congrArg some (by kernel_rfl))
  f176:=Tryz.func142.trans (congrArg some (by kernel_rfl))
  f249:=Tryz.func174.trans (congrArg some (by kernel_rfl))
  f283:=Tryz.func124.trans (congrArg some (by kernel_rfl))
  f284:=Tryz.func125.trans (congrArg some (by kernel_rfl))
  f285:=Tryz.func126.trans (congrArg some (by kernel_rfl))
  f286:=Tryz.func127.trans (congrArg some (by kernel_rfl))
  f288:=Tryz.func202.trans (congrArg some (by kernel_rfl))
  f317:=Tryz.func154.trans (congrArg some (by kernel_rfl))
  f318:=Tryz.func156.trans (congrArg some (by kernel_rfl))
  f319:=Tryz.func157.trans (congrArg some (by kernel_rfl))
  f320:=Tryz.func158.trans (congrArg some (by kernel_rfl))
  f337:=Tryz.func182.trans (congrArg some (by kernel_rfl))
  f338:=Tryz.func183.trans (congrArg some (by kernel_rfl))
  t0:=Tryz.underlying0
  a0:=Tryz.isAgg0
  z0:=Tryz.sizeOf0
  v0:=Tryz.zeroValue0
  t2:=Tryz.underlying2
  a2:=Tryz.isAgg2
  z2:=Tryz.sizeOf2
  v2:=Tryz.zeroValue2
  t3:=Tryz.underlying3
  a3:=Tryz.isAgg3
  z3:=Tryz.sizeOf3
  v3:=Tryz.zeroValue3
  t4:=Tryz.underlying4
  a4:=Tryz.isAgg4
  z4:=Tryz.sizeOf4
  v4:=Tryz.zeroValue4
  t5:=Tryz.underlying5
  a5:=Tryz.isAgg5
  z5:=Tryz.sizeOf5
  v5:=Tryz.zeroValue5
  t9:=Tryz.underlying9
  a9:=Tryz.isAgg9
  z9:=Tryz.sizeOf9
  v9:=Tryz.zeroValue9
  t20:=Tryz.underlying20
  a20:=Tryz.isAgg20
  z20:=Tryz.sizeOf20
  v20:=Tryz.zeroValue20
  t37:=Tryz.underlying132
  a37:=Tryz.isAgg132
  z37:=Tryz.sizeOf132
  v37:=Tryz.zeroValue132
  t46:=Tryz.underlying221
  a46:=Tryz.isAgg221
  z46:=Tryz.sizeOf221
  v46:=Tryz.zeroValue221
  t51:=Tryz.underlying175
  a51:=Tryz.isAgg175
  z51:=Tryz.sizeOf175
  v51:=Tryz.zeroValue175
  t53:=Tryz.underlying184
  a53:=Tryz.isAgg184
  z53:=Tryz.sizeOf184
  v53:=Tryz.zeroValue184
  t171:=Tryz.underlying183
  a171:=Tryz.isAgg183
  z171:=Tryz.sizeOf183
  v171:=Tryz.zeroValue183
  t173:=Tryz.underlying187
  a173:=Tryz.isAgg187
  z173:=Tryz.sizeOf187
  v173:=Tryz.zeroValue187
  t212:=Tryz.underlying218
  a212:=Tryz.isAgg218
  z212:=Tryz.sizeOf218
  v212:=Tryz.zeroValue218
  t213:=Tryz.underlying219
  a213:=Tryz.isAgg219
  z213:=Tryz.sizeOf219
  t232:=Tryz.underlying275
  a232:=Tryz.isAgg275
  z232:=Tryz.sizeOf275
  v232:=Tryz.zeroValue275
  t233:=Tryz.underlying276
  a233:=Tryz.isAgg276
  z233:=Tryz.sizeOf276
  v233:=Tryz.zeroValue276
  g17:=by kernel_rfl
  g18:=by kernel_rfl
  g19:=by kernel_rfl
  i0:=by kernel_rfl
  i2:=by kernel_rfl
  i3:=by kernel_rfl
  i4:=by kernel_rfl
  i5:=by kernel_rfl
  i9:=by kernel_rfl
  i20:=by kernel_rfl
  i37:=by kernel_rfl
  i46:=by kernel_rfl
  i51:=by kernel_rfl
  i53:=by kernel_rfl
  i171:=by kernel_rfl
  i173:=by kernel_rfl
  i212:=by kernel_rfl
  i232:=by kernel_rfl
  i233:=by kernel_rfl
  m17:=by kernel_rfl
  m18:=by kernel_rfl
  m19:=by kernel_rfl }
open Go.RowKit Go.Sort Go.Lib in
theorem Tryz.strconv_AppendInt_10 (B n : Nat) (i : Int) (h0 : -9223372036854775808 ≤ i) (h1 : i ≤ 9223372036854775807) (sv : Value) (xs : List Value) (w : World) (hown : w.ownsRow B 5 1 sv n xs) (hBw : B ≤ w.heap.size) (hlim : n + 21 ≤ 140737488355328) (htab : Lib.TabBelow Tryz.prog B w "internal/strconv.uint64pow10" .u64 Lib.pow10Tab) :
    Calls Tryz.prog 142 #[sv, .int .i64 i, .int .i64 10] w fun e w'=>∃ v',e=.returned v'∧w'.ownsRow B 5 1 v' (n+(Lib.itoa i).length) (xs++Lib.byteCells (Lib.itoa i))∧Below B w w'∧Lib.OthersKept 5 none w w':=Any.strconv_AppendInt_10 Tryz.laysM176 B n i h0 h1 sv xs w hown hBw hlim htab
def Tryz.lays99_ren:Go.Shelf.Ren:=⟨fun|99=>185|206=>208|n=>n,fun|9=>9|4=>4|3=>3|n=>n,fun|n=>n⟩
theorem Tryz.lays99:Go.Proofs.Lays.n99 Tryz.prog Tryz.lays99_ren:={
  mixed:=by kernel_rfl
  f99:=Tryz.func185.trans (congrArg some (by kernel_rfl))
  f206:=Tryz.func208.trans (congrArg some (by kernel_rfl))
  t3:=Tryz.underlying3
  a3:=Tryz.isAgg3
  z3:=Tryz.sizeOf3
  v3:=Tryz.zeroValue3
  t4:=Tryz.underlying4
  a4:=Tryz.isAgg4
  z4:=Tryz.sizeOf4
  v4:=Tryz.zeroValue4
  t9:=Tryz.underlying9
  a9:=Tryz.isAgg9
  z9:=Tryz.sizeOf9
  v9:=Tryz.zeroValue9 }
open Go.RowKit Go.Lib in
theorem Tryz.strings_HasPrefix (s p:ByteArray)(w:World) :
    Calls Tryz.prog 185 #[.string s, .string p] w fun e w'=>e=.returned (.bool (Lib.hasPrefix s.data.toList p.data.toList))∧w'=w:=Any.strings_HasPrefix Tryz.lays99 s p w
def Tryz.lays221_ren:Go.Shelf.Ren:=⟨fun|221=>90|268=>121|138=>122|143=>123|195=>151|197=>120|218=>152|219=>153|260=>150|217=>178|225=>179|224=>180|267=>181|266=>204|314=>205|n=>n,fun|9=>9|3=>3|31=>29|4=>4|0=>0|105=>179|21=>21|5=>5|46=>221|119=>144|139=>250|138=>249|146=>273|51=>175|n=>n,fun|1=>5|3=>3|4=>4|n=>n⟩
def Tryz.lays146_ren:Go.Shelf.Ren:=⟨fun|146=>47|221=>90|268=>121|138=>122|143=>123|195=>151|197=>120|218=>152|219=>153|260=>150|217=>178|225=>179|224=>180|267=>181|266=>204|314=>205|n=>n,fun|9=>9|31=>29|3=>3|4=>4|0=>0|105=>179|21=>21|5=>5|46=>221|119=>144|139=>250|138=>249|146=>273|51=>175|n=>n,fun|1=>5|3=>3|4=>4|n=>n⟩
theorem Tryz.lays146:Go.Proofs.Lays.n146 Tryz.prog Tryz.lays146_ren:={
  mixed:=by kernel_rfl
  f138:=Tryz.func122.trans (congrArg some (by kernel_rfl))
  f143:=Tryz.func123.trans (congrArg some (by kernel_rfl))
  f146:=Tryz.func47.trans (congrArg some (by kernel_rfl))
  f195:=Tryz.func151.trans (congrArg some (by kernel_rfl))
  f197:=Tryz.func120.trans (congrArg some (by kernel_rfl))
  f217:=Tryz.func178.trans (congrArg some (by kernel_rfl))
  f218:=Tryz.func152.trans (congrArg some (by kernel_rfl))
  f219:=Tryz.func153.trans (congrArg some (by kernel_rfl))
  f221:=Tryz.func90.trans (congrArg some (by kernel_rfl))
  f224:=Tryz.func180.trans (congrArg some (by kernel_rfl))
  f225:=Tryz.func179.trans (congrArg some (by kernel_rfl))
  f260:=Tryz.func150.trans (congrArg some (by kernel_rfl))
  f266:=Tryz.func204.trans (congrArg some (by kernel_rfl))
  f267:=Tryz.func181.trans (congrArg some (by kernel_rfl))
  f268:=Tryz.func121.trans (congrArg some (by kernel_rfl))
  f314:=Tryz.func205.trans (congrArg some (by kernel_rfl))
  t0:=Tryz.underlying0
  a0:=Tryz.isAgg0
  z0:=Tryz.sizeOf0
  v0:=Tryz.zeroValue0
  t3:=Tryz.underlying3
  a3:=Tryz.isAgg3
  z3:=Tryz.sizeOf3
  v3:=Tryz.zeroValue3
  t4:=Tryz.underlying4
  a4:=Tryz.isAgg4
  z4:=Tryz.sizeOf4
  v4:=Tryz.zeroValue4
  t5:=Tryz.underlying5
  a5:=Tryz.isAgg5
  z5:=Tryz.sizeOf5
  v5:=Tryz.zeroValue5
  t9:=Tryz.underlying9
  a9:=Tryz.isAgg9
  z9:=Tryz.sizeOf9
  v9:=Tryz.zeroValue9
  t21:=Tryz.underlying21
  a21:=Tryz.isAgg21
  z21:=Tryz.sizeOf21
  v21:=Tryz.zeroValue21
  t31:=Tryz.underlying29
  a31:=Tryz.isAgg29
  z31:=Tryz.sizeOf29
  v31:=Tryz.zeroValue29
  t46:=Tryz.underlying221
  a46:=Tryz.isAgg221
  z46:=Tryz.sizeOf221
  v46:=Tryz.zeroValue221
  t51:=Tryz.underlying175
  a51:=Tryz.isAgg175
  z51:=Tryz.sizeOf175
  v51:=Tryz.zeroValue175
  t105:=Tryz.underlying179
  a105:=Tryz.isAgg179
  z105:=Tryz.sizeOf179
  v105:=Tryz.zeroValue179
  t119:=Tryz.underlying144
  a119:=Tryz.isAgg144
  z119:=Tryz.sizeOf144
  t138:=Tryz.underlying249
  a138:=Tryz.isAgg249
  z138:=Tryz.sizeOf249
  v138:=Tryz.zeroValue249
  t139:=Tryz.underlying250
  a139:=Tryz.isAgg250
  z139:=Tryz.sizeOf250
  v139:=Tryz.zeroValue250
  t146:=Tryz.underlying273
  a146:=Tryz.isAgg273
  z146:=Tryz.sizeOf273
  v146:=Tryz.zeroValue273
  g1:=by kernel_rfl
  g3:=by kernel_rfl
  g4:=by kernel_rfl }
open Go.RowKit Go.Lib in
theorem Tryz.strings_Split (s sep:ByteArray)(m:Int)(w:World)(hs:s.size<4294967281)(hm:w.cell? ⟨5,0,none⟩=some (.int .i64 m))(h1:1≤sep.size) :
    Calls Tryz.prog 47 #[.string s, .string sep] w fun e w'=>
      e=.returned (.slice (some ⟨w.heap.size,0,none⟩) (Lib.countB s sep+1) (Lib.countB s sep+1))∧w'=w.alloc (.cells ((Lib.splitB sep 0 (Lib.countB s sep) s).map Value.string).toArray 9):=Any.strings_Split Tryz.lays146 (by kernel_rfl) s sep m w hs hm h1
def Tryz.lays199_ren:Go.Shelf.Ren:=⟨fun|199=>88|261=>118|311=>147|312=>148|n=>n,fun|21=>21|4=>4|51=>175|141=>177|0=>0|196=>206|193=>203|3=>3|198=>209|49=>207|194=>204|201=>212|226=>245|46=>221|227=>246|n=>n,fun|6=>1|n=>n⟩
theorem Tryz.lays199:Go.Proofs.Lays.n199 Tryz.prog Tryz.lays199_ren:={
  mixed:=by kernel_rfl
  f199:=Tryz.func88.trans (congrArg some (by kernel_rfl))
  f261:=Tryz.func118.trans (congrArg some (by kernel_rfl))
  f311:=Tryz.func147.trans (congrArg some (by kernel_rfl))
  f312:=Tryz.func148.trans (congrArg some (by kernel_rfl))
  t0:=Tryz.underlying0
  a0:=Tryz.isAgg0
  z0:=Tryz.sizeOf0
  v0:=Tryz.zeroValue0
  t3:=Tryz.underlying3
  a3:=Tryz.isAgg3
  z3:=Tryz.sizeOf3
  v3:=Tryz.zeroValue3
  t4:=Tryz.underlying4
  a4:=Tryz.isAgg4
  z4:=Tryz.sizeOf4
  v4:=Tryz.zeroValue4
  t21:=Tryz.underlying21
  a21:=Tryz.isAgg21
  z21:=Tryz.sizeOf21
  v21:=Tryz.zeroValue21
  t46:=Tryz.underlying221
  a46:=Tryz.isAgg221
  z46:=Tryz.sizeOf221
  v46:=Tryz.zeroValue221
  t49:=Tryz.underlying207
  a49:=Tryz.isAgg207
  z49:=Tryz.sizeOf207
  v49:=Tryz.zeroValue207
  t51:=Tryz.underlying175
  a51:=Tryz.isAgg175
  z51:=Tryz.sizeOf175
  v51:=Tryz.zeroValue175
  t141:=Tryz.underlying177
  a141:=Tryz.isAgg177
  z141:=Tryz.sizeOf177
  v141:=Tryz.zeroValue177
  t193:=Tryz.underlying203
  a193:=Tryz.isAgg203
  z193:=Tryz.sizeOf203
  v193:=Tryz.zeroValue203
  t194:=Tryz.underlying204
  a194:=Tryz.isAgg204
  z194:=Tryz.sizeOf204
  v194:=Tryz.zeroValue204
  t196:=Tryz.underlying206
  a196:=Tryz.isAgg206
  z196:=Tryz.sizeOf206
  v196:=Tryz.zeroValue206
  t198:=Tryz.underlying209
  a198:=Tryz.isAgg209
  z198:=Tryz.sizeOf209
  v198:=Tryz.zeroValue209
  t201:=Tryz.underlying212
  a201:=Tryz.isAgg212
  z201:=Tryz.sizeOf212
  v201:=Tryz.zeroValue212
  t226:=Tryz.underlying245
  a226:=Tryz.isAgg245
  z226:=Tryz.sizeOf245
  v226:=Tryz.zeroValue245
  t227:=Tryz.underlying246
  a227:=Tryz.isAgg246
  z227:=Tryz.sizeOf246
  v227:=Tryz.zeroValue246
  g6:=by kernel_rfl }
def Tryz.lays197_ren:Go.Shelf.Ren:=⟨fun|197=>120|260=>150|n=>n,fun|9=>9|21=>21|3=>3|4=>4|5=>5|105=>179|119=>144|0=>0|46=>221|139=>250|138=>249|n=>n,fun|3=>3|4=>4|n=>n⟩
theorem Tryz.lays197:Go.Proofs.Lays.n197 Tryz.prog Tryz.lays197_ren:={
  mixed:=by kernel_rfl
  f197:=Tryz.func120.trans (congrArg some (by kernel_rfl))
  f260:=Tryz.func150.trans (congrArg some (by kernel_rfl))
  t0:=Tryz.underlying0
  a0:=Tryz.isAgg0
  z0:=Tryz.sizeOf0
  v0:=Tryz.zeroValue0
  t3:=Tryz.underlying3
  a3:=Tryz.isAgg3
  z3:=Tryz.sizeOf3
  v3:=Tryz.zeroValue3
  t4:=Tryz.underlying4
  a4:=Tryz.isAgg4
  z4:=Tryz.sizeOf4
  v4:=Tryz.zeroValue4
  t5:=Tryz.underlying5
  a5:=Tryz.isAgg5
  z5:=Tryz.sizeOf5
  v5:=Tryz.zeroValue5
  t9:=Tryz.underlying9
  a9:=Tryz.isAgg9
  z9:=Tryz.sizeOf9
  v9:=Tryz.zeroValue9
  t21:=Tryz.underlying21
  a21:=Tryz.isAgg21
  z21:=Tryz.sizeOf21
  v21:=Tryz.zeroValue21
  t46:=Tryz.underlying221
  a46:=Tryz.isAgg221
  z46:=Tryz.sizeOf221
  v46:=Tryz.zeroValue221
  t105:=Tryz.underlying179
  a105:=Tryz.isAgg179
  z105:=Tryz.sizeOf179
  v105:=Tryz.zeroValue179
  t119:=Tryz.underlying144
  a119:=Tryz.isAgg144
  z119:=Tryz.sizeOf144
  t138:=Tryz.underlying249
  a138:=Tryz.isAgg249
  z138:=Tryz.sizeOf249
  v138:=Tryz.zeroValue249
  t139:=Tryz.underlying250
  a139:=Tryz.isAgg250
  z139:=Tryz.sizeOf250
  v139:=Tryz.zeroValue250
  g3:=by kernel_rfl
  g4:=by kernel_rfl }
def Tryz.lays212_ren:Go.Shelf.Ren:=⟨fun|212=>184|263=>206|264=>207|n=>n,fun|46=>221|51=>175|146=>273|53=>184|148=>278|n=>n,fun|n=>n⟩
theorem Tryz.lays212:Go.Proofs.Lays.n212 Tryz.prog Tryz.lays212_ren:={
  mixed:=by kernel_rfl
  f212:=Tryz.func184.trans (congrArg some (by kernel_rfl))
  f263:=Tryz.func206.trans (congrArg some (by kernel_rfl))
  f264:=Tryz.func207.trans (congrArg some (by kernel_rfl))
  t46:=Tryz.underlying221
  a46:=Tryz.isAgg221
  z46:=Tryz.sizeOf221
  v46:=Tryz.zeroValue221
  t51:=Tryz.underlying175
  a51:=Tryz.isAgg175
  z51:=Tryz.sizeOf175
  v51:=Tryz.zeroValue175
  t53:=Tryz.underlying184
  a53:=Tryz.isAgg184
  z53:=Tryz.sizeOf184
  v53:=Tryz.zeroValue184
  t146:=Tryz.underlying273
  a146:=Tryz.isAgg273
  z146:=Tryz.sizeOf273
  v146:=Tryz.zeroValue273
  t148:=Tryz.underlying278
  a148:=Tryz.isAgg278
  z148:=Tryz.sizeOf278
  v148:=Tryz.zeroValue278 }
open Go.RowKit Go.Lib in
theorem Tryz.bits_Mul (x y:Nat)(hx:x<18446744073709551616)(hy:y<18446744073709551616)(w:World) :
    Calls Tryz.prog 184 #[.int .u64 x, .int .u64 y] w fun e w'=>e=.returned (.tuple #[.int .u64 ((x*y / 18446744073709551616:Nat):Int), .int .u64 ((x*y % 18446744073709551616:Nat):Int)])∧w'=w:=Any.bits_Mul Tryz.lays212 x y hx hy w
def Tryz.lays260_ren:Go.Shelf.Ren:=⟨fun|260=>150|n=>n,fun|9=>9|21=>21|3=>3|4=>4|5=>5|119=>144|0=>0|46=>221|139=>250|138=>249|n=>n,fun|3=>3|4=>4|n=>n⟩
theorem Tryz.lays260:Go.Proofs.Lays.n260 Tryz.prog Tryz.lays260_ren:={
  mixed:=by kernel_rfl
  f260:=Tryz.func150.trans (congrArg some (by kernel_rfl))
  t0:=Tryz.underlying0
  a0:=Tryz.isAgg0
  z0:=Tryz.sizeOf0
  v0:=Tryz.zeroValue0
  t3:=Tryz.underlying3
  a3:=Tryz.isAgg3
  z3:=Tryz.sizeOf3
  v3:=Tryz.zeroValue3
  t4:=Tryz.underlying4
  a4:=Tryz.isAgg4
  z4:=Tryz.sizeOf4
  v4:=Tryz.zeroValue4
  t5:=Tryz.underlying5
  a5:=Tryz.isAgg5
  z5:=Tryz.sizeOf5
  v5:=Tryz.zeroValue5
  t9:=Tryz.underlying9
  a9:=Tryz.isAgg9
  z9:=Tryz.sizeOf9
  v9:=Tryz.zeroValue9
  t21:=Tryz.underlying21
  a21:=Tryz.isAgg21
  z21:=Tryz.sizeOf21
  v21:=Tryz.zeroValue21
  t46:=Tryz.underlying221
  a46:=Tryz.isAgg221
  z46:=Tryz.sizeOf221
  v46:=Tryz.zeroValue221
  t119:=Tryz.underlying144
  a119:=Tryz.isAgg144
  z119:=Tryz.sizeOf144
  t138:=Tryz.underlying249
  a138:=Tryz.isAgg249
  z138:=Tryz.sizeOf249
  v138:=Tryz.zeroValue249
  t139:=Tryz.underlying250
  a139:=Tryz.isAgg250
  z139:=Tryz.sizeOf250
  v139:=Tryz.zeroValue250
  g3:=by kernel_rfl
  g4:=by kernel_rfl }
open Go.RowKit Go.Lib in
theorem Tryz.utf8_DecodeRuneInString (s:ByteArray)(w:World)(hT:Lib.Utf8Tabs 3 4 w) :
    Calls Tryz.prog 120 #[.string s] w fun e w'=>e=.returned (.tuple #[.int .i32 (Lib.decodeGo s).1, .int .i64 (Lib.decodeGo s).2])∧Below w.heap.size w w':=Any.utf8_DecodeRuneInString Tryz.lays197 s w hT
open Go.RowKit in
theorem Tryz.strings_TrimSpace_any (s : ByteArray) (w : World) (hs : s.size ≤ 9223372036854775807) (htab : Lib.TabIs Tryz.prog w "strings.asciiSpace" .u8 Lib.asciiSpaceTab) (hU8 : Lib.Utf8Tabs 3 4 w) (hWS : Lib.WhiteTab 1 w) :
    Calls Tryz.prog 46 #[.string s] w fun e w'=>e=.returned (.string ⟨(Lib.trimSpaceD s.data.toList).toArray⟩)∧Below w.heap.size w w':=Any.strings_TrimSpace_any Tryz.lays163 Tryz.Space_Extra_163 s w hs htab hU8 hWS
end Go.Proofs
