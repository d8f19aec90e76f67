/- The contracts of the library's functions that this proof uses, at this program; printed by a tool of the kit, then cut down to what is used. -/
import Derived.Shelf.Strings.Builder1
import Derived.Shelf.Strings.Builder2
import Derived.Shelf.Strings.OnBuilder
import Derived.Shelf.Strings.Trim
import Derived.Shelf.Strings.TrimSpace
import Derived.Shelf.Small.Utf8
import Derived.Shelf.Small.Strs
import Derived.Shelf.Small.Wraps
import Derived.Shelf.Strings.BuilderF
import Derived.Shelf.Strings.BuilderK
import Derived.Shelf.Utf8.AppendRunePlain
import Derived.Shelf.Strconv.Atoi
import Derived.Shelf.Strconv.AtoiErrFast
import Derived.Shelf.Strconv.ParseIntEmpty
import Derived.Shelf.Strconv.AtoiFail
import Derived.Shelf.LaysM
import Derived.Shelf.Strconv.Clone
import Derived.Shelf.Strconv.SyntaxError
import Derived.Shelf.LaysC
import Derived.Shelf.Strconv.ToError
import Derived.Shelf.Strconv.Lower
import Derived.Shelf.Strconv.ParseUint10
import Derived.Shelf.Strconv.ParseUint10Empty
import Derived.Shelf.Strconv.ParseUint10Any
import Derived.Shelf.Strconv.ParseInt10
import Derived.Shelf.Strconv.AtoiLong
import Derived.Shelf.Strconv.AtoiInnerAll
import Derived.Shelf.Strconv.RangeError
import Derived.Shelf.Strconv.ToErrorRange
import Derived.Shelf.Strconv.AtoiAll
import Derived.Shelf.Strconv.ErrVarAll
import Derived.Shelf.Strconv.ParseUintEmpty
import Derived.Shelf.Strconv.ParseUint10b64
import Derived.Shelf.Strconv.ParseUint10b32
import Derived.Shelf.Strconv.ParseUint10b16
import Derived.Shelf.Strconv.ParseUint10b8
import Derived.Shelf.Strconv.ParseUint10At
import Derived.Ground.MpProg
import Derived.Shelf.Pu.ParseUintPublic10
import Derived.Shelf.Pu.ErrVarParseUint
import Derived.Shelf.Strings.Search1
import Derived.Shelf.Strings.Search2
import Derived.Shelf.Strings.Search3
import Derived.Shelf.Strings.Cut
import Derived.Shelf.Strings.Count
import Derived.Shelf.Strings.Shaped
import Derived.Shelf.Strings.Prefix
import Derived.Shelf.Strings.Split
import Derived.Shelf.Strings.SplitShaped
import Derived.Shelf.Unicode.Latin
import Derived.Shelf.Unicode.Decode
import Derived.Shelf.Strings.Runes
import Derived.Shelf.Strings.RuneCount
import Derived.Shelf.Strings.AsciiSet
import Derived.Shelf.Strings.Explode
import Derived.Shelf.Unicode.DecodeSlow
import Derived.Shelf.Unicode.DecodeAny
import Derived.Shelf.Unicode.Is16White
import Derived.Shelf.Unicode.IsSpaceAny
import Derived.Shelf.Unicode.DecodeLast
import Derived.Shelf.Strings.TrimSpaceAny
import Derived.Shelf.Unicode.Is16Any
import Derived.Shelf.Unicode.Is32Any
import Derived.Shelf.Unicode.ExclAny
import Derived.Test.YtjokciofeicdkaaGreatDoorProg
set_option linter.all false
namespace Go.Proofs
open Go.Shelf
def Tryz.lays156_ren:Go.Shelf.Ren:=⟨fun|156=>276|165=>277|166=>278|169=>279|240=>280|241=>281|276=>282|277=>283|n=>n,fun|31=>50|9=>9|3=>3|4=>4|0=>0|20=>20|72=>324|76=>213|70=>322|37=>144|75=>210|127=>288|164=>325|5=>5|80=>268|n=>n,fun|n=>n⟩
theorem Tryz.lays156:Go.Proofs.Lays.n156 Tryz.prog Tryz.lays156_ren:={
 mixed:=by kernel_rfl
 f156:=Tryz.func276.trans (congrArg some (by kernel_rfl))
 f165:=Tryz.func277.trans (congrArg some (by kernel_rfl))
 f166:=Tryz.func278.trans (congrArg some (by kernel_rfl))
 f169:=Tryz.func279.trans (congrArg some (by kernel_rfl))
 f240:=Tryz.func280.trans (congrArg some (by kernel_rfl))
 f241:=Tryz.func281.trans (congrArg some (by kernel_rfl))
 f276:=Tryz.func282.trans (congrArg some (by kernel_rfl))
 f277:=Tryz.func283.trans (congrArg some (by kernel_rfl))
 t0:=Tryz.underlying0
 a0:=Tryz.isAgg0
 z0:=Tryz.sizeOf0
 v0:=Tryz.zeroValue0
 t3:=Tryz.underlying3
 a3:=Tryz.isAgg3
 z3:=Tryz.sizeOf3
 v3:=Tryz.zeroValue3
 t4:=Tryz.underlying4
 a4:=Tryz.isAgg4
 z4:=Tryz.sizeOf4
 v4:=Tryz.zeroValue4
 t9:=Tryz.underlying9
 a9:=Tryz.isAgg9
 z9:=Tryz.sizeOf9
 v9:=Tryz.zeroValue9
 t20:=Tryz.underlying20
 a20:=Tryz.isAgg20
 z20:=Tryz.sizeOf20
 v20:=Tryz.zeroValue20
 t31:=Tryz.underlying50
 a31:=Tryz.isAgg50
 z31:=Tryz.sizeOf50
 v31:=Tryz.zeroValue50
 t37:=Tryz.underlying144
 a37:=Tryz.isAgg144
 z37:=Tryz.sizeOf144
 v37:=Tryz.zeroValue144
 t70:=Tryz.underlying322
 a70:=Tryz.isAgg322
 z70:=Tryz.sizeOf322
 v70:=Tryz.zeroValue322
 t72:=Tryz.underlying324
 a72:=Tryz.isAgg324
 z72:=Tryz.sizeOf324
 v72:=Tryz.zeroValue324
 t75:=Tryz.underlying210
 a75:=Tryz.isAgg210
 z75:=Tryz.sizeOf210
 v75:=Tryz.zeroValue210
 t76:=Tryz.underlying213
 a76:=Tryz.isAgg213
 z76:=Tryz.sizeOf213
 v76:=Tryz.zeroValue213
 t127:=Tryz.underlying288
 a127:=Tryz.isAgg288
 z127:=Tryz.sizeOf288
 v127:=Tryz.zeroValue288
 t164:=Tryz.underlying325
 a164:=Tryz.isAgg325
 z164:=Tryz.sizeOf325
 v164:=Tryz.zeroValue325 }
theorem Tryz.Builder_Extra_156:Builder.Extra Tryz.prog Tryz.lays156_ren:={
 sizeBuilder:=by kernel_rfl
 liesBuilder:=by kernel_rfl
 t5:=Tryz.underlying5
 a5:=Tryz.isAgg5
 z5:=Tryz.sizeOf5
 v5:=Tryz.zeroValue5
 infoByte:=by kernel_rfl
 cellsByte:=by kernel_rfl
 sizeByte:=by kernel_rfl
 neB5:=by decide }
open Go.RowKit in
theorem Tryz.strings_Join_none (a:Option Addr)(c:Nat)(sep:ByteArray)(w:World) :
 Calls Tryz.prog 276 #[.slice a 0 c,.string sep] w fun e w'=>e=.returned (.string ⟨#[]⟩)∧w'=w:=Any.strings_Join_none Tryz.lays156 Tryz.Builder_Extra_156 a c sep w
open Go.RowKit in
theorem Tryz.strings_Join (bk o c:Nat)(xs:List ByteArray)(sep:ByteArray)(w:World)(hcells:∀ (j:Nat) x,xs[j]?=some x→w.cell? ⟨bk,o+j,none⟩=some (.string x))(hbk:bk<w.heap.size)(hN:xs.length≤140737488355328)(hcap:xs.length≤c)(hlen:(Lib.join (xs.map (·.data.toList)) sep.data.toList).length≤140737488355328) :
 Calls Tryz.prog 276 #[.slice (some ⟨bk,o,none⟩) xs.length c,.string sep] w fun e w'=>e=.returned (.string ⟨(Lib.join (xs.map (·.data.toList)) sep.data.toList).toArray⟩)∧Below w.heap.size w w':=Any.strings_Join Tryz.lays156 Tryz.Builder_Extra_156 bk o c xs sep w hcells hbk hN hcap hlen
def Tryz.lays160_ren:Go.Shelf.Ren:=⟨fun|160=>177|232=>191|231=>190|227=>192|234=>194|233=>193|236=>196|235=>195|228=>213|271=>144|151=>214|197=>112|120=>172|152=>227|260=>145|137=>155|119=>158|224=>148|225=>147|217=>146|266=>173|n=>n,fun|9=>9|4=>4|3=>3|5=>5|117=>246|116=>245|0=>0|124=>249|21=>21|105=>176|46=>206|119=>147|139=>228|138=>227|n=>n,fun|3=>6|4=>7|n=>n⟩
theorem Tryz.lays160:Go.Proofs.Lays.n160 Tryz.prog Tryz.lays160_ren:={
 mixed:=by kernel_rfl
 f119:=Tryz.func158.trans (congrArg some (by kernel_rfl))
 f120:=Tryz.func172.trans (congrArg some (by kernel_rfl))
 f137:=Tryz.func155.trans (congrArg some (by kernel_rfl))
 f151:=Tryz.func214.trans (congrArg some (by kernel_rfl))
 f152:=Tryz.func227.trans (congrArg some (by kernel_rfl))
 f160:=Tryz.func177.trans (congrArg some (by kernel_rfl))
 f197:=Tryz.func112.trans (congrArg some (by kernel_rfl))
 f217:=Tryz.func146.trans (congrArg some (by kernel_rfl))
 f224:=Tryz.func148.trans (congrArg some (by kernel_rfl))
 f225:=Tryz.func147.trans (congrArg some (by kernel_rfl))
 f227:=Tryz.func192.trans (congrArg some (by kernel_rfl))
 f228:=Tryz.func213.trans (congrArg some (by kernel_rfl))
 f231:=Tryz.func190.trans (congrArg some (by kernel_rfl))
 f232:=Tryz.func191.trans (congrArg some (by kernel_rfl))
 f233:=Tryz.func193.trans (congrArg some (by kernel_rfl))
 f234:=Tryz.func194.trans (congrArg some (by kernel_rfl))
 f235:=Tryz.func195.trans (congrArg some (by kernel_rfl))
 f236:=Tryz.func196.trans (congrArg some (by kernel_rfl))
 f260:=Tryz.func145.trans (congrArg some (by kernel_rfl))
 f266:=Tryz.func173.trans (congrArg some (by kernel_rfl))
 f271:=Tryz.func144.trans (congrArg some (by kernel_rfl))
 t0:=Tryz.underlying0
 a0:=Tryz.isAgg0
 z0:=Tryz.sizeOf0
 v0:=Tryz.zeroValue0
 t3:=Tryz.underlying3
 a3:=Tryz.isAgg3
 z3:=Tryz.sizeOf3
 v3:=Tryz.zeroValue3
 t4:=Tryz.underlying4
 a4:=Tryz.isAgg4
 z4:=Tryz.sizeOf4
 v4:=Tryz.zeroValue4
 t5:=Tryz.underlying5
 a5:=Tryz.isAgg5
 z5:=Tryz.sizeOf5
 v5:=Tryz.zeroValue5
 t9:=Tryz.underlying9
 a9:=Tryz.isAgg9
 z9:=Tryz.sizeOf9
 v9:=Tryz.zeroValue9
 t21:=Tryz.underlying21
 a21:=Tryz.isAgg21
 z21:=Tryz.sizeOf21
 v21:=Tryz.zeroValue21
 t46:=Tryz.underlying206
 a46:=Tryz.isAgg206
 z46:=Tryz.sizeOf206
 v46:=Tryz.zeroValue206
 t105:=Tryz.underlying176
 a105:=Tryz.isAgg176
 z105:=Tryz.sizeOf176
 v105:=Tryz.zeroValue176
 t116:=Tryz.underlying245
 a116:=Tryz.isAgg245
 z116:=Tryz.sizeOf245
 t117:=Tryz.underlying246
 a117:=Tryz.isAgg246
 z117:=Tryz.sizeOf246
 v117:=Tryz.zeroValue246
 t119:=Tryz.underlying147
 a119:=Tryz.isAgg147
 z119:=Tryz.sizeOf147
 t124:=Tryz.underlying249
 a124:=Tryz.isAgg249
 z124:=Tryz.sizeOf249
 v124:=Tryz.zeroValue249
 t138:=Tryz.underlying227
 a138:=Tryz.isAgg227
 z138:=Tryz.sizeOf227
 v138:=Tryz.zeroValue227
 t139:=Tryz.underlying228
 a139:=Tryz.isAgg228
 z139:=Tryz.sizeOf228
 v139:=Tryz.zeroValue228
 g3:=by kernel_rfl
 g4:=by kernel_rfl }
def Tryz.lays119_ren:Go.Shelf.Ren:=⟨fun|119=>158|n=>n,fun|21=>21|4=>4|n=>n,fun|n=>n⟩
theorem Tryz.lays119:Go.Proofs.Lays.n119 Tryz.prog Tryz.lays119_ren:={
 mixed:=by kernel_rfl
 f119:=Tryz.func158.trans (congrArg some (by kernel_rfl))
 t4:=Tryz.underlying4
 a4:=Tryz.isAgg4
 z4:=Tryz.sizeOf4
 v4:=Tryz.zeroValue4
 t21:=Tryz.underlying21
 a21:=Tryz.isAgg21
 z21:=Tryz.sizeOf21
 v21:=Tryz.zeroValue21 }
theorem Tryz.utf8_ValidRune (r:Int)(w:World) :
 Calls Tryz.prog 158 #[.int .i32 r] w fun e w'=>e=.returned (.bool (Lib.validRune r))∧w'=w:=Any.utf8_ValidRune Tryz.lays119 r w
def Tryz.lays137_ren:Go.Shelf.Ren:=⟨fun|137=>155|217=>146|266=>173|n=>n,fun|9=>9|5=>5|3=>3|n=>n,fun|n=>n⟩
theorem Tryz.lays137:Go.Proofs.Lays.n137 Tryz.prog Tryz.lays137_ren:={
 mixed:=by kernel_rfl
 f137:=Tryz.func155.trans (congrArg some (by kernel_rfl))
 f217:=Tryz.func146.trans (congrArg some (by kernel_rfl))
 f266:=Tryz.func173.trans (congrArg some (by kernel_rfl))
 t3:=Tryz.underlying3
 a3:=Tryz.isAgg3
 z3:=Tryz.sizeOf3
 v3:=Tryz.zeroValue3
 t5:=Tryz.underlying5
 a5:=Tryz.isAgg5
 z5:=Tryz.sizeOf5
 v5:=Tryz.zeroValue5
 t9:=Tryz.underlying9
 a9:=Tryz.isAgg9
 z9:=Tryz.sizeOf9
 v9:=Tryz.zeroValue9 }
open Go.RowKit in
theorem Tryz.strings_IndexByte (s:ByteArray)(c:Int)(w:World) :
 Calls Tryz.prog 155 #[.string s,.int .u8 c] w fun e w'=>e=.returned (.int .i64 (Lib.indexByte s.data.toList c.toNat.toUInt8))∧w'=w:=Any.strings_IndexByte Tryz.lays137 s c w
def Tryz.lays210_ren:Go.Shelf.Ren:=⟨fun|210=>151|206=>176|n=>n,fun|9=>9|4=>4|3=>3|n=>n,fun|n=>n⟩
def Tryz.lays103_ren:Go.Shelf.Ren:=⟨fun|103=>117|210=>151|206=>176|n=>n,fun|9=>9|4=>4|24=>179|3=>3|n=>n,fun|n=>n⟩
theorem Tryz.lays103:Go.Proofs.Lays.n103 Tryz.prog Tryz.lays103_ren:={
 mixed:=by kernel_rfl
 f103:=Tryz.func117.trans (congrArg some (by kernel_rfl))
 f206:=Tryz.func176.trans (congrArg some (by kernel_rfl))
 f210:=Tryz.func151.trans (congrArg some (by kernel_rfl))
 t3:=Tryz.underlying3
 a3:=Tryz.isAgg3
 z3:=Tryz.sizeOf3
 v3:=Tryz.zeroValue3
 t4:=Tryz.underlying4
 a4:=Tryz.isAgg4
 z4:=Tryz.sizeOf4
 v4:=Tryz.zeroValue4
 t9:=Tryz.underlying9
 a9:=Tryz.isAgg9
 z9:=Tryz.sizeOf9
 v9:=Tryz.zeroValue9
 t24:=Tryz.underlying179
 a24:=Tryz.isAgg179
 z24:=Tryz.sizeOf179
 v24:=Tryz.zeroValue179 }
open Go.RowKit in
theorem Tryz.strings_CutPrefix (s p:ByteArray)(w:World) :
 Calls Tryz.prog 117 #[.string s,.string p] w fun e w'=>e=.returned (.tuple #[.string ⟨(Lib.trimPrefix s.data.toList p.data.toList).toArray⟩,.bool (Lib.hasPrefix s.data.toList p.data.toList)])∧w'=w:=Any.strings_CutPrefix Tryz.lays103 s p w
def Tryz.lays242_ren:Go.Shelf.Ren:=⟨fun|242=>122|278=>159|n=>n,fun|37=>144|21=>21|51=>172|4=>4|5=>5|46=>206|n=>n,fun|n=>n⟩
theorem Tryz.lays242:Go.Proofs.Lays.n242 Tryz.prog Tryz.lays242_ren:={
 mixed:=by kernel_rfl
 f242:=Tryz.func122.trans (congrArg some (by kernel_rfl))
 f278:=Tryz.func159.trans (congrArg some (by kernel_rfl))
 t4:=Tryz.underlying4
 a4:=Tryz.isAgg4
 z4:=Tryz.sizeOf4
 v4:=Tryz.zeroValue4
 t5:=Tryz.underlying5
 a5:=Tryz.isAgg5
 z5:=Tryz.sizeOf5
 v5:=Tryz.zeroValue5
 t21:=Tryz.underlying21
 a21:=Tryz.isAgg21
 z21:=Tryz.sizeOf21
 v21:=Tryz.zeroValue21
 t37:=Tryz.underlying144
 a37:=Tryz.isAgg144
 z37:=Tryz.sizeOf144
 v37:=Tryz.zeroValue144
 t46:=Tryz.underlying206
 a46:=Tryz.isAgg206
 z46:=Tryz.sizeOf206
 v46:=Tryz.zeroValue206
 t51:=Tryz.underlying172
 a51:=Tryz.isAgg172
 z51:=Tryz.sizeOf172
 v51:=Tryz.zeroValue172 }
open Go.RowKit in
theorem Tryz.utf8_AppendRune_plain (B:Nat)(v:Value)(n:Nat)(xs:List Value)(r:Int)(hr0 : -2147483648≤r)(hr1:r≤2147483647)(w:World)(hown:w.ownsRow B 5 1 v n xs)(hlen:n+4≤140737488355328)(hBw:B≤w.heap.size) :
 Calls Tryz.prog 122 #[v,.int .i32 r] w fun e w'=>∃ v',e=.returned v'∧w'.ownsRow B 5 1 v' (n+(Lib.runeCells r).length) (xs++Lib.runeCells r)∧∃ o,(w.alloc o).grownBy w' v.ownBlock:=Any.utf8_AppendRune_plain Tryz.lays242 (by kernel_rfl) B v n xs r hr0 hr1 w hown hlen hBw
def Tryz.lays172_ren:Go.Shelf.Ren:=⟨fun|172=>154|244=>180|245=>179|247=>203|279=>199|280=>200|281=>201|282=>202|287=>178|316=>215|171=>217|205=>216|321=>197|322=>198|243=>228|246=>232|283=>236|284=>237|285=>238|286=>239|129=>241|317=>240|318=>242|319=>243|320=>244|337=>245|338=>246|n=>n,fun|9=>9|3=>3|75=>210|76=>213|4=>4|5=>5|167=>250|37=>144|0=>0|85=>255|2=>2|168=>252|53=>149|175=>211|46=>206|210=>277|127=>288|145=>291|143=>289|21=>21|171=>297|173=>300|212=>302|51=>172|20=>20|213=>303|232=>306|233=>307|80=>268|n=>n,fun|15=>8|16=>9|17=>10|18=>11|19=>12|n=>n⟩
theorem Tryz.lays172:Go.Proofs.Lays.n172 Tryz.prog Tryz.lays172_ren:={
 mixed:=by kernel_rfl
 f129:=Tryz.func241.trans (congrArg some (by kernel_rfl))
 f171:=Tryz.func217.trans (congrArg some (by kernel_rfl))
 f172:=Tryz.func154.trans (congrArg some (by kernel_rfl))
 f205:=Tryz.func216.trans (congrArg some (by kernel_rfl))
 f243:=Tryz.func228.trans (congrArg some (by kernel_rfl))
 f244:=Tryz.func180.trans (congrArg some (by kernel_rfl))
 f245:=Tryz.func179.trans (congrArg some (by kernel_rfl))
 f246:=Tryz.func232.trans (congrArg some (by kernel_rfl))
 f247:=Tryz.func203.trans (congrArg some (by kernel_rfl))
 f279:=Tryz.func199.trans (congrArg some (by kernel_rfl))
 f280:=Tryz.func200.trans (congrArg some (by kernel_rfl))
 f281:=Tryz.func201.trans (congrArg some (by kernel_rfl))
 f282:=Tryz.func202.trans (congrArg some (by kernel_rfl))
 f283:=Tryz.func236.trans (congrArg some (by kernel_rfl))
 f284:=Tryz.func237.trans (congrArg some (by kernel_rfl))
 f285:=Tryz.func238.trans (congrArg some (by kernel_rfl))
 f286:=Tryz.func239.trans (congrArg some (by kernel_rfl))
 f287:=Tryz.func178.trans (congrArg some (by kernel_rfl))
 f316:=Tryz.func215.trans (congrArg some (by kernel_rfl))
 f317:=Tryz.func240.trans (congrArg some (by kernel_rfl))
 f318:=Tryz.func242.trans (congrArg some (by kernel_rfl))
 f319:=Tryz.func243.trans (congrArg some (by kernel_rfl))
 f320:=Tryz.func244.trans (congrArg some (by kernel_rfl))
 f321:=Tryz.func197.trans (congrArg some (by kernel_rfl))
 f322:=Tryz.func198.trans (congrArg some (by kernel_rfl))
 f337:=Tryz.func245.trans (congrArg some (by kernel_rfl))
 f338:=Tryz.func246.trans (congrArg some (by kernel_rfl))
 t0:=Tryz.underlying0
 a0:=Tryz.isAgg0
 z0:=Tryz.sizeOf0
 v0:=Tryz.zeroValue0
 t2:=Tryz.underlying2
 a2:=Tryz.isAgg2
 z2:=Tryz.sizeOf2
 v2:=Tryz.zeroValue2
 t3:=Tryz.underlying3
 a3:=Tryz.isAgg3
 z3:=Tryz.sizeOf3
 v3:=Tryz.zeroValue3
 t4:=Tryz.underlying4
 a4:=Tryz.isAgg4
 z4:=Tryz.sizeOf4
 v4:=Tryz.zeroValue4
 t5:=Tryz.underlying5
 a5:=Tryz.isAgg5
 z5:=Tryz.sizeOf5
 v5:=Tryz.zeroValue5
 t9:=Tryz.underlying9
 a9:=Tryz.isAgg9
 z9:=Tryz.sizeOf9
 v9:=Tryz.zeroValue9
 t20:=Tryz.underlying20
 a20:=Tryz.isAgg20
 z20:=Tryz.sizeOf20
 v20:=Tryz.zeroValue20
 t21:=Tryz.underlying21
 a21:=Tryz.isAgg21
 z21:=Tryz.sizeOf21
 v21:=Tryz.zeroValue21
 t37:=Tryz.underlying144
 a37:=Tryz.isAgg144
 z37:=Tryz.sizeOf144
 v37:=Tryz.zeroValue144
 t46:=Tryz.underlying206
 a46:=Tryz.isAgg206
 z46:=Tryz.sizeOf206
 v46:=Tryz.zeroValue206
 t51:=Tryz.underlying172
 a51:=Tryz.isAgg172
 z51:=Tryz.sizeOf172
 v51:=Tryz.zeroValue172
 t53:=Tryz.underlying149
 a53:=Tryz.isAgg149
 z53:=Tryz.sizeOf149
 v53:=Tryz.zeroValue149
 t75:=Tryz.underlying210
 a75:=Tryz.isAgg210
 z75:=Tryz.sizeOf210
 v75:=Tryz.zeroValue210
 t76:=Tryz.underlying213
 a76:=Tryz.isAgg213
 z76:=Tryz.sizeOf213
 v76:=Tryz.zeroValue213
 t85:=Tryz.underlying255
 a85:=Tryz.isAgg255
 z85:=Tryz.sizeOf255
 v85:=Tryz.zeroValue255
 t127:=Tryz.underlying288
 a127:=Tryz.isAgg288
 z127:=Tryz.sizeOf288
 v127:=Tryz.zeroValue288
 t143:=Tryz.underlying289
 a143:=Tryz.isAgg289
 z143:=Tryz.sizeOf289
 v143:=Tryz.zeroValue289
 t145:=Tryz.underlying291
 a145:=Tryz.isAgg291
 z145:=Tryz.sizeOf291
 v145:=Tryz.zeroValue291
 t167:=Tryz.underlying250
 a167:=Tryz.isAgg250
 z167:=Tryz.sizeOf250
 v167:=Tryz.zeroValue250
 t168:=Tryz.underlying252
 a168:=Tryz.isAgg252
 z168:=Tryz.sizeOf252
 v168:=Tryz.zeroValue252
 t171:=Tryz.underlying297
 a171:=Tryz.isAgg297
 z171:=Tryz.sizeOf297
 v171:=Tryz.zeroValue297
 t173:=Tryz.underlying300
 a173:=Tryz.isAgg300
 z173:=Tryz.sizeOf300
 v173:=Tryz.zeroValue300
 t175:=Tryz.underlying211
 a175:=Tryz.isAgg211
 z175:=Tryz.sizeOf211
 v175:=Tryz.zeroValue211
 t210:=Tryz.underlying277
 a210:=Tryz.isAgg277
 z210:=Tryz.sizeOf277
 v210:=Tryz.zeroValue277
 t212:=Tryz.underlying302
 a212:=Tryz.isAgg302
 z212:=Tryz.sizeOf302
 v212:=Tryz.zeroValue302
 t213:=Tryz.underlying303
 a213:=Tryz.isAgg303
 z213:=Tryz.sizeOf303
 t232:=Tryz.underlying306
 a232:=Tryz.isAgg306
 z232:=Tryz.sizeOf306
 v232:=Tryz.zeroValue306
 t233:=Tryz.underlying307
 a233:=Tryz.isAgg307
 z233:=Tryz.sizeOf307
 v233:=Tryz.zeroValue307
 g15:=by kernel_rfl
 g16:=by kernel_rfl
 g17:=by kernel_rfl
 g18:=by kernel_rfl
 g19:=by kernel_rfl }
open Go.RowKit in
theorem Tryz.strconv_Atoi (s:ByteArray)(n:Int)(hl:s.size≤18)(h:Lib.atoi s.data.toList=some n)(w:World) :
 Calls Tryz.prog 154 #[.string s] w fun e w'=>e=.returned (.tuple #[.int .i64 n,.nilIface])∧∃ t,w'=Lib.bytesWorld w 5 t:=Any.strconv_Atoi Tryz.lays172 s n hl h w
def Tryz.laysC245_ren:Go.Shelf.Ren:=⟨fun|245=>179|279=>199|280=>200|281=>201|282=>202|316=>215|171=>217|205=>216|243=>228|246=>232|283=>236|284=>237|285=>238|286=>239|129=>241|317=>240|318=>242|319=>243|320=>244|337=>245|338=>246|n=>n,fun|9=>9|3=>3|75=>210|167=>250|4=>4|168=>252|210=>277|37=>144|0=>0|127=>288|145=>291|143=>289|2=>2|171=>297|53=>149|5=>5|173=>300|212=>302|51=>172|20=>20|213=>303|46=>206|232=>306|233=>307|80=>268|n=>n,fun|15=>8|16=>9|17=>10|18=>11|19=>12|n=>n⟩
theorem Tryz.laysC245:Go.Proofs.LaysC.n245 Tryz.prog Tryz.laysC245_ren:={
 mixed:=by kernel_rfl
 f129:=Tryz.func241.trans (congrArg some (by kernel_rfl))
 f171:=Tryz.func217.trans (congrArg some (by kernel_rfl))
 f205:=Tryz.func216.trans (congrArg some (by kernel_rfl))
 f243:=Tryz.func228.trans (congrArg some (by kernel_rfl))
 f245:=Tryz.func179.trans (congrArg some (by kernel_rfl))
 f246:=Tryz.func232.trans (congrArg some (by kernel_rfl))
 f279:=Tryz.func199.trans (congrArg some (by kernel_rfl))
 f280:=Tryz.func200.trans (congrArg some (by kernel_rfl))
 f281:=Tryz.func201.trans (congrArg some (by kernel_rfl))
 f282:=Tryz.func202.trans (congrArg some (by kernel_rfl))
 f283:=Tryz.func236.trans (congrArg some (by kernel_rfl))
 f284:=Tryz.func237.trans (congrArg some (by kernel_rfl))
 f285:=Tryz.func238.trans (congrArg some (by kernel_rfl))
 f286:=Tryz.func239.trans (congrArg some (by kernel_rfl))
 f316:=Tryz.func215.trans (congrArg some (by kernel_rfl))
 f317:=Tryz.func240.trans (congrArg some (by kernel_rfl))
 f318:=Tryz.func242.trans (congrArg some (by kernel_rfl))
 f319:=Tryz.func243.trans (congrArg some (by kernel_rfl))
 f320:=Tryz.func244.trans (congrArg some (by kernel_rfl))
 f337:=Tryz.func245.trans (congrArg some (by kernel_rfl))
 f338:=Tryz.func246.trans (congrArg some (by kernel_rfl))
 t0:=Tryz.underlying0
 a0:=Tryz.isAgg0
 z0:=Tryz.sizeOf0
 v0:=Tryz.zeroValue0
 t2:=Tryz.underlying2
 a2:=Tryz.isAgg2
 z2:=Tryz.sizeOf2
 v2:=Tryz.zeroValue2
 t3:=Tryz.underlying3
 a3:=Tryz.isAgg3
 z3:=Tryz.sizeOf3
 v3:=Tryz.zeroValue3
 t4:=Tryz.underlying4
 a4:=Tryz.isAgg4
 z4:=Tryz.sizeOf4
 v4:=Tryz.zeroValue4
 t5:=Tryz.underlying5
 a5:=Tryz.isAgg5
 z5:=Tryz.sizeOf5
 v5:=Tryz.zeroValue5
 t9:=Tryz.underlying9
 a9:=Tryz.isAgg9
 z9:=Tryz.sizeOf9
 v9:=Tryz.zeroValue9
 t20:=Tryz.underlying20
 a20:=Tryz.isAgg20
 z20:=Tryz.sizeOf20
 v20:=Tryz.zeroValue20
 t37:=Tryz.underlying144
 a37:=Tryz.isAgg144
 z37:=Tryz.sizeOf144
 v37:=Tryz.zeroValue144
 t46:=Tryz.underlying206
 a46:=Tryz.isAgg206
 z46:=Tryz.sizeOf206
 v46:=Tryz.zeroValue206
 t51:=Tryz.underlying172
 a51:=Tryz.isAgg172
 z51:=Tryz.sizeOf172
 v51:=Tryz.zeroValue172
 t53:=Tryz.underlying149
 a53:=Tryz.isAgg149
 z53:=Tryz.sizeOf149
 v53:=Tryz.zeroValue149
 t75:=Tryz.underlying210
 a75:=Tryz.isAgg210
 z75:=Tryz.sizeOf210
 v75:=Tryz.zeroValue210
 t127:=Tryz.underlying288
 a127:=Tryz.isAgg288
 z127:=Tryz.sizeOf288
 v127:=Tryz.zeroValue288
 t143:=Tryz.underlying289
 a143:=Tryz.isAgg289
 z143:=Tryz.sizeOf289
 v143:=Tryz.zeroValue289
 t145:=Tryz.underlying291
 a145:=Tryz.isAgg291
 z145:=Tryz.sizeOf291
 v145:=Tryz.zeroValue291
 t167:=Tryz.underlying250
 a167:=Tryz.isAgg250
 z167:=Tryz.sizeOf250
 v167:=Tryz.zeroValue250
 t168:=Tryz.underlying252
 a168:=Tryz.isAgg252
 z168:=Tryz.sizeOf252
 v168:=Tryz.zeroValue252
 t171:=Tryz.underlying297
 a171:=Tryz.isAgg297
 z171:=Tryz.sizeOf297
 v171:=Tryz.zeroValue297
 t173:=Tryz.underlying300
 a173:=Tryz.isAgg300
 z173:=Tryz.sizeOf300
 v173:=Tryz.zeroValue300
 t210:=Tryz.underlying277
 a210:=Tryz.isAgg277
 z210:=Tryz.sizeOf277
 v210:=Tryz.zeroValue277
 t212:=Tryz.underlying302
 a212:=Tryz.isAgg302
 z212:=Tryz.sizeOf302
 v212:=Tryz.zeroValue302
 t213:=Tryz.underlying303
 a213:=Tryz.isAgg303
 z213:=Tryz.sizeOf303
 t232:=Tryz.underlying306
 a232:=Tryz.isAgg306
 z232:=Tryz.sizeOf306
 v232:=Tryz.zeroValue306
 t233:=Tryz.underlying307
 a233:=Tryz.isAgg307
 z233:=Tryz.sizeOf307
 v233:=Tryz.zeroValue307
 g15:=by kernel_rfl
 g16:=by kernel_rfl
 g17:=by kernel_rfl
 g18:=by kernel_rfl
 g19:=by kernel_rfl
 t80:=Tryz.underlying268
 a80:=Tryz.isAgg268
 z80:=Tryz.sizeOf268
 v80:=Tryz.zeroValue268
 i0:=by kernel_rfl
 i2:=by kernel_rfl
 i3:=by kernel_rfl
 i4:=by kernel_rfl
 i5:=by kernel_rfl
 i9:=by kernel_rfl
 i20:=by kernel_rfl
 i37:=by kernel_rfl
 i46:=by kernel_rfl
 i51:=by kernel_rfl
 i53:=by kernel_rfl
 i75:=by kernel_rfl
 i80:=by kernel_rfl
 i127:=by kernel_rfl
 i143:=by kernel_rfl
 i145:=by kernel_rfl
 i167:=by kernel_rfl
 i168:=by kernel_rfl
 i171:=by kernel_rfl
 i173:=by kernel_rfl
 i210:=by kernel_rfl
 i212:=by kernel_rfl
 i232:=by kernel_rfl
 i233:=by kernel_rfl
 m15:=by kernel_rfl
 m16:=by kernel_rfl
 m17:=by kernel_rfl
 m18:=by kernel_rfl
 m19:=by kernel_rfl
 c0:=by kernel_rfl
 c2:=by kernel_rfl
 c3:=by kernel_rfl
 c4:=by kernel_rfl
 c5:=by kernel_rfl
 c9:=by kernel_rfl
 c20:=by kernel_rfl
 c37:=by kernel_rfl
 c46:=by kernel_rfl
 c51:=by kernel_rfl
 c53:=by kernel_rfl
 c75:=by kernel_rfl
 c80:=by kernel_rfl
 c127:=by kernel_rfl
 c143:=by kernel_rfl
 c145:=by kernel_rfl
 c167:=by kernel_rfl
 c168:=by kernel_rfl
 c171:=by kernel_rfl
 c173:=by kernel_rfl
 c210:=by kernel_rfl
 c212:=by kernel_rfl
 c213:=by kernel_rfl
 c232:=by kernel_rfl
 c233:=by kernel_rfl }
open Go.RowKit in
theorem Tryz.strconv_toError_syntax (fn s:ByteArray)(base bits:Int)(ev:Value)(w:World)(hlim:s.size≤281474976710656)(hv:w.cell? ⟨8,0,none⟩=some ev)(hev:ev=.nilIface∨∃ te pe,ev=.iface te pe) :
 Calls Tryz.prog 179 #[.string fn,.string s,.int .i64 base,.int .i64 bits,.iface 250 (.int .i64 2)] w fun e w'=>∃ N,e=.returned (.iface 252 (.pointer (some ⟨N,0,none⟩)))∧w.heap.size≤N∧w'.heap[N]?=some (.cells #[.string fn,.string s,ev] 277 (0,0))∧Below w.heap.size w w':=Any.strconv_toError_syntax Tryz.laysC245 fn s base bits ev w hlim hv hev
def Tryz.lays321_ren:Go.Shelf.Ren:=⟨fun|321=>197|n=>n,fun|5=>5|n=>n,fun|n=>n⟩
theorem Tryz.lays321:Go.Proofs.Lays.n321 Tryz.prog Tryz.lays321_ren:={
 mixed:=by kernel_rfl
 f321:=Tryz.func197.trans (congrArg some (by kernel_rfl))
 t5:=Tryz.underlying5
 a5:=Tryz.isAgg5
 z5:=Tryz.sizeOf5
 v5:=Tryz.zeroValue5 }
open Go.RowKit in
theorem Tryz.internal_strconv_lower (c:Int)(w:World) :
 Calls Tryz.prog 197 #[.int .u8 c] w fun e w'=>e=.returned (.int .u8 (bits .or .u8 c 32))∧w'=w:=Any.internal_strconv_lower Tryz.lays321 c w
def Tryz.lays219_ren:Go.Shelf.Ren:=⟨fun|219=>113|217=>146|225=>147|224=>148|267=>149|266=>173|314=>174|n=>n,fun|9=>9|3=>3|4=>4|5=>5|46=>206|146=>229|51=>172|n=>n,fun|1=>5|n=>n⟩
def Tryz.lays144_ren:Go.Shelf.Ren:=⟨fun|144=>55|143=>79|219=>113|217=>146|225=>147|224=>148|267=>149|266=>173|314=>174|n=>n,fun|9=>9|4=>4|3=>3|5=>5|46=>206|146=>229|51=>172|n=>n,fun|1=>5|n=>n⟩
theorem Tryz.lays144:Go.Proofs.Lays.n144 Tryz.prog Tryz.lays144_ren:={
 mixed:=by kernel_rfl
 f143:=Tryz.func79.trans (congrArg some (by kernel_rfl))
 f144:=Tryz.func55.trans (congrArg some (by kernel_rfl))
 f217:=Tryz.func146.trans (congrArg some (by kernel_rfl))
 f219:=Tryz.func113.trans (congrArg some (by kernel_rfl))
 f224:=Tryz.func148.trans (congrArg some (by kernel_rfl))
 f225:=Tryz.func147.trans (congrArg some (by kernel_rfl))
 f266:=Tryz.func173.trans (congrArg some (by kernel_rfl))
 f267:=Tryz.func149.trans (congrArg some (by kernel_rfl))
 f314:=Tryz.func174.trans (congrArg some (by kernel_rfl))
 t3:=Tryz.underlying3
 a3:=Tryz.isAgg3
 z3:=Tryz.sizeOf3
 v3:=Tryz.zeroValue3
 t4:=Tryz.underlying4
 a4:=Tryz.isAgg4
 z4:=Tryz.sizeOf4
 v4:=Tryz.zeroValue4
 t5:=Tryz.underlying5
 a5:=Tryz.isAgg5
 z5:=Tryz.sizeOf5
 v5:=Tryz.zeroValue5
 t9:=Tryz.underlying9
 a9:=Tryz.isAgg9
 z9:=Tryz.sizeOf9
 v9:=Tryz.zeroValue9
 t46:=Tryz.underlying206
 a46:=Tryz.isAgg206
 z46:=Tryz.sizeOf206
 v46:=Tryz.zeroValue206
 t51:=Tryz.underlying172
 a51:=Tryz.isAgg172
 z51:=Tryz.sizeOf172
 v51:=Tryz.zeroValue172
 t146:=Tryz.underlying229
 a146:=Tryz.isAgg229
 z146:=Tryz.sizeOf229
 v146:=Tryz.zeroValue229
 g1:=by kernel_rfl }
open Go.RowKit Go.Lib in
theorem Tryz.strings_Contains_one (s:ByteArray)(c:UInt8)(w:World) :
 Calls Tryz.prog 55 #[.string s,.string ⟨#[c]⟩] w fun e w'=>e=.returned (.bool (decide (0≤Lib.indexByte s.data.toList c)))∧w'=w:=Any.strings_Contains_one Tryz.lays144 s c w
def Tryz.lays145_ren:Go.Shelf.Ren:=⟨fun|145=>157|220=>181|219=>113|217=>146|225=>147|224=>148|267=>149|266=>173|314=>174|n=>n,fun|9=>9|4=>4|59=>215|3=>3|5=>5|46=>206|146=>229|51=>172|n=>n,fun|1=>5|n=>n⟩
theorem Tryz.lays145:Go.Proofs.Lays.n145 Tryz.prog Tryz.lays145_ren:={
 mixed:=by kernel_rfl
 f145:=Tryz.func157.trans (congrArg some (by kernel_rfl))
 f217:=Tryz.func146.trans (congrArg some (by kernel_rfl))
 f219:=Tryz.func113.trans (congrArg some (by kernel_rfl))
 f220:=Tryz.func181.trans (congrArg some (by kernel_rfl))
 f224:=Tryz.func148.trans (congrArg some (by kernel_rfl))
 f225:=Tryz.func147.trans (congrArg some (by kernel_rfl))
 f266:=Tryz.func173.trans (congrArg some (by kernel_rfl))
 f267:=Tryz.func149.trans (congrArg some (by kernel_rfl))
 f314:=Tryz.func174.trans (congrArg some (by kernel_rfl))
 t3:=Tryz.underlying3
 a3:=Tryz.isAgg3
 z3:=Tryz.sizeOf3
 v3:=Tryz.zeroValue3
 t4:=Tryz.underlying4
 a4:=Tryz.isAgg4
 z4:=Tryz.sizeOf4
 v4:=Tryz.zeroValue4
 t5:=Tryz.underlying5
 a5:=Tryz.isAgg5
 z5:=Tryz.sizeOf5
 v5:=Tryz.zeroValue5
 t9:=Tryz.underlying9
 a9:=Tryz.isAgg9
 z9:=Tryz.sizeOf9
 v9:=Tryz.zeroValue9
 t46:=Tryz.underlying206
 a46:=Tryz.isAgg206
 z46:=Tryz.sizeOf206
 v46:=Tryz.zeroValue206
 t51:=Tryz.underlying172
 a51:=Tryz.isAgg172
 z51:=Tryz.sizeOf172
 v51:=Tryz.zeroValue172
 t59:=Tryz.underlying215
 a59:=Tryz.isAgg215
 z59:=Tryz.sizeOf215
 v59:=Tryz.zeroValue215
 t146:=Tryz.underlying229
 a146:=Tryz.isAgg229
 z146:=Tryz.sizeOf229
 v146:=Tryz.zeroValue229
 g1:=by kernel_rfl }
open Go.RowKit Go.Lib in
theorem Tryz.strings_Cut (s sep:ByteArray)(m:Int)(w:World)(hs:s.size<4294967281)(hm:w.cell? ⟨5,0,none⟩=some (.int .i64 m)) :
 Calls Tryz.prog 157 #[.string s,.string sep] w fun e w'=>e=.returned (.tuple #[.string ⟨(Lib.cut s.data.toList sep.data.toList).1.toArray⟩,.string ⟨(Lib.cut s.data.toList sep.data.toList).2.1.toArray⟩,.bool (Lib.cut s.data.toList sep.data.toList).2.2])∧∃ n,w'=w.drewN n:=Any.strings_Cut Tryz.lays145 s sep m w hs hm
def Tryz.lays99_ren:Go.Shelf.Ren:=⟨fun|99=>156|206=>176|n=>n,fun|9=>9|4=>4|3=>3|n=>n,fun|n=>n⟩
theorem Tryz.lays99:Go.Proofs.Lays.n99 Tryz.prog Tryz.lays99_ren:={
 mixed:=by kernel_rfl
 f99:=Tryz.func156.trans (congrArg some (by kernel_rfl))
 f206:=Tryz.func176.trans (congrArg some (by kernel_rfl))
 t3:=Tryz.underlying3
 a3:=Tryz.isAgg3
 z3:=Tryz.sizeOf3
 v3:=Tryz.zeroValue3
 t4:=Tryz.underlying4
 a4:=Tryz.isAgg4
 z4:=Tryz.sizeOf4
 v4:=Tryz.zeroValue4
 t9:=Tryz.underlying9
 a9:=Tryz.isAgg9
 z9:=Tryz.sizeOf9
 v9:=Tryz.zeroValue9 }
open Go.RowKit Go.Lib in
theorem Tryz.strings_HasPrefix (s p:ByteArray)(w:World) :
 Calls Tryz.prog 156 #[.string s,.string p] w fun e w'=>e=.returned (.bool (Lib.hasPrefix s.data.toList p.data.toList))∧w'=w:=Any.strings_HasPrefix Tryz.lays99 s p w
def Tryz.lays221_ren:Go.Shelf.Ren:=⟨fun|221=>175|268=>188|138=>189|143=>79|195=>211|197=>112|218=>212|219=>113|260=>145|217=>146|225=>147|224=>148|267=>149|266=>173|314=>174|n=>n,fun|9=>9|3=>3|31=>50|4=>4|0=>0|105=>176|21=>21|5=>5|46=>206|119=>147|139=>228|138=>227|146=>229|51=>172|n=>n,fun|1=>5|3=>6|4=>7|n=>n⟩
def Tryz.lays146_ren:Go.Shelf.Ren:=⟨fun|146=>150|221=>175|268=>188|138=>189|143=>79|195=>211|197=>112|218=>212|219=>113|260=>145|217=>146|225=>147|224=>148|267=>149|266=>173|314=>174|n=>n,fun|9=>9|31=>50|3=>3|4=>4|0=>0|105=>176|21=>21|5=>5|46=>206|119=>147|139=>228|138=>227|146=>229|51=>172|n=>n,fun|1=>5|3=>6|4=>7|n=>n⟩
theorem Tryz.lays146:Go.Proofs.Lays.n146 Tryz.prog Tryz.lays146_ren:={
 mixed:=by kernel_rfl
 f138:=Tryz.func189.trans (congrArg some (by kernel_rfl))
 f143:=Tryz.func79.trans (congrArg some (by kernel_rfl))
 f146:=Tryz.func150.trans (congrArg some (by kernel_rfl))
 f195:=Tryz.func211.trans (congrArg some (by kernel_rfl))
 f197:=Tryz.func112.trans (congrArg some (by kernel_rfl))
 f217:=Tryz.func146.trans (congrArg some (by kernel_rfl))
 f218:=Tryz.func212.trans (congrArg some (by kernel_rfl))
 f219:=Tryz.func113.trans (congrArg some (by kernel_rfl))
 f221:=Tryz.func175.trans (congrArg some (by kernel_rfl))
 f224:=Tryz.func148.trans (congrArg some (by kernel_rfl))
 f225:=Tryz.func147.trans (congrArg some (by kernel_rfl))
 f260:=Tryz.func145.trans (congrArg some (by kernel_rfl))
 f266:=Tryz.func173.trans (congrArg some (by kernel_rfl))
 f267:=Tryz.func149.trans (congrArg some (by kernel_rfl))
 f268:=Tryz.func188.trans (congrArg some (by kernel_rfl))
 f314:=Tryz.func174.trans (congrArg some (by kernel_rfl))
 t0:=Tryz.underlying0
 a0:=Tryz.isAgg0
 z0:=Tryz.sizeOf0
 v0:=Tryz.zeroValue0
 t3:=Tryz.underlying3
 a3:=Tryz.isAgg3
 z3:=Tryz.sizeOf3
 v3:=Tryz.zeroValue3
 t4:=Tryz.underlying4
 a4:=Tryz.isAgg4
 z4:=Tryz.sizeOf4
 v4:=Tryz.zeroValue4
 t5:=Tryz.underlying5
 a5:=Tryz.isAgg5
 z5:=Tryz.sizeOf5
 v5:=Tryz.zeroValue5
 t9:=Tryz.underlying9
 a9:=Tryz.isAgg9
 z9:=Tryz.sizeOf9
 v9:=Tryz.zeroValue9
 t21:=Tryz.underlying21
 a21:=Tryz.isAgg21
 z21:=Tryz.sizeOf21
 v21:=Tryz.zeroValue21
 t31:=Tryz.underlying50
 a31:=Tryz.isAgg50
 z31:=Tryz.sizeOf50
 v31:=Tryz.zeroValue50
 t46:=Tryz.underlying206
 a46:=Tryz.isAgg206
 z46:=Tryz.sizeOf206
 v46:=Tryz.zeroValue206
 t51:=Tryz.underlying172
 a51:=Tryz.isAgg172
 z51:=Tryz.sizeOf172
 v51:=Tryz.zeroValue172
 t105:=Tryz.underlying176
 a105:=Tryz.isAgg176
 z105:=Tryz.sizeOf176
 v105:=Tryz.zeroValue176
 t119:=Tryz.underlying147
 a119:=Tryz.isAgg147
 z119:=Tryz.sizeOf147
 t138:=Tryz.underlying227
 a138:=Tryz.isAgg227
 z138:=Tryz.sizeOf227
 v138:=Tryz.zeroValue227
 t139:=Tryz.underlying228
 a139:=Tryz.isAgg228
 z139:=Tryz.sizeOf228
 v139:=Tryz.zeroValue228
 t146:=Tryz.underlying229
 a146:=Tryz.isAgg229
 z146:=Tryz.sizeOf229
 v146:=Tryz.zeroValue229
 g1:=by kernel_rfl
 g3:=by kernel_rfl
 g4:=by kernel_rfl }
open Go.RowKit Go.Lib in
theorem Tryz.strings_Split (s sep:ByteArray)(m:Int)(w:World)(hs:s.size<4294967281)(hm:w.cell? ⟨5,0,none⟩=some (.int .i64 m))(h1:1≤sep.size) :
 Calls Tryz.prog 150 #[.string s,.string sep] w fun e w'=>
  e=.returned (.slice (some ⟨w.heap.size,0,none⟩) (Lib.countB s sep+1) (Lib.countB s sep+1))∧w'=w.alloc (.cells ((Lib.splitB sep 0 (Lib.countB s sep) s).map Value.string).toArray 9):=Any.strings_Split Tryz.lays146 (by kernel_rfl) s sep m w hs hm h1
def Tryz.lays197_ren:Go.Shelf.Ren:=⟨fun|197=>112|260=>145|n=>n,fun|9=>9|21=>21|3=>3|4=>4|5=>5|105=>176|119=>147|0=>0|46=>206|139=>228|138=>227|n=>n,fun|3=>6|4=>7|n=>n⟩
theorem Tryz.lays197:Go.Proofs.Lays.n197 Tryz.prog Tryz.lays197_ren:={
 mixed:=by kernel_rfl
 f197:=Tryz.func112.trans (congrArg some (by kernel_rfl))
 f260:=Tryz.func145.trans (congrArg some (by kernel_rfl))
 t0:=Tryz.underlying0
 a0:=Tryz.isAgg0
 z0:=Tryz.sizeOf0
 v0:=Tryz.zeroValue0
 t3:=Tryz.underlying3
 a3:=Tryz.isAgg3
 z3:=Tryz.sizeOf3
 v3:=Tryz.zeroValue3
 t4:=Tryz.underlying4
 a4:=Tryz.isAgg4
 z4:=Tryz.sizeOf4
 v4:=Tryz.zeroValue4
 t5:=Tryz.underlying5
 a5:=Tryz.isAgg5
 z5:=Tryz.sizeOf5
 v5:=Tryz.zeroValue5
 t9:=Tryz.underlying9
 a9:=Tryz.isAgg9
 z9:=Tryz.sizeOf9
 v9:=Tryz.zeroValue9
 t21:=Tryz.underlying21
 a21:=Tryz.isAgg21
 z21:=Tryz.sizeOf21
 v21:=Tryz.zeroValue21
 t46:=Tryz.underlying206
 a46:=Tryz.isAgg206
 z46:=Tryz.sizeOf206
 v46:=Tryz.zeroValue206
 t105:=Tryz.underlying176
 a105:=Tryz.isAgg176
 z105:=Tryz.sizeOf176
 v105:=Tryz.zeroValue176
 t119:=Tryz.underlying147
 a119:=Tryz.isAgg147
 z119:=Tryz.sizeOf147
 t138:=Tryz.underlying227
 a138:=Tryz.isAgg227
 z138:=Tryz.sizeOf227
 v138:=Tryz.zeroValue227
 t139:=Tryz.underlying228
 a139:=Tryz.isAgg228
 z139:=Tryz.sizeOf228
 v139:=Tryz.zeroValue228
 g3:=by kernel_rfl
 g4:=by kernel_rfl }
def Tryz.lays260_ren:Go.Shelf.Ren:=⟨fun|260=>145|n=>n,fun|9=>9|21=>21|3=>3|4=>4|5=>5|119=>147|0=>0|46=>206|139=>228|138=>227|n=>n,fun|3=>6|4=>7|n=>n⟩
theorem Tryz.lays260:Go.Proofs.Lays.n260 Tryz.prog Tryz.lays260_ren:={
 mixed:=by kernel_rfl
 f260:=Tryz.func145.trans (congrArg some (by kernel_rfl))
 t0:=Tryz.underlying0
 a0:=Tryz.isAgg0
 z0:=Tryz.sizeOf0
 v0:=Tryz.zeroValue0
 t3:=Tryz.underlying3
 a3:=Tryz.isAgg3
 z3:=Tryz.sizeOf3
 v3:=Tryz.zeroValue3
 t4:=Tryz.underlying4
 a4:=Tryz.isAgg4
 z4:=Tryz.sizeOf4
 v4:=Tryz.zeroValue4
 t5:=Tryz.underlying5
 a5:=Tryz.isAgg5
 z5:=Tryz.sizeOf5
 v5:=Tryz.zeroValue5
 t9:=Tryz.underlying9
 a9:=Tryz.isAgg9
 z9:=Tryz.sizeOf9
 v9:=Tryz.zeroValue9
 t21:=Tryz.underlying21
 a21:=Tryz.isAgg21
 z21:=Tryz.sizeOf21
 v21:=Tryz.zeroValue21
 t46:=Tryz.underlying206
 a46:=Tryz.isAgg206
 z46:=Tryz.sizeOf206
 v46:=Tryz.zeroValue206
 t119:=Tryz.underlying147
 a119:=Tryz.isAgg147
 z119:=Tryz.sizeOf147
 t138:=Tryz.underlying227
 a138:=Tryz.isAgg227
 z138:=Tryz.sizeOf227
 v138:=Tryz.zeroValue227
 t139:=Tryz.underlying228
 a139:=Tryz.isAgg228
 z139:=Tryz.sizeOf228
 v139:=Tryz.zeroValue228
 g3:=by kernel_rfl
 g4:=by kernel_rfl }
open Go.RowKit Go.Lib in
theorem Tryz.utf8_DecodeRuneInString (s:ByteArray)(w:World)(hT:Lib.Utf8Tabs 6 7 w) :
 Calls Tryz.prog 112 #[.string s] w fun e w'=>e=.returned (.tuple #[.int .i32 (Lib.decodeGo s).1,.int .i64 (Lib.decodeGo s).2])∧Below w.heap.size w w':=Any.utf8_DecodeRuneInString Tryz.lays197 s w hT
end Go.Proofs
