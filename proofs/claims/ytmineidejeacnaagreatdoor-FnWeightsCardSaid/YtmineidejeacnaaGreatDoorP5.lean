import Derived.Shelf.Strings.Builder1
import Derived.Shelf.Strings.Builder2
import Derived.Shelf.Strings.OnBuilder
import Derived.Shelf.Small.Strs
import Derived.Shelf.Strings.BuilderF
import Derived.Shelf.Strings.BuilderK
import Derived.Shelf.Utf8.RuneCount
import Derived.Shelf.Strings.Builder2Cap
import Derived.Shelf.Strconv.Itoa0
import Derived.Shelf.Strconv.Itoa1
import Derived.Shelf.LaysM
import Derived.Shelf.Strconv.Itoa2
import Derived.Shelf.Strconv.Itoa3
import Derived.Shelf.Strconv.Itoa4
import Derived.Shelf.Strconv.ParseIntEmpty
import Derived.Shelf.Strconv.Clone
import Derived.Shelf.Strconv.SyntaxError
import Derived.Shelf.LaysC
import Derived.Shelf.Strconv.ToError
import Derived.Shelf.Strconv.Lower
import Derived.Shelf.Strconv.ParseUint10
import Derived.Shelf.Strconv.ParseUint10Empty
import Derived.Shelf.Strconv.ParseUint10Any
import Derived.Shelf.Strconv.ParseInt10
import Derived.Shelf.Strconv.RangeError
import Derived.Shelf.Strconv.ToErrorRange
import Derived.Shelf.Strconv.ParseUintEmpty
import Derived.Shelf.Strconv.ParseUint10b64
import Derived.Shelf.Strconv.ParseUint10b32
import Derived.Shelf.Strconv.ParseUint10b16
import Derived.Shelf.Strconv.ParseUint10b8
import Derived.Shelf.Strconv.ParseUint10At
import Derived.Shelf.Strconv.ParseInt10At64
import Derived.Shelf.Strconv.ParseInt10At32
import Derived.Shelf.Strconv.ParseInt10At16
import Derived.Shelf.Strconv.ParseInt10At8
import Derived.Shelf.Strconv.ParseInt10All
import Derived.Shelf.Strconv.ParseIntPublic10
import Derived.Shelf.Strconv.ErrVarParseInt
import Derived.Shelf.Strings.Search1
import Derived.Shelf.Strings.Search2
import Derived.Shelf.Strings.Search3
import Derived.Shelf.Strings.Count
import Derived.Shelf.Strings.Shaped
import Derived.Shelf.Strings.Split
import Derived.Shelf.Strings.SplitShaped
import Derived.Shelf.Unicode.Decode
import Derived.Shelf.Strings.RuneCount
import Derived.Shelf.Strings.Explode
import Derived.Shelf.Unicode.DecodeSlow
import Derived.Shelf.Unicode.DecodeAny
import Derived.Shelf.Strings.BuilderCap
import Derived.Test.YtmineidejeacnaaGreatDoorProg
namespace Go.Proofs
open Go.Shelf
def Tryz.lays156_ren:Go.Shelf.Ren:=⟨fun|156=>44|165=>66|166=>67|169=>68|240=>79|241=>80|276=>96|277=>97|n=>n,fun|31=>76|9=>9|3=>3|4=>4|0=>0|20=>20|72=>106|76=>108|70=>104|37=>22|75=>100|127=>119|164=>136|5=>5|80=>110|n=>n,fun|n=>n⟩
theorem Tryz.lays156:Go.Proofs.Lays.n156 Tryz.prog Tryz.lays156_ren:={
 mixed:=by kernel_rfl
 f156:=Tryz.func44.trans (congrArg some (by kernel_rfl))
 f165:=Tryz.func66.trans (congrArg some (by kernel_rfl))
 f166:=Tryz.func67.trans (congrArg some (by kernel_rfl))
 f169:=Tryz.func68.trans (congrArg some (by kernel_rfl))
 f240:=Tryz.func79.trans (congrArg some (by kernel_rfl))
 f241:=Tryz.func80.trans (congrArg some (by kernel_rfl))
 f276:=Tryz.func96.trans (congrArg some (by kernel_rfl))
 f277:=Tryz.func97.trans (congrArg some (by kernel_rfl))
 t0:=Tryz.underlying0
 a0:=Tryz.isAgg0
 z0:=Tryz.sizeOf0
 v0:=Tryz.zeroValue0
 t3:=Tryz.underlying3
 a3:=Tryz.isAgg3
 z3:=Tryz.sizeOf3
 v3:=Tryz.zeroValue3
 t4:=Tryz.underlying4
 a4:=Tryz.isAgg4
 z4:=Tryz.sizeOf4
 v4:=Tryz.zeroValue4
 t9:=Tryz.underlying9
 a9:=Tryz.isAgg9
 z9:=Tryz.sizeOf9
 v9:=Tryz.zeroValue9
 t20:=Tryz.underlying20
 a20:=Tryz.isAgg20
 z20:=Tryz.sizeOf20
 v20:=Tryz.zeroValue20
 t31:=Tryz.underlying76
 a31:=Tryz.isAgg76
 z31:=Tryz.sizeOf76
 v31:=Tryz.zeroValue76
 t37:=Tryz.underlying22
 a37:=Tryz.isAgg22
 z37:=Tryz.sizeOf22
 v37:=Tryz.zeroValue22
 t70:=Tryz.underlying104
 a70:=Tryz.isAgg104
 z70:=Tryz.sizeOf104
 v70:=Tryz.zeroValue104
 t72:=Tryz.underlying106
 a72:=Tryz.isAgg106
 z72:=Tryz.sizeOf106
 v72:=Tryz.zeroValue106
 t75:=Tryz.underlying100
 a75:=Tryz.isAgg100
 z75:=Tryz.sizeOf100
 v75:=Tryz.zeroValue100
 t76:=Tryz.underlying108
 a76:=Tryz.isAgg108
 z76:=Tryz.sizeOf108
 v76:=Tryz.zeroValue108
 t127:=Tryz.underlying119
 a127:=Tryz.isAgg119
 z127:=Tryz.sizeOf119
 v127:=Tryz.zeroValue119
 t164:=Tryz.underlying136
 a164:=Tryz.isAgg136
 z164:=Tryz.sizeOf136
 v164:=Tryz.zeroValue136 }
theorem Tryz.Builder_Extra_156:Builder.Extra Tryz.prog Tryz.lays156_ren:={
 sizeBuilder:=by kernel_rfl
 liesBuilder:=by kernel_rfl
 t5:=Tryz.underlying5
 a5:=Tryz.isAgg5
 z5:=Tryz.sizeOf5
 v5:=Tryz.zeroValue5
 infoByte:=by kernel_rfl
 cellsByte:=by kernel_rfl
 sizeByte:=by kernel_rfl
 neB5:=by decide }
open Go.RowKit in
theorem Tryz.strings_Join_none (a:Option Addr) (c:Nat) (sep:ByteArray) (w:World):
 Calls Tryz.prog 44 #[.slice a 0 c, .string sep] w fun e w'=>e= .returned (.string ⟨#[]⟩)∧w'=w:=Any.strings_Join_none Tryz.lays156 Tryz.Builder_Extra_156 a c sep w
open Go.RowKit in
theorem Tryz.strings_Join (bk o c:Nat) (xs:List ByteArray) (sep:ByteArray) (w:World) (hcells:∀ (j:Nat) x,xs[j]?=some x→w.cell? ⟨bk,o+j,none⟩=some (.string x)) (hbk:bk< w.heap.size) (hN:xs.length≤140737488355328) (hcap:xs.length≤c) (hlen:(Lib.join (xs.map (·.data.toList)) sep.data.toList).length≤140737488355328):
 Calls Tryz.prog 44 #[.slice (some ⟨bk,o,none⟩) xs.length c, .string sep] w fun e w'=>e= .returned (.string ⟨(Lib.join (xs.map (·.data.toList)) sep.data.toList).toArray⟩)∧Below w.heap.size w w':=Any.strings_Join Tryz.lays156 Tryz.Builder_Extra_156 bk o c xs sep w hcells hbk hN hcap hlen
def Tryz.lays137_ren:Go.Shelf.Ren:=⟨fun|137=>69|217=>81|266=>98|n=>n,fun|9=>9|5=>5|3=>3|n=>n,fun|n=>n⟩
theorem Tryz.lays137:Go.Proofs.Lays.n137 Tryz.prog Tryz.lays137_ren:={
 mixed:=by kernel_rfl
 f137:=Tryz.func69.trans (congrArg some (by kernel_rfl))
 f217:=Tryz.func81.trans (congrArg some (by kernel_rfl))
 f266:=Tryz.func98.trans (congrArg some (by kernel_rfl))
 t3:=Tryz.underlying3
 a3:=Tryz.isAgg3
 z3:=Tryz.sizeOf3
 v3:=Tryz.zeroValue3
 t5:=Tryz.underlying5
 a5:=Tryz.isAgg5
 z5:=Tryz.sizeOf5
 v5:=Tryz.zeroValue5
 t9:=Tryz.underlying9
 a9:=Tryz.isAgg9
 z9:=Tryz.sizeOf9
 v9:=Tryz.zeroValue9 }
open Go.RowKit in
theorem Tryz.strings_IndexByte (s:ByteArray) (c:Int) (w:World):
 Calls Tryz.prog 69 #[.string s, .int .u8 c] w fun e w'=>e= .returned (.int .i64 (Lib.indexByte s.data.toList c.toNat.toUInt8))∧w'=w:=Any.strings_IndexByte Tryz.lays137 s c w
def Tryz.laysM173_ren:Go.Shelf.Ren:=⟨fun|173=>65|246=>78|283=>92|284=>93|285=>94|286=>95|129=>109|317=>108|318=>110|319=>111|320=>112|337=>115|338=>116|n=>n,fun|2=>2|3=>3|9=>9|4=>4|171=>131|0=>0|53=>94|37=>22|5=>5|173=>134|212=>147|51=>148|20=>20|213=>149|46=>115|232=>162|233=>163|n=>n,fun|17=>3|18=>6|19=>7|n=>n⟩
theorem Tryz.laysM173:Go.Proofs.LaysM.n173 Tryz.prog Tryz.laysM173_ren:={
 mixed:=by kernel_rfl
 f129:=Tryz.func109.trans (congrArg some (by kernel_rfl))
 f173:=Tryz.func65.trans (congrArg some (by kernel_rfl))
 f246:=Tryz.func78.trans (congrArg some (by kernel_rfl))
 f283:=Tryz.func92.trans (congrArg some (by kernel_rfl))
 f284:=Tryz.func93.trans (congrArg some (by kernel_rfl))
 f285:=Tryz.func94.trans (congrArg some (by kernel_rfl))
 f286:=Tryz.func95.trans (congrArg some (by kernel_rfl))
 f317:=Tryz.func108.trans (congrArg some (by kernel_rfl))
 f318:=Tryz.func110.trans (congrArg some (by kernel_rfl))
 f319:=Tryz.func111.trans (congrArg some (by kernel_rfl))
 f320:=Tryz.func112.trans (congrArg some (by kernel_rfl))
 f337:=Tryz.func115.trans (congrArg some (by kernel_rfl))
 f338:=Tryz.func116.trans (congrArg some (by kernel_rfl))
 t0:=Tryz.underlying0
 a0:=Tryz.isAgg0
 z0:=Tryz.sizeOf0
 v0:=Tryz.zeroValue0
 t2:=Tryz.underlying2
 a2:=Tryz.isAgg2
 z2:=Tryz.sizeOf2
 v2:=Tryz.zeroValue2
 t3:=Tryz.underlying3
 a3:=Tryz.isAgg3
 z3:=Tryz.sizeOf3
 v3:=Tryz.zeroValue3
 t4:=Tryz.underlying4
 a4:=Tryz.isAgg4
 z4:=Tryz.sizeOf4
 v4:=Tryz.zeroValue4
 t5:=Tryz.underlying5
 a5:=Tryz.isAgg5
 z5:=Tryz.sizeOf5
 v5:=Tryz.zeroValue5
 t9:=Tryz.underlying9
 a9:=Tryz.isAgg9
 z9:=Tryz.sizeOf9
 v9:=Tryz.zeroValue9
 t20:=Tryz.underlying20
 a20:=Tryz.isAgg20
 z20:=Tryz.sizeOf20
 v20:=Tryz.zeroValue20
 t37:=Tryz.underlying22
 a37:=Tryz.isAgg22
 z37:=Tryz.sizeOf22
 v37:=Tryz.zeroValue22
 t46:=Tryz.underlying115
 a46:=Tryz.isAgg115
 z46:=Tryz.sizeOf115
 v46:=Tryz.zeroValue115
 t51:=Tryz.underlying148
 a51:=Tryz.isAgg148
 z51:=Tryz.sizeOf148
 v51:=Tryz.zeroValue148
 t53:=Tryz.underlying94
 a53:=Tryz.isAgg94
 z53:=Tryz.sizeOf94
 v53:=Tryz.zeroValue94
 t171:=Tryz.underlying131
 a171:=Tryz.isAgg131
 z171:=Tryz.sizeOf131
 v171:=Tryz.zeroValue131
 t173:=Tryz.underlying134
 a173:=Tryz.isAgg134
 z173:=Tryz.sizeOf134
 v173:=Tryz.zeroValue134
 t212:=Tryz.underlying147
 a212:=Tryz.isAgg147
 z212:=Tryz.sizeOf147
 v212:=Tryz.zeroValue147
 t213:=Tryz.underlying149
 a213:=Tryz.isAgg149
 z213:=Tryz.sizeOf149
 t232:=Tryz.underlying162
 a232:=Tryz.isAgg162
 z232:=Tryz.sizeOf162
 v232:=Tryz.zeroValue162
 t233:=Tryz.underlying163
 a233:=Tryz.isAgg163
 z233:=Tryz.sizeOf163
 v233:=Tryz.zeroValue163
 g17:=by kernel_rfl
 g18:=by kernel_rfl
 g19:=by kernel_rfl
 i0:=by kernel_rfl
 i2:=by kernel_rfl
 i3:=by kernel_rfl
 i4:=by kernel_rfl
 i5:=by kernel_rfl
 i9:=by kernel_rfl
 i20:=by kernel_rfl
 i37:=by kernel_rfl
 i46:=by kernel_rfl
 i51:=by kernel_rfl
 i53:=by kernel_rfl
 i171:=by kernel_rfl
 i173:=by kernel_rfl
 i212:=by kernel_rfl
 i232:=by kernel_rfl
 i233:=by kernel_rfl
 m17:=by kernel_rfl
 m18:=by kernel_rfl
 m19:=by kernel_rfl }
open Go.RowKit Go.Sort Go.Lib in
theorem Tryz.strconv_FormatInt_10 (n : Int) (h0 : -9223372036854775808 ≤ n) (h1 : n ≤ 9223372036854775807) (w : World) (htab : Lib.TabIs Tryz.prog w "internal/strconv.uint64pow10" .u64 Lib.pow10Tab) :
 Calls Tryz.prog 65 #[.int .i64 n, .int .i64 10] w fun e w'=>e= .returned (.string ⟨(Lib.itoa n).toArray⟩)∧∃ k os,w'=grow (w.drewN k) os:=Any.strconv_FormatInt_10 Tryz.laysM173 n h0 h1 w htab
def Tryz.laysC174_ren:Go.Shelf.Ren:=⟨fun|174=>64|247=>76|245=>77|287=>87|279=>88|280=>89|281=>90|282=>91|321=>103|322=>104|316=>105|171=>107|205=>106|243=>114|246=>78|283=>92|284=>93|285=>94|286=>95|129=>109|317=>108|318=>110|319=>111|320=>112|337=>115|338=>116|n=>n,fun|9=>9|3=>3|2=>2|75=>100|85=>101|4=>4|167=>124|5=>5|53=>94|175=>125|46=>115|168=>127|37=>22|0=>0|210=>144|21=>21|127=>119|145=>160|143=>158|171=>131|173=>134|212=>147|51=>148|20=>20|213=>149|232=>162|233=>163|80=>110|n=>n,fun|15=>1|16=>2|17=>3|18=>6|19=>7|n=>n⟩
theorem Tryz.laysC174:Go.Proofs.LaysC.n174 Tryz.prog Tryz.laysC174_ren:={
 mixed:=by kernel_rfl
 f129:=Tryz.func109.trans (congrArg some (by kernel_rfl))
 f171:=Tryz.func107.trans (congrArg some (by kernel_rfl))
 f174:=Tryz.func64.trans (congrArg some (by kernel_rfl))
 f205:=Tryz.func106.trans (congrArg some (by kernel_rfl))
 f243:=Tryz.func114.trans (congrArg some (by kernel_rfl))
 f245:=Tryz.func77.trans (congrArg some (by kernel_rfl))
 f246:=Tryz.func78.trans (congrArg some (by kernel_rfl))
 f247:=Tryz.func76.trans (congrArg some (by kernel_rfl))
 f279:=Tryz.func88.trans (congrArg some (by kernel_rfl))
 f280:=Tryz.func89.trans (congrArg some (by kernel_rfl))
 f281:=Tryz.func90.trans (congrArg some (by kernel_rfl))
 f282:=Tryz.func91.trans (congrArg some (by kernel_rfl))
 f283:=Tryz.func92.trans (congrArg some (by kernel_rfl))
 f284:=Tryz.func93.trans (congrArg some (by kernel_rfl))
 f285:=Tryz.func94.trans (congrArg some (by kernel_rfl))
 f286:=Tryz.func95.trans (congrArg some (by kernel_rfl))
 f287:=Tryz.func87.trans (congrArg some (by kernel_rfl))
 f316:=Tryz.func105.trans (congrArg some (by kernel_rfl))
 f317:=Tryz.func108.trans (congrArg some (by kernel_rfl))
 f318:=Tryz.func110.trans (congrArg some (by kernel_rfl))
 f319:=Tryz.func111.trans (congrArg some (by kernel_rfl))
 f320:=Tryz.func112.trans (congrArg some (by kernel_rfl))
 f321:=Tryz.func103.trans (congrArg some (by kernel_rfl))
 f322:=Tryz.func104.trans (congrArg some (by kernel_rfl))
 f337:=Tryz.func115.trans (congrArg some (by kernel_rfl))
 f338:=Tryz.func116.trans (congrArg some (by kernel_rfl))
 t0:=Tryz.underlying0
 a0:=Tryz.isAgg0
 z0:=Tryz.sizeOf0
 v0:=Tryz.zeroValue0
 t2:=Tryz.underlying2
 a2:=Tryz.isAgg2
 z2:=Tryz.sizeOf2
 v2:=Tryz.zeroValue2
 t3:=Tryz.underlying3
 a3:=Tryz.isAgg3
 z3:=Tryz.sizeOf3
 v3:=Tryz.zeroValue3
 t4:=Tryz.underlying4
 a4:=Tryz.isAgg4
 z4:=Tryz.sizeOf4
 v4:=Tryz.zeroValue4
 t5:=Tryz.underlying5
 a5:=Tryz.isAgg5
 z5:=Tryz.sizeOf5
 v5:=Tryz.zeroValue5
 t9:=Tryz.underlying9
 a9:=Tryz.isAgg9
 z9:=Tryz.sizeOf9
 v9:=Tryz.zeroValue9
 t20:=Tryz.underlying20
 a20:=Tryz.isAgg20
 z20:=Tryz.sizeOf20
 v20:=Tryz.zeroValue20
 t21:=Tryz.underlying21
 a21:=Tryz.isAgg21
 z21:=Tryz.sizeOf21
 v21:=Tryz.zeroValue21
 t37:=Tryz.underlying22
 a37:=Tryz.isAgg22
 z37:=Tryz.sizeOf22
 v37:=Tryz.zeroValue22
 t46:=Tryz.underlying115
 a46:=Tryz.isAgg115
 z46:=Tryz.sizeOf115
 v46:=Tryz.zeroValue115
 t51:=Tryz.underlying148
 a51:=Tryz.isAgg148
 z51:=Tryz.sizeOf148
 v51:=Tryz.zeroValue148
 t53:=Tryz.underlying94
 a53:=Tryz.isAgg94
 z53:=Tryz.sizeOf94
 v53:=Tryz.zeroValue94
 t75:=Tryz.underlying100
 a75:=Tryz.isAgg100
 z75:=Tryz.sizeOf100
 v75:=Tryz.zeroValue100
 t85:=Tryz.underlying101
 a85:=Tryz.isAgg101
 z85:=Tryz.sizeOf101
 v85:=Tryz.zeroValue101
 t127:=Tryz.underlying119
 a127:=Tryz.isAgg119
 z127:=Tryz.sizeOf119
 v127:=Tryz.zeroValue119
 t143:=Tryz.underlying158
 a143:=Tryz.isAgg158
 z143:=Tryz.sizeOf158
 v143:=Tryz.zeroValue158
 t145:=Tryz.underlying160
 a145:=Tryz.isAgg160
 z145:=Tryz.sizeOf160
 v145:=Tryz.zeroValue160
 t167:=Tryz.underlying124
 a167:=Tryz.isAgg124
 z167:=Tryz.sizeOf124
 v167:=Tryz.zeroValue124
 t168:=Tryz.underlying127
 a168:=Tryz.isAgg127
 z168:=Tryz.sizeOf127
 v168:=Tryz.zeroValue127
 t171:=Tryz.underlying131
 a171:=Tryz.isAgg131
 z171:=Tryz.sizeOf131
 v171:=Tryz.zeroValue131
 t173:=Tryz.underlying134
 a173:=Tryz.isAgg134
 z173:=Tryz.sizeOf134
 v173:=Tryz.zeroValue134
 t175:=Tryz.underlying125
 a175:=Tryz.isAgg125
 z175:=Tryz.sizeOf125
 v175:=Tryz.zeroValue125
 t210:=Tryz.underlying144
 a210:=Tryz.isAgg144
 z210:=Tryz.sizeOf144
 v210:=Tryz.zeroValue144
 t212:=Tryz.underlying147
 a212:=Tryz.isAgg147
 z212:=Tryz.sizeOf147
 v212:=Tryz.zeroValue147
 t213:=Tryz.underlying149
 a213:=Tryz.isAgg149
 z213:=Tryz.sizeOf149
 t232:=Tryz.underlying162
 a232:=Tryz.isAgg162
 z232:=Tryz.sizeOf162
 v232:=Tryz.zeroValue162
 t233:=Tryz.underlying163
 a233:=Tryz.isAgg163
 z233:=Tryz.sizeOf163
 v233:=Tryz.zeroValue163
 g15:=by kernel_rfl
 g16:=by kernel_rfl
 g17:=by kernel_rfl
 g18:=by kernel_rfl
 g19:=by kernel_rfl
 t80:=Tryz.underlying110
 a80:=Tryz.isAgg110
 z80:=Tryz.sizeOf110
 v80:=Tryz.zeroValue110
 i0:=by kernel_rfl
 i2:=by kernel_rfl
 i3:=by kernel_rfl
 i4:=by kernel_rfl
 i5:=by kernel_rfl
 i9:=by kernel_rfl
 i20:=by kernel_rfl
 i21:=by kernel_rfl
 i37:=by kernel_rfl
 i46:=by kernel_rfl
 i51:=by kernel_rfl
 i53:=by kernel_rfl
 i75:=by kernel_rfl
 i80:=by kernel_rfl
 i85:=by kernel_rfl
 i127:=by kernel_rfl
 i143:=by kernel_rfl
 i145:=by kernel_rfl
 i167:=by kernel_rfl
 i168:=by kernel_rfl
 i171:=by kernel_rfl
 i173:=by kernel_rfl
 i175:=by kernel_rfl
 i210:=by kernel_rfl
 i212:=by kernel_rfl
 i232:=by kernel_rfl
 i233:=by kernel_rfl
 m15:=by kernel_rfl
 m16:=by kernel_rfl
 m17:=by kernel_rfl
 m18:=by kernel_rfl
 m19:=by kernel_rfl
 c0:=by kernel_rfl
 c2:=by kernel_rfl
 c3:=by kernel_rfl
 c4:=by kernel_rfl
 c5:=by kernel_rfl
 c9:=by kernel_rfl
 c20:=by kernel_rfl
 c21:=by kernel_rfl
 c37:=by kernel_rfl
 c46:=by kernel_rfl
 c51:=by kernel_rfl
 c53:=by kernel_rfl
 c75:=by kernel_rfl
 c80:=by kernel_rfl
 c85:=by kernel_rfl
 c127:=by kernel_rfl
 c143:=by kernel_rfl
 c145:=by kernel_rfl
 c167:=by kernel_rfl
 c168:=by kernel_rfl
 c171:=by kernel_rfl
 c173:=by kernel_rfl
 c175:=by kernel_rfl
 c210:=by kernel_rfl
 c212:=by kernel_rfl
 c213:=by kernel_rfl
 c232:=by kernel_rfl
 c233:=by kernel_rfl }
open Go.RowKit in
theorem Tryz.strconv_ParseInt_10_at64_ok (s:ByteArray) (hmax:s.size≤9223372036854775806) (v:Int) (h:Lib.parseIntB 64 s.data.toList= .ok v) (w:World):
 Calls Tryz.prog 64 #[.string s, .int .i64 10, .int .i64 64] w fun e w'=>e= .returned (.tuple #[.int .i64 v, .nilIface])∧(w'=w∨∃ t,w'=Lib.bytesWorld w 5 t):=Any.strconv_ParseInt_10_at64_ok Tryz.laysC174 s hmax v h w
open Go.RowKit in
theorem Tryz.QbM (s:ByteArray) (hlim:s.size≤281474976710656) (h1:∀ v,Lib.parseIntB 64 s.data.toList≠ .ok v) (h2:Lib.parseIntB 64 s.data.toList≠ .range) (ev:Value) (w:World) (hv:w.cell? ⟨1,0,none⟩=some ev) (hev:ev= .nilIface∨∃ te pe,ev= .iface te pe):
 Calls Tryz.prog 64 #[.string s, .int .i64 10, .int .i64 64] w fun e w'=>∃ N,e= .returned (.tuple #[.int .i64 (0), .iface 127 (.pointer (some ⟨N,0,none⟩))])∧w.heap.size≤N∧w'.heap[N]?=some (.cells #[.string ⟨#[80,97,114,115,101,73,110,116]⟩, .string s,ev] 144 (0,0))∧Below w.heap.size w w':=Any.strconv_ParseInt_10_at64_syntax Tryz.laysC174 s hlim (by
 cases hp:Lib.parseIntB 64 s.data.toList with
 |ok v=>exact absurd hp (h1 v)
 |range=>exact absurd hp h2
 |_=>rfl) ev w hv hev
open Go.RowKit in
theorem Tryz.strconv_ParseInt_10_at64_range (s:ByteArray) (hlim:s.size≤281474976710656) (h:Lib.parseIntB 64 s.data.toList= .range) (ev:Value) (w:World) (hv:w.cell? ⟨2,0,none⟩=some ev) (hev:ev= .nilIface∨∃ te pe,ev= .iface te pe):
 Calls Tryz.prog 64 #[.string s, .int .i64 10, .int .i64 64] w fun e w'=>∃ N,e= .returned (.tuple #[.int .i64 (Lib.intSat 64 s.data.toList), .iface 127 (.pointer (some ⟨N,0,none⟩))])∧w.heap.size≤N∧w'.heap[N]?=some (.cells #[.string ⟨#[80,97,114,115,101,73,110,116]⟩, .string s,ev] 144 (0,0))∧Below w.heap.size w w':=Any.strconv_ParseInt_10_at64_range Tryz.laysC174 s hlim h ev w hv hev
def Tryz.lays146_ren:Go.Shelf.Ren:=⟨fun|146=>41|221=>63|268=>73|138=>74|143=>75|195=>83|197=>84|218=>85|219=>86|260=>99|217=>81|225=>100|224=>101|267=>102|266=>98|314=>113|n=>n,fun|9=>9|31=>76|3=>3|4=>4|0=>0|105=>122|21=>21|5=>5|46=>115|119=>152|139=>155|138=>154|146=>156|51=>148|n=>n,fun|1=>0|3=>4|4=>5|n=>n⟩
theorem Tryz.lays146:Go.Proofs.Lays.n146 Tryz.prog Tryz.lays146_ren:={
 mixed:=by kernel_rfl
 f138:=Tryz.func74.trans (congrArg some (by kernel_rfl))
 f143:=Tryz.func75.trans (congrArg some (by kernel_rfl))
 f146:=Tryz.func41.trans (congrArg some (by kernel_rfl))
 f195:=Tryz.func83.trans (congrArg some (by kernel_rfl))
 f197:=Tryz.func84.trans (congrArg some (by kernel_rfl))
 f217:=Tryz.func81.trans (congrArg some (by kernel_rfl))
 f218:=Tryz.func85.trans (congrArg some (by kernel_rfl))
 f219:=Tryz.func86.trans (congrArg some (by kernel_rfl))
 f221:=Tryz.func63.trans (congrArg some (by kernel_rfl))
 f224:=Tryz.func101.trans (congrArg some (by kernel_rfl))
 f225:=Tryz.func100.trans (congrArg some (by kernel_rfl))
 f260:=Tryz.func99.trans (congrArg some (by kernel_rfl))
 f266:=Tryz.func98.trans (congrArg some (by kernel_rfl))
 f267:=Tryz.func102.trans (congrArg some (by kernel_rfl))
 f268:=Tryz.func73.trans (congrArg some (by kernel_rfl))
 f314:=Tryz.func113.trans (congrArg some (by kernel_rfl))
 t0:=Tryz.underlying0
 a0:=Tryz.isAgg0
 z0:=Tryz.sizeOf0
 v0:=Tryz.zeroValue0
 t3:=Tryz.underlying3
 a3:=Tryz.isAgg3
 z3:=Tryz.sizeOf3
 v3:=Tryz.zeroValue3
 t4:=Tryz.underlying4
 a4:=Tryz.isAgg4
 z4:=Tryz.sizeOf4
 v4:=Tryz.zeroValue4
 t5:=Tryz.underlying5
 a5:=Tryz.isAgg5
 z5:=Tryz.sizeOf5
 v5:=Tryz.zeroValue5
 t9:=Tryz.underlying9
 a9:=Tryz.isAgg9
 z9:=Tryz.sizeOf9
 v9:=Tryz.zeroValue9
 t21:=Tryz.underlying21
 a21:=Tryz.isAgg21
 z21:=Tryz.sizeOf21
 v21:=Tryz.zeroValue21
 t31:=Tryz.underlying76
 a31:=Tryz.isAgg76
 z31:=Tryz.sizeOf76
 v31:=Tryz.zeroValue76
 t46:=Tryz.underlying115
 a46:=Tryz.isAgg115
 z46:=Tryz.sizeOf115
 v46:=Tryz.zeroValue115
 t51:=Tryz.underlying148
 a51:=Tryz.isAgg148
 z51:=Tryz.sizeOf148
 v51:=Tryz.zeroValue148
 t105:=Tryz.underlying122
 a105:=Tryz.isAgg122
 z105:=Tryz.sizeOf122
 v105:=Tryz.zeroValue122
 t119:=Tryz.underlying152
 a119:=Tryz.isAgg152
 z119:=Tryz.sizeOf152
 t138:=Tryz.underlying154
 a138:=Tryz.isAgg154
 z138:=Tryz.sizeOf154
 v138:=Tryz.zeroValue154
 t139:=Tryz.underlying155
 a139:=Tryz.isAgg155
 z139:=Tryz.sizeOf155
 v139:=Tryz.zeroValue155
 t146:=Tryz.underlying156
 a146:=Tryz.isAgg156
 z146:=Tryz.sizeOf156
 v146:=Tryz.zeroValue156
 g1:=by kernel_rfl
 g3:=by kernel_rfl
 g4:=by kernel_rfl }
open Go.RowKit Go.Lib in
theorem Tryz.strings_Split (s sep:ByteArray) (m:Int) (w:World) (hs:s.size< 4294967281) (hm:w.cell? ⟨0,0,none⟩=some (.int .i64 m)) (h1:1≤sep.size):
 Calls Tryz.prog 41 #[.string s, .string sep] w fun e w'=>
  e= .returned (.slice (some ⟨w.heap.size,0,none⟩) (Lib.countB s sep+1) (Lib.countB s sep+1))∧w'=w.alloc (.cells ((Lib.splitB sep 0 (Lib.countB s sep) s).map Value.string).toArray 9):=Any.strings_Split Tryz.lays146 (by kernel_rfl) s sep m w hs hm h1
end Go.Proofs
