import Derived.Shelf.Strings.Builder1
import Derived.Shelf.Strings.Builder2
import Derived.Shelf.Strings.OnBuilder
import Derived.Shelf.Small.Bits
import Derived.Shelf.Strings.BuilderF
import Derived.Shelf.Strings.BuilderK
import Derived.Shelf.Utf8.RuneCount
import Derived.Shelf.Strings.Builder2Cap
import Derived.Shelf.Strconv.Itoa0
import Derived.Shelf.Strconv.Itoa1
import Derived.Shelf.LaysM
import Derived.Shelf.Strconv.Itoa2
import Derived.Shelf.Strconv.Itoa3
import Derived.Shelf.Strconv.Itoa4
import Derived.Shelf.Strconv.ParseIntEmpty
import Derived.Shelf.Strconv.Clone
import Derived.Shelf.Strconv.SyntaxError
import Derived.Shelf.LaysC
import Derived.Shelf.Strconv.ToError
import Derived.Shelf.Strconv.Lower
import Derived.Shelf.Strconv.ParseUint10
import Derived.Shelf.Strconv.ParseUint10Empty
import Derived.Shelf.Strconv.ParseUint10Any
import Derived.Shelf.Strconv.ParseInt10
import Derived.Shelf.Strconv.RangeError
import Derived.Shelf.Strconv.ToErrorRange
import Derived.Shelf.Strconv.ParseUintEmpty
import Derived.Shelf.Strconv.ParseUint10b64
import Derived.Shelf.Strconv.ParseUint10b32
import Derived.Shelf.Strconv.ParseUint10b16
import Derived.Shelf.Strconv.ParseUint10b8
import Derived.Shelf.Strconv.ParseUint10At
import Derived.Shelf.Strconv.ParseInt10At64
import Derived.Shelf.Strconv.ParseInt10At32
import Derived.Shelf.Strconv.ParseInt10At16
import Derived.Shelf.Strconv.ParseInt10At8
import Derived.Shelf.Strconv.ParseInt10All
import Derived.Shelf.Strconv.ParseIntPublic10
import Derived.Shelf.Strconv.ErrVarParseInt
import Derived.Shelf.Strings.Search1
import Derived.Shelf.Strings.Search2
import Derived.Shelf.Strings.Search3
import Derived.Shelf.Strings.Cut
import Derived.Shelf.Strings.Count
import Derived.Shelf.Strings.Shaped
import Derived.Shelf.Strings.Split
import Derived.Shelf.Strings.SplitShaped
import Derived.Shelf.Unicode.Decode
import Derived.Shelf.Strings.RuneCount
import Derived.Shelf.Strings.Explode
import Derived.Shelf.Unicode.DecodeSlow
import Derived.Shelf.Unicode.DecodeAny
import Derived.Shelf.Strings.BuilderCap
import Derived.Test.YtgoninfjneepfaaGreatDoorProg
namespace Go.Proofs
open Go.Shelf
def Tryz.lays156_ren:Go.Shelf.Ren:=⟨fun|156=>31|165=>54|166=>55|169=>56|240=>70|241=>71|276=>85|277=>86|n=>n,fun|31=>58|9=>9|3=>3|4=>4|0=>0|20=>20|72=>89|76=>93|70=>87|37=>22|75=>92|127=>109|164=>124|5=>5|80=>95|n=>n,fun|n=>n⟩
theorem Tryz.lays156:Go.Proofs.Lays.n156 Tryz.prog Tryz.lays156_ren:={
 mixed:=by kernel_rfl
 f156:=Tryz.func31.trans (congrArg some (by kernel_rfl))
 f165:=Tryz.func54.trans (congrArg some (by kernel_rfl))
 f166:=Tryz.func55.trans (congrArg some (by kernel_rfl))
 f169:=Tryz.func56.trans (congrArg some (by kernel_rfl))
 f240:=Tryz.func70.trans (congrArg some (by kernel_rfl))
 f241:=Tryz.func71.trans (congrArg some (by kernel_rfl))
 f276:=Tryz.func85.trans (congrArg some (by kernel_rfl))
 f277:=Tryz.func86.trans (congrArg some (by kernel_rfl))
 t0:=Tryz.underlying0
 a0:=Tryz.isAgg0
 z0:=Tryz.sizeOf0
 v0:=Tryz.zeroValue0
 t3:=Tryz.underlying3
 a3:=Tryz.isAgg3
 z3:=Tryz.sizeOf3
 v3:=Tryz.zeroValue3
 t4:=Tryz.underlying4
 a4:=Tryz.isAgg4
 z4:=Tryz.sizeOf4
 v4:=Tryz.zeroValue4
 t9:=Tryz.underlying9
 a9:=Tryz.isAgg9
 z9:=Tryz.sizeOf9
 v9:=Tryz.zeroValue9
 t20:=Tryz.underlying20
 a20:=Tryz.isAgg20
 z20:=Tryz.sizeOf20
 v20:=Tryz.zeroValue20
 t31:=Tryz.underlying58
 a31:=Tryz.isAgg58
 z31:=Tryz.sizeOf58
 v31:=Tryz.zeroValue58
 t37:=Tryz.underlying22
 a37:=Tryz.isAgg22
 z37:=Tryz.sizeOf22
 v37:=Tryz.zeroValue22
 t70:=Tryz.underlying87
 a70:=Tryz.isAgg87
 z70:=Tryz.sizeOf87
 v70:=Tryz.zeroValue87
 t72:=Tryz.underlying89
 a72:=Tryz.isAgg89
 z72:=Tryz.sizeOf89
 v72:=Tryz.zeroValue89
 t75:=Tryz.underlying92
 a75:=Tryz.isAgg92
 z75:=Tryz.sizeOf92
 v75:=Tryz.zeroValue92
 t76:=Tryz.underlying93
 a76:=Tryz.isAgg93
 z76:=Tryz.sizeOf93
 v76:=Tryz.zeroValue93
 t127:=Tryz.underlying109
 a127:=Tryz.isAgg109
 z127:=Tryz.sizeOf109
 v127:=Tryz.zeroValue109
 t164:=Tryz.underlying124
 a164:=Tryz.isAgg124
 z164:=Tryz.sizeOf124
 v164:=Tryz.zeroValue124 }
theorem Tryz.Builder_Extra_156:Builder.Extra Tryz.prog Tryz.lays156_ren:={
 sizeBuilder:=by kernel_rfl
 liesBuilder:=by kernel_rfl
 t5:=Tryz.underlying5
 a5:=Tryz.isAgg5
 z5:=Tryz.sizeOf5
 v5:=Tryz.zeroValue5
 infoByte:=by kernel_rfl
 cellsByte:=by kernel_rfl
 sizeByte:=by kernel_rfl
 neB5:=by decide }
open Go.RowKit in
theorem Tryz.strings_Join_none (a:Option Addr) (c:Nat) (sep:ByteArray) (w:World):
 Calls Tryz.prog 31 #[.slice a 0 c, .string sep] w fun e w'=>e= .returned (.string ⟨#[]⟩)∧w'=w:=Any.strings_Join_none Tryz.lays156 Tryz.Builder_Extra_156 a c sep w
open Go.RowKit in
theorem Tryz.strings_Join (bk o c:Nat) (xs:List ByteArray) (sep:ByteArray) (w:World) (hcells:∀ (j:Nat) x,xs[j]?=some x→w.cell? ⟨bk,o+j,none⟩=some (.string x)) (hbk:bk< w.heap.size) (hN:xs.length≤140737488355328) (hcap:xs.length≤c) (hlen:(Lib.join (xs.map (·.data.toList)) sep.data.toList).length≤140737488355328):
 Calls Tryz.prog 31 #[.slice (some ⟨bk,o,none⟩) xs.length c, .string sep] w fun e w'=>e= .returned (.string ⟨(Lib.join (xs.map (·.data.toList)) sep.data.toList).toArray⟩)∧Below w.heap.size w w':=Any.strings_Join Tryz.lays156 Tryz.Builder_Extra_156 bk o c xs sep w hcells hbk hN hcap hlen
def Tryz.lays135_ren:Go.Shelf.Ren:=⟨fun|135=>75|n=>n,fun|5=>5|3=>3|9=>9|n=>n,fun|n=>n⟩
theorem Tryz.lays135:Go.Proofs.Lays.n135 Tryz.prog Tryz.lays135_ren:={
 mixed:=by kernel_rfl
 f135:=Tryz.func75.trans (congrArg some (by kernel_rfl))
 t3:=Tryz.underlying3
 a3:=Tryz.isAgg3
 z3:=Tryz.sizeOf3
 v3:=Tryz.zeroValue3
 t5:=Tryz.underlying5
 a5:=Tryz.isAgg5
 z5:=Tryz.sizeOf5
 v5:=Tryz.zeroValue5
 t9:=Tryz.underlying9
 a9:=Tryz.isAgg9
 z9:=Tryz.sizeOf9
 v9:=Tryz.zeroValue9 }
theorem Tryz.bits_OnesCount8 (x:Int) (w:World) (h0:0≤x) (h1:x≤255):
 Calls Tryz.prog 75 #[.int .u8 x] w fun e w'=>e= .returned (.int .i64 (Lib.onesCount x.toNat))∧w'=w:=Any.bits_OnesCount8 Tryz.lays135 x w h0 h1
def Tryz.laysM173_ren:Go.Shelf.Ren:=⟨fun|173=>72|246=>87|283=>98|284=>99|285=>100|286=>101|129=>110|317=>109|318=>111|319=>112|320=>113|337=>115|338=>116|n=>n,fun|2=>2|3=>3|9=>9|4=>4|171=>135|0=>0|53=>79|37=>22|5=>5|173=>138|212=>154|51=>140|20=>20|213=>155|46=>32|232=>162|233=>163|n=>n,fun|17=>5|18=>6|19=>7|n=>n⟩
theorem Tryz.laysM173:Go.Proofs.LaysM.n173 Tryz.prog Tryz.laysM173_ren:={
 mixed:=by kernel_rfl
 f129:=Tryz.func110.trans (congrArg some (by kernel_rfl))
 f173:=Tryz.func72.trans (congrArg some (by kernel_rfl))
 f246:=Tryz.func87.trans (congrArg some (by kernel_rfl))
 f283:=Tryz.func98.trans (congrArg some (by kernel_rfl))
 f284:=Tryz.func99.trans (congrArg some (by kernel_rfl))
 f285:=Tryz.func100.trans (congrArg some (by kernel_rfl))
 f286:=Tryz.func101.trans (congrArg some (by kernel_rfl))
 f317:=Tryz.func109.trans (congrArg some (by kernel_rfl))
 f318:=Tryz.func111.trans (congrArg some (by kernel_rfl))
 f319:=Tryz.func112.trans (congrArg some (by kernel_rfl))
 f320:=Tryz.func113.trans (congrArg some (by kernel_rfl))
 f337:=Tryz.func115.trans (congrArg some (by kernel_rfl))
 f338:=Tryz.func116.trans (congrArg some (by kernel_rfl))
 t0:=Tryz.underlying0
 a0:=Tryz.isAgg0
 z0:=Tryz.sizeOf0
 v0:=Tryz.zeroValue0
 t2:=Tryz.underlying2
 a2:=Tryz.isAgg2
 z2:=Tryz.sizeOf2
 v2:=Tryz.zeroValue2
 t3:=Tryz.underlying3
 a3:=Tryz.isAgg3
 z3:=Tryz.sizeOf3
 v3:=Tryz.zeroValue3
 t4:=Tryz.underlying4
 a4:=Tryz.isAgg4
 z4:=Tryz.sizeOf4
 v4:=Tryz.zeroValue4
 t5:=Tryz.underlying5
 a5:=Tryz.isAgg5
 z5:=Tryz.sizeOf5
 v5:=Tryz.zeroValue5
 t9:=Tryz.underlying9
 a9:=Tryz.isAgg9
 z9:=Tryz.sizeOf9
 v9:=Tryz.zeroValue9
 t20:=Tryz.underlying20
 a20:=Tryz.isAgg20
 z20:=Tryz.sizeOf20
 v20:=Tryz.zeroValue20
 t37:=Tryz.underlying22
 a37:=Tryz.isAgg22
 z37:=Tryz.sizeOf22
 v37:=Tryz.zeroValue22
 t46:=Tryz.underlying32
 a46:=Tryz.isAgg32
 z46:=Tryz.sizeOf32
 v46:=Tryz.zeroValue32
 t51:=Tryz.underlying140
 a51:=Tryz.isAgg140
 z51:=Tryz.sizeOf140
 v51:=Tryz.zeroValue140
 t53:=Tryz.underlying79
 a53:=Tryz.isAgg79
 z53:=Tryz.sizeOf79
 v53:=Tryz.zeroValue79
 t171:=Tryz.underlying135
 a171:=Tryz.isAgg135
 z171:=Tryz.sizeOf135
 v171:=Tryz.zeroValue135
 t173:=Tryz.underlying138
 a173:=Tryz.isAgg138
 z173:=Tryz.sizeOf138
 v173:=Tryz.zeroValue138
 t212:=Tryz.underlying154
 a212:=Tryz.isAgg154
 z212:=Tryz.sizeOf154
 v212:=Tryz.zeroValue154
 t213:=Tryz.underlying155
 a213:=Tryz.isAgg155
 z213:=Tryz.sizeOf155
 t232:=Tryz.underlying162
 a232:=Tryz.isAgg162
 z232:=Tryz.sizeOf162
 v232:=Tryz.zeroValue162
 t233:=Tryz.underlying163
 a233:=Tryz.isAgg163
 z233:=Tryz.sizeOf163
 v233:=Tryz.zeroValue163
 g17:=by kernel_rfl
 g18:=by kernel_rfl
 g19:=by kernel_rfl
 i0:=by kernel_rfl
 i2:=by kernel_rfl
 i3:=by kernel_rfl
 i4:=by kernel_rfl
 i5:=by kernel_rfl
 i9:=by kernel_rfl
 i20:=by kernel_rfl
 i37:=by kernel_rfl
 i46:=by kernel_rfl
 i51:=by kernel_rfl
 i53:=by kernel_rfl
 i171:=by kernel_rfl
 i173:=by kernel_rfl
 i212:=by kernel_rfl
 i232:=by kernel_rfl
 i233:=by kernel_rfl
 m17:=by kernel_rfl
 m18:=by kernel_rfl
 m19:=by kernel_rfl }
open Go.RowKit Go.Sort Go.Lib in
theorem Tryz.strconv_FormatInt_10 (n : Int) (h0 : -9223372036854775808 ≤ n) (h1 : n ≤ 9223372036854775807) (w : World) (htab : Lib.TabIs Tryz.prog w "internal/strconv.uint64pow10" .u64 Lib.pow10Tab) :
 Calls Tryz.prog 72 #[.int .i64 n, .int .i64 10] w fun e w'=>e= .returned (.string ⟨(Lib.itoa n).toArray⟩)∧∃ k os,w'=grow (w.drewN k) os:=Any.strconv_FormatInt_10 Tryz.laysM173 n h0 h1 w htab
def Tryz.laysC174_ren:Go.Shelf.Ren:=⟨fun|174=>66|247=>80|245=>81|287=>92|279=>93|280=>94|281=>95|282=>96|321=>104|322=>105|316=>106|171=>108|205=>107|243=>114|246=>87|283=>98|284=>99|285=>100|286=>101|129=>110|317=>109|318=>111|319=>112|320=>113|337=>115|338=>116|n=>n,fun|9=>9|3=>3|2=>2|75=>92|85=>105|4=>4|167=>128|5=>5|53=>79|175=>129|46=>32|168=>131|37=>22|0=>0|210=>147|21=>21|127=>109|145=>160|143=>158|171=>135|173=>138|212=>154|51=>140|20=>20|213=>155|232=>162|233=>163|80=>95|n=>n,fun|15=>1|16=>2|17=>5|18=>6|19=>7|n=>n⟩
theorem Tryz.laysC174:Go.Proofs.LaysC.n174 Tryz.prog Tryz.laysC174_ren:={
 mixed:=by kernel_rfl
 f129:=Tryz.func110.trans (congrArg some (by kernel_rfl))
 f171:=Tryz.func108.trans (congrArg some (by kernel_rfl))
 f174:=Tryz.func66.trans (congrArg some (by kernel_rfl))
 f205:=Tryz.func107.trans (congrArg some (by kernel_rfl))
 f243:=Tryz.func114.trans (congrArg some (by kernel_rfl))
 f245:=Tryz.func81.trans (congrArg some (by kernel_rfl))
 f246:=Tryz.func87.trans (congrArg some (by kernel_rfl))
 f247:=Tryz.func80.trans (congrArg some (by kernel_rfl))
 f279:=Tryz.func93.trans (congrArg some (by kernel_rfl))
 f280:=Tryz.func94.trans (congrArg some (by kernel_rfl))
 f281:=Tryz.func95.trans (congrArg some (by kernel_rfl))
 f282:=Tryz.func96.trans (congrArg some (by kernel_rfl))
 f283:=Tryz.func98.trans (congrArg some (by kernel_rfl))
 f284:=Tryz.func99.trans (congrArg some (by kernel_rfl))
 f285:=Tryz.func100.trans (congrArg some (by kernel_rfl))
 f286:=Tryz.func101.trans (congrArg some (by kernel_rfl))
 f287:=Tryz.func92.trans (congrArg some (by kernel_rfl))
 f316:=Tryz.func106.trans (congrArg some (by kernel_rfl))
 f317:=Tryz.func109.trans (congrArg some (by kernel_rfl))
 f318:=Tryz.func111.trans (congrArg some (by kernel_rfl))
 f319:=Tryz.func112.trans (congrArg some (by kernel_rfl))
 f320:=Tryz.func113.trans (congrArg some (by kernel_rfl))
 f321:=Tryz.func104.trans (congrArg some (by kernel_rfl))
 f322:=Tryz.func105.trans (congrArg some (by kernel_rfl))
 f337:=Tryz.func115.trans (congrArg some (by kernel_rfl))
 f338:=Tryz.func116.trans (congrArg some (by kernel_rfl))
 t0:=Tryz.underlying0
 a0:=Tryz.isAgg0
 z0:=Tryz.sizeOf0
 v0:=Tryz.zeroValue0
 t2:=Tryz.underlying2
 a2:=Tryz.isAgg2
 z2:=Tryz.sizeOf2
 v2:=Tryz.zeroValue2
 t3:=Tryz.underlying3
 a3:=Tryz.isAgg3
 z3:=Tryz.sizeOf3
 v3:=Tryz.zeroValue3
 t4:=Tryz.underlying4
 a4:=Tryz.isAgg4
 z4:=Tryz.sizeOf4
 v4:=Tryz.zeroValue4
 t5:=Tryz.underlying5
 a5:=Tryz.isAgg5
 z5:=Tryz.sizeOf5
 v5:=Tryz.zeroValue5
 t9:=Tryz.underlying9
 a9:=Tryz.isAgg9
 z9:=Tryz.sizeOf9
 v9:=Tryz.zeroValue9
 t20:=Tryz.underlying20
 a20:=Tryz.isAgg20
 z20:=Tryz.sizeOf20
 v20:=Tryz.zeroValue20
 t21:=Tryz.underlying21
 a21:=Tryz.isAgg21
 z21:=Tryz.sizeOf21
 v21:=Tryz.zeroValue21
 t37:=Tryz.underlying22
 a37:=Tryz.isAgg22
 z37:=Tryz.sizeOf22
 v37:=Tryz.zeroValue22
 t46:=Tryz.underlying32
 a46:=Tryz.isAgg32
 z46:=Tryz.sizeOf32
 v46:=Tryz.zeroValue32
 t51:=Tryz.underlying140
 a51:=Tryz.isAgg140
 z51:=Tryz.sizeOf140
 v51:=Tryz.zeroValue140
 t53:=Tryz.underlying79
 a53:=Tryz.isAgg79
 z53:=Tryz.sizeOf79
 v53:=Tryz.zeroValue79
 t75:=Tryz.underlying92
 a75:=Tryz.isAgg92
 z75:=Tryz.sizeOf92
 v75:=Tryz.zeroValue92
 t85:=Tryz.underlying105
 a85:=Tryz.isAgg105
 z85:=Tryz.sizeOf105
 v85:=Tryz.zeroValue105
 t127:=Tryz.underlying109
 a127:=Tryz.isAgg109
 z127:=Tryz.sizeOf109
 v127:=Tryz.zeroValue109
 t143:=Tryz.underlying158
 a143:=Tryz.isAgg158
 z143:=Tryz.sizeOf158
 v143:=Tryz.zeroValue158
 t145:=Tryz.underlying160
 a145:=Tryz.isAgg160
 z145:=Tryz.sizeOf160
 v145:=Tryz.zeroValue160
 t167:=Tryz.underlying128
 a167:=Tryz.isAgg128
 z167:=Tryz.sizeOf128
 v167:=Tryz.zeroValue128
 t168:=Tryz.underlying131
 a168:=Tryz.isAgg131
 z168:=Tryz.sizeOf131
 v168:=Tryz.zeroValue131
 t171:=Tryz.underlying135
 a171:=Tryz.isAgg135
 z171:=Tryz.sizeOf135
 v171:=Tryz.zeroValue135
 t173:=Tryz.underlying138
 a173:=Tryz.isAgg138
 z173:=Tryz.sizeOf138
 v173:=Tryz.zeroValue138
 t175:=Tryz.underlying129
 a175:=Tryz.isAgg129
 z175:=Tryz.sizeOf129
 v175:=Tryz.zeroValue129
 t210:=Tryz.underlying147
 a210:=Tryz.isAgg147
 z210:=Tryz.sizeOf147
 v210:=Tryz.zeroValue147
 t212:=Tryz.underlying154
 a212:=Tryz.isAgg154
 z212:=Tryz.sizeOf154
 v212:=Tryz.zeroValue154
 t213:=Tryz.underlying155
 a213:=Tryz.isAgg155
 z213:=Tryz.sizeOf155
 t232:=Tryz.underlying162
 a232:=Tryz.isAgg162
 z232:=Tryz.sizeOf162
 v232:=Tryz.zeroValue162
 t233:=Tryz.underlying163
 a233:=Tryz.isAgg163
 z233:=Tryz.sizeOf163
 v233:=Tryz.zeroValue163
 g15:=by kernel_rfl
 g16:=by kernel_rfl
 g17:=by kernel_rfl
 g18:=by kernel_rfl
 g19:=by kernel_rfl
 t80:=Tryz.underlying95
 a80:=Tryz.isAgg95
 z80:=Tryz.sizeOf95
 v80:=Tryz.zeroValue95
 i0:=by kernel_rfl
 i2:=by kernel_rfl
 i3:=by kernel_rfl
 i4:=by kernel_rfl
 i5:=by kernel_rfl
 i9:=by kernel_rfl
 i20:=by kernel_rfl
 i21:=by kernel_rfl
 i37:=by kernel_rfl
 i46:=by kernel_rfl
 i51:=by kernel_rfl
 i53:=by kernel_rfl
 i75:=by kernel_rfl
 i80:=by kernel_rfl
 i85:=by kernel_rfl
 i127:=by kernel_rfl
 i143:=by kernel_rfl
 i145:=by kernel_rfl
 i167:=by kernel_rfl
 i168:=by kernel_rfl
 i171:=by kernel_rfl
 i173:=by kernel_rfl
 i175:=by kernel_rfl
 i210:=by kernel_rfl
 i212:=by kernel_rfl
 i232:=by kernel_rfl
 i233:=by kernel_rfl
 m15:=by kernel_rfl
 m16:=by kernel_rfl
 m17:=by kernel_rfl
 m18:=by kernel_rfl
 m19:=by kernel_rfl
 c0:=by kernel_rfl
 c2:=by kernel_rfl
 c3:=by kernel_rfl
 c4:=by kernel_rfl
 c5:=by kernel_rfl
 c9:=by kernel_rfl
 c20:=by kernel_rfl
 c21:=by kernel_rfl
 c37:=by kernel_rfl
 c46:=by kernel_rfl
 c51:=by kernel_rfl
 c53:=by kernel_rfl
 c75:=by kernel_rfl
 c80:=by kernel_rfl
 c85:=by kernel_rfl
 c127:=by kernel_rfl
 c143:=by kernel_rfl
 c145:=by kernel_rfl
 c167:=by kernel_rfl
 c168:=by kernel_rfl
 c171:=by kernel_rfl
 c173:=by kernel_rfl
 c175:=by kernel_rfl
 c210:=by kernel_rfl
 c212:=by kernel_rfl
 c213:=by kernel_rfl
 c232:=by kernel_rfl
 c233:=by kernel_rfl }
open Go.RowKit in
theorem Tryz.strconv_ParseInt_10_at64_ok (s:ByteArray) (hmax:s.size≤9223372036854775806) (v:Int) (h:Lib.parseIntB 64 s.data.toList= .ok v) (w:World):
 Calls Tryz.prog 66 #[.string s, .int .i64 10, .int .i64 64] w fun e w'=>e= .returned (.tuple #[.int .i64 v, .nilIface])∧(w'=w∨∃ t,w'=Lib.bytesWorld w 5 t):=Any.strconv_ParseInt_10_at64_ok Tryz.laysC174 s hmax v h w
open Go.RowKit in
theorem Tryz.QbO (s:ByteArray) (hlim:s.size≤281474976710656) (h1:∀ v,Lib.parseIntB 64 s.data.toList≠ .ok v) (h2:Lib.parseIntB 64 s.data.toList≠ .range) (ev:Value) (w:World) (hv:w.cell? ⟨1,0,none⟩=some ev) (hev:ev= .nilIface∨∃ te pe,ev= .iface te pe):
 Calls Tryz.prog 66 #[.string s, .int .i64 10, .int .i64 64] w fun e w'=>∃ N,e= .returned (.tuple #[.int .i64 (0), .iface 131 (.pointer (some ⟨N,0,none⟩))])∧w.heap.size≤N∧w'.heap[N]?=some (.cells #[.string ⟨#[80,97,114,115,101,73,110,116]⟩, .string s,ev] 147 (0,0))∧Below w.heap.size w w':=Any.strconv_ParseInt_10_at64_syntax Tryz.laysC174 s hlim (by
 cases hp:Lib.parseIntB 64 s.data.toList with
 |ok v=>exact absurd hp (h1 v)
 |range=>exact absurd hp h2
 |_=>rfl) ev w hv hev
open Go.RowKit in
theorem Tryz.strconv_ParseInt_10_at64_range (s:ByteArray) (hlim:s.size≤281474976710656) (h:Lib.parseIntB 64 s.data.toList= .range) (ev:Value) (w:World) (hv:w.cell? ⟨2,0,none⟩=some ev) (hev:ev= .nilIface∨∃ te pe,ev= .iface te pe):
 Calls Tryz.prog 66 #[.string s, .int .i64 10, .int .i64 64] w fun e w'=>∃ N,e= .returned (.tuple #[.int .i64 (Lib.intSat 64 s.data.toList), .iface 131 (.pointer (some ⟨N,0,none⟩))])∧w.heap.size≤N∧w'.heap[N]?=some (.cells #[.string ⟨#[80,97,114,115,101,73,110,116]⟩, .string s,ev] 147 (0,0))∧Below w.heap.size w w':=Any.strconv_ParseInt_10_at64_range Tryz.laysC174 s hlim h ev w hv hev
def Tryz.lays145_ren:Go.Shelf.Ren:=⟨fun|145=>51|220=>65|219=>79|217=>88|225=>89|224=>90|267=>91|266=>102|314=>103|n=>n,fun|9=>9|4=>4|59=>82|3=>3|5=>5|46=>32|146=>141|51=>140|n=>n,fun|1=>0|n=>n⟩
theorem Tryz.lays145:Go.Proofs.Lays.n145 Tryz.prog Tryz.lays145_ren:={
 mixed:=by kernel_rfl
 f145:=Tryz.func51.trans (congrArg some (by kernel_rfl))
 f217:=Tryz.func88.trans (congrArg some (by kernel_rfl))
 f219:=Tryz.func79.trans (congrArg some (by kernel_rfl))
 f220:=Tryz.func65.trans (congrArg some (by kernel_rfl))
 f224:=Tryz.func90.trans (congrArg some (by kernel_rfl))
 f225:=Tryz.func89.trans (congrArg some (by kernel_rfl))
 f266:=Tryz.func102.trans (congrArg some (by kernel_rfl))
 f267:=Tryz.func91.trans (congrArg some (by kernel_rfl))
 f314:=Tryz.func103.trans (congrArg some (by kernel_rfl))
 t3:=Tryz.underlying3
 a3:=Tryz.isAgg3
 z3:=Tryz.sizeOf3
 v3:=Tryz.zeroValue3
 t4:=Tryz.underlying4
 a4:=Tryz.isAgg4
 z4:=Tryz.sizeOf4
 v4:=Tryz.zeroValue4
 t5:=Tryz.underlying5
 a5:=Tryz.isAgg5
 z5:=Tryz.sizeOf5
 v5:=Tryz.zeroValue5
 t9:=Tryz.underlying9
 a9:=Tryz.isAgg9
 z9:=Tryz.sizeOf9
 v9:=Tryz.zeroValue9
 t46:=Tryz.underlying32
 a46:=Tryz.isAgg32
 z46:=Tryz.sizeOf32
 v46:=Tryz.zeroValue32
 t51:=Tryz.underlying140
 a51:=Tryz.isAgg140
 z51:=Tryz.sizeOf140
 v51:=Tryz.zeroValue140
 t59:=Tryz.underlying82
 a59:=Tryz.isAgg82
 z59:=Tryz.sizeOf82
 v59:=Tryz.zeroValue82
 t146:=Tryz.underlying141
 a146:=Tryz.isAgg141
 z146:=Tryz.sizeOf141
 v146:=Tryz.zeroValue141
 g1:=by kernel_rfl }
open Go.RowKit Go.Lib in
theorem Tryz.strings_Cut (s sep:ByteArray) (m:Int) (w:World) (hs:s.size< 4294967281) (hm:w.cell? ⟨0,0,none⟩=some (.int .i64 m)):
 Calls Tryz.prog 51 #[.string s, .string sep] w fun e w'=>e= .returned (.tuple #[.string ⟨(Lib.cut s.data.toList sep.data.toList).1.toArray⟩, .string ⟨(Lib.cut s.data.toList sep.data.toList).2.1.toArray⟩, .bool (Lib.cut s.data.toList sep.data.toList).2.2])∧∃ n,w'=w.drewN n:=Any.strings_Cut Tryz.lays145 s sep m w hs hm
def Tryz.lays146_ren:Go.Shelf.Ren:=⟨fun|146=>30|221=>53|268=>67|138=>68|143=>69|195=>82|197=>83|218=>84|219=>79|260=>97|217=>88|225=>89|224=>90|267=>91|266=>102|314=>103|n=>n,fun|9=>9|31=>58|3=>3|4=>4|0=>0|105=>121|21=>21|5=>5|46=>32|119=>149|139=>152|138=>151|146=>141|51=>140|n=>n,fun|1=>0|3=>3|4=>4|n=>n⟩
theorem Tryz.lays146:Go.Proofs.Lays.n146 Tryz.prog Tryz.lays146_ren:={
 mixed:=by kernel_rfl
 f138:=Tryz.func68.trans (congrArg some (by kernel_rfl))
 f143:=Tryz.func69.trans (congrArg some (by kernel_rfl))
 f146:=Tryz.func30.trans (congrArg some (by kernel_rfl))
 f195:=Tryz.func82.trans (congrArg some (by kernel_rfl))
 f197:=Tryz.func83.trans (congrArg some (by kernel_rfl))
 f217:=Tryz.func88.trans (congrArg some (by kernel_rfl))
 f218:=Tryz.func84.trans (congrArg some (by kernel_rfl))
 f219:=Tryz.func79.trans (congrArg some (by kernel_rfl))
 f221:=Tryz.func53.trans (congrArg some (by kernel_rfl))
 f224:=Tryz.func90.trans (congrArg some (by kernel_rfl))
 f225:=Tryz.func89.trans (congrArg some (by kernel_rfl))
 f260:=Tryz.func97.trans (congrArg some (by kernel_rfl))
 f266:=Tryz.func102.trans (congrArg some (by kernel_rfl))
 f267:=Tryz.func91.trans (congrArg some (by kernel_rfl))
 f268:=Tryz.func67.trans (congrArg some (by kernel_rfl))
 f314:=Tryz.func103.trans (congrArg some (by kernel_rfl))
 t0:=Tryz.underlying0
 a0:=Tryz.isAgg0
 z0:=Tryz.sizeOf0
 v0:=Tryz.zeroValue0
 t3:=Tryz.underlying3
 a3:=Tryz.isAgg3
 z3:=Tryz.sizeOf3
 v3:=Tryz.zeroValue3
 t4:=Tryz.underlying4
 a4:=Tryz.isAgg4
 z4:=Tryz.sizeOf4
 v4:=Tryz.zeroValue4
 t5:=Tryz.underlying5
 a5:=Tryz.isAgg5
 z5:=Tryz.sizeOf5
 v5:=Tryz.zeroValue5
 t9:=Tryz.underlying9
 a9:=Tryz.isAgg9
 z9:=Tryz.sizeOf9
 v9:=Tryz.zeroValue9
 t21:=Tryz.underlying21
 a21:=Tryz.isAgg21
 z21:=Tryz.sizeOf21
 v21:=Tryz.zeroValue21
 t31:=Tryz.underlying58
 a31:=Tryz.isAgg58
 z31:=Tryz.sizeOf58
 v31:=Tryz.zeroValue58
 t46:=Tryz.underlying32
 a46:=Tryz.isAgg32
 z46:=Tryz.sizeOf32
 v46:=Tryz.zeroValue32
 t51:=Tryz.underlying140
 a51:=Tryz.isAgg140
 z51:=Tryz.sizeOf140
 v51:=Tryz.zeroValue140
 t105:=Tryz.underlying121
 a105:=Tryz.isAgg121
 z105:=Tryz.sizeOf121
 v105:=Tryz.zeroValue121
 t119:=Tryz.underlying149
 a119:=Tryz.isAgg149
 z119:=Tryz.sizeOf149
 t138:=Tryz.underlying151
 a138:=Tryz.isAgg151
 z138:=Tryz.sizeOf151
 v138:=Tryz.zeroValue151
 t139:=Tryz.underlying152
 a139:=Tryz.isAgg152
 z139:=Tryz.sizeOf152
 v139:=Tryz.zeroValue152
 t146:=Tryz.underlying141
 a146:=Tryz.isAgg141
 z146:=Tryz.sizeOf141
 v146:=Tryz.zeroValue141
 g1:=by kernel_rfl
 g3:=by kernel_rfl
 g4:=by kernel_rfl }
open Go.RowKit Go.Lib in
theorem Tryz.strings_Split (s sep:ByteArray) (m:Int) (w:World) (hs:s.size< 4294967281) (hm:w.cell? ⟨0,0,none⟩=some (.int .i64 m)) (h1:1≤sep.size):
 Calls Tryz.prog 30 #[.string s, .string sep] w fun e w'=>
  e= .returned (.slice (some ⟨w.heap.size,0,none⟩) (Lib.countB s sep+1) (Lib.countB s sep+1))∧w'=w.alloc (.cells ((Lib.splitB sep 0 (Lib.countB s sep) s).map Value.string).toArray 9):=Any.strings_Split Tryz.lays146 (by kernel_rfl) s sep m w hs hm h1
end Go.Proofs
