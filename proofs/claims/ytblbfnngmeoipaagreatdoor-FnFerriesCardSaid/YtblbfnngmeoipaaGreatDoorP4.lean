import Derived.Shelf.Strings.Builder1
import Derived.Shelf.Strings.Builder2
import Derived.Shelf.Strings.OnBuilder
import Derived.Shelf.Strings.BuilderF
import Derived.Shelf.Strings.BuilderK
import Derived.Shelf.Utf8.RuneCount
import Derived.Shelf.Strings.Builder2Cap
import Derived.Shelf.Strconv.Itoa0
import Derived.Shelf.Strconv.Itoa1
import Derived.Shelf.LaysM
import Derived.Shelf.Strconv.Itoa2
import Derived.Shelf.Strconv.Itoa3
import Derived.Shelf.Strconv.Itoa4
import Derived.Shelf.Strconv.ParseIntEmpty
import Derived.Shelf.Strconv.Clone
import Derived.Shelf.Strconv.SyntaxError
import Derived.Shelf.LaysC
import Derived.Shelf.Strconv.ToError
import Derived.Shelf.Strconv.Lower
import Derived.Shelf.Strconv.ParseUint10
import Derived.Shelf.Strconv.ParseUint10Empty
import Derived.Shelf.Strconv.ParseUint10Any
import Derived.Shelf.Strconv.ParseInt10
import Derived.Shelf.Strconv.RangeError
import Derived.Shelf.Strconv.ToErrorRange
import Derived.Shelf.Strconv.ParseUintEmpty
import Derived.Shelf.Strconv.ParseUint10b64
import Derived.Shelf.Strconv.ParseUint10b32
import Derived.Shelf.Strconv.ParseUint10b16
import Derived.Shelf.Strconv.ParseUint10b8
import Derived.Shelf.Strconv.ParseUint10At
import Derived.Shelf.Strconv.ParseInt10At64
import Derived.Shelf.Strconv.ParseInt10At32
import Derived.Shelf.Strconv.ParseInt10At16
import Derived.Shelf.Strconv.ParseInt10At8
import Derived.Shelf.Strconv.ParseInt10All
import Derived.Shelf.Strconv.ParseIntPublic10
import Derived.Shelf.Strconv.ErrVarParseInt
import Derived.Shelf.Strings.Search1
import Derived.Shelf.Strings.Search2
import Derived.Shelf.Strings.Search3
import Derived.Shelf.Strings.Count
import Derived.Shelf.Strings.Shaped
import Derived.Shelf.Strings.Split
import Derived.Shelf.Strings.SplitShaped
import Derived.Shelf.Unicode.Decode
import Derived.Shelf.Strings.RuneCount
import Derived.Shelf.Strings.Explode
import Derived.Shelf.Bits.Mul64
import Derived.Shelf.Unicode.DecodeSlow
import Derived.Shelf.Unicode.DecodeAny
import Derived.Shelf.Strings.BuilderCap
import Derived.Test.YtblbfnngmeoipaaGreatDoorProg
namespace Go.Proofs
open Go.Shelf
def Tryz.lays156_ren:Go.Shelf.Ren:=⟨fun|156=>34|165=>69|166=>70|169=>71|240=>93|241=>94|276=>109|277=>110|n=>n,fun|31=>60|9=>9|3=>3|4=>4|0=>0|20=>20|72=>119|76=>121|70=>117|37=>22|75=>110|127=>142|164=>161|5=>5|80=>123|n=>n,fun|n=>n⟩
theorem Tryz.lays156:Go.Proofs.Lays.n156 Tryz.prog Tryz.lays156_ren:={
 mixed:=by kernel_rfl
 f156:=Tryz.func34.trans (congrArg some (by kernel_rfl))
 f165:=Tryz.func69.trans (congrArg some (by kernel_rfl))
 f166:=Tryz.func70.trans (congrArg some (by kernel_rfl))
 f169:=Tryz.func71.trans (congrArg some (by kernel_rfl))
 f240:=Tryz.func93.trans (congrArg some (by kernel_rfl))
 f241:=Tryz.func94.trans (congrArg some (by kernel_rfl))
 f276:=Tryz.func109.trans (congrArg some (by kernel_rfl))
 f277:=Tryz.func110.trans (congrArg some (by kernel_rfl))
 t0:=Tryz.underlying0
 a0:=Tryz.isAgg0
 z0:=Tryz.sizeOf0
 v0:=Tryz.zeroValue0
 t3:=Tryz.underlying3
 a3:=Tryz.isAgg3
 z3:=Tryz.sizeOf3
 v3:=Tryz.zeroValue3
 t4:=Tryz.underlying4
 a4:=Tryz.isAgg4
 z4:=Tryz.sizeOf4
 v4:=Tryz.zeroValue4
 t9:=Tryz.underlying9
 a9:=Tryz.isAgg9
 z9:=Tryz.sizeOf9
 v9:=Tryz.zeroValue9
 t20:=Tryz.underlying20
 a20:=Tryz.isAgg20
 z20:=Tryz.sizeOf20
 v20:=Tryz.zeroValue20
 t31:=Tryz.underlying60
 a31:=Tryz.isAgg60
 z31:=Tryz.sizeOf60
 v31:=Tryz.zeroValue60
 t37:=Tryz.underlying22
 a37:=Tryz.isAgg22
 z37:=Tryz.sizeOf22
 v37:=Tryz.zeroValue22
 t70:=Tryz.underlying117
 a70:=Tryz.isAgg117
 z70:=Tryz.sizeOf117
 v70:=Tryz.zeroValue117
 t72:=Tryz.underlying119
 a72:=Tryz.isAgg119
 z72:=Tryz.sizeOf119
 v72:=Tryz.zeroValue119
 t75:=Tryz.underlying110
 a75:=Tryz.isAgg110
 z75:=Tryz.sizeOf110
 v75:=Tryz.zeroValue110
 t76:=Tryz.underlying121
 a76:=Tryz.isAgg121
 z76:=Tryz.sizeOf121
 v76:=Tryz.zeroValue121
 t127:=Tryz.underlying142
 a127:=Tryz.isAgg142
 z127:=Tryz.sizeOf142
 v127:=Tryz.zeroValue142
 t164:=Tryz.underlying161
 a164:=Tryz.isAgg161
 z164:=Tryz.sizeOf161
 v164:=Tryz.zeroValue161 }
theorem Tryz.Builder_Extra_156:Builder.Extra Tryz.prog Tryz.lays156_ren:={
 sizeBuilder:=by kernel_rfl
 liesBuilder:=by kernel_rfl
 t5:=Tryz.underlying5
 a5:=Tryz.isAgg5
 z5:=Tryz.sizeOf5
 v5:=Tryz.zeroValue5
 infoByte:=by kernel_rfl
 cellsByte:=by kernel_rfl
 sizeByte:=by kernel_rfl
 neB5:=by decide }
open Go.RowKit in
theorem Tryz.strings_Join_none (a:Option Addr) (c:Nat) (sep:ByteArray) (w:World):
 Calls Tryz.prog 34 #[.slice a 0 c, .string sep] w fun e w'=>e= .returned (.string ⟨#[]⟩)∧w'=w:=Any.strings_Join_none Tryz.lays156 Tryz.Builder_Extra_156 a c sep w
open Go.RowKit in
theorem Tryz.strings_Join (bk o c:Nat) (xs:List ByteArray) (sep:ByteArray) (w:World) (hcells:∀ (j:Nat) x,xs[j]?=some x→w.cell? ⟨bk,o+j,none⟩=some (.string x)) (hbk:bk< w.heap.size) (hN:xs.length≤140737488355328) (hcap:xs.length≤c) (hlen:(Lib.join (xs.map (·.data.toList)) sep.data.toList).length≤140737488355328):
 Calls Tryz.prog 34 #[.slice (some ⟨bk,o,none⟩) xs.length c, .string sep] w fun e w'=>e= .returned (.string ⟨(Lib.join (xs.map (·.data.toList)) sep.data.toList).toArray⟩)∧Below w.heap.size w w':=Any.strings_Join Tryz.lays156 Tryz.Builder_Extra_156 bk o c xs sep w hcells hbk hN hcap hlen
def Tryz.laysM173_ren:Go.Shelf.Ren:=⟨fun|173=>67|246=>91|283=>105|284=>106|285=>107|286=>108|129=>124|317=>123|318=>125|319=>126|320=>127|337=>131|338=>132|n=>n,fun|2=>2|3=>3|9=>9|4=>4|171=>156|0=>0|53=>105|37=>22|5=>5|173=>159|212=>177|51=>164|20=>20|213=>178|46=>51|232=>190|233=>191|n=>n,fun|17=>3|18=>6|19=>7|n=>n⟩
theorem Tryz.laysM173:Go.Proofs.LaysM.n173 Tryz.prog Tryz.laysM173_ren:={
 mixed:=by kernel_rfl
 f129:=Tryz.func124.trans (congrArg some (by kernel_rfl))
 f173:=Tryz.func67.trans (congrArg some (by kernel_rfl))
 f246:=Tryz.func91.trans (congrArg some (by kernel_rfl))
 f283:=Tryz.func105.trans (congrArg some (by kernel_rfl))
 f284:=Tryz.func106.trans (congrArg some (by kernel_rfl))
 f285:=Tryz.func107.trans (congrArg some (by kernel_rfl))
 f286:=Tryz.func108.trans (congrArg some (by kernel_rfl))
 f317:=Tryz.func123.trans (congrArg some (by kernel_rfl))
 f318:=Tryz.func125.trans (congrArg some (by kernel_rfl))
 f319:=Tryz.func126.trans (congrArg some (by kernel_rfl))
 f320:=Tryz.func127.trans (congrArg some (by kernel_rfl))
 f337:=Tryz.func131.trans (congrArg some (by kernel_rfl))
 f338:=Tryz.func132.trans (congrArg some (by kernel_rfl))
 t0:=Tryz.underlying0
 a0:=Tryz.isAgg0
 z0:=Tryz.sizeOf0
 v0:=Tryz.zeroValue0
 t2:=Tryz.underlying2
 a2:=Tryz.isAgg2
 z2:=Tryz.sizeOf2
 v2:=Tryz.zeroValue2
 t3:=Tryz.underlying3
 a3:=Tryz.isAgg3
 z3:=Tryz.sizeOf3
 v3:=Tryz.zeroValue3
 t4:=Tryz.underlying4
 a4:=Tryz.isAgg4
 z4:=Tryz.sizeOf4
 v4:=Tryz.zeroValue4
 t5:=Tryz.underlying5
 a5:=Tryz.isAgg5
 z5:=Tryz.sizeOf5
 v5:=Tryz.zeroValue5
 t9:=Tryz.underlying9
 a9:=Tryz.isAgg9
 z9:=Tryz.sizeOf9
 v9:=Tryz.zeroValue9
 t20:=Tryz.underlying20
 a20:=Tryz.isAgg20
 z20:=Tryz.sizeOf20
 v20:=Tryz.zeroValue20
 t37:=Tryz.underlying22
 a37:=Tryz.isAgg22
 z37:=Tryz.sizeOf22
 v37:=Tryz.zeroValue22
 t46:=Tryz.underlying51
 a46:=Tryz.isAgg51
 z46:=Tryz.sizeOf51
 v46:=Tryz.zeroValue51
 t51:=Tryz.underlying164
 a51:=Tryz.isAgg164
 z51:=Tryz.sizeOf164
 v51:=Tryz.zeroValue164
 t53:=Tryz.underlying105
 a53:=Tryz.isAgg105
 z53:=Tryz.sizeOf105
 v53:=Tryz.zeroValue105
 t171:=Tryz.underlying156
 a171:=Tryz.isAgg156
 z171:=Tryz.sizeOf156
 v171:=Tryz.zeroValue156
 t173:=Tryz.underlying159
 a173:=Tryz.isAgg159
 z173:=Tryz.sizeOf159
 v173:=Tryz.zeroValue159
 t212:=Tryz.underlying177
 a212:=Tryz.isAgg177
 z212:=Tryz.sizeOf177
 v212:=Tryz.zeroValue177
 t213:=Tryz.underlying178
 a213:=Tryz.isAgg178
 z213:=Tryz.sizeOf178
 t232:=Tryz.underlying190
 a232:=Tryz.isAgg190
 z232:=Tryz.sizeOf190
 v232:=Tryz.zeroValue190
 t233:=Tryz.underlying191
 a233:=Tryz.isAgg191
 z233:=Tryz.sizeOf191
 v233:=Tryz.zeroValue191
 g17:=by kernel_rfl
 g18:=by kernel_rfl
 g19:=by kernel_rfl
 i0:=by kernel_rfl
 i2:=by kernel_rfl
 i3:=by kernel_rfl
 i4:=by kernel_rfl
 i5:=by kernel_rfl
 i9:=by kernel_rfl
 i20:=by kernel_rfl
 i37:=by kernel_rfl
 i46:=by kernel_rfl
 i51:=by kernel_rfl
 i53:=by kernel_rfl
 i171:=by kernel_rfl
 i173:=by kernel_rfl
 i212:=by kernel_rfl
 i232:=by kernel_rfl
 i233:=by kernel_rfl
 m17:=by kernel_rfl
 m18:=by kernel_rfl
 m19:=by kernel_rfl }
open Go.RowKit Go.Sort Go.Lib in
theorem Tryz.strconv_FormatInt_10 (n : Int) (h0 : -9223372036854775808 ≤ n) (h1 : n ≤ 9223372036854775807) (w : World) (htab : Lib.TabIs Tryz.prog w "internal/strconv.uint64pow10" .u64 Lib.pow10Tab) :
 Calls Tryz.prog 67 #[.int .i64 n, .int .i64 10] w fun e w'=>e= .returned (.string ⟨(Lib.itoa n).toArray⟩)∧∃ k os,w'=grow (w.drewN k) os:=Any.strconv_FormatInt_10 Tryz.laysM173 n h0 h1 w htab
def Tryz.laysC174_ren:Go.Shelf.Ren:=⟨fun|174=>65|247=>89|245=>90|287=>100|279=>101|280=>102|281=>103|282=>104|321=>118|322=>119|316=>120|171=>122|205=>121|243=>130|246=>91|283=>105|284=>106|285=>107|286=>108|129=>124|317=>123|318=>125|319=>126|320=>127|337=>131|338=>132|n=>n,fun|9=>9|3=>3|2=>2|75=>110|85=>111|4=>4|167=>149|5=>5|53=>105|175=>150|46=>51|168=>152|37=>22|0=>0|210=>174|21=>21|127=>142|145=>188|143=>186|171=>156|173=>159|212=>177|51=>164|20=>20|213=>178|232=>190|233=>191|80=>123|n=>n,fun|15=>1|16=>2|17=>3|18=>6|19=>7|n=>n⟩
theorem Tryz.laysC174:Go.Proofs.LaysC.n174 Tryz.prog Tryz.laysC174_ren:={
 mixed:=by kernel_rfl
 f129:=Tryz.func124.trans (congrArg some (by kernel_rfl))
 f171:=Tryz.func122.trans (congrArg some (by kernel_rfl))
 f174:=Tryz.func65.trans (congrArg some (by kernel_rfl))
 f205:=Tryz.func121.trans (congrArg some (by kernel_rfl))
 f243:=Tryz.func130.trans (congrArg some (by kernel_rfl))
 f245:=Tryz.func90.trans (congrArg some (by kernel_rfl))
 f246:=Tryz.func91.trans (congrArg some (by kernel_rfl))
 f247:=Tryz.func89.trans (congrArg some (by kernel_rfl))
 f279:=Tryz.func101.trans (congrArg some (by kernel_rfl))
 f280:=Tryz.func102.trans (congrArg some (by kernel_rfl))
 f281:=Tryz.func103.trans (congrArg some (by kernel_rfl))
 f282:=Tryz.func104.trans (congrArg some (by kernel_rfl))
 f283:=Tryz.func105.trans (congrArg some (by kernel_rfl))
 f284:=Tryz.func106.trans (congrArg some (by kernel_rfl))
 f285:=Tryz.func107.trans (congrArg some (by kernel_rfl))
 f286:=Tryz.func108.trans (congrArg some (by kernel_rfl))
 f287:=Tryz.func100.trans (congrArg some (by kernel_rfl))
 f316:=Tryz.func120.trans (congrArg some (by kernel_rfl))
 f317:=Tryz.func123.trans (congrArg some (by kernel_rfl))
 f318:=Tryz.func125.trans (congrArg some (by kernel_rfl))
 f319:=Tryz.func126.trans (congrArg some (by kernel_rfl))
 f320:=Tryz.func127.trans (congrArg some (by kernel_rfl))
 f321:=Tryz.func118.trans (congrArg some (by kernel_rfl))
 f322:=Tryz.func119.trans (congrArg some (by kernel_rfl))
 f337:=Tryz.func131.trans (congrArg some (by kernel_rfl))
 f338:=Tryz.func132.trans (congrArg some (by kernel_rfl))
 t0:=Tryz.underlying0
 a0:=Tryz.isAgg0
 z0:=Tryz.sizeOf0
 v0:=Tryz.zeroValue0
 t2:=Tryz.underlying2
 a2:=Tryz.isAgg2
 z2:=Tryz.sizeOf2
 v2:=Tryz.zeroValue2
 t3:=Tryz.underlying3
 a3:=Tryz.isAgg3
 z3:=Tryz.sizeOf3
 v3:=Tryz.zeroValue3
 t4:=Tryz.underlying4
 a4:=Tryz.isAgg4
 z4:=Tryz.sizeOf4
 v4:=Tryz.zeroValue4
 t5:=Tryz.underlying5
 a5:=Tryz.isAgg5
 z5:=Tryz.sizeOf5
 v5:=Tryz.zeroValue5
 t9:=Tryz.underlying9
 a9:=Tryz.isAgg9
 z9:=Tryz.sizeOf9
 v9:=Tryz.zeroValue9
 t20:=Tryz.underlying20
 a20:=Tryz.isAgg20
 z20:=Tryz.sizeOf20
 v20:=Tryz.zeroValue20
 t21:=Tryz.underlying21
 a21:=Tryz.isAgg21
 z21:=Tryz.sizeOf21
 v21:=Tryz.zeroValue21
 t37:=Tryz.underlying22
 a37:=Tryz.isAgg22
 z37:=Tryz.sizeOf22
 v37:=Tryz.zeroValue22
 t46:=Tryz.underlying51
 a46:=Tryz.isAgg51
 z46:=Tryz.sizeOf51
 v46:=Tryz.zeroValue51
 t51:=Tryz.underlying164
 a51:=Tryz.isAgg164
 z51:=Tryz.sizeOf164
 v51:=Tryz.zeroValue164
 t53:=Tryz.underlying105
 a53:=Tryz.isAgg105
 z53:=Tryz.sizeOf105
 v53:=Tryz.zeroValue105
 t75:=Tryz.underlying110
 a75:=Tryz.isAgg110
 z75:=Tryz.sizeOf110
 v75:=Tryz.zeroValue110
 t85:=Tryz.underlying111
 a85:=Tryz.isAgg111
 z85:=Tryz.sizeOf111
 v85:=Tryz.zeroValue111
 t127:=Tryz.underlying142
 a127:=Tryz.isAgg142
 z127:=Tryz.sizeOf142
 v127:=Tryz.zeroValue142
 t143:=Tryz.underlying186
 a143:=Tryz.isAgg186
 z143:=Tryz.sizeOf186
 v143:=Tryz.zeroValue186
 t145:=Tryz.underlying188
 a145:=Tryz.isAgg188
 z145:=Tryz.sizeOf188
 v145:=Tryz.zeroValue188
 t167:=Tryz.underlying149
 a167:=Tryz.isAgg149
 z167:=Tryz.sizeOf149
 v167:=Tryz.zeroValue149
 t168:=Tryz.underlying152
 a168:=Tryz.isAgg152
 z168:=Tryz.sizeOf152
 v168:=Tryz.zeroValue152
 t171:=Tryz.underlying156
 a171:=Tryz.isAgg156
 z171:=Tryz.sizeOf156
 v171:=Tryz.zeroValue156
 t173:=Tryz.underlying159
 a173:=Tryz.isAgg159
 z173:=Tryz.sizeOf159
 v173:=Tryz.zeroValue159
 t175:=Tryz.underlying150
 a175:=Tryz.isAgg150
 z175:=Tryz.sizeOf150
 v175:=Tryz.zeroValue150
 t210:=Tryz.underlying174
 a210:=Tryz.isAgg174
 z210:=Tryz.sizeOf174
 v210:=Tryz.zeroValue174
 t212:=Tryz.underlying177
 a212:=Tryz.isAgg177
 z212:=Tryz.sizeOf177
 v212:=Tryz.zeroValue177
 t213:=Tryz.underlying178
 a213:=Tryz.isAgg178
 z213:=Tryz.sizeOf178
 t232:=Tryz.underlying190
 a232:=Tryz.isAgg190
 z232:=Tryz.sizeOf190
 v232:=Tryz.zeroValue190
 t233:=Tryz.underlying191
 a233:=Tryz.isAgg191
 z233:=Tryz.sizeOf191
 v233:=Tryz.zeroValue191
 g15:=by kernel_rfl
 g16:=by kernel_rfl
 g17:=by kernel_rfl
 g18:=by kernel_rfl
 g19:=by kernel_rfl
 t80:=Tryz.underlying123
 a80:=Tryz.isAgg123
 z80:=Tryz.sizeOf123
 v80:=Tryz.zeroValue123
 i0:=by kernel_rfl
 i2:=by kernel_rfl
 i3:=by kernel_rfl
 i4:=by kernel_rfl
 i5:=by kernel_rfl
 i9:=by kernel_rfl
 i20:=by kernel_rfl
 i21:=by kernel_rfl
 i37:=by kernel_rfl
 i46:=by kernel_rfl
 i51:=by kernel_rfl
 i53:=by kernel_rfl
 i75:=by kernel_rfl
 i80:=by kernel_rfl
 i85:=by kernel_rfl
 i127:=by kernel_rfl
 i143:=by kernel_rfl
 i145:=by kernel_rfl
 i167:=by kernel_rfl
 i168:=by kernel_rfl
 i171:=by kernel_rfl
 i173:=by kernel_rfl
 i175:=by kernel_rfl
 i210:=by kernel_rfl
 i212:=by kernel_rfl
 i232:=by kernel_rfl
 i233:=by kernel_rfl
 m15:=by kernel_rfl
 m16:=by kernel_rfl
 m17:=by kernel_rfl
 m18:=by kernel_rfl
 m19:=by kernel_rfl
 c0:=by kernel_rfl
 c2:=by kernel_rfl
 c3:=by kernel_rfl
 c4:=by kernel_rfl
 c5:=by kernel_rfl
 c9:=by kernel_rfl
 c20:=by kernel_rfl
 c21:=by kernel_rfl
 c37:=by kernel_rfl
 c46:=by kernel_rfl
 c51:=by kernel_rfl
 c53:=by kernel_rfl
 c75:=by kernel_rfl
 c80:=by kernel_rfl
 c85:=by kernel_rfl
 c127:=by kernel_rfl
 c143:=by kernel_rfl
 c145:=by kernel_rfl
 c167:=by kernel_rfl
 c168:=by kernel_rfl
 c171:=by kernel_rfl
 c173:=by kernel_rfl
 c175:=by kernel_rfl
 c210:=by kernel_rfl
 c212:=by kernel_rfl
 c213:=by kernel_rfl
 c232:=by kernel_rfl
 c233:=by kernel_rfl }
open Go.RowKit in
theorem Tryz.strconv_ParseInt_10_at64_ok (s:ByteArray) (hmax:s.size≤9223372036854775806) (v:Int) (h:Lib.parseIntB 64 s.data.toList= .ok v) (w:World):
 Calls Tryz.prog 65 #[.string s, .int .i64 10, .int .i64 64] w fun e w'=>e= .returned (.tuple #[.int .i64 v, .nilIface])∧(w'=w∨∃ t,w'=Lib.bytesWorld w 5 t):=Any.strconv_ParseInt_10_at64_ok Tryz.laysC174 s hmax v h w
open Go.RowKit in
theorem Tryz.Qcw (s:ByteArray) (hlim:s.size≤281474976710656) (h1:∀ v,Lib.parseIntB 64 s.data.toList≠ .ok v) (h2:Lib.parseIntB 64 s.data.toList≠ .range) (ev:Value) (w:World) (hv:w.cell? ⟨1,0,none⟩=some ev) (hev:ev= .nilIface∨∃ te pe,ev= .iface te pe):
 Calls Tryz.prog 65 #[.string s, .int .i64 10, .int .i64 64] w fun e w'=>∃ N,e= .returned (.tuple #[.int .i64 (0), .iface 152 (.pointer (some ⟨N,0,none⟩))])∧w.heap.size≤N∧w'.heap[N]?=some (.cells #[.string ⟨#[80,97,114,115,101,73,110,116]⟩, .string s,ev] 174 (0,0))∧Below w.heap.size w w':=Any.strconv_ParseInt_10_at64_syntax Tryz.laysC174 s hlim (by
 cases hp:Lib.parseIntB 64 s.data.toList with
 |ok v=>exact absurd hp (h1 v)
 |range=>exact absurd hp h2
 |_=>rfl) ev w hv hev
open Go.RowKit in
theorem Tryz.strconv_ParseInt_10_at64_range (s:ByteArray) (hlim:s.size≤281474976710656) (h:Lib.parseIntB 64 s.data.toList= .range) (ev:Value) (w:World) (hv:w.cell? ⟨2,0,none⟩=some ev) (hev:ev= .nilIface∨∃ te pe,ev= .iface te pe):
 Calls Tryz.prog 65 #[.string s, .int .i64 10, .int .i64 64] w fun e w'=>∃ N,e= .returned (.tuple #[.int .i64 (Lib.intSat 64 s.data.toList), .iface 152 (.pointer (some ⟨N,0,none⟩))])∧w.heap.size≤N∧w'.heap[N]?=some (.cells #[.string ⟨#[80,97,114,115,101,73,110,116]⟩, .string s,ev] 174 (0,0))∧Below w.heap.size w w':=Any.strconv_ParseInt_10_at64_range Tryz.laysC174 s hlim h ev w hv hev
def Tryz.lays146_ren:Go.Shelf.Ren:=⟨fun|146=>29|221=>64|268=>86|138=>87|143=>88|195=>96|197=>97|218=>98|219=>99|260=>113|217=>114|225=>115|224=>116|267=>117|266=>128|314=>129|n=>n,fun|9=>9|31=>60|3=>3|4=>4|0=>0|105=>146|21=>21|5=>5|46=>51|119=>181|139=>184|138=>183|146=>165|51=>164|n=>n,fun|1=>0|3=>4|4=>5|n=>n⟩
theorem Tryz.lays146:Go.Proofs.Lays.n146 Tryz.prog Tryz.lays146_ren:={
 mixed:=by kernel_rfl
 f138:=Tryz.func87.trans (congrArg some (by kernel_rfl))
 f143:=Tryz.func88.trans (congrArg some (by kernel_rfl))
 f146:=Tryz.func29.trans (congrArg some (by kernel_rfl))
 f195:=Tryz.func96.trans (congrArg some (by kernel_rfl))
 f197:=Tryz.func97.trans (congrArg some (by kernel_rfl))
 f217:=Tryz.func114.trans (congrArg some (by kernel_rfl))
 f218:=Tryz.func98.trans (congrArg some (by kernel_rfl))
 f219:=Tryz.func99.trans (congrArg some (by kernel_rfl))
 f221:=Tryz.func64.trans (congrArg some (by kernel_rfl))
 f224:=Tryz.func116.trans (congrArg some (by kernel_rfl))
 f225:=Tryz.func115.trans (congrArg some (by kernel_rfl))
 f260:=Tryz.func113.trans (congrArg some (by kernel_rfl))
 f266:=Tryz.func128.trans (congrArg some (by kernel_rfl))
 f267:=Tryz.func117.trans (congrArg some (by kernel_rfl))
 f268:=Tryz.func86.trans (congrArg some (by kernel_rfl))
 f314:=Tryz.func129.trans (congrArg some (by kernel_rfl))
 t0:=Tryz.underlying0
 a0:=Tryz.isAgg0
 z0:=Tryz.sizeOf0
 v0:=Tryz.zeroValue0
 t3:=Tryz.underlying3
 a3:=Tryz.isAgg3
 z3:=Tryz.sizeOf3
 v3:=Tryz.zeroValue3
 t4:=Tryz.underlying4
 a4:=Tryz.isAgg4
 z4:=Tryz.sizeOf4
 v4:=Tryz.zeroValue4
 t5:=Tryz.underlying5
 a5:=Tryz.isAgg5
 z5:=Tryz.sizeOf5
 v5:=Tryz.zeroValue5
 t9:=Tryz.underlying9
 a9:=Tryz.isAgg9
 z9:=Tryz.sizeOf9
 v9:=Tryz.zeroValue9
 t21:=Tryz.underlying21
 a21:=Tryz.isAgg21
 z21:=Tryz.sizeOf21
 v21:=Tryz.zeroValue21
 t31:=Tryz.underlying60
 a31:=Tryz.isAgg60
 z31:=Tryz.sizeOf60
 v31:=Tryz.zeroValue60
 t46:=Tryz.underlying51
 a46:=Tryz.isAgg51
 z46:=Tryz.sizeOf51
 v46:=Tryz.zeroValue51
 t51:=Tryz.underlying164
 a51:=Tryz.isAgg164
 z51:=Tryz.sizeOf164
 v51:=Tryz.zeroValue164
 t105:=Tryz.underlying146
 a105:=Tryz.isAgg146
 z105:=Tryz.sizeOf146
 v105:=Tryz.zeroValue146
 t119:=Tryz.underlying181
 a119:=Tryz.isAgg181
 z119:=Tryz.sizeOf181
 t138:=Tryz.underlying183
 a138:=Tryz.isAgg183
 z138:=Tryz.sizeOf183
 v138:=Tryz.zeroValue183
 t139:=Tryz.underlying184
 a139:=Tryz.isAgg184
 z139:=Tryz.sizeOf184
 v139:=Tryz.zeroValue184
 t146:=Tryz.underlying165
 a146:=Tryz.isAgg165
 z146:=Tryz.sizeOf165
 v146:=Tryz.zeroValue165
 g1:=by kernel_rfl
 g3:=by kernel_rfl
 g4:=by kernel_rfl }
open Go.RowKit Go.Lib in
theorem Tryz.strings_Split (s sep:ByteArray) (m:Int) (w:World) (hs:s.size< 4294967281) (hm:w.cell? ⟨0,0,none⟩=some (.int .i64 m)) (h1:1≤sep.size):
 Calls Tryz.prog 29 #[.string s, .string sep] w fun e w'=>
  e= .returned (.slice (some ⟨w.heap.size,0,none⟩) (Lib.countB s sep+1) (Lib.countB s sep+1))∧w'=w.alloc (.cells ((Lib.splitB sep 0 (Lib.countB s sep) s).map Value.string).toArray 9):=Any.strings_Split Tryz.lays146 (by kernel_rfl) s sep m w hs hm h1
def Tryz.lays264_ren:Go.Shelf.Ren:=⟨fun|264=>112|n=>n,fun|53=>105|46=>51|n=>n,fun|n=>n⟩
theorem Tryz.lays264:Go.Proofs.Lays.n264 Tryz.prog Tryz.lays264_ren:={
 mixed:=by kernel_rfl
 f264:=Tryz.func112.trans (congrArg some (by kernel_rfl))
 t46:=Tryz.underlying51
 a46:=Tryz.isAgg51
 z46:=Tryz.sizeOf51
 v46:=Tryz.zeroValue51
 t53:=Tryz.underlying105
 a53:=Tryz.isAgg105
 z53:=Tryz.sizeOf105
 v53:=Tryz.zeroValue105 }
open Go.RowKit Go.Lib in
theorem Tryz.bits_Mul64 (x y:Nat) (hx:x< 18446744073709551616) (hy:y< 18446744073709551616) (w:World):
 Calls Tryz.prog 112 #[.int .u64 x, .int .u64 y] w fun e w'=>e= .returned (.tuple #[.int .u64 ((x*y/18446744073709551616:Nat):Int), .int .u64 ((x*y%18446744073709551616:Nat):Int)])∧w'=w:=Any.bits_Mul64 Tryz.lays264 x y hx hy w
def Tryz.lays212_ren:Go.Shelf.Ren:=⟨fun|212=>95|263=>111|264=>112|n=>n,fun|46=>51|51=>164|146=>165|53=>105|148=>167|n=>n,fun|n=>n⟩
theorem Tryz.lays212:Go.Proofs.Lays.n212 Tryz.prog Tryz.lays212_ren:={
 mixed:=by kernel_rfl
 f212:=Tryz.func95.trans (congrArg some (by kernel_rfl))
 f263:=Tryz.func111.trans (congrArg some (by kernel_rfl))
 f264:=Tryz.func112.trans (congrArg some (by kernel_rfl))
 t46:=Tryz.underlying51
 a46:=Tryz.isAgg51
 z46:=Tryz.sizeOf51
 v46:=Tryz.zeroValue51
 t51:=Tryz.underlying164
 a51:=Tryz.isAgg164
 z51:=Tryz.sizeOf164
 v51:=Tryz.zeroValue164
 t53:=Tryz.underlying105
 a53:=Tryz.isAgg105
 z53:=Tryz.sizeOf105
 v53:=Tryz.zeroValue105
 t146:=Tryz.underlying165
 a146:=Tryz.isAgg165
 z146:=Tryz.sizeOf165
 v146:=Tryz.zeroValue165
 t148:=Tryz.underlying167
 a148:=Tryz.isAgg167
 z148:=Tryz.sizeOf167
 v148:=Tryz.zeroValue167 }
open Go.RowKit Go.Lib in
theorem Tryz.bits_Mul (x y:Nat) (hx:x< 18446744073709551616) (hy:y< 18446744073709551616) (w:World):
 Calls Tryz.prog 95 #[.int .u64 x, .int .u64 y] w fun e w'=>e= .returned (.tuple #[.int .u64 ((x*y/18446744073709551616:Nat):Int), .int .u64 ((x*y%18446744073709551616:Nat):Int)])∧w'=w:=Any.bits_Mul Tryz.lays212 x y hx hy w
end Go.Proofs
