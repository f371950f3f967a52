import Derived.Shelf.Strings.Builder1
import Derived.Shelf.Strings.Builder2
import Derived.Shelf.Small.Bits
import Derived.Shelf.Small.Strs
import Derived.Shelf.Strings.BuilderF
import Derived.Shelf.Strings.BuilderK
import Derived.Shelf.Utf8.RuneCount
import Derived.Shelf.Strings.Builder2Cap
import Derived.Shelf.Strconv.Itoa0
import Derived.Shelf.Strconv.Itoa1
import Derived.Shelf.LaysM
import Derived.Shelf.Strconv.Itoa2
import Derived.Shelf.Strconv.Itoa3
import Derived.Shelf.Strconv.Itoa4
import Derived.Shelf.Strconv.ParseIntEmpty
import Derived.Shelf.Strconv.Clone
import Derived.Shelf.Strconv.SyntaxError
import Derived.Shelf.LaysC
import Derived.Shelf.Strconv.ToError
import Derived.Shelf.Strconv.Lower
import Derived.Shelf.Strconv.ParseUint10
import Derived.Shelf.Strconv.ParseUint10Empty
import Derived.Shelf.Strconv.ParseUint10Any
import Derived.Shelf.Strconv.ParseInt10
import Derived.Shelf.Strconv.RangeError
import Derived.Shelf.Strconv.ToErrorRange
import Derived.Shelf.Strconv.ParseUintEmpty
import Derived.Shelf.Strconv.ParseUint10b64
import Derived.Shelf.Strconv.ParseUint10b32
import Derived.Shelf.Strconv.ParseUint10b16
import Derived.Shelf.Strconv.ParseUint10b8
import Derived.Shelf.Strconv.ParseUint10At
import Derived.Shelf.Strconv.ParseInt10At64
import Derived.Shelf.Strconv.ParseInt10At32
import Derived.Shelf.Strconv.ParseInt10At16
import Derived.Shelf.Strconv.ParseInt10At8
import Derived.Shelf.Strconv.ParseInt10All
import Derived.Shelf.Strconv.ParseIntPublic10
import Derived.Shelf.Strconv.ErrVarParseInt
import Derived.Shelf.Strings.Search1
import Derived.Shelf.Strings.Search2
import Derived.Shelf.Strings.Search3
import Derived.Shelf.Strings.Cut
import Derived.Shelf.Strings.Count
import Derived.Shelf.Strings.Shaped
import Derived.Shelf.Strings.Split
import Derived.Shelf.Strings.SplitShaped
import Derived.Shelf.Unicode.Decode
import Derived.Shelf.Strings.RuneCount
import Derived.Shelf.Strings.Explode
import Derived.Shelf.Bits.Mul64
import Derived.Shelf.Unicode.DecodeSlow
import Derived.Shelf.Unicode.DecodeAny
import Derived.Shelf.Strings.BuilderCap
import Derived.Ground.SlgmProg
import Derived.Shelf.SortM.Plain
import Derived.Shelf.SortM.SortNone
import Derived.Test.YtdnipilfcjkfoaaGreatDoorProg
namespace Go.Proofs
open Go.Shelf
def Tryz.lays169_ren:Go.Shelf.Ren:=⟨fun|169=>49|n=>n,fun|70=>81|9=>9|0=>0|72=>83|37=>22|127=>133|3=>3|5=>5|n=>n,fun|n=>n⟩
theorem Tryz.lays169:Go.Proofs.Lays.n169 Tryz.prog Tryz.lays169_ren:={
 mixed:=by kernel_rfl
 f169:=Tryz.func49.trans (congrArg some (by kernel_rfl))
 t0:=Tryz.underlying0
 a0:=Tryz.isAgg0
 z0:=Tryz.sizeOf0
 v0:=Tryz.zeroValue0
 t3:=Tryz.underlying3
 a3:=Tryz.isAgg3
 z3:=Tryz.sizeOf3
 v3:=Tryz.zeroValue3
 t9:=Tryz.underlying9
 a9:=Tryz.isAgg9
 z9:=Tryz.sizeOf9
 v9:=Tryz.zeroValue9
 t37:=Tryz.underlying22
 a37:=Tryz.isAgg22
 z37:=Tryz.sizeOf22
 v37:=Tryz.zeroValue22
 t70:=Tryz.underlying81
 a70:=Tryz.isAgg81
 z70:=Tryz.sizeOf81
 v70:=Tryz.zeroValue81
 t72:=Tryz.underlying83
 a72:=Tryz.isAgg83
 z72:=Tryz.sizeOf83
 v72:=Tryz.zeroValue83
 t127:=Tryz.underlying133
 a127:=Tryz.isAgg133
 z127:=Tryz.sizeOf133
 v127:=Tryz.zeroValue133 }
theorem Tryz.Builder_Extra_169:Builder.Extra Tryz.prog Tryz.lays169_ren:={
 sizeBuilder:=by kernel_rfl
 liesBuilder:=by kernel_rfl
 t5:=Tryz.underlying5
 a5:=Tryz.isAgg5
 z5:=Tryz.sizeOf5
 v5:=Tryz.zeroValue5
 infoByte:=by kernel_rfl
 cellsByte:=by kernel_rfl
 sizeByte:=by kernel_rfl
 neB5:=by decide }
def Tryz.lays137_ren:Go.Shelf.Ren:=⟨fun|137=>83|217=>105|266=>139|n=>n,fun|9=>9|5=>5|3=>3|n=>n,fun|n=>n⟩
theorem Tryz.lays137:Go.Proofs.Lays.n137 Tryz.prog Tryz.lays137_ren:={
 mixed:=by kernel_rfl
 f137:=Tryz.func83.trans (congrArg some (by kernel_rfl))
 f217:=Tryz.func105.trans (congrArg some (by kernel_rfl))
 f266:=Tryz.func139.trans (congrArg some (by kernel_rfl))
 t3:=Tryz.underlying3
 a3:=Tryz.isAgg3
 z3:=Tryz.sizeOf3
 v3:=Tryz.zeroValue3
 t5:=Tryz.underlying5
 a5:=Tryz.isAgg5
 z5:=Tryz.sizeOf5
 v5:=Tryz.zeroValue5
 t9:=Tryz.underlying9
 a9:=Tryz.isAgg9
 z9:=Tryz.sizeOf9
 v9:=Tryz.zeroValue9 }
open Go.RowKit in
theorem Tryz.strings_IndexByte (s:ByteArray) (c:Int) (w:World):
 Calls Tryz.prog 83 #[.string s, .int .u8 c] w fun e w'=>e= .returned (.int .i64 (Lib.indexByte s.data.toList c.toNat.toUInt8))∧w'=w:=Any.strings_IndexByte Tryz.lays137 s c w
open Go.RowKit in
theorem Tryz.Builder_String_any_k (B b:Nat) (l:List UInt8) (w:World) (h:Lib.IsBuilderF 83 5 B b (Lib.byteCells l) w) (hBw:B≤w.heap.size):
 Calls Tryz.prog 49 #[.pointer (some ⟨b,0,none⟩)] w fun e w'=>e= .returned (.string ⟨l.toArray⟩)∧(Lib.IsBuilderF 83 5 B b (Lib.byteCells l) w'∧Below B w w'∧Lib.OthersKept 5 (some b) w w'):=Any.Builder_String_any_k Tryz.lays169 Tryz.Builder_Extra_169 B b l w h hBw
def Tryz.laysM173_ren:Go.Shelf.Ren:=⟨fun|173=>85|246=>107|283=>108|284=>109|285=>110|286=>111|129=>127|317=>140|318=>141|319=>142|320=>143|337=>158|338=>159|n=>n,fun|2=>2|3=>3|9=>9|4=>4|171=>148|0=>0|53=>50|37=>22|5=>5|173=>151|212=>179|51=>153|20=>20|213=>180|46=>62|232=>205|233=>206|n=>n,fun|17=>1|18=>6|19=>7|n=>n⟩
theorem Tryz.laysM173:Go.Proofs.LaysM.n173 Tryz.prog Tryz.laysM173_ren:={
 mixed:=by kernel_rfl
 f129:=Tryz.func127.trans (congrArg some (by kernel_rfl))
 f173:=Tryz.func85.trans (congrArg some (by kernel_rfl))
 f246:=Tryz.func107.trans (congrArg some (by kernel_rfl))
 f283:=Tryz.func108.trans (congrArg some (by kernel_rfl))
 f284:=Tryz.func109.trans (congrArg some (by kernel_rfl))
 f285:=Tryz.func110.trans (congrArg some (by kernel_rfl))
 f286:=Tryz.func111.trans (congrArg some (by kernel_rfl))
 f317:=Tryz.func140.trans (congrArg some (by kernel_rfl))
 f318:=Tryz.func141.trans (congrArg some (by kernel_rfl))
 f319:=Tryz.func142.trans (congrArg some (by kernel_rfl))
 f320:=Tryz.func143.trans (congrArg some (by kernel_rfl))
 f337:=Tryz.func158.trans (congrArg some (by kernel_rfl))
 f338:=Tryz.func159.trans (congrArg some (by kernel_rfl))
 t0:=Tryz.underlying0
 a0:=Tryz.isAgg0
 z0:=Tryz.sizeOf0
 v0:=Tryz.zeroValue0
 t2:=Tryz.underlying2
 a2:=Tryz.isAgg2
 z2:=Tryz.sizeOf2
 v2:=Tryz.zeroValue2
 t3:=Tryz.underlying3
 a3:=Tryz.isAgg3
 z3:=Tryz.sizeOf3
 v3:=Tryz.zeroValue3
 t4:=Tryz.underlying4
 a4:=Tryz.isAgg4
 z4:=Tryz.sizeOf4
 v4:=Tryz.zeroValue4
 t5:=Tryz.underlying5
 a5:=Tryz.isAgg5
 z5:=Tryz.sizeOf5
 v5:=Tryz.zeroValue5
 t9:=Tryz.underlying9
 a9:=Tryz.isAgg9
 z9:=Tryz.sizeOf9
 v9:=Tryz.zeroValue9
 t20:=Tryz.underlying20
 a20:=Tryz.isAgg20
 z20:=Tryz.sizeOf20
 v20:=Tryz.zeroValue20
 t37:=Tryz.underlying22
 a37:=Tryz.isAgg22
 z37:=Tryz.sizeOf22
 v37:=Tryz.zeroValue22
 t46:=Tryz.underlying62
 a46:=Tryz.isAgg62
 z46:=Tryz.sizeOf62
 v46:=Tryz.zeroValue62
 t51:=Tryz.underlying153
 a51:=Tryz.isAgg153
 z51:=Tryz.sizeOf153
 v51:=Tryz.zeroValue153
 t53:=Tryz.underlying50
 a53:=Tryz.isAgg50
 z53:=Tryz.sizeOf50
 v53:=Tryz.zeroValue50
 t171:=Tryz.underlying148
 a171:=Tryz.isAgg148
 z171:=Tryz.sizeOf148
 v171:=Tryz.zeroValue148
 t173:=Tryz.underlying151
 a173:=Tryz.isAgg151
 z173:=Tryz.sizeOf151
 v173:=Tryz.zeroValue151
 t212:=Tryz.underlying179
 a212:=Tryz.isAgg179
 z212:=Tryz.sizeOf179
 v212:=Tryz.zeroValue179
 t213:=Tryz.underlying180
 a213:=Tryz.isAgg180
 z213:=Tryz.sizeOf180
 t232:=Tryz.underlying205
 a232:=Tryz.isAgg205
 z232:=Tryz.sizeOf205
 v232:=Tryz.zeroValue205
 t233:=Tryz.underlying206
 a233:=Tryz.isAgg206
 z233:=Tryz.sizeOf206
 v233:=Tryz.zeroValue206
 g17:=by kernel_rfl
 g18:=by kernel_rfl
 g19:=by kernel_rfl
 i0:=by kernel_rfl
 i2:=by kernel_rfl
 i3:=by kernel_rfl
 i4:=by kernel_rfl
 i5:=by kernel_rfl
 i9:=by kernel_rfl
 i20:=by kernel_rfl
 i37:=by kernel_rfl
 i46:=by kernel_rfl
 i51:=by kernel_rfl
 i53:=by kernel_rfl
 i171:=by kernel_rfl
 i173:=by kernel_rfl
 i212:=by kernel_rfl
 i232:=by kernel_rfl
 i233:=by kernel_rfl
 m17:=by kernel_rfl
 m18:=by kernel_rfl
 m19:=by kernel_rfl }
open Go.RowKit Go.Sort Go.Lib in
theorem Tryz.strconv_FormatInt_10 (n : Int) (h0 : -9223372036854775808 ≤ n) (h1 : n ≤ 9223372036854775807) (w : World) (htab : Lib.TabIs Tryz.prog w "internal/strconv.uint64pow10" .u64 Lib.pow10Tab) :
 Calls Tryz.prog 85 #[.int .i64 n, .int .i64 10] w fun e w'=>e= .returned (.string ⟨(Lib.itoa n).toArray⟩)∧∃ k os,w'=grow (w.drewN k) os:=Any.strconv_FormatInt_10 Tryz.laysM173 n h0 h1 w htab
def Tryz.laysC174_ren:Go.Shelf.Ren:=⟨fun|174=>82|247=>103|245=>104|287=>134|279=>135|280=>136|281=>137|282=>138|321=>153|322=>154|316=>155|171=>157|205=>156|243=>161|246=>107|283=>108|284=>109|285=>110|286=>111|129=>127|317=>140|318=>141|319=>142|320=>143|337=>158|338=>159|n=>n,fun|9=>9|3=>3|2=>2|75=>85|85=>124|4=>4|167=>172|5=>5|53=>50|175=>173|46=>62|168=>175|37=>22|0=>0|210=>193|21=>21|127=>133|145=>204|143=>202|171=>148|173=>151|212=>179|51=>153|20=>20|213=>180|232=>205|233=>206|80=>91|n=>n,fun|15=>2|16=>3|17=>1|18=>6|19=>7|n=>n⟩
theorem Tryz.laysC174:Go.Proofs.LaysC.n174 Tryz.prog Tryz.laysC174_ren:={
 mixed:=by kernel_rfl
 f129:=Tryz.func127.trans (congrArg some (by kernel_rfl))
 f171:=Tryz.func157.trans (congrArg some (by kernel_rfl))
 f174:=Tryz.func82.trans (congrArg some (by kernel_rfl))
 f205:=Tryz.func156.trans (congrArg some (by kernel_rfl))
 f243:=Tryz.func161.trans (congrArg some (by kernel_rfl))
 f245:=Tryz.func104.trans (congrArg some (by kernel_rfl))
 f246:=Tryz.func107.trans (congrArg some (by kernel_rfl))
 f247:=Tryz.func103.trans (congrArg some (by kernel_rfl))
 f279:=Tryz.func135.trans (congrArg some (by kernel_rfl))
 f280:=Tryz.func136.trans (congrArg some (by kernel_rfl))
 f281:=Tryz.func137.trans (congrArg some (by kernel_rfl))
 f282:=Tryz.func138.trans (congrArg some (by kernel_rfl))
 f283:=Tryz.func108.trans (congrArg some (by kernel_rfl))
 f284:=Tryz.func109.trans (congrArg some (by kernel_rfl))
 f285:=Tryz.func110.trans (congrArg some (by kernel_rfl))
 f286:=Tryz.func111.trans (congrArg some (by kernel_rfl))
 f287:=Tryz.func134.trans (congrArg some (by kernel_rfl))
 f316:=Tryz.func155.trans (congrArg some (by kernel_rfl))
 f317:=Tryz.func140.trans (congrArg some (by kernel_rfl))
 f318:=Tryz.func141.trans (congrArg some (by kernel_rfl))
 f319:=Tryz.func142.trans (congrArg some (by kernel_rfl))
 f320:=Tryz.func143.trans (congrArg some (by kernel_rfl))
 f321:=Tryz.func153.trans (congrArg some (by kernel_rfl))
 f322:=Tryz.func154.trans (congrArg some (by kernel_rfl))
 f337:=Tryz.func158.trans (congrArg some (by kernel_rfl))
 f338:=Tryz.func159.trans (congrArg some (by kernel_rfl))
 t0:=Tryz.underlying0
 a0:=Tryz.isAgg0
 z0:=Tryz.sizeOf0
 v0:=Tryz.zeroValue0
 t2:=Tryz.underlying2
 a2:=Tryz.isAgg2
 z2:=Tryz.sizeOf2
 v2:=Tryz.zeroValue2
 t3:=Tryz.underlying3
 a3:=Tryz.isAgg3
 z3:=Tryz.sizeOf3
 v3:=Tryz.zeroValue3
 t4:=Tryz.underlying4
 a4:=Tryz.isAgg4
 z4:=Tryz.sizeOf4
 v4:=Tryz.zeroValue4
 t5:=Tryz.underlying5
 a5:=Tryz.isAgg5
 z5:=Tryz.sizeOf5
 v5:=Tryz.zeroValue5
 t9:=Tryz.underlying9
 a9:=Tryz.isAgg9
 z9:=Tryz.sizeOf9
 v9:=Tryz.zeroValue9
 t20:=Tryz.underlying20
 a20:=Tryz.isAgg20
 z20:=Tryz.sizeOf20
 v20:=Tryz.zeroValue20
 t21:=Tryz.underlying21
 a21:=Tryz.isAgg21
 z21:=Tryz.sizeOf21
 v21:=Tryz.zeroValue21
 t37:=Tryz.underlying22
 a37:=Tryz.isAgg22
 z37:=Tryz.sizeOf22
 v37:=Tryz.zeroValue22
 t46:=Tryz.underlying62
 a46:=Tryz.isAgg62
 z46:=Tryz.sizeOf62
 v46:=Tryz.zeroValue62
 t51:=Tryz.underlying153
 a51:=Tryz.isAgg153
 z51:=Tryz.sizeOf153
 v51:=Tryz.zeroValue153
 t53:=Tryz.underlying50
 a53:=Tryz.isAgg50
 z53:=Tryz.sizeOf50
 v53:=Tryz.zeroValue50
 t75:=Tryz.underlying85
 a75:=Tryz.isAgg85
 z75:=Tryz.sizeOf85
 v75:=Tryz.zeroValue85
 t85:=Tryz.underlying124
 a85:=Tryz.isAgg124
 z85:=Tryz.sizeOf124
 v85:=Tryz.zeroValue124
 t127:=Tryz.underlying133
 a127:=Tryz.isAgg133
 z127:=Tryz.sizeOf133
 v127:=Tryz.zeroValue133
 t143:=Tryz.underlying202
 a143:=Tryz.isAgg202
 z143:=Tryz.sizeOf202
 v143:=Tryz.zeroValue202
 t145:=Tryz.underlying204
 a145:=Tryz.isAgg204
 z145:=Tryz.sizeOf204
 v145:=Tryz.zeroValue204
 t167:=Tryz.underlying172
 a167:=Tryz.isAgg172
 z167:=Tryz.sizeOf172
 v167:=Tryz.zeroValue172
 t168:=Tryz.underlying175
 a168:=Tryz.isAgg175
 z168:=Tryz.sizeOf175
 v168:=Tryz.zeroValue175
 t171:=Tryz.underlying148
 a171:=Tryz.isAgg148
 z171:=Tryz.sizeOf148
 v171:=Tryz.zeroValue148
 t173:=Tryz.underlying151
 a173:=Tryz.isAgg151
 z173:=Tryz.sizeOf151
 v173:=Tryz.zeroValue151
 t175:=Tryz.underlying173
 a175:=Tryz.isAgg173
 z175:=Tryz.sizeOf173
 v175:=Tryz.zeroValue173
 t210:=Tryz.underlying193
 a210:=Tryz.isAgg193
 z210:=Tryz.sizeOf193
 v210:=Tryz.zeroValue193
 t212:=Tryz.underlying179
 a212:=Tryz.isAgg179
 z212:=Tryz.sizeOf179
 v212:=Tryz.zeroValue179
 t213:=Tryz.underlying180
 a213:=Tryz.isAgg180
 z213:=Tryz.sizeOf180
 t232:=Tryz.underlying205
 a232:=Tryz.isAgg205
 z232:=Tryz.sizeOf205
 v232:=Tryz.zeroValue205
 t233:=Tryz.underlying206
 a233:=Tryz.isAgg206
 z233:=Tryz.sizeOf206
 v233:=Tryz.zeroValue206
 g15:=by kernel_rfl
 g16:=by kernel_rfl
 g17:=by kernel_rfl
 g18:=by kernel_rfl
 g19:=by kernel_rfl
 t80:=Tryz.underlying91
 a80:=Tryz.isAgg91
 z80:=Tryz.sizeOf91
 v80:=Tryz.zeroValue91
 i0:=by kernel_rfl
 i2:=by kernel_rfl
 i3:=by kernel_rfl
 i4:=by kernel_rfl
 i5:=by kernel_rfl
 i9:=by kernel_rfl
 i20:=by kernel_rfl
 i21:=by kernel_rfl
 i37:=by kernel_rfl
 i46:=by kernel_rfl
 i51:=by kernel_rfl
 i53:=by kernel_rfl
 i75:=by kernel_rfl
 i80:=by kernel_rfl
 i85:=by kernel_rfl
 i127:=by kernel_rfl
 i143:=by kernel_rfl
 i145:=by kernel_rfl
 i167:=by kernel_rfl
 i168:=by kernel_rfl
 i171:=by kernel_rfl
 i173:=by kernel_rfl
 i175:=by kernel_rfl
 i210:=by kernel_rfl
 i212:=by kernel_rfl
 i232:=by kernel_rfl
 i233:=by kernel_rfl
 m15:=by kernel_rfl
 m16:=by kernel_rfl
 m17:=by kernel_rfl
 m18:=by kernel_rfl
 m19:=by kernel_rfl
 c0:=by kernel_rfl
 c2:=by kernel_rfl
 c3:=by kernel_rfl
 c4:=by kernel_rfl
 c5:=by kernel_rfl
 c9:=by kernel_rfl
 c20:=by kernel_rfl
 c21:=by kernel_rfl
 c37:=by kernel_rfl
 c46:=by kernel_rfl
 c51:=by kernel_rfl
 c53:=by kernel_rfl
 c75:=by kernel_rfl
 c80:=by kernel_rfl
 c85:=by kernel_rfl
 c127:=by kernel_rfl
 c143:=by kernel_rfl
 c145:=by kernel_rfl
 c167:=by kernel_rfl
 c168:=by kernel_rfl
 c171:=by kernel_rfl
 c173:=by kernel_rfl
 c175:=by kernel_rfl
 c210:=by kernel_rfl
 c212:=by kernel_rfl
 c213:=by kernel_rfl
 c232:=by kernel_rfl
 c233:=by kernel_rfl }
open Go.RowKit in
theorem Tryz.strconv_ParseInt_10_at64_ok (s:ByteArray) (hmax:s.size≤9223372036854775806) (v:Int) (h:Lib.parseIntB 64 s.data.toList= .ok v) (w:World):
 Calls Tryz.prog 82 #[.string s, .int .i64 10, .int .i64 64] w fun e w'=>e= .returned (.tuple #[.int .i64 v, .nilIface])∧(w'=w∨∃ t,w'=Lib.bytesWorld w 5 t):=Any.strconv_ParseInt_10_at64_ok Tryz.laysC174 s hmax v h w
open Go.RowKit in
theorem Tryz.Qcs (s:ByteArray) (hlim:s.size≤281474976710656) (h1:∀ v,Lib.parseIntB 64 s.data.toList≠ .ok v) (h2:Lib.parseIntB 64 s.data.toList≠ .range) (ev:Value) (w:World) (hv:w.cell? ⟨2,0,none⟩=some ev) (hev:ev= .nilIface∨∃ te pe,ev= .iface te pe):
 Calls Tryz.prog 82 #[.string s, .int .i64 10, .int .i64 64] w fun e w'=>∃ N,e= .returned (.tuple #[.int .i64 (0), .iface 175 (.pointer (some ⟨N,0,none⟩))])∧w.heap.size≤N∧w'.heap[N]?=some (.cells #[.string ⟨#[80,97,114,115,101,73,110,116]⟩, .string s,ev] 193 (0,0))∧Below w.heap.size w w':=Any.strconv_ParseInt_10_at64_syntax Tryz.laysC174 s hlim (by
 cases hp:Lib.parseIntB 64 s.data.toList with
 |ok v=>exact absurd hp (h1 v)
 |range=>exact absurd hp h2
 |_=>rfl) ev w hv hev
open Go.RowKit in
theorem Tryz.strconv_ParseInt_10_at64_range (s:ByteArray) (hlim:s.size≤281474976710656) (h:Lib.parseIntB 64 s.data.toList= .range) (ev:Value) (w:World) (hv:w.cell? ⟨3,0,none⟩=some ev) (hev:ev= .nilIface∨∃ te pe,ev= .iface te pe):
 Calls Tryz.prog 82 #[.string s, .int .i64 10, .int .i64 64] w fun e w'=>∃ N,e= .returned (.tuple #[.int .i64 (Lib.intSat 64 s.data.toList), .iface 175 (.pointer (some ⟨N,0,none⟩))])∧w.heap.size≤N∧w'.heap[N]?=some (.cells #[.string ⟨#[80,97,114,115,101,73,110,116]⟩, .string s,ev] 193 (0,0))∧Below w.heap.size w w':=Any.strconv_ParseInt_10_at64_range Tryz.laysC174 s hlim h ev w hv hev
def Tryz.lays145_ren:Go.Shelf.Ren:=⟨fun|145=>42|220=>81|219=>102|217=>105|225=>131|224=>132|267=>133|266=>139|314=>152|n=>n,fun|9=>9|4=>4|59=>76|3=>3|5=>5|46=>62|146=>154|51=>153|n=>n,fun|1=>0|n=>n⟩
theorem Tryz.lays145:Go.Proofs.Lays.n145 Tryz.prog Tryz.lays145_ren:={
 mixed:=by kernel_rfl
 f145:=Tryz.func42.trans (congrArg some (by kernel_rfl))
 f217:=Tryz.func105.trans (congrArg some (by kernel_rfl))
 f219:=Tryz.func102.trans (congrArg some (by kernel_rfl))
 f220:=Tryz.func81.trans (congrArg some (by kernel_rfl))
 f224:=Tryz.func132.trans (congrArg some (by kernel_rfl))
 f225:=Tryz.func131.trans (congrArg some (by kernel_rfl))
 f266:=Tryz.func139.trans (congrArg some (by kernel_rfl))
 f267:=Tryz.func133.trans (congrArg some (by kernel_rfl))
 f314:=Tryz.func152.trans (congrArg some (by kernel_rfl))
 t3:=Tryz.underlying3
 a3:=Tryz.isAgg3
 z3:=Tryz.sizeOf3
 v3:=Tryz.zeroValue3
 t4:=Tryz.underlying4
 a4:=Tryz.isAgg4
 z4:=Tryz.sizeOf4
 v4:=Tryz.zeroValue4
 t5:=Tryz.underlying5
 a5:=Tryz.isAgg5
 z5:=Tryz.sizeOf5
 v5:=Tryz.zeroValue5
 t9:=Tryz.underlying9
 a9:=Tryz.isAgg9
 z9:=Tryz.sizeOf9
 v9:=Tryz.zeroValue9
 t46:=Tryz.underlying62
 a46:=Tryz.isAgg62
 z46:=Tryz.sizeOf62
 v46:=Tryz.zeroValue62
 t51:=Tryz.underlying153
 a51:=Tryz.isAgg153
 z51:=Tryz.sizeOf153
 v51:=Tryz.zeroValue153
 t59:=Tryz.underlying76
 a59:=Tryz.isAgg76
 z59:=Tryz.sizeOf76
 v59:=Tryz.zeroValue76
 t146:=Tryz.underlying154
 a146:=Tryz.isAgg154
 z146:=Tryz.sizeOf154
 v146:=Tryz.zeroValue154
 g1:=by kernel_rfl }
open Go.RowKit Go.Lib in
theorem Tryz.strings_Cut (s sep:ByteArray) (m:Int) (w:World) (hs:s.size< 4294967281) (hm:w.cell? ⟨0,0,none⟩=some (.int .i64 m)):
 Calls Tryz.prog 42 #[.string s, .string sep] w fun e w'=>e= .returned (.tuple #[.string ⟨(Lib.cut s.data.toList sep.data.toList).1.toArray⟩, .string ⟨(Lib.cut s.data.toList sep.data.toList).2.1.toArray⟩, .bool (Lib.cut s.data.toList sep.data.toList).2.2])∧∃ n,w'=w.drewN n:=Any.strings_Cut Tryz.lays145 s sep m w hs hm
def Tryz.lays146_ren:Go.Shelf.Ren:=⟨fun|146=>41|221=>80|268=>99|138=>100|143=>101|195=>128|197=>129|218=>130|219=>102|260=>151|217=>105|225=>131|224=>132|267=>133|266=>139|314=>152|n=>n,fun|9=>9|31=>74|3=>3|4=>4|0=>0|105=>169|21=>21|5=>5|46=>62|119=>198|139=>201|138=>200|146=>154|51=>153|n=>n,fun|1=>0|3=>4|4=>5|n=>n⟩
theorem Tryz.lays146:Go.Proofs.Lays.n146 Tryz.prog Tryz.lays146_ren:={
 mixed:=by kernel_rfl
 f138:=Tryz.func100.trans (congrArg some (by kernel_rfl))
 f143:=Tryz.func101.trans (congrArg some (by kernel_rfl))
 f146:=Tryz.func41.trans (congrArg some (by kernel_rfl))
 f195:=Tryz.func128.trans (congrArg some (by kernel_rfl))
 f197:=Tryz.func129.trans (congrArg some (by kernel_rfl))
 f217:=Tryz.func105.trans (congrArg some (by kernel_rfl))
 f218:=Tryz.func130.trans (congrArg some (by kernel_rfl))
 f219:=Tryz.func102.trans (congrArg some (by kernel_rfl))
 f221:=Tryz.func80.trans (congrArg some (by kernel_rfl))
 f224:=Tryz.func132.trans (congrArg some (by kernel_rfl))
 f225:=Tryz.func131.trans (congrArg some (by kernel_rfl))
 f260:=Tryz.func151.trans (congrArg some (by kernel_rfl))
 f266:=Tryz.func139.trans (congrArg some (by kernel_rfl))
 f267:=Tryz.func133.trans (congrArg some (by kernel_rfl))
 f268:=Tryz.func99.trans (congrArg some (by kernel_rfl))
 f314:=Tryz.func152.trans (congrArg some (by kernel_rfl))
 t0:=Tryz.underlying0
 a0:=Tryz.isAgg0
 z0:=Tryz.sizeOf0
 v0:=Tryz.zeroValue0
 t3:=Tryz.underlying3
 a3:=Tryz.isAgg3
 z3:=Tryz.sizeOf3
 v3:=Tryz.zeroValue3
 t4:=Tryz.underlying4
 a4:=Tryz.isAgg4
 z4:=Tryz.sizeOf4
 v4:=Tryz.zeroValue4
 t5:=Tryz.underlying5
 a5:=Tryz.isAgg5
 z5:=Tryz.sizeOf5
 v5:=Tryz.zeroValue5
 t9:=Tryz.underlying9
 a9:=Tryz.isAgg9
 z9:=Tryz.sizeOf9
 v9:=Tryz.zeroValue9
 t21:=Tryz.underlying21
 a21:=Tryz.isAgg21
 z21:=Tryz.sizeOf21
 v21:=Tryz.zeroValue21
 t31:=Tryz.underlying74
 a31:=Tryz.isAgg74
 z31:=Tryz.sizeOf74
 v31:=Tryz.zeroValue74
 t46:=Tryz.underlying62
 a46:=Tryz.isAgg62
 z46:=Tryz.sizeOf62
 v46:=Tryz.zeroValue62
 t51:=Tryz.underlying153
 a51:=Tryz.isAgg153
 z51:=Tryz.sizeOf153
 v51:=Tryz.zeroValue153
 t105:=Tryz.underlying169
 a105:=Tryz.isAgg169
 z105:=Tryz.sizeOf169
 v105:=Tryz.zeroValue169
 t119:=Tryz.underlying198
 a119:=Tryz.isAgg198
 z119:=Tryz.sizeOf198
 t138:=Tryz.underlying200
 a138:=Tryz.isAgg200
 z138:=Tryz.sizeOf200
 v138:=Tryz.zeroValue200
 t139:=Tryz.underlying201
 a139:=Tryz.isAgg201
 z139:=Tryz.sizeOf201
 v139:=Tryz.zeroValue201
 t146:=Tryz.underlying154
 a146:=Tryz.isAgg154
 z146:=Tryz.sizeOf154
 v146:=Tryz.zeroValue154
 g1:=by kernel_rfl
 g3:=by kernel_rfl
 g4:=by kernel_rfl }
open Go.RowKit Go.Lib in
theorem Tryz.strings_Split (s sep:ByteArray) (m:Int) (w:World) (hs:s.size< 4294967281) (hm:w.cell? ⟨0,0,none⟩=some (.int .i64 m)) (h1:1≤sep.size):
 Calls Tryz.prog 41 #[.string s, .string sep] w fun e w'=>
  e= .returned (.slice (some ⟨w.heap.size,0,none⟩) (Lib.countB s sep+1) (Lib.countB s sep+1))∧w'=w.alloc (.cells ((Lib.splitB sep 0 (Lib.countB s sep) s).map Value.string).toArray 9):=Any.strings_Split Tryz.lays146 (by kernel_rfl) s sep m w hs hm h1
def Tryz.lays212_ren:Go.Shelf.Ren:=⟨fun|212=>87|263=>112|264=>113|n=>n,fun|46=>62|51=>153|146=>154|53=>50|148=>156|n=>n,fun|n=>n⟩
theorem Tryz.lays212:Go.Proofs.Lays.n212 Tryz.prog Tryz.lays212_ren:={
 mixed:=by kernel_rfl
 f212:=Tryz.func87.trans (congrArg some (by kernel_rfl))
 f263:=Tryz.func112.trans (congrArg some (by kernel_rfl))
 f264:=Tryz.func113.trans (congrArg some (by kernel_rfl))
 t46:=Tryz.underlying62
 a46:=Tryz.isAgg62
 z46:=Tryz.sizeOf62
 v46:=Tryz.zeroValue62
 t51:=Tryz.underlying153
 a51:=Tryz.isAgg153
 z51:=Tryz.sizeOf153
 v51:=Tryz.zeroValue153
 t53:=Tryz.underlying50
 a53:=Tryz.isAgg50
 z53:=Tryz.sizeOf50
 v53:=Tryz.zeroValue50
 t146:=Tryz.underlying154
 a146:=Tryz.isAgg154
 z146:=Tryz.sizeOf154
 v146:=Tryz.zeroValue154
 t148:=Tryz.underlying156
 a148:=Tryz.isAgg156
 z148:=Tryz.sizeOf156
 v148:=Tryz.zeroValue156 }
open Go.RowKit Go.Lib in
theorem Tryz.bits_Mul (x y:Nat) (hx:x< 18446744073709551616) (hy:y< 18446744073709551616) (w:World):
 Calls Tryz.prog 87 #[.int .u64 x, .int .u64 y] w fun e w'=>e= .returned (.tuple #[.int .u64 ((x*y/18446744073709551616:Nat):Int), .int .u64 ((x*y%18446744073709551616:Nat):Int)])∧w'=w:=Any.bits_Mul Tryz.lays212 x y hx hy w
def Tryz.laysSlM5_f74_ren:Go.Shelf.Ren:=⟨fun|5=>74|8=>98|7=>97|19=>126|20=>127|10=>117|11=>118|12=>119|13=>120|14=>121|15=>122|16=>123|17=>124|18=>125|30=>145|31=>146|32=>147|33=>148|34=>149|35=>150|40=>160|n=>n,fun|23=>43|25=>2|3=>3|32=>62|22=>43|0=>0|44=>153|46=>50|4=>4|36=>161|35=>160|41=>165|5=>5|9=>9|53=>183|57=>186|63=>195|64=>196|n=>n,fun|n=>n⟩
theorem Tryz.laysSlM5_f74:Go.Proofs.SlLaysM.n5 Tryz.prog Tryz.laysSlM5_f74_ren:={
 mixed:=by kernel_rfl
 f5:=⟨Tryz.f74.name,by decide,Tryz.func74.trans (congrArg some (by kernel_rfl))⟩
 f7:=⟨Tryz.f97.name,by decide,Tryz.func97.trans (congrArg some (by kernel_rfl))⟩
 f8:=Tryz.func98.trans (congrArg some (by kernel_rfl))
 f10:=⟨Tryz.f117.name,by decide,Tryz.func117.trans (congrArg some (by kernel_rfl))⟩
 f11:=⟨Tryz.f118.name,by decide,Tryz.func118.trans (congrArg some (by kernel_rfl))⟩
 f12:=⟨Tryz.f119.name,by decide,Tryz.func119.trans (congrArg some (by kernel_rfl))⟩
 f13:=⟨Tryz.f120.name,by decide,Tryz.func120.trans (congrArg some (by kernel_rfl))⟩
 f14:=⟨Tryz.f121.name,by decide,Tryz.func121.trans (congrArg some (by kernel_rfl))⟩
 f15:=⟨Tryz.f122.name,by decide,Tryz.func122.trans (congrArg some (by kernel_rfl))⟩
 f16:=⟨Tryz.f123.name,by decide,Tryz.func123.trans (congrArg some (by kernel_rfl))⟩
 f17:=⟨Tryz.f124.name,by decide,Tryz.func124.trans (congrArg some (by kernel_rfl))⟩
 f18:=⟨Tryz.f125.name,by decide,Tryz.func125.trans (congrArg some (by kernel_rfl))⟩
 f19:=Tryz.func126.trans (congrArg some (by kernel_rfl))
 f20:=Tryz.func127.trans (congrArg some (by kernel_rfl))
 f30:=⟨Tryz.f145.name,by decide,Tryz.func145.trans (congrArg some (by kernel_rfl))⟩
 f31:=Tryz.func146.trans (congrArg some (by kernel_rfl))
 f32:=Tryz.func147.trans (congrArg some (by kernel_rfl))
 f33:=⟨Tryz.f148.name,by decide,Tryz.func148.trans (congrArg some (by kernel_rfl))⟩
 f34:=⟨Tryz.f149.name,by decide,Tryz.func149.trans (congrArg some (by kernel_rfl))⟩
 f35:=⟨Tryz.f150.name,by decide,Tryz.func150.trans (congrArg some (by kernel_rfl))⟩
 f40:=⟨Tryz.f160.name,by decide,Tryz.func160.trans (congrArg some (by kernel_rfl))⟩
 t0:=Tryz.underlying0
 a0:=Tryz.isAgg0
 z0:=Tryz.sizeOf0
 v0:=Tryz.zeroValue0
 t3:=Tryz.underlying3
 a3:=Tryz.isAgg3
 z3:=Tryz.sizeOf3
 v3:=Tryz.zeroValue3
 t4:=Tryz.underlying4
 a4:=Tryz.isAgg4
 z4:=Tryz.sizeOf4
 v4:=Tryz.zeroValue4
 t5:=Tryz.underlying5
 a5:=Tryz.isAgg5
 z5:=Tryz.sizeOf5
 v5:=Tryz.zeroValue5
 t9:=Tryz.underlying9
 a9:=Tryz.isAgg9
 z9:=Tryz.sizeOf9
 v9:=Tryz.zeroValue9
 t22:=Tryz.underlying43
 a22:=Tryz.isAgg43
 z22:=Tryz.sizeOf43
 v22:=Tryz.zeroValue43
 t23:=Tryz.underlying43
 a23:=Tryz.isAgg43
 z23:=Tryz.sizeOf43
 v23:=Tryz.zeroValue43
 t25:=Tryz.underlying2
 a25:=Tryz.isAgg2
 z25:=Tryz.sizeOf2
 v25:=Tryz.zeroValue2
 t32:=Tryz.underlying62
 a32:=Tryz.isAgg62
 z32:=Tryz.sizeOf62
 v32:=Tryz.zeroValue62
 t35:=Tryz.underlying160
 a35:=Tryz.isAgg160
 z35:=Tryz.sizeOf160
 v35:=Tryz.zeroValue160
 t36:=Tryz.underlying161
 a36:=Tryz.isAgg161
 z36:=Tryz.sizeOf161
 v36:=Tryz.zeroValue161
 t41:=Tryz.underlying165
 a41:=Tryz.isAgg165
 z41:=Tryz.sizeOf165
 v41:=Tryz.zeroValue165
 t44:=Tryz.underlying153
 a44:=Tryz.isAgg153
 z44:=Tryz.sizeOf153
 v44:=Tryz.zeroValue153
 t46:=Tryz.underlying50
 a46:=Tryz.isAgg50
 z46:=Tryz.sizeOf50
 v46:=Tryz.zeroValue50
 t53:=Tryz.underlying183
 a53:=Tryz.isAgg183
 z53:=Tryz.sizeOf183
 v53:=Tryz.zeroValue183
 t57:=Tryz.underlying186
 a57:=Tryz.isAgg186
 z57:=Tryz.sizeOf186
 v57:=Tryz.zeroValue186
 t63:=Tryz.underlying195
 a63:=Tryz.isAgg195
 z63:=Tryz.sizeOf195
 v63:=Tryz.zeroValue195
 t64:=Tryz.underlying196
 a64:=Tryz.isAgg196
 z64:=Tryz.sizeOf196
 v64:=Tryz.zeroValue196 }
open Go.Sort Go.RowKit in
theorem Tryz.slices_Sort_int (blk off cap:Nat) (zs:List Int) (w:World) (hH:Holds (Value.int .i64) w blk off zs.toArray) (hblk:blk< w.heap.size) (hsz:zs.length< 4611686018427387904):
 Calls Tryz.prog 74 #[.slice (some ⟨blk,off,none⟩) zs.length cap] w fun e w'=>
  e= .returned (.tuple #[])∧∃ n os,w'=grow (putRow (Value.int .i64) (Sort.ahead w n) blk off (zs.mergeSort fun x y=>decide (x≤y)).toArray) os:=AnyM.slices_Sort_int Tryz.laysSlM5_f74 blk off cap zs w hH hblk hsz
open Go.RowKit Go.Sort in
theorem Tryz.slices_Sort_int_none (p:Option Addr) (cap:Nat) (w:World):
 Calls Tryz.prog 74 #[.slice p 0 cap] w fun e w'=>e= .returned (.tuple #[])∧w'=w:=AnyM.slices_Sort_int_none Tryz.laysSlM5_f74 p cap w
end Go.Proofs
