import Derived.Shelf.Strings.Builder1
import Derived.Shelf.Strings.Builder2
import Derived.Shelf.Small.Strs
import Derived.Shelf.Strings.BuilderF
import Derived.Shelf.Strings.BuilderK
import Derived.Shelf.Utf8.RuneCount
import Derived.Shelf.Strings.Builder2Cap
import Derived.Shelf.Strconv.Itoa0
import Derived.Shelf.Strconv.Itoa1
import Derived.Shelf.LaysM
import Derived.Shelf.Strconv.Itoa2
import Derived.Shelf.Strconv.Itoa3
import Derived.Shelf.Strconv.Itoa4
import Derived.Shelf.Strconv.ParseIntEmpty
import Derived.Shelf.Strconv.Clone
import Derived.Shelf.Strconv.SyntaxError
import Derived.Shelf.LaysC
import Derived.Shelf.Strconv.ToError
import Derived.Shelf.Strconv.Lower
import Derived.Shelf.Strconv.ParseUint10
import Derived.Shelf.Strconv.ParseUint10Empty
import Derived.Shelf.Strconv.ParseUint10Any
import Derived.Shelf.Strconv.ParseInt10
import Derived.Shelf.Strconv.RangeError
import Derived.Shelf.Strconv.ToErrorRange
import Derived.Shelf.Strconv.ParseUintEmpty
import Derived.Shelf.Strconv.ParseUint10b64
import Derived.Shelf.Strconv.ParseUint10b32
import Derived.Shelf.Strconv.ParseUint10b16
import Derived.Shelf.Strconv.ParseUint10b8
import Derived.Shelf.Strconv.ParseUint10At
import Derived.Shelf.Strconv.ParseInt10At64
import Derived.Shelf.Strconv.ParseInt10At32
import Derived.Shelf.Strconv.ParseInt10At16
import Derived.Shelf.Strconv.ParseInt10At8
import Derived.Shelf.Strconv.ParseInt10All
import Derived.Shelf.Strconv.ParseIntPublic10
import Derived.Shelf.Strconv.ErrVarParseInt
import Derived.Shelf.Strings.Search1
import Derived.Shelf.Strings.Search2
import Derived.Shelf.Strings.Search3
import Derived.Shelf.Strings.Cut
import Derived.Shelf.Strings.Count
import Derived.Shelf.Strings.Shaped
import Derived.Shelf.Strings.Split
import Derived.Shelf.Strings.SplitShaped
import Derived.Shelf.Unicode.Decode
import Derived.Shelf.Strings.RuneCount
import Derived.Shelf.Strings.Explode
import Derived.Shelf.Bits.Mul64
import Derived.Shelf.Unicode.DecodeSlow
import Derived.Shelf.Unicode.DecodeAny
import Derived.Shelf.Strings.BuilderCap
import Derived.Test.YtljkpeeabpdalaaDoorProg
namespace Go.Proofs
open Go.Shelf
def Tryd.lays170_ren:Go.Shelf.Ren:=⟨fun|170=>49|n=>n,fun|70=>44|3=>3|0=>0|72=>47|37=>45|5=>5|n=>n,fun|n=>n⟩
theorem Tryd.lays170:Go.Proofs.Lays.n170 Tryd.prog Tryd.lays170_ren:={
 mixed:=by kernel_rfl
 f170:=Tryd.func49.trans (congrArg some (by kernel_rfl))
 t0:=Tryd.underlying0
 a0:=Tryd.isAgg0
 z0:=Tryd.sizeOf0
 v0:=Tryd.zeroValue0
 t3:=Tryd.underlying3
 a3:=Tryd.isAgg3
 z3:=Tryd.sizeOf3
 v3:=Tryd.zeroValue3
 t37:=Tryd.underlying45
 a37:=Tryd.isAgg45
 z37:=Tryd.sizeOf45
 v37:=Tryd.zeroValue45
 t70:=Tryd.underlying44
 a70:=Tryd.isAgg44
 z70:=Tryd.sizeOf44
 v70:=Tryd.zeroValue44
 t72:=Tryd.underlying47
 a72:=Tryd.isAgg47
 z72:=Tryd.sizeOf47
 v72:=Tryd.zeroValue47 }
def Tryd.lays169_ren:Go.Shelf.Ren:=⟨fun|169=>23|n=>n,fun|70=>44|9=>9|0=>0|72=>47|37=>45|127=>87|3=>3|5=>5|n=>n,fun|n=>n⟩
theorem Tryd.lays169:Go.Proofs.Lays.n169 Tryd.prog Tryd.lays169_ren:={
 mixed:=by kernel_rfl
 f169:=Tryd.func23.trans (congrArg some (by kernel_rfl))
 t0:=Tryd.underlying0
 a0:=Tryd.isAgg0
 z0:=Tryd.sizeOf0
 v0:=Tryd.zeroValue0
 t3:=Tryd.underlying3
 a3:=Tryd.isAgg3
 z3:=Tryd.sizeOf3
 v3:=Tryd.zeroValue3
 t9:=Tryd.underlying9
 a9:=Tryd.isAgg9
 z9:=Tryd.sizeOf9
 v9:=Tryd.zeroValue9
 t37:=Tryd.underlying45
 a37:=Tryd.isAgg45
 z37:=Tryd.sizeOf45
 v37:=Tryd.zeroValue45
 t70:=Tryd.underlying44
 a70:=Tryd.isAgg44
 z70:=Tryd.sizeOf44
 v70:=Tryd.zeroValue44
 t72:=Tryd.underlying47
 a72:=Tryd.isAgg47
 z72:=Tryd.sizeOf47
 v72:=Tryd.zeroValue47
 t127:=Tryd.underlying87
 a127:=Tryd.isAgg87
 z127:=Tryd.sizeOf87
 v127:=Tryd.zeroValue87 }
theorem Tryd.Builder_Extra_169:Builder.Extra Tryd.prog Tryd.lays169_ren:={
 sizeBuilder:=by kernel_rfl
 liesBuilder:=by kernel_rfl
 t5:=Tryd.underlying5
 a5:=Tryd.isAgg5
 z5:=Tryd.sizeOf5
 v5:=Tryd.zeroValue5
 infoByte:=by kernel_rfl
 cellsByte:=by kernel_rfl
 sizeByte:=by kernel_rfl
 neB5:=by decide }
def Tryd.lays165_ren:Go.Shelf.Ren:=⟨fun|165=>48|240=>43|241=>67|276=>58|277=>80|n=>n,fun|70=>44|3=>3|0=>0|4=>4|9=>9|20=>20|72=>47|37=>45|164=>95|5=>5|n=>n,fun|n=>n⟩
theorem Tryd.lays165:Go.Proofs.Lays.n165 Tryd.prog Tryd.lays165_ren:={
 mixed:=by kernel_rfl
 f165:=Tryd.func48.trans (congrArg some (by kernel_rfl))
 f240:=Tryd.func43.trans (congrArg some (by kernel_rfl))
 f241:=Tryd.func67.trans (congrArg some (by kernel_rfl))
 f276:=Tryd.func58.trans (congrArg some (by kernel_rfl))
 f277:=Tryd.func80.trans (congrArg some (by kernel_rfl))
 t0:=Tryd.underlying0
 a0:=Tryd.isAgg0
 z0:=Tryd.sizeOf0
 v0:=Tryd.zeroValue0
 t3:=Tryd.underlying3
 a3:=Tryd.isAgg3
 z3:=Tryd.sizeOf3
 v3:=Tryd.zeroValue3
 t4:=Tryd.underlying4
 a4:=Tryd.isAgg4
 z4:=Tryd.sizeOf4
 v4:=Tryd.zeroValue4
 t9:=Tryd.underlying9
 a9:=Tryd.isAgg9
 z9:=Tryd.sizeOf9
 v9:=Tryd.zeroValue9
 t20:=Tryd.underlying20
 a20:=Tryd.isAgg20
 z20:=Tryd.sizeOf20
 v20:=Tryd.zeroValue20
 t37:=Tryd.underlying45
 a37:=Tryd.isAgg45
 z37:=Tryd.sizeOf45
 v37:=Tryd.zeroValue45
 t70:=Tryd.underlying44
 a70:=Tryd.isAgg44
 z70:=Tryd.sizeOf44
 v70:=Tryd.zeroValue44
 t72:=Tryd.underlying47
 a72:=Tryd.isAgg47
 z72:=Tryd.sizeOf47
 v72:=Tryd.zeroValue47
 t164:=Tryd.underlying95
 a164:=Tryd.isAgg95
 z164:=Tryd.sizeOf95
 v164:=Tryd.zeroValue95 }
theorem Tryd.Builder_Extra_165:Builder.Extra Tryd.prog Tryd.lays165_ren:={
 sizeBuilder:=by kernel_rfl
 liesBuilder:=by kernel_rfl
 t5:=Tryd.underlying5
 a5:=Tryd.isAgg5
 z5:=Tryd.sizeOf5
 v5:=Tryd.zeroValue5
 infoByte:=by kernel_rfl
 cellsByte:=by kernel_rfl
 sizeByte:=by kernel_rfl
 neB5:=by decide }
open Go.RowKit in
theorem Tryd.Builder_Grow_fresh (B b n:Nat) (w:World) (hB:B≤b) (hbk:w.heap[b]?=some (.cells #[.pointer none, .slice none 0 0] 47 (0,0))) (hBw:B≤w.heap.size) (hn:n≤281474976710656):
 Calls Tryd.prog 48 #[.pointer (some ⟨b,0,none⟩), .int .i64 n] w fun e w'=>e= .returned (.tuple #[])∧(Lib.BuilderAt 47 5 B b (.pointer (some ⟨b,0,none⟩)) [] w'∧Below B w w'):=Any.Builder_Grow_fresh Tryd.lays165 Tryd.Builder_Extra_165 B b n w hB hbk hBw hn
def Tryd.lays137_ren:Go.Shelf.Ren:=⟨fun|137=>56|217=>74|266=>92|n=>n,fun|9=>9|5=>5|3=>3|n=>n,fun|n=>n⟩
theorem Tryd.lays137:Go.Proofs.Lays.n137 Tryd.prog Tryd.lays137_ren:={
 mixed:=by kernel_rfl
 f137:=Tryd.func56.trans (congrArg some (by kernel_rfl))
 f217:=Tryd.func74.trans (congrArg some (by kernel_rfl))
 f266:=Tryd.func92.trans (congrArg some (by kernel_rfl))
 t3:=Tryd.underlying3
 a3:=Tryd.isAgg3
 z3:=Tryd.sizeOf3
 v3:=Tryd.zeroValue3
 t5:=Tryd.underlying5
 a5:=Tryd.isAgg5
 z5:=Tryd.sizeOf5
 v5:=Tryd.zeroValue5
 t9:=Tryd.underlying9
 a9:=Tryd.isAgg9
 z9:=Tryd.sizeOf9
 v9:=Tryd.zeroValue9 }
open Go.RowKit in
theorem Tryd.strings_IndexByte (s:ByteArray) (c:Int) (w:World):
 Calls Tryd.prog 56 #[.string s, .int .u8 c] w fun e w'=>e= .returned (.int .i64 (Lib.indexByte s.data.toList c.toNat.toUInt8))∧w'=w:=Any.strings_IndexByte Tryd.lays137 s c w
open Go.RowKit in
theorem Tryd.Builder_Len_f (B b:Nat) (bs:List Value) (w:World) (h:Lib.IsBuilderF 47 5 B b bs w):
 Calls Tryd.prog 49 #[.pointer (some ⟨b,0,none⟩)] w fun e w'=>e= .returned (.int .i64 bs.length)∧w'=w:=Any.Builder_Len_f Tryd.lays170 B b bs w h
open Go.RowKit in
theorem Tryd.Builder_String_any_k (B b:Nat) (l:List UInt8) (w:World) (h:Lib.IsBuilderF 47 5 B b (Lib.byteCells l) w) (hBw:B≤w.heap.size):
 Calls Tryd.prog 23 #[.pointer (some ⟨b,0,none⟩)] w fun e w'=>e= .returned (.string ⟨l.toArray⟩)∧(Lib.IsBuilderF 47 5 B b (Lib.byteCells l) w'∧Below B w w'∧Lib.OthersKept 5 (some b) w w'):=Any.Builder_String_any_k Tryd.lays169 Tryd.Builder_Extra_169 B b l w h hBw
def Tryd.laysM173_ren:Go.Shelf.Ren:=⟨fun|173=>44|246=>59|283=>60|284=>61|285=>62|286=>63|129=>76|317=>75|318=>77|319=>78|320=>79|337=>93|338=>94|n=>n,fun|2=>2|3=>3|9=>9|4=>4|171=>98|0=>0|53=>53|37=>45|5=>5|173=>101|212=>113|51=>103|20=>20|213=>114|46=>81|232=>134|233=>135|n=>n,fun|17=>0|18=>4|19=>5|n=>n⟩
theorem Tryd.laysM173:Go.Proofs.LaysM.n173 Tryd.prog Tryd.laysM173_ren:={
 mixed:=by kernel_rfl
 f129:=Tryd.func76.trans (congrArg some (by kernel_rfl))
 f173:=Tryd.func44.trans (congrArg some (by kernel_rfl))
 f246:=Tryd.func59.trans (congrArg some (by kernel_rfl))
 f283:=Tryd.func60.trans (congrArg some (by kernel_rfl))
 f284:=Tryd.func61.trans (congrArg some (by kernel_rfl))
 f285:=Tryd.func62.trans (congrArg some (by kernel_rfl))
 f286:=Tryd.func63.trans (congrArg some (by kernel_rfl))
 f317:=Tryd.func75.trans (congrArg some (by kernel_rfl))
 f318:=Tryd.func77.trans (congrArg some (by kernel_rfl))
 f319:=Tryd.func78.trans (congrArg some (by kernel_rfl))
 f320:=Tryd.func79.trans (congrArg some (by kernel_rfl))
 f337:=Tryd.func93.trans (congrArg some (by kernel_rfl))
 f338:=Tryd.func94.trans (congrArg some (by kernel_rfl))
 t0:=Tryd.underlying0
 a0:=Tryd.isAgg0
 z0:=Tryd.sizeOf0
 v0:=Tryd.zeroValue0
 t2:=Tryd.underlying2
 a2:=Tryd.isAgg2
 z2:=Tryd.sizeOf2
 v2:=Tryd.zeroValue2
 t3:=Tryd.underlying3
 a3:=Tryd.isAgg3
 z3:=Tryd.sizeOf3
 v3:=Tryd.zeroValue3
 t4:=Tryd.underlying4
 a4:=Tryd.isAgg4
 z4:=Tryd.sizeOf4
 v4:=Tryd.zeroValue4
 t5:=Tryd.underlying5
 a5:=Tryd.isAgg5
 z5:=Tryd.sizeOf5
 v5:=Tryd.zeroValue5
 t9:=Tryd.underlying9
 a9:=Tryd.isAgg9
 z9:=Tryd.sizeOf9
 v9:=Tryd.zeroValue9
 t20:=Tryd.underlying20
 a20:=Tryd.isAgg20
 z20:=Tryd.sizeOf20
 v20:=Tryd.zeroValue20
 t37:=Tryd.underlying45
 a37:=Tryd.isAgg45
 z37:=Tryd.sizeOf45
 v37:=Tryd.zeroValue45
 t46:=Tryd.underlying81
 a46:=Tryd.isAgg81
 z46:=Tryd.sizeOf81
 v46:=Tryd.zeroValue81
 t51:=Tryd.underlying103
 a51:=Tryd.isAgg103
 z51:=Tryd.sizeOf103
 v51:=Tryd.zeroValue103
 t53:=Tryd.underlying53
 a53:=Tryd.isAgg53
 z53:=Tryd.sizeOf53
 v53:=Tryd.zeroValue53
 t171:=Tryd.underlying98
 a171:=Tryd.isAgg98
 z171:=Tryd.sizeOf98
 v171:=Tryd.zeroValue98
 t173:=Tryd.underlying101
 a173:=Tryd.isAgg101
 z173:=Tryd.sizeOf101
 v173:=Tryd.zeroValue101
 t212:=Tryd.underlying113
 a212:=Tryd.isAgg113
 z212:=Tryd.sizeOf113
 v212:=Tryd.zeroValue113
 t213:=Tryd.underlying114
 a213:=Tryd.isAgg114
 z213:=Tryd.sizeOf114
 t232:=Tryd.underlying134
 a232:=Tryd.isAgg134
 z232:=Tryd.sizeOf134
 v232:=Tryd.zeroValue134
 t233:=Tryd.underlying135
 a233:=Tryd.isAgg135
 z233:=Tryd.sizeOf135
 v233:=Tryd.zeroValue135
 g17:=by kernel_rfl
 g18:=by kernel_rfl
 g19:=by kernel_rfl
 i0:=by kernel_rfl
 i2:=by kernel_rfl
 i3:=by kernel_rfl
 i4:=by kernel_rfl
 i5:=by kernel_rfl
 i9:=by kernel_rfl
 i20:=by kernel_rfl
 i37:=by kernel_rfl
 i46:=by kernel_rfl
 i51:=by kernel_rfl
 i53:=by kernel_rfl
 i171:=by kernel_rfl
 i173:=by kernel_rfl
 i212:=by kernel_rfl
 i232:=by kernel_rfl
 i233:=by kernel_rfl
 m17:=by kernel_rfl
 m18:=by kernel_rfl
 m19:=by kernel_rfl }
open Go.RowKit Go.Sort Go.Lib in
theorem Tryd.strconv_FormatInt_10 (n : Int) (h0 : -9223372036854775808 ≤ n) (h1 : n ≤ 9223372036854775807) (w : World) (htab : Lib.TabIs Tryd.prog w "internal/strconv.uint64pow10" .u64 Lib.pow10Tab) :
 Calls Tryd.prog 44 #[.int .i64 n, .int .i64 10] w fun e w'=>e= .returned (.string ⟨(Lib.itoa n).toArray⟩)∧∃ k os,w'=grow (w.drewN k) os:=Any.strconv_FormatInt_10 Tryd.laysM173 n h0 h1 w htab
def Tryd.laysC174_ren:Go.Shelf.Ren:=⟨fun|174=>54|247=>72|245=>73|287=>87|279=>88|280=>89|281=>90|282=>91|321=>97|322=>98|316=>99|171=>101|205=>100|243=>102|246=>59|283=>60|284=>61|285=>62|286=>63|129=>76|317=>75|318=>77|319=>78|320=>79|337=>93|338=>94|n=>n,fun|9=>9|3=>3|2=>2|75=>49|85=>91|4=>4|167=>121|5=>5|53=>53|175=>122|46=>81|168=>124|37=>45|0=>0|210=>132|21=>21|127=>87|145=>142|143=>140|171=>98|173=>101|212=>113|51=>103|20=>20|213=>114|232=>134|233=>135|80=>58|n=>n,fun|15=>2|16=>3|17=>0|18=>4|19=>5|n=>n⟩
theorem Tryd.laysC174:Go.Proofs.LaysC.n174 Tryd.prog Tryd.laysC174_ren:={
 mixed:=by kernel_rfl
 f129:=Tryd.func76.trans (congrArg some (by kernel_rfl))
 f171:=Tryd.func101.trans (congrArg some (by kernel_rfl))
 f174:=Tryd.func54.trans (congrArg some (by kernel_rfl))
 f205:=Tryd.func100.trans (congrArg some (by kernel_rfl))
 f243:=Tryd.func102.trans (congrArg some (by kernel_rfl))
 f245:=Tryd.func73.trans (congrArg some (by kernel_rfl))
 f246:=Tryd.func59.trans (congrArg some (by kernel_rfl))
 f247:=Tryd.func72.trans (congrArg some (by kernel_rfl))
 f279:=Tryd.func88.trans (congrArg some (by kernel_rfl))
 f280:=Tryd.func89.trans (congrArg some (by kernel_rfl))
 f281:=Tryd.func90.trans (congrArg some (by kernel_rfl))
 f282:=Tryd.func91.trans (congrArg some (by kernel_rfl))
 f283:=Tryd.func60.trans (congrArg some (by kernel_rfl))
 f284:=Tryd.func61.trans (congrArg some (by kernel_rfl))
 f285:=Tryd.func62.trans (congrArg some (by kernel_rfl))
 f286:=Tryd.func63.trans (congrArg some (by kernel_rfl))
 f287:=Tryd.func87.trans (congrArg some (by kernel_rfl))
 f316:=Tryd.func99.trans (congrArg some (by kernel_rfl))
 f317:=Tryd.func75.trans (congrArg some (by kernel_rfl))
 f318:=Tryd.func77.trans (congrArg some (by kernel_rfl))
 f319:=Tryd.func78.trans (congrArg some (by kernel_rfl))
 f320:=Tryd.func79.trans (congrArg some (by kernel_rfl))
 f321:=Tryd.func97.trans (congrArg some (by kernel_rfl))
 f322:=Tryd.func98.trans (congrArg some (by kernel_rfl))
 f337:=Tryd.func93.trans (congrArg some (by kernel_rfl))
 f338:=Tryd.func94.trans (congrArg some (by kernel_rfl))
 t0:=Tryd.underlying0
 a0:=Tryd.isAgg0
 z0:=Tryd.sizeOf0
 v0:=Tryd.zeroValue0
 t2:=Tryd.underlying2
 a2:=Tryd.isAgg2
 z2:=Tryd.sizeOf2
 v2:=Tryd.zeroValue2
 t3:=Tryd.underlying3
 a3:=Tryd.isAgg3
 z3:=Tryd.sizeOf3
 v3:=Tryd.zeroValue3
 t4:=Tryd.underlying4
 a4:=Tryd.isAgg4
 z4:=Tryd.sizeOf4
 v4:=Tryd.zeroValue4
 t5:=Tryd.underlying5
 a5:=Tryd.isAgg5
 z5:=Tryd.sizeOf5
 v5:=Tryd.zeroValue5
 t9:=Tryd.underlying9
 a9:=Tryd.isAgg9
 z9:=Tryd.sizeOf9
 v9:=Tryd.zeroValue9
 t20:=Tryd.underlying20
 a20:=Tryd.isAgg20
 z20:=Tryd.sizeOf20
 v20:=Tryd.zeroValue20
 t21:=Tryd.underlying21
 a21:=Tryd.isAgg21
 z21:=Tryd.sizeOf21
 v21:=Tryd.zeroValue21
 t37:=Tryd.underlying45
 a37:=Tryd.isAgg45
 z37:=Tryd.sizeOf45
 v37:=Tryd.zeroValue45
 t46:=Tryd.underlying81
 a46:=Tryd.isAgg81
 z46:=Tryd.sizeOf81
 v46:=Tryd.zeroValue81
 t51:=Tryd.underlying103
 a51:=Tryd.isAgg103
 z51:=Tryd.sizeOf103
 v51:=Tryd.zeroValue103
 t53:=Tryd.underlying53
 a53:=Tryd.isAgg53
 z53:=Tryd.sizeOf53
 v53:=Tryd.zeroValue53
 t75:=Tryd.underlying49
 a75:=Tryd.isAgg49
 z75:=Tryd.sizeOf49
 v75:=Tryd.zeroValue49
 t85:=Tryd.underlying91
 a85:=Tryd.isAgg91
 z85:=Tryd.sizeOf91
 v85:=Tryd.zeroValue91
 t127:=Tryd.underlying87
 a127:=Tryd.isAgg87
 z127:=Tryd.sizeOf87
 v127:=Tryd.zeroValue87
 t143:=Tryd.underlying140
 a143:=Tryd.isAgg140
 z143:=Tryd.sizeOf140
 v143:=Tryd.zeroValue140
 t145:=Tryd.underlying142
 a145:=Tryd.isAgg142
 z145:=Tryd.sizeOf142
 v145:=Tryd.zeroValue142
 t167:=Tryd.underlying121
 a167:=Tryd.isAgg121
 z167:=Tryd.sizeOf121
 v167:=Tryd.zeroValue121
 t168:=Tryd.underlying124
 a168:=Tryd.isAgg124
 z168:=Tryd.sizeOf124
 v168:=Tryd.zeroValue124
 t171:=Tryd.underlying98
 a171:=Tryd.isAgg98
 z171:=Tryd.sizeOf98
 v171:=Tryd.zeroValue98
 t173:=Tryd.underlying101
 a173:=Tryd.isAgg101
 z173:=Tryd.sizeOf101
 v173:=Tryd.zeroValue101
 t175:=Tryd.underlying122
 a175:=Tryd.isAgg122
 z175:=Tryd.sizeOf122
 v175:=Tryd.zeroValue122
 t210:=Tryd.underlying132
 a210:=Tryd.isAgg132
 z210:=Tryd.sizeOf132
 v210:=Tryd.zeroValue132
 t212:=Tryd.underlying113
 a212:=Tryd.isAgg113
 z212:=Tryd.sizeOf113
 v212:=Tryd.zeroValue113
 t213:=Tryd.underlying114
 a213:=Tryd.isAgg114
 z213:=Tryd.sizeOf114
 t232:=Tryd.underlying134
 a232:=Tryd.isAgg134
 z232:=Tryd.sizeOf134
 v232:=Tryd.zeroValue134
 t233:=Tryd.underlying135
 a233:=Tryd.isAgg135
 z233:=Tryd.sizeOf135
 v233:=Tryd.zeroValue135
 g15:=by kernel_rfl
 g16:=by kernel_rfl
 g17:=by kernel_rfl
 g18:=by kernel_rfl
 g19:=by kernel_rfl
 t80:=Tryd.underlying58
 a80:=Tryd.isAgg58
 z80:=Tryd.sizeOf58
 v80:=Tryd.zeroValue58
 i0:=by kernel_rfl
 i2:=by kernel_rfl
 i3:=by kernel_rfl
 i4:=by kernel_rfl
 i5:=by kernel_rfl
 i9:=by kernel_rfl
 i20:=by kernel_rfl
 i21:=by kernel_rfl
 i37:=by kernel_rfl
 i46:=by kernel_rfl
 i51:=by kernel_rfl
 i53:=by kernel_rfl
 i75:=by kernel_rfl
 i80:=by kernel_rfl
 i85:=by kernel_rfl
 i127:=by kernel_rfl
 i143:=by kernel_rfl
 i145:=by kernel_rfl
 i167:=by kernel_rfl
 i168:=by kernel_rfl
 i171:=by kernel_rfl
 i173:=by kernel_rfl
 i175:=by kernel_rfl
 i210:=by kernel_rfl
 i212:=by kernel_rfl
 i232:=by kernel_rfl
 i233:=by kernel_rfl
 m15:=by kernel_rfl
 m16:=by kernel_rfl
 m17:=by kernel_rfl
 m18:=by kernel_rfl
 m19:=by kernel_rfl
 c0:=by kernel_rfl
 c2:=by kernel_rfl
 c3:=by kernel_rfl
 c4:=by kernel_rfl
 c5:=by kernel_rfl
 c9:=by kernel_rfl
 c20:=by kernel_rfl
 c21:=by kernel_rfl
 c37:=by kernel_rfl
 c46:=by kernel_rfl
 c51:=by kernel_rfl
 c53:=by kernel_rfl
 c75:=by kernel_rfl
 c80:=by kernel_rfl
 c85:=by kernel_rfl
 c127:=by kernel_rfl
 c143:=by kernel_rfl
 c145:=by kernel_rfl
 c167:=by kernel_rfl
 c168:=by kernel_rfl
 c171:=by kernel_rfl
 c173:=by kernel_rfl
 c175:=by kernel_rfl
 c210:=by kernel_rfl
 c212:=by kernel_rfl
 c213:=by kernel_rfl
 c232:=by kernel_rfl
 c233:=by kernel_rfl }
open Go.RowKit in
theorem Tryd.strconv_ParseInt_10_at64_ok (s:ByteArray) (hmax:s.size≤9223372036854775806) (v:Int) (h:Lib.parseIntB 64 s.data.toList= .ok v) (w:World):
 Calls Tryd.prog 54 #[.string s, .int .i64 10, .int .i64 64] w fun e w'=>e= .returned (.tuple #[.int .i64 v, .nilIface])∧(w'=w∨∃ t,w'=Lib.bytesWorld w 5 t):=Any.strconv_ParseInt_10_at64_ok Tryd.laysC174 s hmax v h w
open Go.RowKit in
theorem Tryd.Qbo (s:ByteArray) (hlim:s.size≤281474976710656) (h1:∀ v,Lib.parseIntB 64 s.data.toList≠ .ok v) (h2:Lib.parseIntB 64 s.data.toList≠ .range) (ev:Value) (w:World) (hv:w.cell? ⟨2,0,none⟩=some ev) (hev:ev= .nilIface∨∃ te pe,ev= .iface te pe):
 Calls Tryd.prog 54 #[.string s, .int .i64 10, .int .i64 64] w fun e w'=>∃ N,e= .returned (.tuple #[.int .i64 (0), .iface 124 (.pointer (some ⟨N,0,none⟩))])∧w.heap.size≤N∧w'.heap[N]?=some (.cells #[.string ⟨#[80,97,114,115,101,73,110,116]⟩, .string s,ev] 132 (0,0))∧Below w.heap.size w w':=Any.strconv_ParseInt_10_at64_syntax Tryd.laysC174 s hlim (by
 cases hp:Lib.parseIntB 64 s.data.toList with
 |ok v=>exact absurd hp (h1 v)
 |range=>exact absurd hp h2
 |_=>rfl) ev w hv hev
open Go.RowKit in
theorem Tryd.strconv_ParseInt_10_at64_range (s:ByteArray) (hlim:s.size≤281474976710656) (h:Lib.parseIntB 64 s.data.toList= .range) (ev:Value) (w:World) (hv:w.cell? ⟨3,0,none⟩=some ev) (hev:ev= .nilIface∨∃ te pe,ev= .iface te pe):
 Calls Tryd.prog 54 #[.string s, .int .i64 10, .int .i64 64] w fun e w'=>∃ N,e= .returned (.tuple #[.int .i64 (Lib.intSat 64 s.data.toList), .iface 124 (.pointer (some ⟨N,0,none⟩))])∧w.heap.size≤N∧w'.heap[N]?=some (.cells #[.string ⟨#[80,97,114,115,101,73,110,116]⟩, .string s,ev] 132 (0,0))∧Below w.heap.size w w':=Any.strconv_ParseInt_10_at64_range Tryd.laysC174 s hlim h ev w hv hev
def Tryd.lays145_ren:Go.Shelf.Ren:=⟨fun|145=>30|220=>53|219=>71|217=>74|225=>84|224=>85|267=>86|266=>92|314=>96|n=>n,fun|9=>9|4=>4|59=>68|3=>3|5=>5|46=>81|146=>104|51=>103|n=>n,fun|1=>1|n=>n⟩
theorem Tryd.lays145:Go.Proofs.Lays.n145 Tryd.prog Tryd.lays145_ren:={
 mixed:=by kernel_rfl
 f145:=Tryd.func30.trans (congrArg some (by kernel_rfl))
 f217:=Tryd.func74.trans (congrArg some (by kernel_rfl))
 f219:=Tryd.func71.trans (congrArg some (by kernel_rfl))
 f220:=Tryd.func53.trans (congrArg some (by kernel_rfl))
 f224:=Tryd.func85.trans (congrArg some (by kernel_rfl))
 f225:=Tryd.func84.trans (congrArg some (by kernel_rfl))
 f266:=Tryd.func92.trans (congrArg some (by kernel_rfl))
 f267:=Tryd.func86.trans (congrArg some (by kernel_rfl))
 f314:=Tryd.func96.trans (congrArg some (by kernel_rfl))
 t3:=Tryd.underlying3
 a3:=Tryd.isAgg3
 z3:=Tryd.sizeOf3
 v3:=Tryd.zeroValue3
 t4:=Tryd.underlying4
 a4:=Tryd.isAgg4
 z4:=Tryd.sizeOf4
 v4:=Tryd.zeroValue4
 t5:=Tryd.underlying5
 a5:=Tryd.isAgg5
 z5:=Tryd.sizeOf5
 v5:=Tryd.zeroValue5
 t9:=Tryd.underlying9
 a9:=Tryd.isAgg9
 z9:=Tryd.sizeOf9
 v9:=Tryd.zeroValue9
 t46:=Tryd.underlying81
 a46:=Tryd.isAgg81
 z46:=Tryd.sizeOf81
 v46:=Tryd.zeroValue81
 t51:=Tryd.underlying103
 a51:=Tryd.isAgg103
 z51:=Tryd.sizeOf103
 v51:=Tryd.zeroValue103
 t59:=Tryd.underlying68
 a59:=Tryd.isAgg68
 z59:=Tryd.sizeOf68
 v59:=Tryd.zeroValue68
 t146:=Tryd.underlying104
 a146:=Tryd.isAgg104
 z146:=Tryd.sizeOf104
 v146:=Tryd.zeroValue104
 g1:=by kernel_rfl }
open Go.RowKit Go.Lib in
theorem Tryd.strings_Cut (s sep:ByteArray) (m:Int) (w:World) (hs:s.size< 4294967281) (hm:w.cell? ⟨1,0,none⟩=some (.int .i64 m)):
 Calls Tryd.prog 30 #[.string s, .string sep] w fun e w'=>e= .returned (.tuple #[.string ⟨(Lib.cut s.data.toList sep.data.toList).1.toArray⟩, .string ⟨(Lib.cut s.data.toList sep.data.toList).2.1.toArray⟩, .bool (Lib.cut s.data.toList sep.data.toList).2.2])∧∃ n,w'=w.drewN n:=Any.strings_Cut Tryd.lays145 s sep m w hs hm
def Tryd.lays146_ren:Go.Shelf.Ren:=⟨fun|146=>29|221=>52|268=>68|138=>69|143=>70|195=>81|197=>82|218=>83|219=>71|260=>95|217=>74|225=>84|224=>85|267=>86|266=>92|314=>96|n=>n,fun|9=>9|31=>60|3=>3|4=>4|0=>0|105=>119|21=>21|5=>5|46=>81|119=>136|139=>139|138=>138|146=>104|51=>103|n=>n,fun|1=>1|3=>6|4=>7|n=>n⟩
theorem Tryd.lays146:Go.Proofs.Lays.n146 Tryd.prog Tryd.lays146_ren:={
 mixed:=by kernel_rfl
 f138:=Tryd.func69.trans (congrArg some (by kernel_rfl))
 f143:=Tryd.func70.trans (congrArg some (by kernel_rfl))
 f146:=Tryd.func29.trans (congrArg some (by kernel_rfl))
 f195:=Tryd.func81.trans (congrArg some (by kernel_rfl))
 f197:=Tryd.func82.trans (congrArg some (by kernel_rfl))
 f217:=Tryd.func74.trans (congrArg some (by kernel_rfl))
 f218:=Tryd.func83.trans (congrArg some (by kernel_rfl))
 f219:=Tryd.func71.trans (congrArg some (by kernel_rfl))
 f221:=Tryd.func52.trans (congrArg some (by kernel_rfl))
 f224:=Tryd.func85.trans (congrArg some (by kernel_rfl))
 f225:=Tryd.func84.trans (congrArg some (by kernel_rfl))
 f260:=Tryd.func95.trans (congrArg some (by kernel_rfl))
 f266:=Tryd.func92.trans (congrArg some (by kernel_rfl))
 f267:=Tryd.func86.trans (congrArg some (by kernel_rfl))
 f268:=Tryd.func68.trans (congrArg some (by kernel_rfl))
 f314:=Tryd.func96.trans (congrArg some (by kernel_rfl))
 t0:=Tryd.underlying0
 a0:=Tryd.isAgg0
 z0:=Tryd.sizeOf0
 v0:=Tryd.zeroValue0
 t3:=Tryd.underlying3
 a3:=Tryd.isAgg3
 z3:=Tryd.sizeOf3
 v3:=Tryd.zeroValue3
 t4:=Tryd.underlying4
 a4:=Tryd.isAgg4
 z4:=Tryd.sizeOf4
 v4:=Tryd.zeroValue4
 t5:=Tryd.underlying5
 a5:=Tryd.isAgg5
 z5:=Tryd.sizeOf5
 v5:=Tryd.zeroValue5
 t9:=Tryd.underlying9
 a9:=Tryd.isAgg9
 z9:=Tryd.sizeOf9
 v9:=Tryd.zeroValue9
 t21:=Tryd.underlying21
 a21:=Tryd.isAgg21
 z21:=Tryd.sizeOf21
 v21:=Tryd.zeroValue21
 t31:=Tryd.underlying60
 a31:=Tryd.isAgg60
 z31:=Tryd.sizeOf60
 v31:=Tryd.zeroValue60
 t46:=Tryd.underlying81
 a46:=Tryd.isAgg81
 z46:=Tryd.sizeOf81
 v46:=Tryd.zeroValue81
 t51:=Tryd.underlying103
 a51:=Tryd.isAgg103
 z51:=Tryd.sizeOf103
 v51:=Tryd.zeroValue103
 t105:=Tryd.underlying119
 a105:=Tryd.isAgg119
 z105:=Tryd.sizeOf119
 v105:=Tryd.zeroValue119
 t119:=Tryd.underlying136
 a119:=Tryd.isAgg136
 z119:=Tryd.sizeOf136
 t138:=Tryd.underlying138
 a138:=Tryd.isAgg138
 z138:=Tryd.sizeOf138
 v138:=Tryd.zeroValue138
 t139:=Tryd.underlying139
 a139:=Tryd.isAgg139
 z139:=Tryd.sizeOf139
 v139:=Tryd.zeroValue139
 t146:=Tryd.underlying104
 a146:=Tryd.isAgg104
 z146:=Tryd.sizeOf104
 v146:=Tryd.zeroValue104
 g1:=by kernel_rfl
 g3:=by kernel_rfl
 g4:=by kernel_rfl }
open Go.RowKit Go.Lib in
theorem Tryd.strings_Split (s sep:ByteArray) (m:Int) (w:World) (hs:s.size< 4294967281) (hm:w.cell? ⟨1,0,none⟩=some (.int .i64 m)) (h1:1≤sep.size):
 Calls Tryd.prog 29 #[.string s, .string sep] w fun e w'=>
  e= .returned (.slice (some ⟨w.heap.size,0,none⟩) (Lib.countB s sep+1) (Lib.countB s sep+1))∧w'=w.alloc (.cells ((Lib.splitB sep 0 (Lib.countB s sep) s).map Value.string).toArray 9):=Any.strings_Split Tryd.lays146 (by kernel_rfl) s sep m w hs hm h1
def Tryd.lays264_ren:Go.Shelf.Ren:=⟨fun|264=>65|n=>n,fun|53=>53|46=>81|n=>n,fun|n=>n⟩
theorem Tryd.lays264:Go.Proofs.Lays.n264 Tryd.prog Tryd.lays264_ren:={
 mixed:=by kernel_rfl
 f264:=Tryd.func65.trans (congrArg some (by kernel_rfl))
 t46:=Tryd.underlying81
 a46:=Tryd.isAgg81
 z46:=Tryd.sizeOf81
 v46:=Tryd.zeroValue81
 t53:=Tryd.underlying53
 a53:=Tryd.isAgg53
 z53:=Tryd.sizeOf53
 v53:=Tryd.zeroValue53 }
open Go.RowKit Go.Lib in
theorem Tryd.bits_Mul64 (x y:Nat) (hx:x< 18446744073709551616) (hy:y< 18446744073709551616) (w:World):
 Calls Tryd.prog 65 #[.int .u64 x, .int .u64 y] w fun e w'=>e= .returned (.tuple #[.int .u64 ((x*y/18446744073709551616:Nat):Int), .int .u64 ((x*y%18446744073709551616:Nat):Int)])∧w'=w:=Any.bits_Mul64 Tryd.lays264 x y hx hy w
def Tryd.lays212_ren:Go.Shelf.Ren:=⟨fun|212=>46|263=>64|264=>65|n=>n,fun|46=>81|51=>103|146=>104|53=>53|148=>106|n=>n,fun|n=>n⟩
theorem Tryd.lays212:Go.Proofs.Lays.n212 Tryd.prog Tryd.lays212_ren:={
 mixed:=by kernel_rfl
 f212:=Tryd.func46.trans (congrArg some (by kernel_rfl))
 f263:=Tryd.func64.trans (congrArg some (by kernel_rfl))
 f264:=Tryd.func65.trans (congrArg some (by kernel_rfl))
 t46:=Tryd.underlying81
 a46:=Tryd.isAgg81
 z46:=Tryd.sizeOf81
 v46:=Tryd.zeroValue81
 t51:=Tryd.underlying103
 a51:=Tryd.isAgg103
 z51:=Tryd.sizeOf103
 v51:=Tryd.zeroValue103
 t53:=Tryd.underlying53
 a53:=Tryd.isAgg53
 z53:=Tryd.sizeOf53
 v53:=Tryd.zeroValue53
 t146:=Tryd.underlying104
 a146:=Tryd.isAgg104
 z146:=Tryd.sizeOf104
 v146:=Tryd.zeroValue104
 t148:=Tryd.underlying106
 a148:=Tryd.isAgg106
 z148:=Tryd.sizeOf106
 v148:=Tryd.zeroValue106 }
open Go.RowKit Go.Lib in
theorem Tryd.bits_Mul (x y:Nat) (hx:x< 18446744073709551616) (hy:y< 18446744073709551616) (w:World):
 Calls Tryd.prog 46 #[.int .u64 x, .int .u64 y] w fun e w'=>e= .returned (.tuple #[.int .u64 ((x*y/18446744073709551616:Nat):Int), .int .u64 ((x*y%18446744073709551616:Nat):Int)])∧w'=w:=Any.bits_Mul Tryd.lays212 x y hx hy w
end Go.Proofs
