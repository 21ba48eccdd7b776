import Derived.Test.YtbemddpmohoooaaGreatDoorQ11
import Derived.Test.YtbemddpmohoooaaGreatDoorQ12
import Derived.Shelf.Strings.Builder1
import Derived.Shelf.Strings.Builder2
import Derived.Shelf.Strings.OnBuilder
import Derived.Shelf.Small.Strs
import Derived.Shelf.Strings.BuilderF
import Derived.Shelf.Strings.BuilderK
import Derived.Shelf.Utf8.RuneCount
import Derived.Shelf.Strings.Builder2Cap
import Derived.Shelf.Strconv.Itoa0
import Derived.Shelf.Strconv.Itoa1
import Derived.Shelf.LaysM
import Derived.Shelf.Strconv.Itoa2
import Derived.Shelf.Strconv.Itoa3
import Derived.Shelf.Strconv.Itoa4
import Derived.Shelf.Strconv.ParseIntEmpty
import Derived.Shelf.Strconv.Clone
import Derived.Shelf.Strconv.SyntaxError
import Derived.Shelf.LaysC
import Derived.Shelf.Strconv.ToError
import Derived.Shelf.Strconv.Lower
import Derived.Shelf.Strconv.ParseUint10
import Derived.Shelf.Strconv.ParseUint10Empty
import Derived.Shelf.Strconv.ParseUint10Any
import Derived.Shelf.Strconv.ParseInt10
import Derived.Shelf.Strconv.RangeError
import Derived.Shelf.Strconv.ToErrorRange
import Derived.Shelf.Strconv.ParseUintEmpty
import Derived.Shelf.Strconv.ParseUint10b64
import Derived.Shelf.Strconv.ParseUint10b32
import Derived.Shelf.Strconv.ParseUint10b16
import Derived.Shelf.Strconv.ParseUint10b8
import Derived.Shelf.Strconv.ParseUint10At
import Derived.Shelf.Strconv.ParseInt10At64
import Derived.Shelf.Strconv.ParseInt10At32
import Derived.Shelf.Strconv.ParseInt10At16
import Derived.Shelf.Strconv.ParseInt10At8
import Derived.Shelf.Strconv.ParseInt10All
import Derived.Shelf.Strconv.ParseIntPublic10
import Derived.Shelf.Strconv.ErrVarParseInt
import Derived.Shelf.Strings.Search1
import Derived.Shelf.Strings.Search2
import Derived.Shelf.Strings.Search3
import Derived.Shelf.Strings.Count
import Derived.Shelf.Strings.Shaped
import Derived.Shelf.Strings.Prefix
import Derived.Shelf.Strings.Split
import Derived.Shelf.Strings.RuneCount
import Derived.Shelf.Strings.BuilderCap
import Derived.Test.YtbemddpmohoooaaGreatDoorProg
set_option linter.unusedVariables false
set_option linter.unusedSimpArgs false
set_option linter.unusedSectionVars false
set_option maxHeartbeats 128000000
set_option maxRecDepth 100000
namespace Go.Proofs.YtbemddpmohoooaaGreatDoor
open Go.Shelf Go.Proofs
def Tryz.lays156_ren:Go.Shelf.Ren:=⟨fun|156=>84|165=>101|166=>51|169=>25|240=>82|241=>109|276=>99|277=>117|n=>n,fun|31=>28|9=>9|3=>3|4=>4|0=>0|20=>20|72=>67|76=>97|70=>65|37=>46|75=>95|127=>100|164=>130|5=>5|80=>56|n=>n,fun|n=>n⟩
theorem Tryz.lays156:Go.Proofs.Lays.n156 Tryz.prog Tryz.lays156_ren:={
 mixed:=by kernel_rfl
 f156:=Tryz.func84.trans (congrArg some (by kernel_rfl))
 f165:=Tryz.func101.trans (congrArg some (by kernel_rfl))
 f166:=Tryz.func51.trans (congrArg some (by kernel_rfl))
 f169:=Tryz.func25.trans (congrArg some (by kernel_rfl))
 f240:=Tryz.func82.trans (congrArg some (by kernel_rfl))
 f241:=Tryz.func109.trans (congrArg some (by kernel_rfl))
 f276:=Tryz.func99.trans (congrArg some (by kernel_rfl))
 f277:=Tryz.func117.trans (congrArg some (by kernel_rfl))
 t0:=Tryz.underlying0
 a0:=Tryz.isAgg0
 z0:=Tryz.sizeOf0
 v0:=Tryz.zeroValue0
 t3:=Tryz.underlying3
 a3:=Tryz.isAgg3
 z3:=Tryz.sizeOf3
 v3:=Tryz.zeroValue3
 t4:=Tryz.underlying4
 a4:=Tryz.isAgg4
 z4:=Tryz.sizeOf4
 v4:=Tryz.zeroValue4
 t9:=Tryz.underlying9
 a9:=Tryz.isAgg9
 z9:=Tryz.sizeOf9
 v9:=Tryz.zeroValue9
 t20:=Tryz.underlying20
 a20:=Tryz.isAgg20
 z20:=Tryz.sizeOf20
 v20:=Tryz.zeroValue20
 t31:=Tryz.underlying28
 a31:=Tryz.isAgg28
 z31:=Tryz.sizeOf28
 v31:=Tryz.zeroValue28
 t37:=Tryz.underlying46
 a37:=Tryz.isAgg46
 z37:=Tryz.sizeOf46
 v37:=Tryz.zeroValue46
 t70:=Tryz.underlying65
 a70:=Tryz.isAgg65
 z70:=Tryz.sizeOf65
 v70:=Tryz.zeroValue65
 t72:=Tryz.underlying67
 a72:=Tryz.isAgg67
 z72:=Tryz.sizeOf67
 v72:=Tryz.zeroValue67
 t75:=Tryz.underlying95
 a75:=Tryz.isAgg95
 z75:=Tryz.sizeOf95
 v75:=Tryz.zeroValue95
 t76:=Tryz.underlying97
 a76:=Tryz.isAgg97
 z76:=Tryz.sizeOf97
 v76:=Tryz.zeroValue97
 t127:=Tryz.underlying100
 a127:=Tryz.isAgg100
 z127:=Tryz.sizeOf100
 v127:=Tryz.zeroValue100
 t164:=Tryz.underlying130
 a164:=Tryz.isAgg130
 z164:=Tryz.sizeOf130
 v164:=Tryz.zeroValue130}
theorem Tryz.Builder_Extra_156:Builder.Extra Tryz.prog Tryz.lays156_ren:={
 sizeBuilder:=by kernel_rfl
 liesBuilder:=by kernel_rfl
 t5:=Tryz.underlying5
 a5:=Tryz.isAgg5
 z5:=Tryz.sizeOf5
 v5:=Tryz.zeroValue5
 infoByte:=by kernel_rfl
 cellsByte:=by kernel_rfl
 sizeByte:=by kernel_rfl
 neB5:=by decide}
open Go.RowKit in
theorem Tryz.strings_Join (bk o c:Nat) (xs:List Bs) (sep:Bs) (w:World) (hcells:∀(j:Nat) x,xs[j]? =some x→w.cell? ⟨bk,o+j,none⟩=some (.string x)) (hbk:bk<w.heap.size) (hN:xs.length≤140737488355328) (hcap:xs.length≤c) (hlen:(Lib.join (xs.map (·.data.toList)) sep.data.toList).length≤140737488355328):
 Calls Tryz.prog 84 #[.slice (some ⟨bk,o,none⟩) xs.length c,.string sep] w fun e w'=>e= .returned (.string ⟨(Lib.join (xs.map (·.data.toList)) sep.data.toList).toArray⟩)∧Below w.heap.size w w':=Any.strings_Join Tryz.lays156 Tryz.Builder_Extra_156 bk o c xs sep w hcells hbk hN hcap hlen
def Tryz.lays137_ren:Go.Shelf.Ren:=⟨fun|137=>72|217=>94|266=>102|n=>n,fun|9=>9|5=>5|3=>3|n=>n,fun|n=>n⟩
theorem Tryz.lays137:Go.Proofs.Lays.n137 Tryz.prog Tryz.lays137_ren:={
 mixed:=by kernel_rfl
 f137:=Tryz.func72.trans (congrArg some (by kernel_rfl))
 f217:=Tryz.func94.trans (congrArg some (by kernel_rfl))
 f266:=Tryz.func102.trans (congrArg some (by kernel_rfl))
 t3:=Tryz.underlying3
 a3:=Tryz.isAgg3
 z3:=Tryz.sizeOf3
 v3:=Tryz.zeroValue3
 t5:=Tryz.underlying5
 a5:=Tryz.isAgg5
 z5:=Tryz.sizeOf5
 v5:=Tryz.zeroValue5
 t9:=Tryz.underlying9
 a9:=Tryz.isAgg9
 z9:=Tryz.sizeOf9
 v9:=Tryz.zeroValue9}
open Go.RowKit in
theorem Tryz.strings_IndexByte (s:Bs) (c:Int) (w:World):
 Calls Tryz.prog 72 #[.string s,.int .u8 c] w fun e w'=>e= .returned (.int .i64 (Lib.indexByte s.data.toList c.toNat.toUInt8))∧w'=w:=Any.strings_IndexByte Tryz.lays137 s c w
def Tryz.laysM173_ren:Go.Shelf.Ren:=⟨fun|173=>108|246=>116|283=>123|284=>124|285=>125|286=>126|129=>129|317=>128|318=>130|319=>131|320=>132|337=>133|338=>134|n=>n,fun|2=>2|3=>3|9=>9|4=>4|171=>155|0=>0|53=>143|37=>46|5=>5|173=>158|212=>164|51=>139|20=>20|213=>165|46=>135|232=>169|233=>170|n=>n,fun|17=>6|18=>7|19=>8|n=>n⟩
theorem Tryz.laysM173:Go.Proofs.LaysM.n173 Tryz.prog Tryz.laysM173_ren:={
 mixed:=by kernel_rfl
 f129:=Tryz.func129.trans (congrArg some (by kernel_rfl))
 f173:=Tryz.func108.trans (congrArg some (by kernel_rfl))
 f246:=Tryz.func116.trans (congrArg some (by kernel_rfl))
 f283:=Tryz.func123.trans (congrArg some (by kernel_rfl))
 f284:=Tryz.func124.trans (congrArg some (by kernel_rfl))
 f285:=Tryz.func125.trans (congrArg some (by kernel_rfl))
 f286:=Tryz.func126.trans (congrArg some (by kernel_rfl))
 f317:=Tryz.func128.trans (congrArg some (by kernel_rfl))
 f318:=Tryz.func130.trans (congrArg some (by kernel_rfl))
 f319:=Tryz.func131.trans (congrArg some (by kernel_rfl))
 f320:=Tryz.func132.trans (congrArg some (by kernel_rfl))
 f337:=Tryz.func133.trans (congrArg some (by kernel_rfl))
 f338:=Tryz.func134.trans (congrArg some (by kernel_rfl))
 t0:=Tryz.underlying0
 a0:=Tryz.isAgg0
 z0:=Tryz.sizeOf0
 v0:=Tryz.zeroValue0
 t2:=Tryz.underlying2
 a2:=Tryz.isAgg2
 z2:=Tryz.sizeOf2
 v2:=Tryz.zeroValue2
 t3:=Tryz.underlying3
 a3:=Tryz.isAgg3
 z3:=Tryz.sizeOf3
 v3:=Tryz.zeroValue3
 t4:=Tryz.underlying4
 a4:=Tryz.isAgg4
 z4:=Tryz.sizeOf4
 v4:=Tryz.zeroValue4
 t5:=Tryz.underlying5
 a5:=Tryz.isAgg5
 z5:=Tryz.sizeOf5
 v5:=Tryz.zeroValue5
 t9:=Tryz.underlying9
 a9:=Tryz.isAgg9
 z9:=Tryz.sizeOf9
 v9:=Tryz.zeroValue9
 t20:=Tryz.underlying20
 a20:=Tryz.isAgg20
 z20:=Tryz.sizeOf20
 v20:=Tryz.zeroValue20
 t37:=Tryz.underlying46
 a37:=Tryz.isAgg46
 z37:=Tryz.sizeOf46
 v37:=Tryz.zeroValue46
 t46:=Tryz.underlying135
 a46:=Tryz.isAgg135
 z46:=Tryz.sizeOf135
 v46:=Tryz.zeroValue135
 t51:=Tryz.underlying139
 a51:=Tryz.isAgg139
 z51:=Tryz.sizeOf139
 v51:=Tryz.zeroValue139
 t53:=Tryz.underlying143
 a53:=Tryz.isAgg143
 z53:=Tryz.sizeOf143
 v53:=Tryz.zeroValue143
 t171:=Tryz.underlying155
 a171:=Tryz.isAgg155
 z171:=Tryz.sizeOf155
 v171:=Tryz.zeroValue155
 t173:=Tryz.underlying158
 a173:=Tryz.isAgg158
 z173:=Tryz.sizeOf158
 v173:=Tryz.zeroValue158
 t212:=Tryz.underlying164
 a212:=Tryz.isAgg164
 z212:=Tryz.sizeOf164
 v212:=Tryz.zeroValue164
 t213:=Tryz.underlying165
 a213:=Tryz.isAgg165
 z213:=Tryz.sizeOf165
 t232:=Tryz.underlying169
 a232:=Tryz.isAgg169
 z232:=Tryz.sizeOf169
 v232:=Tryz.zeroValue169
 t233:=Tryz.underlying170
 a233:=Tryz.isAgg170
 z233:=Tryz.sizeOf170
 v233:=Tryz.zeroValue170
 g17:=by kernel_rfl
 g18:=by kernel_rfl
 g19:=by kernel_rfl
 i0:=by kernel_rfl
 i2:=by kernel_rfl
 i3:=by kernel_rfl
 i4:=by kernel_rfl
 i5:=by kernel_rfl
 i9:=by kernel_rfl
 i20:=by kernel_rfl
 i37:=by kernel_rfl
 i46:=by kernel_rfl
 i51:=by kernel_rfl
 i53:=by kernel_rfl
 i171:=by kernel_rfl
 i173:=by kernel_rfl
 i212:=by kernel_rfl
 i232:=by kernel_rfl
 i233:=by kernel_rfl
 m17:=by kernel_rfl
 m18:=by kernel_rfl
 m19:=by kernel_rfl}
open Go.RowKit Go.Sort Go.Lib in
theorem Tryz.strconv_FormatInt_10 (n:Int) (h0: -9223372036854775808≤n) (h1:n≤9223372036854775807) (w:World) (htab:Lib.TabIs Tryz.prog w "internal/strconv.uint64pow10" .u64 Lib.pow10Tab):
 Calls Tryz.prog 108 #[.int .i64 n,.int .i64 10] w fun e w'=>e= .returned (.string ⟨(Lib.itoa n).toArray⟩)∧∃k os,w'=grow (w.drewN k) os:=Any.strconv_FormatInt_10 Tryz.laysM173 n h0 h1 w htab
def Tryz.laysC174_ren:Go.Shelf.Ren:=⟨fun|174=>96|247=>106|245=>107|287=>111|279=>112|280=>113|281=>114|282=>115|321=>118|322=>119|316=>120|171=>122|205=>121|243=>127|246=>116|283=>123|284=>124|285=>125|286=>126|129=>129|317=>128|318=>130|319=>131|320=>132|337=>133|338=>134|n=>n,fun|9=>9|3=>3|2=>2|75=>95|85=>124|4=>4|167=>142|5=>5|53=>143|175=>144|46=>135|168=>146|37=>46|0=>0|210=>153|21=>21|127=>100|145=>162|143=>160|171=>155|173=>158|212=>164|51=>139|20=>20|213=>165|232=>169|233=>170|80=>56|n=>n,fun|15=>4|16=>5|17=>6|18=>7|19=>8|n=>n⟩
theorem Tryz.laysC174:Go.Proofs.LaysC.n174 Tryz.prog Tryz.laysC174_ren:={
 mixed:=by kernel_rfl
 f129:=Tryz.func129.trans (congrArg some (by kernel_rfl))
 f171:=Tryz.func122.trans (congrArg some (by kernel_rfl))
 f174:=Tryz.func96.trans (congrArg some (by kernel_rfl))
 f205:=Tryz.func121.trans (congrArg some (by kernel_rfl))
 f243:=Tryz.func127.trans (congrArg some (by kernel_rfl))
 f245:=Tryz.func107.trans (congrArg some (by kernel_rfl))
 f246:=Tryz.func116.trans (congrArg some (by kernel_rfl))
 f247:=Tryz.func106.trans (congrArg some (by kernel_rfl))
 f279:=Tryz.func112.trans (congrArg some (by kernel_rfl))
 f280:=Tryz.func113.trans (congrArg some (by kernel_rfl))
 f281:=Tryz.func114.trans (congrArg some (by kernel_rfl))
 f282:=Tryz.func115.trans (congrArg some (by kernel_rfl))
 f283:=Tryz.func123.trans (congrArg some (by kernel_rfl))
 f284:=Tryz.func124.trans (congrArg some (by kernel_rfl))
 f285:=Tryz.func125.trans (congrArg some (by kernel_rfl))
 f286:=Tryz.func126.trans (congrArg some (by kernel_rfl))
 f287:=Tryz.func111.trans (congrArg some (by kernel_rfl))
 f316:=Tryz.func120.trans (congrArg some (by kernel_rfl))
 f317:=Tryz.func128.trans (congrArg some (by kernel_rfl))
 f318:=Tryz.func130.trans (congrArg some (by kernel_rfl))
 f319:=Tryz.func131.trans (congrArg some (by kernel_rfl))
 f320:=Tryz.func132.trans (congrArg some (by kernel_rfl))
 f321:=Tryz.func118.trans (congrArg some (by kernel_rfl))
 f322:=Tryz.func119.trans (congrArg some (by kernel_rfl))
 f337:=Tryz.func133.trans (congrArg some (by kernel_rfl))
 f338:=Tryz.func134.trans (congrArg some (by kernel_rfl))
 t0:=Tryz.underlying0
 a0:=Tryz.isAgg0
 z0:=Tryz.sizeOf0
 v0:=Tryz.zeroValue0
 t2:=Tryz.underlying2
 a2:=Tryz.isAgg2
 z2:=Tryz.sizeOf2
 v2:=Tryz.zeroValue2
 t3:=Tryz.underlying3
 a3:=Tryz.isAgg3
 z3:=Tryz.sizeOf3
 v3:=Tryz.zeroValue3
 t4:=Tryz.underlying4
 a4:=Tryz.isAgg4
 z4:=Tryz.sizeOf4
 v4:=Tryz.zeroValue4
 t5:=Tryz.underlying5
 a5:=Tryz.isAgg5
 z5:=Tryz.sizeOf5
 v5:=Tryz.zeroValue5
 t9:=Tryz.underlying9
 a9:=Tryz.isAgg9
 z9:=Tryz.sizeOf9
 v9:=Tryz.zeroValue9
 t20:=Tryz.underlying20
 a20:=Tryz.isAgg20
 z20:=Tryz.sizeOf20
 v20:=Tryz.zeroValue20
 t21:=Tryz.underlying21
 a21:=Tryz.isAgg21
 z21:=Tryz.sizeOf21
 v21:=Tryz.zeroValue21
 t37:=Tryz.underlying46
 a37:=Tryz.isAgg46
 z37:=Tryz.sizeOf46
 v37:=Tryz.zeroValue46
 t46:=Tryz.underlying135
 a46:=Tryz.isAgg135
 z46:=Tryz.sizeOf135
 v46:=Tryz.zeroValue135
 t51:=Tryz.underlying139
 a51:=Tryz.isAgg139
 z51:=Tryz.sizeOf139
 v51:=Tryz.zeroValue139
 t53:=Tryz.underlying143
 a53:=Tryz.isAgg143
 z53:=Tryz.sizeOf143
 v53:=Tryz.zeroValue143
 t75:=Tryz.underlying95
 a75:=Tryz.isAgg95
 z75:=Tryz.sizeOf95
 v75:=Tryz.zeroValue95
 t85:=Tryz.underlying124
 a85:=Tryz.isAgg124
 z85:=Tryz.sizeOf124
 v85:=Tryz.zeroValue124
 t127:=Tryz.underlying100
 a127:=Tryz.isAgg100
 z127:=Tryz.sizeOf100
 v127:=Tryz.zeroValue100
 t143:=Tryz.underlying160
 a143:=Tryz.isAgg160
 z143:=Tryz.sizeOf160
 v143:=Tryz.zeroValue160
 t145:=Tryz.underlying162
 a145:=Tryz.isAgg162
 z145:=Tryz.sizeOf162
 v145:=Tryz.zeroValue162
 t167:=Tryz.underlying142
 a167:=Tryz.isAgg142
 z167:=Tryz.sizeOf142
 v167:=Tryz.zeroValue142
 t168:=Tryz.underlying146
 a168:=Tryz.isAgg146
 z168:=Tryz.sizeOf146
 v168:=Tryz.zeroValue146
 t171:=Tryz.underlying155
 a171:=Tryz.isAgg155
 z171:=Tryz.sizeOf155
 v171:=Tryz.zeroValue155
 t173:=Tryz.underlying158
 a173:=Tryz.isAgg158
 z173:=Tryz.sizeOf158
 v173:=Tryz.zeroValue158
 t175:=Tryz.underlying144
 a175:=Tryz.isAgg144
 z175:=Tryz.sizeOf144
 v175:=Tryz.zeroValue144
 t210:=Tryz.underlying153
 a210:=Tryz.isAgg153
 z210:=Tryz.sizeOf153
 v210:=Tryz.zeroValue153
 t212:=Tryz.underlying164
 a212:=Tryz.isAgg164
 z212:=Tryz.sizeOf164
 v212:=Tryz.zeroValue164
 t213:=Tryz.underlying165
 a213:=Tryz.isAgg165
 z213:=Tryz.sizeOf165
 t232:=Tryz.underlying169
 a232:=Tryz.isAgg169
 z232:=Tryz.sizeOf169
 v232:=Tryz.zeroValue169
 t233:=Tryz.underlying170
 a233:=Tryz.isAgg170
 z233:=Tryz.sizeOf170
 v233:=Tryz.zeroValue170
 g15:=by kernel_rfl
 g16:=by kernel_rfl
 g17:=by kernel_rfl
 g18:=by kernel_rfl
 g19:=by kernel_rfl
 t80:=Tryz.underlying56
 a80:=Tryz.isAgg56
 z80:=Tryz.sizeOf56
 v80:=Tryz.zeroValue56
 i0:=by kernel_rfl
 i2:=by kernel_rfl
 i3:=by kernel_rfl
 i4:=by kernel_rfl
 i5:=by kernel_rfl
 i9:=by kernel_rfl
 i20:=by kernel_rfl
 i21:=by kernel_rfl
 i37:=by kernel_rfl
 i46:=by kernel_rfl
 i51:=by kernel_rfl
 i53:=by kernel_rfl
 i75:=by kernel_rfl
 i80:=by kernel_rfl
 i85:=by kernel_rfl
 i127:=by kernel_rfl
 i143:=by kernel_rfl
 i145:=by kernel_rfl
 i167:=by kernel_rfl
 i168:=by kernel_rfl
 i171:=by kernel_rfl
 i173:=by kernel_rfl
 i175:=by kernel_rfl
 i210:=by kernel_rfl
 i212:=by kernel_rfl
 i232:=by kernel_rfl
 i233:=by kernel_rfl
 m15:=by kernel_rfl
 m16:=by kernel_rfl
 m17:=by kernel_rfl
 m18:=by kernel_rfl
 m19:=by kernel_rfl
 c0:=by kernel_rfl
 c2:=by kernel_rfl
 c3:=by kernel_rfl
 c4:=by kernel_rfl
 c5:=by kernel_rfl
 c9:=by kernel_rfl
 c20:=by kernel_rfl
 c21:=by kernel_rfl
 c37:=by kernel_rfl
 c46:=by kernel_rfl
 c51:=by kernel_rfl
 c53:=by kernel_rfl
 c75:=by kernel_rfl
 c80:=by kernel_rfl
 c85:=by kernel_rfl
 c127:=by kernel_rfl
 c143:=by kernel_rfl
 c145:=by kernel_rfl
 c167:=by kernel_rfl
 c168:=by kernel_rfl
 c171:=by kernel_rfl
 c173:=by kernel_rfl
 c175:=by kernel_rfl
 c210:=by kernel_rfl
 c212:=by kernel_rfl
 c213:=by kernel_rfl
 c232:=by kernel_rfl
 c233:=by kernel_rfl}
open Go.RowKit in
theorem Tryz.strconv_ParseInt_10_at64_ok (s:Bs) (hmax:s.size≤9223372036854775806) (v:Int) (h:Lib.parseIntB 64 s.data.toList= .ok v) (w:World):
 Calls Tryz.prog 96 #[.string s,.int .i64 10,.int .i64 64] w fun e w'=>e= .returned (.tuple #[.int .i64 v,.nilIface])∧(w'=w∨∃t,w'=Lib.bytesWorld w 5 t):=Any.strconv_ParseInt_10_at64_ok Tryz.laysC174 s hmax v h w
open Go.RowKit in
theorem Tryz.strconv_ParseInt_10_at64_range (s:Bs) (hlim:s.size≤281474976710656) (h:Lib.parseIntB 64 s.data.toList= .range) (ev:Value) (w:World) (hv:w.cell? ⟨5,0,none⟩=some ev) (hev:ev= .nilIface∨∃te pe,ev= .iface te pe):
 Calls Tryz.prog 96 #[.string s,.int .i64 10,.int .i64 64] w fun e w'=>∃N,e= .returned (.tuple #[.int .i64 (Lib.intSat 64 s.data.toList),.iface 146 (.pointer (some ⟨N,0,none⟩))])∧w.heap.size≤N∧w'.heap[N]? =some (.cells #[.string ⟨#[80,97,114,115,101,73,110,116]⟩,.string s,ev] 153 (0,0))∧Below w.heap.size w w':=Any.strconv_ParseInt_10_at64_range Tryz.laysC174 s hlim h ev w hv hev
def Tryz.lays138_ren:Go.Shelf.Ren:=⟨fun|138=>38|195=>73|218=>74|143=>75|219=>95|217=>94|225=>103|224=>104|267=>105|266=>102|314=>110|n=>n,fun|9=>9|3=>3|4=>4|5=>5|0=>0|46=>135|146=>140|51=>139|n=>n,fun|1=>0|n=>n⟩
theorem Tryz.lays138:Go.Proofs.Lays.n138 Tryz.prog Tryz.lays138_ren:={
 mixed:=by kernel_rfl
 f138:=Tryz.func38.trans (congrArg some (by kernel_rfl))
 f143:=Tryz.func75.trans (congrArg some (by kernel_rfl))
 f195:=Tryz.func73.trans (congrArg some (by kernel_rfl))
 f217:=Tryz.func94.trans (congrArg some (by kernel_rfl))
 f218:=Tryz.func74.trans (congrArg some (by kernel_rfl))
 f219:=Tryz.func95.trans (congrArg some (by kernel_rfl))
 f224:=Tryz.func104.trans (congrArg some (by kernel_rfl))
 f225:=Tryz.func103.trans (congrArg some (by kernel_rfl))
 f266:=Tryz.func102.trans (congrArg some (by kernel_rfl))
 f267:=Tryz.func105.trans (congrArg some (by kernel_rfl))
 f314:=Tryz.func110.trans (congrArg some (by kernel_rfl))
 t0:=Tryz.underlying0
 a0:=Tryz.isAgg0
 z0:=Tryz.sizeOf0
 v0:=Tryz.zeroValue0
 t3:=Tryz.underlying3
 a3:=Tryz.isAgg3
 z3:=Tryz.sizeOf3
 v3:=Tryz.zeroValue3
 t4:=Tryz.underlying4
 a4:=Tryz.isAgg4
 z4:=Tryz.sizeOf4
 v4:=Tryz.zeroValue4
 t5:=Tryz.underlying5
 a5:=Tryz.isAgg5
 z5:=Tryz.sizeOf5
 v5:=Tryz.zeroValue5
 t9:=Tryz.underlying9
 a9:=Tryz.isAgg9
 z9:=Tryz.sizeOf9
 v9:=Tryz.zeroValue9
 t46:=Tryz.underlying135
 a46:=Tryz.isAgg135
 z46:=Tryz.sizeOf135
 v46:=Tryz.zeroValue135
 t51:=Tryz.underlying139
 a51:=Tryz.isAgg139
 z51:=Tryz.sizeOf139
 v51:=Tryz.zeroValue139
 t146:=Tryz.underlying140
 a146:=Tryz.isAgg140
 z146:=Tryz.sizeOf140
 v146:=Tryz.zeroValue140
 g1:=by kernel_rfl}
open Go.RowKit Go.Lib in
theorem Tryz.strings_Count_one (s:Bs) (c:UInt8) (w:World):
 Calls Tryz.prog 38 #[.string s,.string ⟨#[c]⟩] w fun e w'=>e= .returned (.int .i64 (Lib.countByte s.data.toList c))∧w'=w:=Any.strings_Count_one Tryz.lays138 s c w
def Tryz.lays99_ren:Go.Shelf.Ren:=⟨fun|99=>71|206=>93|n=>n,fun|9=>9|4=>4|3=>3|n=>n,fun|n=>n⟩
theorem Tryz.lays99:Go.Proofs.Lays.n99 Tryz.prog Tryz.lays99_ren:={
 mixed:=by kernel_rfl
 f99:=Tryz.func71.trans (congrArg some (by kernel_rfl))
 f206:=Tryz.func93.trans (congrArg some (by kernel_rfl))
 t3:=Tryz.underlying3
 a3:=Tryz.isAgg3
 z3:=Tryz.sizeOf3
 v3:=Tryz.zeroValue3
 t4:=Tryz.underlying4
 a4:=Tryz.isAgg4
 z4:=Tryz.sizeOf4
 v4:=Tryz.zeroValue4
 t9:=Tryz.underlying9
 a9:=Tryz.isAgg9
 z9:=Tryz.sizeOf9
 v9:=Tryz.zeroValue9}
open Go.RowKit Go.Lib in
theorem Tryz.strings_HasPrefix (s p:Bs) (w:World):
 Calls Tryz.prog 71 #[.string s,.string p] w fun e w'=>e= .returned (.bool (Lib.hasPrefix s.data.toList p.data.toList))∧w'=w:=Any.strings_HasPrefix Tryz.lays99 s p w
open PShelfFormats RowKit
def valA (acc:Nat) (l:List UInt8):Nat:=l.foldl (fun n b=>10*n+(b.toNat-48)) acc
theorem valA_le:∀(l:List UInt8) (acc:Nat),acc≤valA acc l
 |[],acc=>Nat.le_refl _
 |c::l,acc=>by
  have:=valA_le l (10*acc+(c.toNat-48));show acc≤valA (10*acc+(c.toNat-48)) l;omega
theorem parseM_digits:∀(l:List UInt8) (acc:Nat),(∀b∈l,48≤b.toNat∧b.toNat≤57)→acc≤18446744073709551615→
 Lib.parseUintM 18446744073709551615 acc l=if valA acc l≤18446744073709551615 then .ok (valA acc l)else .range
 |[],acc,_,h=>by rw[if_pos (show valA acc []≤_ from h)];rfl
 |c::l,acc,hd,h=>by
  have hc:=hd c List.mem_cons_self;have hv:valA acc (c::l)=valA (10*acc+(c.toNat-48)) l:=rfl;have hle:=valA_le l (10*acc+(c.toNat-48));rw[Lib.parseUintM,if_pos hc,hv];have e:acc*10+(c.toNat-48)=10*acc+(c.toNat-48):=by omega
  rw[e];by_cases h1:1844674407370955162≤acc
  · rw[if_pos h1,if_neg (by omega)]
  · rw[if_neg h1]
    by_cases h2:18446744073709551615<10*acc+(c.toNat-48)
    · rw[if_pos h2,if_neg (by omega)]
    · rw[if_neg h2]
      exact parseM_digits l _ (fun b hb=>hd b (List.mem_cons_of_mem _ hb)) (by omega)
theorem parse_digits (l:List UInt8) (h0:l≠[]) (hd:∀b∈l,48≤b.toNat∧b.toNat≤57):Lib.parseIntB 64 l=if valN l≤9223372036854775807 then .ok (valN l:Int)else .range:=by
 cases l with
 |nil=>exact absurd rfl h0
 |cons c r=>
  have hc:=hd c List.mem_cons_self;rw[Lib.parseIntB_plain 64 c r (by omega) (by omega)];have e:Lib.parseUintB 64 (c::r)=Lib.parseUintM 18446744073709551615 0 (c::r):=rfl;have hv:valA 0 (c::r)=valN (c::r):=rfl;rw[e,parseM_digits _ 0 hd (by omega),hv];by_cases h1:valN (c::r)≤18446744073709551615
  · rw[if_pos h1]
    show(if 2^(64-1)≤valN (c::r)then _ else _)=_;by_cases h2:valN (c::r)≤9223372036854775807
    · rw[if_pos h2,if_neg (by omega)]
    · rw[if_neg h2,if_pos (by omega)]
  · rw[if_neg h1,if_neg (by omega)];rfl
theorem num_ok {w:World} {s:Bs} {v:Int} (h0:s.toList≠[]) (hs:s.size<1000000000) (hd:∀b∈s.toList,48≤b.toNat∧b.toNat≤57) (hv:numOf s.toList=some v):
 Calls Tryz.prog 96 #[.string s,.int .i64 10,.int .i64 64] w fun e w'=>e= .returned (.tuple #[.int .i64 v,.nilIface])∧Turn (fun _=>False) w w':=by
 rw[Lib.toList_data]at*;have hp:=parse_digits _ h0 hd;unfold numOf at hv;by_cases c:valN s.data.toList≤9223372036854775807
 · rw[if_pos c]at hv hp
   obtain rfl:=Option.some.inj hv;refine(Tryz.strconv_ParseInt_10_at64_ok s (by omega) _ hp w).mono ?_;rintro e w' ⟨rfl,rfl|⟨t,rfl⟩⟩
   · exact⟨rfl,Turn.refl _ _⟩
   · exact⟨rfl,Turn.of_below (Lib.bytesWorld_below w 5 t) (Nat.le_refl _)⟩
 · rw[if_neg c]at hv;cases hv
theorem num_range {w:World} {s:Bs} {ev:Value} (h0:s.toList≠[]) (hs:s.size<1000000000) (hd:∀b∈s.toList,48≤b.toNat∧b.toNat≤57) (hv:numOf s.toList=none) (he:w.cell? ⟨5,0,none⟩=some ev) (he2:ev= .nilIface∨∃te pe,ev= .iface te pe):
 Calls Tryz.prog 96 #[.string s,.int .i64 10,.int .i64 64] w fun e w'=>∃v p,e= .returned (.tuple #[.int .i64 v,.iface 146 (.pointer (some ⟨p,0,none⟩))])∧Turn (fun _=>False) w w':=by
 rw[Lib.toList_data]at*;have hp:=parse_digits _ h0 hd;unfold numOf at hv;by_cases c:valN s.data.toList≤9223372036854775807
 · rw[if_pos c]at hv;cases hv
 · rw[if_neg c]at hp
   refine(Tryz.strconv_ParseInt_10_at64_range s (by omega) hp ev w he he2).mono ?_;rintro e w' ⟨N,rfl,_,_,hb⟩;exact⟨_,N,rfl,Turn.of_below hb (Nat.le_refl _)⟩
open YtbemddpmohoooaaGreatDoorW.PrintWords
def isBl (c:UInt8):Bool:=c==32 || c==9 || c==13 || c==10
def blk:Bool→List UInt8→Nat
 |_,[]=>0
 |true,c::l=>if c==10 then blk false l+1 else blk true l+1
 |false,c::l=>if isBl c=true then blk false l+1 else if Lib.hasPrefix (c::l) [47,47]=true then blk true l+1 else 0
theorem blk_le:∀(b:Bool) (l:List UInt8),blk b l≤l.length
 |b,[]=>by cases b<;>simp[blk]
 |true,c::l=>by
  rw[blk,List.length_cons];have h1:=blk_le true l;have h2:=blk_le false l;split<;>omega
 |false,c::l=>by
  rw[blk,List.length_cons];have h1:=blk_le true l;have h2:=blk_le false l;split
  · omega
  · split<;>omega
theorem blk_none:∀(l:List UInt8),Lib.indexByte l 10= -1→blk true l=l.length
 |[],_=>rfl
 |c::l,h=>by
  rw[Lib.indexByte]at h;by_cases e:(c==10)=true
  · rw[if_pos e]at h;exact absurd h (by decide)
  · rw[if_neg e]at h
    have h2:Lib.indexByte l 10= -1:=by
     by_cases q:(Lib.indexByte l 10== -1)=true
     · exact eq_of_beq q
     · rw[if_neg q]at h;have:=Lib.indexByte_ge l 10;omega
    rw[blk,if_neg e,blk_none l h2,List.length_cons]
theorem blk_some:∀(l:List UInt8) (n:Nat),Lib.indexByte l 10=(n:Int)→n<l.length∧blk true l=n+blk false (l.drop n)
 |[],n,h=>by rw[Lib.indexByte]at h;omega
 |c::l,n,h=>by
  rw[Lib.indexByte]at h;by_cases e:(c==10)=true
  · rw[if_pos e]at h
    have:n=0:=by omega
    subst this;have e2:c=10:=eq_of_beq e;subst e2;refine⟨by simp,?_⟩;rw[Nat.zero_add,List.drop_zero];rfl
  · rw[if_neg e]at h
    by_cases q:(Lib.indexByte l 10== -1)=true
    · rw[if_pos q]at h;omega
    · rw[if_neg q]at h
      obtain⟨m,rfl⟩:∃m,n=m+1:=⟨n-1,by have:=Lib.indexByte_ge l 10;have:Lib.indexByte l 10≠ -1:=fun z=>q (by rw[z];rfl);omega⟩;obtain⟨h1,h2⟩:=blk_some l m (by omega);refine⟨by rw[List.length_cons];omega,?_⟩;rw[blk,if_neg e,h2,List.drop_succ_cons];omega
theorem slash {c:UInt8} {l:List UInt8} (h:isBl c=false) (hp:Lib.hasPrefix (c::l) [47,47]=true):blk false (c::l)=blk true (c::l)∧(c==10)=false:=by
 have e:(c==10)=false:=by
  cases q:(c==10)
  · rfl
  · rw[isBl,q,Bool.or_true]at h;cases h
 refine⟨?_,e⟩;rw[blk,blk,h,hp,e];rfl
theorem blk_stop {c:UInt8} {l:List UInt8} (h:isBl c=false) (hp:Lib.hasPrefix (c::l) [47,47]=false):blk false (c::l)=0:=by
 rw[blk,h,hp];rfl
theorem blk_bl {c:UInt8} {l:List UInt8} (h:isBl c=true):blk false (c::l)=blk false l+1:=by
 rw[blk,h];rfl
theorem blanks_call (s:Bs) (w:World) (hs:s.size<1000000000):Calls Tryz.prog 37 #[.string s] w fun e w'=>e= .returned (.int .i64 (blk false s.toList:Nat))∧w'=w:=by
 have hlen:=toList_len s;generalize hm:blk false s.toList=m;have hle:=blk_le false s.toList;rw[hm]at hle;go_enter Tryz.func37,Tryz.ntmps37;go_wp2;go_loopg [3] s.size (fun kq v3 W=>∃i:Nat,v3= .int .i64 (i:Int)∧i≤s.size∧s.size≤kq+i∧W=w∧i+blk false (s.toList.drop i)=m)
 case atStart=>exact⟨0,rfl,by omega,by omega,rfl,by rw[List.drop_zero,Nat.zero_add];exact hm⟩
 case round=>
  obtain⟨i,rfl,h1,h2,hwr,h3⟩:=hrel;subst hwr;clear hm;by_cases hlt:i<s.size
  · have hlt2:i<s.toList.length:=by omega
    have c1:(i:Int)<(s.size:Int):=by omega
    have hb:∀h:i<s.size,((s[i]'h).toNat:Int)=((s.toList[i]).toNat:Int):=fun h=>by have:=bt_at s (i:Int) h;rw[bt_list s i hlt2]at this;exact this
    have hdr:s.toList.drop i=s.toList[i]::s.toList.drop (i+1):=List.drop_eq_getElem_cons hlt2;generalize s.toList[i]=c at*;rw[hdr]at h3;by_cases hbl:isBl c=true
    · rw[blk_bl hbl]at h3
      have k4:c.toNat=32∨c.toNat=9∨c.toNat=13∨c.toNat=10:=by
       simp only[isBl,Bool.or_eq_true,beq_iff_eq]at hbl;rcases hbl with((h|h)|h)|h<;>subst h<;>decide
      replace h3:=η h3;clear hdr hbl hlt hlt2 hlen hle;rcases k4 with k|k|k|k
      all_goals
       simp only[k]at hb;clear k;go_wp2;go_roundg (s.size-(i+1))
       case measure=>omega
       case rel=>exact⟨i+1,by simp,by omega,by omega,rfl,by have:=h3.out;omega⟩
    · have hbl:isBl c=false:=by simpa using hbl
      have kn:c≠32∧c≠9∧c≠13∧c≠10:=by
       refine⟨?_,?_,?_,?_⟩<;>(rintro rfl;revert hbl;decide)
      have kI:∀d:UInt8,c≠d→(((c.toNat:Nat):Int)==((d.toNat:Nat):Int))=false:=fun d h=>by rw[beq_eq_false_iff_ne];exact fun z=>h (UInt8.toNat_inj.mp (by omega))
      have n32:(((c.toNat:Nat):Int)==32)=false:=kI 32 kn.1;have n9:(((c.toNat:Nat):Int)==9)=false:=kI 9 kn.2.1;have n13:(((c.toNat:Nat):Int)==13)=false:=kI 13 kn.2.2.1;have n10:(((c.toNat:Nat):Int)==10)=false:=kI 10 kn.2.2.2;have hE:(s.extract i s.size).data.toList=c::s.toList.drop (i+1):=by rw[← Lib.toList_data,ext_drop,hdr]
      clear kn kI hdr;cases hp:Lib.hasPrefix (c::s.toList.drop (i+1)) [47,47]with
      |false=>
       rw[blk_stop hbl hp,Nat.add_zero]at h3;subst h3;have hp2:Lib.hasPrefix (s.extract i s.size).data.toList (⟨#[47,47]⟩:Bs).data.toList=false:=by rw[hE];exact hp
       clear hE hp hbl hlen hle hlt hlt2;replace hp2:=η hp2;generalize((c.toNat:Nat):Int)=ci at*;go_wp2_with(first|(go_at_call 71;refine(Tryz.strings_HasPrefix _ _ _).mono ?_;rintro e w' ⟨rfl,rfl⟩;rw[hp2.out]))
       go_ret;exact⟨rfl,rfl⟩
      |true=>
       obtain⟨e1,e2⟩:=slash hbl hp;rw[e1]at h3;have hp2:Lib.hasPrefix (s.extract i s.size).data.toList (⟨#[47,47]⟩:Bs).data.toList=true:=by rw[hE];exact hp
       have hlE:(c::s.toList.drop (i+1)).length=s.size-i:=by rw[List.length_cons,List.length_drop];omega
       rcases(show Lib.indexByte (c::s.toList.drop (i+1)) 10= -1∨∃n:Nat,Lib.indexByte (c::s.toList.drop (i+1)) 10=(n:Int) from by
        have:=Lib.indexByte_ge (c::s.toList.drop (i+1)) 10;by_cases q:Lib.indexByte (c::s.toList.drop (i+1)) 10= -1
        · exact .inl q
        · exact .inr ⟨(Lib.indexByte (c::s.toList.drop (i+1)) 10).toNat,by omega⟩)with hx|⟨n,hx⟩
       · rw[blk_none _ hx,hlE]at h3
         have hx2:Lib.indexByte (s.extract i s.size).data.toList (10:Int).toNat.toUInt8= -1:=by rw[hE];exact hx
         have h3:m=s.size:=by omega
         subst h3;clear hE hp hbl hlen hle hlt hlt2 hx e1 e2 hlE;replace hp2:=η hp2;replace hx2:=η hx2;generalize((c.toNat:Nat):Int)=ci at*;go_wp2_with(first|(go_at_call 71;refine(Tryz.strings_HasPrefix _ _ _).mono ?_;rintro e w' ⟨rfl,rfl⟩;rw[hp2.out])|(go_at_call 72;refine(Tryz.strings_IndexByte _ _ _).mono ?_;rintro e w' ⟨rfl,rfl⟩;rw[hx2.out]))
         go_ret;exact⟨rfl,rfl⟩
       · obtain⟨g1,g2⟩:=blk_some _ n hx
         have hx2:Lib.indexByte (s.extract i s.size).data.toList (10:Int).toNat.toUInt8=(n:Int):=by rw[hE];exact hx
         have hn0:n≠0:=by
          rintro rfl;rw[Lib.indexByte,e2]at hx;by_cases q:(Lib.indexByte (s.toList.drop (i+1)) 10== -1)=true
          · rw[if_neg (by decide),if_pos q]at hx;omega
          · rw[if_neg (by decide),if_neg q]at hx
            have:=Lib.indexByte_ge (s.toList.drop (i+1)) 10;have:Lib.indexByte (s.toList.drop (i+1)) 10≠ -1:=fun z=>q (by rw[z];rfl)
            omega
         rw[g2,← hE,← Lib.toList_data,ext_drop,List.drop_drop]at h3;rw[hlE]at g1;replace h3:=η h3;have hn1:i+n<1000000000:=by omega
         have hnn:(0:Int)≤(n:Int):=by omega
         have hn2:i+n≤s.size:=by omega
         have hn3:s.size-(i+n)<gk:=by omega
         clear hE hp hbl hlen hle hlt hlt2 hx e1 e2 hlE g1 g2;replace hp2:=η hp2;replace hx2:=η hx2;replace hn2:=η hn2;replace hn3:=η hn3;replace h2:=η h2;generalize((c.toNat:Nat):Int)=ci at*;go_wp2_with(first|(go_at_call 71;refine(Tryz.strings_HasPrefix _ _ _).mono ?_;rintro e w' ⟨rfl,rfl⟩;rw[hp2.out])|(go_at_call 72;refine(Tryz.strings_IndexByte _ _ _).mono ?_;rintro e w' ⟨rfl,rfl⟩;rw[hx2.out]))
         go_roundg (s.size-(i+n))
         case measure=>exact hn3.out
         case rel=>exact⟨i+n,by simp,hn2.out,by omega,rfl,by have:=h3.out;omega⟩
  · rw[List.drop_of_length_le (by omega)]at h3
    have h3:m=s.size:=by have:blk false []=0:=rfl;omega
    have hi:i=s.size:=by omega
    subst h3;subst hi;clear hlen hle h2 hlt;go_wp2;go_ret;exact⟨rfl,rfl⟩
end Go.Proofs.YtbemddpmohoooaaGreatDoor
