import Derived.Ground.Names2Prog
import Derived.Shelf.LaysM
import Derived.Shelf.Slices.Cells
import Derived.Shelf.Slices.CompactS
import Derived.Shelf.Slices.Delete
import Derived.Shelf.Slices.Empties
import Derived.Shelf.Slices.In.SortNone
import Derived.Shelf.Slices.Reverse
import Derived.Shelf.Slices.SearchI
import Derived.Shelf.Slices.Turned
import Derived.Shelf.Small.Bits
import Derived.Shelf.Small.Strs
import Derived.Shelf.Small.Utf8
import Derived.Shelf.Small.Wraps
import Derived.Shelf.Sort.Plain
import Derived.Shelf.Strconv.Itoa0
import Derived.Shelf.Strconv.Itoa1
import Derived.Shelf.Strconv.Itoa2
import Derived.Shelf.Strconv.Itoa3
import Derived.Shelf.Strings.AsciiSet
import Derived.Shelf.Strings.Builder1
import Derived.Shelf.Strings.Builder2
import Derived.Shelf.Strings.BuilderF
import Derived.Shelf.Strings.BuilderK
import Derived.Shelf.Strings.Count
import Derived.Shelf.Strings.Cut
import Derived.Shelf.Strings.Explode
import Derived.Shelf.Strings.IndexAny
import Derived.Shelf.Strings.IndexAnyAll
import Derived.Shelf.Strings.OnBuilder
import Derived.Shelf.Strings.Prefix
import Derived.Shelf.Strings.RuneCount
import Derived.Shelf.Strings.Runes
import Derived.Shelf.Strings.Search1
import Derived.Shelf.Strings.Search2
import Derived.Shelf.Strings.Search3
import Derived.Shelf.Strings.Shaped
import Derived.Shelf.Strings.Split
import Derived.Shelf.Strings.SplitShaped
import Derived.Shelf.Unicode.Decode
import Derived.Shelf.Unicode.DecodeAny
import Derived.Shelf.Unicode.DecodeSlow
import Derived.Shelf.Utf8.RuneCount
import Derived.Test.YtlhapbopmplngaaGreatDoorProg
set_option linter.all false
set_option maxHeartbeats 16000000
set_option maxRecDepth 100000
set_option autoImplicit true
set_option relaxedAutoImplicit true
namespace Go.Proofs
open Go.Shelf
def Tryz.lays156_ren:Go.Shelf.Ren:=⟨fun|156=>225|165=>288|166=>289|169=>290|240=>337|241=>338|276=>374|277=>375|n=>n,fun|31=>142|9=>9|3=>3|4=>4|0=>0|20=>20|72=>368|76=>371|70=>366|37=>29|75=>370|127=>400|164=>419|5=>5|80=>373|n=>n,fun|n=>n⟩
def Tryz.lays156:Go.Proofs.Lays.n156 Tryz.prog Tryz.lays156_ren:={
 mixed:=by kernel_rfl
 f156:=Tryz.func225.trans (congrArg some (by kernel_rfl))
 f165:=Tryz.func288.trans (congrArg some (by kernel_rfl))
 f166:=Tryz.func289.trans (congrArg some (by kernel_rfl))
 f169:=Tryz.func290.trans (congrArg some (by kernel_rfl))
 f240:=Tryz.func337.trans (congrArg some (by kernel_rfl))
 f241:=Tryz.func338.trans (congrArg some (by kernel_rfl))
 f276:=Tryz.func374.trans (congrArg some (by kernel_rfl))
 f277:=Tryz.func375.trans (congrArg some (by kernel_rfl))
 t0:=Tryz.underlying0
 a0:=Tryz.isAgg0
 z0:=Tryz.sizeOf0
 v0:=Tryz.zeroValue0
 t3:=Tryz.underlying3
 a3:=Tryz.isAgg3
 z3:=Tryz.sizeOf3
 v3:=Tryz.zeroValue3
 t4:=Tryz.underlying4
 a4:=Tryz.isAgg4
 z4:=Tryz.sizeOf4
 v4:=Tryz.zeroValue4
 t9:=Tryz.underlying9
 a9:=Tryz.isAgg9
 z9:=Tryz.sizeOf9
 v9:=Tryz.zeroValue9
 t20:=Tryz.underlying20
 a20:=Tryz.isAgg20
 z20:=Tryz.sizeOf20
 v20:=Tryz.zeroValue20
 t31:=Tryz.underlying142
 a31:=Tryz.isAgg142
 z31:=Tryz.sizeOf142
 v31:=Tryz.zeroValue142
 t37:=Tryz.underlying29
 a37:=Tryz.isAgg29
 z37:=Tryz.sizeOf29
 v37:=Tryz.zeroValue29
 t70:=Tryz.underlying366
 a70:=Tryz.isAgg366
 z70:=Tryz.sizeOf366
 v70:=Tryz.zeroValue366
 t72:=Tryz.underlying368
 a72:=Tryz.isAgg368
 z72:=Tryz.sizeOf368
 v72:=Tryz.zeroValue368
 t75:=Tryz.underlying370
 a75:=Tryz.isAgg370
 z75:=Tryz.sizeOf370
 v75:=Tryz.zeroValue370
 t76:=Tryz.underlying371
 a76:=Tryz.isAgg371
 z76:=Tryz.sizeOf371
 v76:=Tryz.zeroValue371
 t127:=Tryz.underlying400
 a127:=Tryz.isAgg400
 z127:=Tryz.sizeOf400
 v127:=Tryz.zeroValue400
 t164:=Tryz.underlying419
 a164:=Tryz.isAgg419
 z164:=Tryz.sizeOf419
 v164:=Tryz.zeroValue419}
def Tryz.Builder_Extra_156:Builder.Extra Tryz.prog Tryz.lays156_ren:={
 sizeBuilder:=by kernel_rfl
 liesBuilder:=by kernel_rfl
 t5:=Tryz.underlying5
 a5:=Tryz.isAgg5
 z5:=Tryz.sizeOf5
 v5:=Tryz.zeroValue5
 infoByte:=by kernel_rfl
 cellsByte:=by kernel_rfl
 sizeByte:=by kernel_rfl
 neB5:=by decide}
open Go.RowKit in
def Tryz.strings_Join_none (a:Option Addr) (c:Nat) (sep:ByteArray) (w:World):
 Calls Tryz.prog 225 #[.slice a 0 c, .string sep] w fun e w'=>e= .returned (.string ⟨#[]⟩)∧w'=w:=Any.strings_Join_none Tryz.lays156 Tryz.Builder_Extra_156 a c sep w
open Go.RowKit in
def Tryz.strings_Join (bk o c:Nat) (xs:List ByteArray) (sep:ByteArray) (w:World) (hcells:∀(j:Nat) x,xs[j]? =some x→w.cell? ⟨bk,o+j,none⟩=some (.string x)) (hbk:bk<w.heap.size) (hN:xs.length≤140737488355328) (hcap:xs.length≤c) (hlen:(Lib.join (xs.map (·.data.toList)) sep.data.toList).length≤140737488355328):
 Calls Tryz.prog 225 #[.slice (some ⟨bk,o,none⟩) xs.length c, .string sep] w fun e w'=>e= .returned (.string ⟨(Lib.join (xs.map (·.data.toList)) sep.data.toList).toArray⟩)∧Below w.heap.size w w':=Any.strings_Join Tryz.lays156 Tryz.Builder_Extra_156 bk o c xs sep w hcells hbk hN hcap hlen
def Tryz.lays119_ren:Go.Shelf.Ren:=⟨fun|119=>303|n=>n,fun|21=>21|4=>4|n=>n,fun|n=>n⟩
def Tryz.lays119:Go.Proofs.Lays.n119 Tryz.prog Tryz.lays119_ren:={
 mixed:=by kernel_rfl
 f119:=Tryz.func303.trans (congrArg some (by kernel_rfl))
 t4:=Tryz.underlying4
 a4:=Tryz.isAgg4
 z4:=Tryz.sizeOf4
 v4:=Tryz.zeroValue4
 t21:=Tryz.underlying21
 a21:=Tryz.isAgg21
 z21:=Tryz.sizeOf21
 v21:=Tryz.zeroValue21}
def Tryz.utf8_ValidRune (r:Int) (w:World):
 Calls Tryz.prog 303 #[.int .i32 r] w fun e w'=>e= .returned (.bool (Lib.validRune r))∧w'=w:=Any.utf8_ValidRune Tryz.lays119 r w
def Tryz.lays137_ren:Go.Shelf.Ren:=⟨fun|137=>254|217=>306|266=>342|n=>n,fun|9=>9|5=>5|3=>3|n=>n,fun|n=>n⟩
def Tryz.lays137:Go.Proofs.Lays.n137 Tryz.prog Tryz.lays137_ren:={
 mixed:=by kernel_rfl
 f137:=Tryz.func254.trans (congrArg some (by kernel_rfl))
 f217:=Tryz.func306.trans (congrArg some (by kernel_rfl))
 f266:=Tryz.func342.trans (congrArg some (by kernel_rfl))
 t3:=Tryz.underlying3
 a3:=Tryz.isAgg3
 z3:=Tryz.sizeOf3
 v3:=Tryz.zeroValue3
 t5:=Tryz.underlying5
 a5:=Tryz.isAgg5
 z5:=Tryz.sizeOf5
 v5:=Tryz.zeroValue5
 t9:=Tryz.underlying9
 a9:=Tryz.isAgg9
 z9:=Tryz.sizeOf9
 v9:=Tryz.zeroValue9}
open Go.RowKit in
def Tryz.strings_IndexByte (s:ByteArray) (c:Int) (w:World):
 Calls Tryz.prog 254 #[.string s, .int .u8 c] w fun e w'=>e= .returned (.int .i64 (Lib.indexByte s.data.toList c.toNat.toUInt8))∧w'=w:=Any.strings_IndexByte Tryz.lays137 s c w
def Tryz.lays103_ren:Go.Shelf.Ren:=⟨fun|103=>347|210=>380|206=>317|n=>n,fun|9=>9|4=>4|24=>271|3=>3|n=>n,fun|n=>n⟩
def Tryz.lays103:Go.Proofs.Lays.n103 Tryz.prog Tryz.lays103_ren:={
 mixed:=by kernel_rfl
 f103:=Tryz.func347.trans (congrArg some (by kernel_rfl))
 f206:=Tryz.func317.trans (congrArg some (by kernel_rfl))
 f210:=Tryz.func380.trans (congrArg some (by kernel_rfl))
 t3:=Tryz.underlying3
 a3:=Tryz.isAgg3
 z3:=Tryz.sizeOf3
 v3:=Tryz.zeroValue3
 t4:=Tryz.underlying4
 a4:=Tryz.isAgg4
 z4:=Tryz.sizeOf4
 v4:=Tryz.zeroValue4
 t9:=Tryz.underlying9
 a9:=Tryz.isAgg9
 z9:=Tryz.sizeOf9
 v9:=Tryz.zeroValue9
 t24:=Tryz.underlying271
 a24:=Tryz.isAgg271
 z24:=Tryz.sizeOf271
 v24:=Tryz.zeroValue271}
open Go.RowKit in
def Tryz.strings_CutPrefix (s p:ByteArray) (w:World):
 Calls Tryz.prog 347 #[.string s, .string p] w fun e w'=>e= .returned (.tuple #[.string ⟨(Lib.trimPrefix s.data.toList p.data.toList).toArray⟩, .bool (Lib.hasPrefix s.data.toList p.data.toList)])∧w'=w:=Any.strings_CutPrefix Tryz.lays103 s p w
def Tryz.laysM171_ren:Go.Shelf.Ren:=⟨fun|171=>181|243=>264|246=>316|283=>357|284=>358|285=>359|286=>360|129=>333|317=>385|318=>386|319=>387|320=>388|337=>399|338=>400|n=>n,fun|3=>3|9=>9|2=>2|4=>4|171=>411|0=>0|53=>24|37=>29|5=>5|173=>413|212=>434|51=>94|20=>20|213=>435|46=>89|232=>446|233=>447|n=>n,fun|17=>1|18=>4|19=>5|n=>n⟩
def Tryz.laysM171:Go.Proofs.LaysM.n171 Tryz.prog Tryz.laysM171_ren:={
 mixed:=by kernel_rfl
 f129:=Tryz.func333.trans (congrArg some (by kernel_rfl))
 f171:=Tryz.func181.trans (congrArg some (by kernel_rfl))
 f243:=Tryz.func264.trans (congrArg some (by kernel_rfl))
 f246:=Tryz.func316.trans (congrArg some (by kernel_rfl))
 f283:=Tryz.func357.trans (congrArg some (by kernel_rfl))
 f284:=Tryz.func358.trans (congrArg some (by kernel_rfl))
 f285:=Tryz.func359.trans (congrArg some (by kernel_rfl))
 f286:=Tryz.func360.trans (congrArg some (by kernel_rfl))
 f317:=Tryz.func385.trans (congrArg some (by kernel_rfl))
 f318:=Tryz.func386.trans (congrArg some (by kernel_rfl))
 f319:=Tryz.func387.trans (congrArg some (by kernel_rfl))
 f320:=Tryz.func388.trans (congrArg some (by kernel_rfl))
 f337:=Tryz.func399.trans (congrArg some (by kernel_rfl))
 f338:=Tryz.func400.trans (congrArg some (by kernel_rfl))
 t0:=Tryz.underlying0
 a0:=Tryz.isAgg0
 z0:=Tryz.sizeOf0
 v0:=Tryz.zeroValue0
 t2:=Tryz.underlying2
 a2:=Tryz.isAgg2
 z2:=Tryz.sizeOf2
 v2:=Tryz.zeroValue2
 t3:=Tryz.underlying3
 a3:=Tryz.isAgg3
 z3:=Tryz.sizeOf3
 v3:=Tryz.zeroValue3
 t4:=Tryz.underlying4
 a4:=Tryz.isAgg4
 z4:=Tryz.sizeOf4
 v4:=Tryz.zeroValue4
 t5:=Tryz.underlying5
 a5:=Tryz.isAgg5
 z5:=Tryz.sizeOf5
 v5:=Tryz.zeroValue5
 t9:=Tryz.underlying9
 a9:=Tryz.isAgg9
 z9:=Tryz.sizeOf9
 v9:=Tryz.zeroValue9
 t20:=Tryz.underlying20
 a20:=Tryz.isAgg20
 z20:=Tryz.sizeOf20
 v20:=Tryz.zeroValue20
 t37:=Tryz.underlying29
 a37:=Tryz.isAgg29
 z37:=Tryz.sizeOf29
 v37:=Tryz.zeroValue29
 t46:=Tryz.underlying89
 a46:=Tryz.isAgg89
 z46:=Tryz.sizeOf89
 v46:=Tryz.zeroValue89
 t51:=Tryz.underlying94
 a51:=Tryz.isAgg94
 z51:=Tryz.sizeOf94
 v51:=Tryz.zeroValue94
 t53:=Tryz.underlying24
 a53:=Tryz.isAgg24
 z53:=Tryz.sizeOf24
 v53:=Tryz.zeroValue24
 t171:=Tryz.underlying411
 a171:=Tryz.isAgg411
 z171:=Tryz.sizeOf411
 v171:=Tryz.zeroValue411
 t173:=Tryz.underlying413
 a173:=Tryz.isAgg413
 z173:=Tryz.sizeOf413
 v173:=Tryz.zeroValue413
 t212:=Tryz.underlying434
 a212:=Tryz.isAgg434
 z212:=Tryz.sizeOf434
 v212:=Tryz.zeroValue434
 t213:=Tryz.underlying435
 a213:=Tryz.isAgg435
 z213:=Tryz.sizeOf435
 t232:=Tryz.underlying446
 a232:=Tryz.isAgg446
 z232:=Tryz.sizeOf446
 v232:=Tryz.zeroValue446
 t233:=Tryz.underlying447
 a233:=Tryz.isAgg447
 z233:=Tryz.sizeOf447
 v233:=Tryz.zeroValue447
 g17:=by kernel_rfl
 g18:=by kernel_rfl
 g19:=by kernel_rfl
 i0:=by kernel_rfl
 i2:=by kernel_rfl
 i3:=by kernel_rfl
 i4:=by kernel_rfl
 i5:=by kernel_rfl
 i9:=by kernel_rfl
 i20:=by kernel_rfl
 i37:=by kernel_rfl
 i46:=by kernel_rfl
 i51:=by kernel_rfl
 i53:=by kernel_rfl
 i171:=by kernel_rfl
 i173:=by kernel_rfl
 i212:=by kernel_rfl
 i232:=by kernel_rfl
 i233:=by kernel_rfl
 m17:=by kernel_rfl
 m18:=by kernel_rfl
 m19:=by kernel_rfl}
open Go.RowKit Go.Sort Go.Lib in
def Tryz.strconv_Itoa (n:Int) (h0: -9223372036854775808≤n) (h1:n≤9223372036854775807) (w:World) (htab:Lib.TabIs Tryz.prog w "internal/strconv.uint64pow10" .u64 Lib.pow10Tab):
 Calls Tryz.prog 181 #[.int .i64 n] w fun e w'=>e= .returned (.string ⟨(Lib.itoa n).toArray⟩)∧∃k os,w'=grow (w.drewN k) os:=Any.strconv_Itoa Tryz.laysM171 n h0 h1 w htab
def Tryz.lays145_ren:Go.Shelf.Ren:=⟨fun|145=>168|220=>249|219=>302|217=>306|225=>305|224=>304|267=>341|266=>342|314=>376|n=>n,fun|9=>9|4=>4|59=>285|3=>3|5=>5|46=>89|146=>428|51=>94|n=>n,fun|1=>0|n=>n⟩
def Tryz.lays145:Go.Proofs.Lays.n145 Tryz.prog Tryz.lays145_ren:={
 mixed:=by kernel_rfl
 f145:=Tryz.func168.trans (congrArg some (by kernel_rfl))
 f217:=Tryz.func306.trans (congrArg some (by kernel_rfl))
 f219:=Tryz.func302.trans (congrArg some (by kernel_rfl))
 f220:=Tryz.func249.trans (congrArg some (by kernel_rfl))
 f224:=Tryz.func304.trans (congrArg some (by kernel_rfl))
 f225:=Tryz.func305.trans (congrArg some (by kernel_rfl))
 f266:=Tryz.func342.trans (congrArg some (by kernel_rfl))
 f267:=Tryz.func341.trans (congrArg some (by kernel_rfl))
 f314:=Tryz.func376.trans (congrArg some (by kernel_rfl))
 t3:=Tryz.underlying3
 a3:=Tryz.isAgg3
 z3:=Tryz.sizeOf3
 v3:=Tryz.zeroValue3
 t4:=Tryz.underlying4
 a4:=Tryz.isAgg4
 z4:=Tryz.sizeOf4
 v4:=Tryz.zeroValue4
 t5:=Tryz.underlying5
 a5:=Tryz.isAgg5
 z5:=Tryz.sizeOf5
 v5:=Tryz.zeroValue5
 t9:=Tryz.underlying9
 a9:=Tryz.isAgg9
 z9:=Tryz.sizeOf9
 v9:=Tryz.zeroValue9
 t46:=Tryz.underlying89
 a46:=Tryz.isAgg89
 z46:=Tryz.sizeOf89
 v46:=Tryz.zeroValue89
 t51:=Tryz.underlying94
 a51:=Tryz.isAgg94
 z51:=Tryz.sizeOf94
 v51:=Tryz.zeroValue94
 t59:=Tryz.underlying285
 a59:=Tryz.isAgg285
 z59:=Tryz.sizeOf285
 v59:=Tryz.zeroValue285
 t146:=Tryz.underlying428
 a146:=Tryz.isAgg428
 z146:=Tryz.sizeOf428
 v146:=Tryz.zeroValue428
 g1:=by kernel_rfl}
open Go.RowKit Go.Lib in
def Tryz.strings_Cut (s sep:ByteArray) (m:Int) (w:World) (hs:s.size<4294967281) (hm:w.cell? ⟨0,0,none⟩=some (.int .i64 m)):
 Calls Tryz.prog 168 #[.string s, .string sep] w fun e w'=>e= .returned (.tuple #[.string ⟨(Lib.cut s.data.toList sep.data.toList).1.toArray⟩, .string ⟨(Lib.cut s.data.toList sep.data.toList).2.1.toArray⟩, .bool (Lib.cut s.data.toList sep.data.toList).2.2])∧∃n,w'=w.drewN n:=Any.strings_Cut Tryz.lays145 s sep m w hs hm
def Tryz.lays189_ren:Go.Shelf.Ren:=⟨fun|189=>214|125=>283|257=>282|128=>332|129=>333|294=>324|295=>325|296=>326|297=>327|298=>328|299=>329|216=>193|300=>330|301=>331|328=>369|329=>370|330=>371|331=>372|332=>373|215=>269|343=>396|n=>n,fun|28=>37|3=>3|46=>89|0=>0|51=>94|53=>24|4=>4|183=>393|182=>392|131=>222|5=>5|9=>9|218=>422|222=>425|228=>438|229=>439|n=>n,fun|n=>n⟩
def Tryz.lays189:Go.Proofs.Lays.n189 Tryz.prog Tryz.lays189_ren:={
 mixed:=by kernel_rfl
 f125:=Tryz.func283.trans (congrArg some (by kernel_rfl))
 f128:=Tryz.func332.trans (congrArg some (by kernel_rfl))
 f129:=Tryz.func333.trans (congrArg some (by kernel_rfl))
 f189:=Tryz.func214.trans (congrArg some (by kernel_rfl))
 f215:=Tryz.func269.trans (congrArg some (by kernel_rfl))
 f216:=Tryz.func193.trans (congrArg some (by kernel_rfl))
 f257:=Tryz.func282.trans (congrArg some (by kernel_rfl))
 f294:=Tryz.func324.trans (congrArg some (by kernel_rfl))
 f295:=Tryz.func325.trans (congrArg some (by kernel_rfl))
 f296:=Tryz.func326.trans (congrArg some (by kernel_rfl))
 f297:=Tryz.func327.trans (congrArg some (by kernel_rfl))
 f298:=Tryz.func328.trans (congrArg some (by kernel_rfl))
 f299:=Tryz.func329.trans (congrArg some (by kernel_rfl))
 f300:=Tryz.func330.trans (congrArg some (by kernel_rfl))
 f301:=Tryz.func331.trans (congrArg some (by kernel_rfl))
 f328:=Tryz.func369.trans (congrArg some (by kernel_rfl))
 f329:=Tryz.func370.trans (congrArg some (by kernel_rfl))
 f330:=Tryz.func371.trans (congrArg some (by kernel_rfl))
 f331:=Tryz.func372.trans (congrArg some (by kernel_rfl))
 f332:=Tryz.func373.trans (congrArg some (by kernel_rfl))
 f343:=Tryz.func396.trans (congrArg some (by kernel_rfl))
 t0:=Tryz.underlying0
 a0:=Tryz.isAgg0
 z0:=Tryz.sizeOf0
 v0:=Tryz.zeroValue0
 t3:=Tryz.underlying3
 a3:=Tryz.isAgg3
 z3:=Tryz.sizeOf3
 v3:=Tryz.zeroValue3
 t4:=Tryz.underlying4
 a4:=Tryz.isAgg4
 z4:=Tryz.sizeOf4
 v4:=Tryz.zeroValue4
 t5:=Tryz.underlying5
 a5:=Tryz.isAgg5
 z5:=Tryz.sizeOf5
 v5:=Tryz.zeroValue5
 t9:=Tryz.underlying9
 a9:=Tryz.isAgg9
 z9:=Tryz.sizeOf9
 v9:=Tryz.zeroValue9
 t28:=Tryz.underlying37
 a28:=Tryz.isAgg37
 z28:=Tryz.sizeOf37
 v28:=Tryz.zeroValue37
 t46:=Tryz.underlying89
 a46:=Tryz.isAgg89
 z46:=Tryz.sizeOf89
 v46:=Tryz.zeroValue89
 t51:=Tryz.underlying94
 a51:=Tryz.isAgg94
 z51:=Tryz.sizeOf94
 v51:=Tryz.zeroValue94
 t53:=Tryz.underlying24
 a53:=Tryz.isAgg24
 z53:=Tryz.sizeOf24
 v53:=Tryz.zeroValue24
 t131:=Tryz.underlying222
 a131:=Tryz.isAgg222
 z131:=Tryz.sizeOf222
 v131:=Tryz.zeroValue222
 t182:=Tryz.underlying392
 a182:=Tryz.isAgg392
 z182:=Tryz.sizeOf392
 v182:=Tryz.zeroValue392
 t183:=Tryz.underlying393
 a183:=Tryz.isAgg393
 z183:=Tryz.sizeOf393
 v183:=Tryz.zeroValue393
 t218:=Tryz.underlying422
 a218:=Tryz.isAgg422
 z218:=Tryz.sizeOf422
 v218:=Tryz.zeroValue422
 t222:=Tryz.underlying425
 a222:=Tryz.isAgg425
 z222:=Tryz.sizeOf425
 v222:=Tryz.zeroValue425
 t228:=Tryz.underlying438
 a228:=Tryz.isAgg438
 z228:=Tryz.sizeOf438
 v228:=Tryz.zeroValue438
 t229:=Tryz.underlying439
 a229:=Tryz.isAgg439
 z229:=Tryz.sizeOf439
 v229:=Tryz.zeroValue439}
open Go.Sort Go.RowKit in
def Tryz.slices_Sort_int (blk off cap:Nat) (zs:List Int) (w:World) (hH:Holds (Value.int .i64) w blk off zs.toArray) (hblk:blk<w.heap.size) (hsz:zs.length<4611686018427387904):
 Calls Tryz.prog 214 #[.slice (some ⟨blk,off,none⟩) zs.length cap] w fun e w'=>
  e= .returned (.tuple #[])∧∃n os,w'=grow (putRow (Value.int .i64) (Sort.ahead w n) blk off (zs.mergeSort fun x y=>decide (x≤y)).toArray) os:=Any.slices_Sort_int Tryz.lays189 blk off cap zs w hH hblk hsz
def Tryz.lays190_ren:Go.Shelf.Ren:=⟨fun|190=>262|125=>283|258=>315|128=>332|129=>333|302=>348|303=>349|304=>350|305=>351|306=>352|307=>353|308=>354|309=>355|310=>356|333=>381|329=>370|330=>371|334=>382|335=>383|336=>384|344=>398|n=>n,fun|31=>142|9=>9|3=>3|46=>89|0=>0|51=>94|53=>24|4=>4|183=>393|182=>392|131=>222|5=>5|218=>422|222=>425|228=>438|229=>439|n=>n,fun|n=>n⟩
def Tryz.lays190:Go.Proofs.Lays.n190 Tryz.prog Tryz.lays190_ren:={
 mixed:=by kernel_rfl
 f125:=Tryz.func283.trans (congrArg some (by kernel_rfl))
 f128:=Tryz.func332.trans (congrArg some (by kernel_rfl))
 f129:=Tryz.func333.trans (congrArg some (by kernel_rfl))
 f190:=Tryz.func262.trans (congrArg some (by kernel_rfl))
 f258:=Tryz.func315.trans (congrArg some (by kernel_rfl))
 f302:=Tryz.func348.trans (congrArg some (by kernel_rfl))
 f303:=Tryz.func349.trans (congrArg some (by kernel_rfl))
 f304:=Tryz.func350.trans (congrArg some (by kernel_rfl))
 f305:=Tryz.func351.trans (congrArg some (by kernel_rfl))
 f306:=Tryz.func352.trans (congrArg some (by kernel_rfl))
 f307:=Tryz.func353.trans (congrArg some (by kernel_rfl))
 f308:=Tryz.func354.trans (congrArg some (by kernel_rfl))
 f309:=Tryz.func355.trans (congrArg some (by kernel_rfl))
 f310:=Tryz.func356.trans (congrArg some (by kernel_rfl))
 f329:=Tryz.func370.trans (congrArg some (by kernel_rfl))
 f330:=Tryz.func371.trans (congrArg some (by kernel_rfl))
 f333:=Tryz.func381.trans (congrArg some (by kernel_rfl))
 f334:=Tryz.func382.trans (congrArg some (by kernel_rfl))
 f335:=Tryz.func383.trans (congrArg some (by kernel_rfl))
 f336:=Tryz.func384.trans (congrArg some (by kernel_rfl))
 f344:=Tryz.func398.trans (congrArg some (by kernel_rfl))
 t0:=Tryz.underlying0
 a0:=Tryz.isAgg0
 z0:=Tryz.sizeOf0
 v0:=Tryz.zeroValue0
 t3:=Tryz.underlying3
 a3:=Tryz.isAgg3
 z3:=Tryz.sizeOf3
 v3:=Tryz.zeroValue3
 t4:=Tryz.underlying4
 a4:=Tryz.isAgg4
 z4:=Tryz.sizeOf4
 v4:=Tryz.zeroValue4
 t5:=Tryz.underlying5
 a5:=Tryz.isAgg5
 z5:=Tryz.sizeOf5
 v5:=Tryz.zeroValue5
 t9:=Tryz.underlying9
 a9:=Tryz.isAgg9
 z9:=Tryz.sizeOf9
 v9:=Tryz.zeroValue9
 t31:=Tryz.underlying142
 a31:=Tryz.isAgg142
 z31:=Tryz.sizeOf142
 v31:=Tryz.zeroValue142
 t46:=Tryz.underlying89
 a46:=Tryz.isAgg89
 z46:=Tryz.sizeOf89
 v46:=Tryz.zeroValue89
 t51:=Tryz.underlying94
 a51:=Tryz.isAgg94
 z51:=Tryz.sizeOf94
 v51:=Tryz.zeroValue94
 t53:=Tryz.underlying24
 a53:=Tryz.isAgg24
 z53:=Tryz.sizeOf24
 v53:=Tryz.zeroValue24
 t131:=Tryz.underlying222
 a131:=Tryz.isAgg222
 z131:=Tryz.sizeOf222
 v131:=Tryz.zeroValue222
 t182:=Tryz.underlying392
 a182:=Tryz.isAgg392
 z182:=Tryz.sizeOf392
 v182:=Tryz.zeroValue392
 t183:=Tryz.underlying393
 a183:=Tryz.isAgg393
 z183:=Tryz.sizeOf393
 v183:=Tryz.zeroValue393
 t218:=Tryz.underlying422
 a218:=Tryz.isAgg422
 z218:=Tryz.sizeOf422
 v218:=Tryz.zeroValue422
 t222:=Tryz.underlying425
 a222:=Tryz.isAgg425
 z222:=Tryz.sizeOf425
 v222:=Tryz.zeroValue425
 t228:=Tryz.underlying438
 a228:=Tryz.isAgg438
 z228:=Tryz.sizeOf438
 v228:=Tryz.zeroValue438
 t229:=Tryz.underlying439
 a229:=Tryz.isAgg439
 z229:=Tryz.sizeOf439
 v229:=Tryz.zeroValue439}
open Go.Sort Go.RowKit in
def Tryz.slices_Sort_string (blk off cap:Nat) (ss:List (List UInt8)) (w:World) (hH:Holds encStr w blk off ss.toArray) (hblk:blk<w.heap.size) (hsz:ss.length<4611686018427387904):
 Calls Tryz.prog 262 #[.slice (some ⟨blk,off,none⟩) ss.length cap] w fun e w'=>
  e= .returned (.tuple #[])∧∃n os,w'=grow (putRow encStr (Sort.ahead w n) blk off (ss.mergeSort fun x y=>decide (x≤y)).toArray) os:=Any.slices_Sort_string Tryz.lays190 blk off cap ss w hH hblk hsz
def Tryz.lays99_ren:Go.Shelf.Ren:=⟨fun|99=>267|206=>317|n=>n,fun|9=>9|4=>4|3=>3|n=>n,fun|n=>n⟩
def Tryz.lays99:Go.Proofs.Lays.n99 Tryz.prog Tryz.lays99_ren:={
 mixed:=by kernel_rfl
 f99:=Tryz.func267.trans (congrArg some (by kernel_rfl))
 f206:=Tryz.func317.trans (congrArg some (by kernel_rfl))
 t3:=Tryz.underlying3
 a3:=Tryz.isAgg3
 z3:=Tryz.sizeOf3
 v3:=Tryz.zeroValue3
 t4:=Tryz.underlying4
 a4:=Tryz.isAgg4
 z4:=Tryz.sizeOf4
 v4:=Tryz.zeroValue4
 t9:=Tryz.underlying9
 a9:=Tryz.isAgg9
 z9:=Tryz.sizeOf9
 v9:=Tryz.zeroValue9}
open Go.RowKit Go.Lib in
def Tryz.strings_HasPrefix (s p:ByteArray) (w:World):
 Calls Tryz.prog 267 #[.string s, .string p] w fun e w'=>e= .returned (.bool (Lib.hasPrefix s.data.toList p.data.toList))∧w'=w:=Any.strings_HasPrefix Tryz.lays99 s p w
def Tryz.lays101_ren:Go.Shelf.Ren:=⟨fun|101=>256|208=>308|206=>317|n=>n,fun|9=>9|4=>4|3=>3|n=>n,fun|n=>n⟩
def Tryz.lays101:Go.Proofs.Lays.n101 Tryz.prog Tryz.lays101_ren:={
 mixed:=by kernel_rfl
 f101:=Tryz.func256.trans (congrArg some (by kernel_rfl))
 f206:=Tryz.func317.trans (congrArg some (by kernel_rfl))
 f208:=Tryz.func308.trans (congrArg some (by kernel_rfl))
 t3:=Tryz.underlying3
 a3:=Tryz.isAgg3
 z3:=Tryz.sizeOf3
 v3:=Tryz.zeroValue3
 t4:=Tryz.underlying4
 a4:=Tryz.isAgg4
 z4:=Tryz.sizeOf4
 v4:=Tryz.zeroValue4
 t9:=Tryz.underlying9
 a9:=Tryz.isAgg9
 z9:=Tryz.sizeOf9
 v9:=Tryz.zeroValue9}
open Go.RowKit Go.Lib in
def Tryz.strings_TrimPrefix (s p:ByteArray) (w:World):
 Calls Tryz.prog 256 #[.string s, .string p] w fun e w'=>e= .returned (.string ⟨(Lib.trimPrefix s.data.toList p.data.toList).toArray⟩)∧w'=w:=Any.strings_TrimPrefix Tryz.lays101 s p w
def Tryz.lays146_ren:Go.Shelf.Ren:=⟨fun|146=>255|221=>307|268=>343|138=>344|143=>345|195=>377|197=>378|218=>379|219=>302|260=>397|217=>306|225=>305|224=>304|267=>341|266=>342|314=>376|n=>n,fun|9=>9|31=>142|3=>3|4=>4|0=>0|105=>430|21=>21|5=>5|46=>89|119=>442|139=>445|138=>444|146=>428|51=>94|n=>n,fun|1=>0|3=>2|4=>3|n=>n⟩
def Tryz.lays146:Go.Proofs.Lays.n146 Tryz.prog Tryz.lays146_ren:={
 mixed:=by kernel_rfl
 f138:=Tryz.func344.trans (congrArg some (by kernel_rfl))
 f143:=Tryz.func345.trans (congrArg some (by kernel_rfl))
 f146:=Tryz.func255.trans (congrArg some (by kernel_rfl))
 f195:=Tryz.func377.trans (congrArg some (by kernel_rfl))
 f197:=Tryz.func378.trans (congrArg some (by kernel_rfl))
 f217:=Tryz.func306.trans (congrArg some (by kernel_rfl))
 f218:=Tryz.func379.trans (congrArg some (by kernel_rfl))
 f219:=Tryz.func302.trans (congrArg some (by kernel_rfl))
 f221:=Tryz.func307.trans (congrArg some (by kernel_rfl))
 f224:=Tryz.func304.trans (congrArg some (by kernel_rfl))
 f225:=Tryz.func305.trans (congrArg some (by kernel_rfl))
 f260:=Tryz.func397.trans (congrArg some (by kernel_rfl))
 f266:=Tryz.func342.trans (congrArg some (by kernel_rfl))
 f267:=Tryz.func341.trans (congrArg some (by kernel_rfl))
 f268:=Tryz.func343.trans (congrArg some (by kernel_rfl))
 f314:=Tryz.func376.trans (congrArg some (by kernel_rfl))
 t0:=Tryz.underlying0
 a0:=Tryz.isAgg0
 z0:=Tryz.sizeOf0
 v0:=Tryz.zeroValue0
 t3:=Tryz.underlying3
 a3:=Tryz.isAgg3
 z3:=Tryz.sizeOf3
 v3:=Tryz.zeroValue3
 t4:=Tryz.underlying4
 a4:=Tryz.isAgg4
 z4:=Tryz.sizeOf4
 v4:=Tryz.zeroValue4
 t5:=Tryz.underlying5
 a5:=Tryz.isAgg5
 z5:=Tryz.sizeOf5
 v5:=Tryz.zeroValue5
 t9:=Tryz.underlying9
 a9:=Tryz.isAgg9
 z9:=Tryz.sizeOf9
 v9:=Tryz.zeroValue9
 t21:=Tryz.underlying21
 a21:=Tryz.isAgg21
 z21:=Tryz.sizeOf21
 v21:=Tryz.zeroValue21
 t31:=Tryz.underlying142
 a31:=Tryz.isAgg142
 z31:=Tryz.sizeOf142
 v31:=Tryz.zeroValue142
 t46:=Tryz.underlying89
 a46:=Tryz.isAgg89
 z46:=Tryz.sizeOf89
 v46:=Tryz.zeroValue89
 t51:=Tryz.underlying94
 a51:=Tryz.isAgg94
 z51:=Tryz.sizeOf94
 v51:=Tryz.zeroValue94
 t105:=Tryz.underlying430
 a105:=Tryz.isAgg430
 z105:=Tryz.sizeOf430
 v105:=Tryz.zeroValue430
 t119:=Tryz.underlying442
 a119:=Tryz.isAgg442
 z119:=Tryz.sizeOf442
 t138:=Tryz.underlying444
 a138:=Tryz.isAgg444
 z138:=Tryz.sizeOf444
 v138:=Tryz.zeroValue444
 t139:=Tryz.underlying445
 a139:=Tryz.isAgg445
 z139:=Tryz.sizeOf445
 v139:=Tryz.zeroValue445
 t146:=Tryz.underlying428
 a146:=Tryz.isAgg428
 z146:=Tryz.sizeOf428
 v146:=Tryz.zeroValue428
 g1:=by kernel_rfl
 g3:=by kernel_rfl
 g4:=by kernel_rfl}
open Go.RowKit Go.Lib in
def Tryz.strings_Split (s sep:ByteArray) (m:Int) (w:World) (hs:s.size<4294967281) (hm:w.cell? ⟨0,0,none⟩=some (.int .i64 m)) (h1:1≤sep.size):
 Calls Tryz.prog 255 #[.string s, .string sep] w fun e w'=>
  e= .returned (.slice (some ⟨w.heap.size,0,none⟩) (Lib.countB s sep+1) (Lib.countB s sep+1))∧w'=w.alloc (.cells ((Lib.splitB sep 0 (Lib.countB s sep) s).map Value.string).toArray 9):=Any.strings_Split Tryz.lays146 (by kernel_rfl) s sep m w hs hm h1
def Tryz.lays152_ren:Go.Shelf.Ren:=⟨fun|152=>250|137=>254|119=>303|224=>304|225=>305|217=>306|266=>342|n=>n,fun|9=>9|21=>21|3=>3|4=>4|5=>5|0=>0|46=>89|n=>n,fun|n=>n⟩
def Tryz.lays152:Go.Proofs.Lays.n152 Tryz.prog Tryz.lays152_ren:={
 mixed:=by kernel_rfl
 f119:=Tryz.func303.trans (congrArg some (by kernel_rfl))
 f137:=Tryz.func254.trans (congrArg some (by kernel_rfl))
 f152:=Tryz.func250.trans (congrArg some (by kernel_rfl))
 f217:=Tryz.func306.trans (congrArg some (by kernel_rfl))
 f224:=Tryz.func304.trans (congrArg some (by kernel_rfl))
 f225:=Tryz.func305.trans (congrArg some (by kernel_rfl))
 f266:=Tryz.func342.trans (congrArg some (by kernel_rfl))
 t0:=Tryz.underlying0
 a0:=Tryz.isAgg0
 z0:=Tryz.sizeOf0
 v0:=Tryz.zeroValue0
 t3:=Tryz.underlying3
 a3:=Tryz.isAgg3
 z3:=Tryz.sizeOf3
 v3:=Tryz.zeroValue3
 t4:=Tryz.underlying4
 a4:=Tryz.isAgg4
 z4:=Tryz.sizeOf4
 v4:=Tryz.zeroValue4
 t5:=Tryz.underlying5
 a5:=Tryz.isAgg5
 z5:=Tryz.sizeOf5
 v5:=Tryz.zeroValue5
 t9:=Tryz.underlying9
 a9:=Tryz.isAgg9
 z9:=Tryz.sizeOf9
 v9:=Tryz.zeroValue9
 t21:=Tryz.underlying21
 a21:=Tryz.isAgg21
 z21:=Tryz.sizeOf21
 v21:=Tryz.zeroValue21
 t46:=Tryz.underlying89
 a46:=Tryz.isAgg89
 z46:=Tryz.sizeOf89
 v46:=Tryz.zeroValue89}
open Go.RowKit Go.Lib in
def Tryz.strings_IndexRune_ascii (s:ByteArray) (r:Int) (w:World) (h0:0≤r) (h1:r<128):
 Calls Tryz.prog 250 #[.string s, .int .i32 r] w fun e w'=>e= .returned (.int .i64 (Lib.indexByte s.data.toList r.toNat.toUInt8))∧w'=w:=Any.strings_IndexRune_ascii Tryz.lays152 s r w h0 h1
def Tryz.lays226_ren:Go.Shelf.Ren:=⟨fun|226=>251|n=>n,fun|3=>3|4=>4|n=>n,fun|n=>n⟩
def Tryz.lays226:Go.Proofs.Lays.n226 Tryz.prog Tryz.lays226_ren:={
 mixed:=by kernel_rfl
 f226:=Tryz.func251.trans (congrArg some (by kernel_rfl))
 t3:=Tryz.underlying3
 a3:=Tryz.isAgg3
 z3:=Tryz.sizeOf3
 v3:=Tryz.zeroValue3
 t4:=Tryz.underlying4
 a4:=Tryz.isAgg4
 z4:=Tryz.sizeOf4
 v4:=Tryz.zeroValue4}
open Go.RowKit Go.Lib in
def Tryz.strings_shouldUseASCIISet (n:Int) (w:World):
 Calls Tryz.prog 251 #[.int .i64 n] w fun e w'=>e= .returned (.bool (decide (8<n)))∧w'=w:=Any.strings_shouldUseASCIISet Tryz.lays226 n w
def Tryz.lays153_ren:Go.Shelf.Ren:=⟨fun|153=>169|152=>250|226=>251|227=>252|228=>253|137=>254|119=>303|224=>304|225=>305|217=>306|266=>342|n=>n,fun|9=>9|3=>3|4=>4|5=>5|21=>21|117=>340|116=>339|0=>0|46=>89|124=>383|n=>n,fun|n=>n⟩
def Tryz.lays153:Go.Proofs.Lays.n153 Tryz.prog Tryz.lays153_ren:={
 mixed:=by kernel_rfl
 f119:=Tryz.func303.trans (congrArg some (by kernel_rfl))
 f137:=Tryz.func254.trans (congrArg some (by kernel_rfl))
 f152:=Tryz.func250.trans (congrArg some (by kernel_rfl))
 f153:=Tryz.func169.trans (congrArg some (by kernel_rfl))
 f217:=Tryz.func306.trans (congrArg some (by kernel_rfl))
 f224:=Tryz.func304.trans (congrArg some (by kernel_rfl))
 f225:=Tryz.func305.trans (congrArg some (by kernel_rfl))
 f226:=Tryz.func251.trans (congrArg some (by kernel_rfl))
 f227:=Tryz.func252.trans (congrArg some (by kernel_rfl))
 f228:=Tryz.func253.trans (congrArg some (by kernel_rfl))
 f266:=Tryz.func342.trans (congrArg some (by kernel_rfl))
 t0:=Tryz.underlying0
 a0:=Tryz.isAgg0
 z0:=Tryz.sizeOf0
 v0:=Tryz.zeroValue0
 t3:=Tryz.underlying3
 a3:=Tryz.isAgg3
 z3:=Tryz.sizeOf3
 v3:=Tryz.zeroValue3
 t4:=Tryz.underlying4
 a4:=Tryz.isAgg4
 z4:=Tryz.sizeOf4
 v4:=Tryz.zeroValue4
 t5:=Tryz.underlying5
 a5:=Tryz.isAgg5
 z5:=Tryz.sizeOf5
 v5:=Tryz.zeroValue5
 t9:=Tryz.underlying9
 a9:=Tryz.isAgg9
 z9:=Tryz.sizeOf9
 v9:=Tryz.zeroValue9
 t21:=Tryz.underlying21
 a21:=Tryz.isAgg21
 z21:=Tryz.sizeOf21
 v21:=Tryz.zeroValue21
 t46:=Tryz.underlying89
 a46:=Tryz.isAgg89
 z46:=Tryz.sizeOf89
 v46:=Tryz.zeroValue89
 t116:=Tryz.underlying339
 a116:=Tryz.isAgg339
 z116:=Tryz.sizeOf339
 t117:=Tryz.underlying340
 a117:=Tryz.isAgg340
 z117:=Tryz.sizeOf340
 v117:=Tryz.zeroValue340
 t124:=Tryz.underlying383
 a124:=Tryz.isAgg383
 z124:=Tryz.sizeOf383
 v124:=Tryz.zeroValue383}
open Go.RowKit Go.Lib in
def Tryz.strings_IndexAny_long (hv116:∀w,(zeroValue 339).run Tryz.prog w= .ok (.agg (Array.replicate 256 (.bool false))) w) (s chars:ByteArray) (w:World) (h2:2≤chars.size) (h8:8<s.size) (hs:s.size<4294967281) (hcs:chars.size<4294967281) (hascii:∀(j:Nat) b,chars.data.toList[j]? =some b→b.toNat<128):
 Calls Tryz.prog 169 #[.string s, .string chars] w fun e w'=>e= .returned (.int .i64 (Lib.indexAny s.data.toList chars.data.toList))∧w'=((w.alloc (.cells (Lib.setCells chars.data.toList) 339)).alloc (.cells (Lib.setCells chars.data.toList) 339)):=Any.strings_IndexAny_long Tryz.lays153 hv116 (by kernel_rfl) s chars w h2 h8 hs hcs hascii
def Tryz.lays110_ren:Go.Shelf.Ren:=⟨fun|110=>139|109=>215|n=>n,fun|31=>142|9=>9|4=>4|3=>3|0=>0|n=>n,fun|n=>n⟩
def Tryz.lays110:Go.Proofs.Lays.n110 Tryz.prog Tryz.lays110_ren:={
 mixed:=by kernel_rfl
 f109:=Tryz.func215.trans (congrArg some (by kernel_rfl))
 f110:=Tryz.func139.trans (congrArg some (by kernel_rfl))
 t0:=Tryz.underlying0
 a0:=Tryz.isAgg0
 z0:=Tryz.sizeOf0
 v0:=Tryz.zeroValue0
 t3:=Tryz.underlying3
 a3:=Tryz.isAgg3
 z3:=Tryz.sizeOf3
 v3:=Tryz.zeroValue3
 t4:=Tryz.underlying4
 a4:=Tryz.isAgg4
 z4:=Tryz.sizeOf4
 v4:=Tryz.zeroValue4
 t9:=Tryz.underlying9
 a9:=Tryz.isAgg9
 z9:=Tryz.sizeOf9
 v9:=Tryz.zeroValue9
 t31:=Tryz.underlying142
 a31:=Tryz.isAgg142
 z31:=Tryz.sizeOf142
 v31:=Tryz.zeroValue142}
open Go.Lib in
def Tryz.slices_Contains_string (b off n c:Nat) (zs:List ByteArray) (x:ByteArray) (w:World) (hz:n≤zs.length) (hbig:n≤9223372036854775807) (hc:∀j,j<zs.length→w.cell? ⟨b,off+j,none⟩=some (.string (zs.getD j ByteArray.empty))):
 Calls Tryz.prog 139 #[.slice (some ⟨b,off,none⟩) n c, .string x] w fun e w'=>e= .returned (.bool (Lib.containsS (zs.take n) x))∧w'=w:=Any.slices_Contains_string Tryz.lays110 b off n c zs x w hz hbig hc
open Go.Lib in
def Tryz.slices_Contains_string_empty (a:Option Addr) (c:Nat) (x:ByteArray) (w:World):
 Calls Tryz.prog 139 #[.slice a 0 c, .string x] w fun e w'=>e= .returned (.bool false)∧w'=w:=Any.slices_Contains_string_empty Tryz.lays110 a c x w
def Tryz.lays194_ren:Go.Shelf.Ren:=⟨fun|194=>263|n=>n,fun|31=>142|9=>9|3=>3|4=>4|0=>0|n=>n,fun|n=>n⟩
def Tryz.lays194:Go.Proofs.Lays.n194 Tryz.prog Tryz.lays194_ren:={
 mixed:=by kernel_rfl
 f194:=Tryz.func263.trans (congrArg some (by kernel_rfl))
 t0:=Tryz.underlying0
 a0:=Tryz.isAgg0
 z0:=Tryz.sizeOf0
 v0:=Tryz.zeroValue0
 t3:=Tryz.underlying3
 a3:=Tryz.isAgg3
 z3:=Tryz.sizeOf3
 v3:=Tryz.zeroValue3
 t4:=Tryz.underlying4
 a4:=Tryz.isAgg4
 z4:=Tryz.sizeOf4
 v4:=Tryz.zeroValue4
 t9:=Tryz.underlying9
 a9:=Tryz.isAgg9
 z9:=Tryz.sizeOf9
 v9:=Tryz.zeroValue9
 t31:=Tryz.underlying142
 a31:=Tryz.isAgg142
 z31:=Tryz.sizeOf142
 v31:=Tryz.zeroValue142}
open Go.RowKit Go.Lib Go.Sort in
def Tryz.slices_Compact_string (blk off cap:Nat) (zs:List (List UInt8)) (w:World) (hH:Holds encStr w blk off zs.toArray) (hsz:zs.length≤9223372036854775807) (hcap:zs.length≤cap):
 Calls Tryz.prog 263 #[.slice (some ⟨blk,off,none⟩) zs.length cap] w fun e w'=>e= .returned (.slice (some ⟨blk,off,none⟩) (Lib.compact zs).length cap)∧∃q,w'=putRow encStr (Sort.ahead w q) blk off (Lib.compact zs++List.replicate (zs.length-(Lib.compact zs).length) []).toArray:=Any.slices_Compact_string Tryz.lays194 blk off cap zs w hH hsz hcap
open Go.RowKit Go.Lib Go.Sort in
def Tryz.slices_Compact_string_empty (a:Option Addr) (cap:Nat) (w:World):
 Calls Tryz.prog 263 #[.slice a 0 cap] w fun e w'=>e= .returned (.slice a 0 cap)∧w'=w:=Any.slices_Compact_string_empty Tryz.lays194 a cap w
def Tryz.laysNm225_ren:Go.Shelf.Ren:=⟨fun|25=>118|31=>193|32=>194|37=>269|n=>n,fun|22=>37|3=>3|4=>4|40=>89|0=>0|n=>n,fun|n=>n⟩
def Tryz.laysNm225:Go.Proofs.Lays2.n25 Tryz.prog Tryz.laysNm225_ren:={
 mixed:=by kernel_rfl
 f25:=Tryz.func118.trans (congrArg some (by kernel_rfl))
 f31:=Tryz.func193.trans (congrArg some (by kernel_rfl))
 f32:=Tryz.func194.trans (congrArg some (by kernel_rfl))
 f37:=Tryz.func269.trans (congrArg some (by kernel_rfl))
 t0:=Tryz.underlying0
 a0:=Tryz.isAgg0
 z0:=Tryz.sizeOf0
 v0:=Tryz.zeroValue0
 t3:=Tryz.underlying3
 a3:=Tryz.isAgg3
 z3:=Tryz.sizeOf3
 v3:=Tryz.zeroValue3
 t4:=Tryz.underlying4
 a4:=Tryz.isAgg4
 z4:=Tryz.sizeOf4
 v4:=Tryz.zeroValue4
 t22:=Tryz.underlying37
 a22:=Tryz.isAgg37
 z22:=Tryz.sizeOf37
 v22:=Tryz.zeroValue37
 t40:=Tryz.underlying89
 a40:=Tryz.isAgg89
 z40:=Tryz.sizeOf89
 v40:=Tryz.zeroValue89}
open Go.RowKit Go.Lib in
def Tryz.slices_BinarySearch_int (b off n c:Nat) (zs:List Int) (x:Int) (w:World) (hz:n≤zs.length) (hbig:n<4611686018427387904) (hc:∀j,j<zs.length→w.cell? ⟨b,off+j,none⟩=some (.int .i64 (zs.getD j 0))) (hs:(zs.take n).Pairwise (·≤·)):
 Calls Tryz.prog 118 #[.slice (some ⟨b,off,none⟩) n c, .int .i64 x] w fun e w'=>e= .returned (.tuple #[.int .i64 ((zs.take n).countP (·<x):Nat), .bool ((zs.take n).contains x)])∧∃q,w'=w.drewN q:=Any.slices_BinarySearch_int Tryz.laysNm225 b off n c zs x w hz hbig hc hs
def Tryz.laysNm223_ren:Go.Shelf.Ren:=⟨fun|23=>202|n=>n,fun|22=>37|3=>3|4=>4|0=>0|n=>n,fun|n=>n⟩
def Tryz.laysNm223:Go.Proofs.Lays2.n23 Tryz.prog Tryz.laysNm223_ren:={
 mixed:=by kernel_rfl
 f23:=Tryz.func202.trans (congrArg some (by kernel_rfl))
 t0:=Tryz.underlying0
 a0:=Tryz.isAgg0
 z0:=Tryz.sizeOf0
 v0:=Tryz.zeroValue0
 t3:=Tryz.underlying3
 a3:=Tryz.isAgg3
 z3:=Tryz.sizeOf3
 v3:=Tryz.zeroValue3
 t4:=Tryz.underlying4
 a4:=Tryz.isAgg4
 z4:=Tryz.sizeOf4
 v4:=Tryz.zeroValue4
 t22:=Tryz.underlying37
 a22:=Tryz.isAgg37
 z22:=Tryz.sizeOf37
 v22:=Tryz.zeroValue37
 i3:=by kernel_rfl}
open Go.RowKit Go.Lib Go.Sort in
def Tryz.slices_Delete_int_cells (b off n c i j:Nat) (zs:List Int) (w:World) (hz:n≤zs.length) (hcap:n≤c) (hm:c≤9223372036854775807) (hij:i≤j) (hj:j≤n) (hc:∀j,j<zs.length→w.cell? ⟨b,off+j,none⟩=some (.int .i64 (zs.getD j 0))) (hf:∀j,j<n→w.frozen? ⟨b,off+j,none⟩=false):
 Calls Tryz.prog 202 #[.slice (some ⟨b,off,none⟩) n c, .int .i64 i, .int .i64 j] w fun e w'=>e= .returned (.slice (some ⟨b,off,none⟩) (n-(j-i)) c)∧∃q,w'=(w.drewN q).setCells b off (((zs.take n).take i++(zs.take n).drop j++List.replicate (j-i) 0).map (Value.int .i64)):=Any.slices_Delete_int_cells Tryz.laysNm223 b off n c i j zs w hz hcap hm hij hj hc hf
open Go.RowKit Go.Sort in
def Tryz.slices_Sort_string_none (p:Option Addr) (cap:Nat) (w:World):
 Calls Tryz.prog 262 #[.slice p 0 cap] w fun e w'=>e= .returned (.tuple #[])∧w'=w:=Any.slices_Sort_string_none Tryz.lays190 p cap w
open Go.RowKit Go.Sort in
def Tryz.slices_Sort_int_none (p:Option Addr) (cap:Nat) (w:World):
 Calls Tryz.prog 214 #[.slice p 0 cap] w fun e w'=>e= .returned (.tuple #[])∧w'=w:=Any.slices_Sort_int_none Tryz.lays189 p cap w
open Go.RowKit Go.Lib in
def Tryz.slices_BinarySearch_int_empty (a:Option Addr) (c:Nat) (x:Int) (w:World):
 Calls Tryz.prog 118 #[.slice a 0 c, .int .i64 x] w fun e w'=>e= .returned (.tuple #[.int .i64 0, .bool false])∧w'=w:=Any.slices_BinarySearch_int_empty Tryz.laysNm225 a c x w
end Go.Proofs
