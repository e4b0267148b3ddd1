import Derived.Shelf.Strings.Builder1
import Derived.Shelf.Strings.Builder2
import Derived.Shelf.Strings.OnBuilder
import Derived.Shelf.Small.Bits
import Derived.Shelf.Small.Wraps
import Derived.Shelf.Strings.BuilderF
import Derived.Shelf.Strings.BuilderK
import Derived.Shelf.Strconv.Atoi
import Derived.Shelf.Strconv.Itoa0
import Derived.Shelf.Strconv.Itoa1
import Derived.Shelf.LaysM
import Derived.Shelf.Strconv.Itoa2
import Derived.Shelf.Strconv.Itoa3
import Derived.Shelf.Strconv.AtoiErrFast
import Derived.Shelf.Strconv.ParseIntEmpty
import Derived.Shelf.Strconv.AtoiFail
import Derived.Shelf.Strconv.Clone
import Derived.Shelf.Strconv.SyntaxError
import Derived.Shelf.LaysC
import Derived.Shelf.Strconv.ToError
import Derived.Shelf.Strconv.Lower
import Derived.Shelf.Strconv.ParseUint10
import Derived.Shelf.Strconv.ParseUint10Empty
import Derived.Shelf.Strconv.ParseUint10Any
import Derived.Shelf.Strconv.ParseInt10
import Derived.Shelf.Strconv.AtoiLong
import Derived.Shelf.Strconv.AtoiInnerAll
import Derived.Shelf.Strconv.RangeError
import Derived.Shelf.Strconv.ToErrorRange
import Derived.Shelf.Strconv.AtoiAll
import Derived.Ground.MpProg
import Derived.Shelf.Pu.ParseUintPublic10
import Derived.Shelf.Strings.Search1
import Derived.Shelf.Strings.Search2
import Derived.Shelf.Strings.Search3
import Derived.Shelf.Strings.Count
import Derived.Shelf.Strings.Shaped
import Derived.Shelf.Strings.Prefix
import Derived.Shelf.Strings.Split
import Derived.Shelf.Strings.SplitShaped
import Derived.Shelf.Unicode.DecodeSlow
import Derived.Test.YtkanpepkdcmpmaaGreatDoorW9
import Derived.Test.YtkanpepkdcmpmaaGreatDoorW1
import Derived.Test.YtkanpepkdcmpmaaGreatDoorRows
import Derived.ProofKit
import Derived.OpenShut
import Derived.ShutString
import Derived.ChangeOld
import Derived.Lay
import Derived.Stop.Joined
import Derived.Stop.LaidErr
import Derived.Shelf.Vars
import Derived.HandedShaped
import Derived.MakeChecks
set_option maxHeartbeats 40000000
set_option maxRecDepth 100000
set_option linter.all false
namespace Go.Proofs.YtkanpepkdcmpmaaGreatDoor
section
open Go.Shelf
def Tryz.aha:Go.Shelf.Ren:=⟨fun|169=>34|n=>n,fun|70=>85|9=>9|0=>0|72=>88|37=>86|127=>157|3=>3|5=>5|n=>n,fun|n=>n⟩
theorem Tryz.aua:Go.Proofs.Lays.n169 Tryz.prog Tryz.aha:={
 mixed:=ah
 f169:=Tryz.func34.trans (aF some ah)
 t0:=Tryz.underlying0
 a0:=Tryz.isAgg0
 z0:=Tryz.sizeOf0
 v0:=Tryz.zeroValue0
 t3:=Tryz.underlying3
 a3:=Tryz.isAgg3
 z3:=Tryz.sizeOf3
 v3:=Tryz.zeroValue3
 t9:=Tryz.underlying9
 a9:=Tryz.isAgg9
 z9:=Tryz.sizeOf9
 v9:=Tryz.zeroValue9
 t37:=Tryz.underlying86
 a37:=Tryz.isAgg86
 z37:=Tryz.sizeOf86
 v37:=Tryz.zeroValue86
 t70:=Tryz.underlying85
 a70:=Tryz.isAgg85
 z70:=Tryz.sizeOf85
 v70:=Tryz.zeroValue85
 t72:=Tryz.underlying88
 a72:=Tryz.isAgg88
 z72:=Tryz.sizeOf88
 v72:=Tryz.zeroValue88
 t127:=Tryz.underlying157
 a127:=Tryz.isAgg157
 z127:=Tryz.sizeOf157
 v127:=Tryz.zeroValue157 }
theorem Tryz.aub:Builder.Extra Tryz.prog Tryz.aha:={
 sizeBuilder:=ah
 liesBuilder:=ah
 t5:=Tryz.underlying5
 a5:=Tryz.isAgg5
 z5:=Tryz.sizeOf5
 v5:=Tryz.zeroValue5
 infoByte:=ah
 cellsByte:=ah
 sizeByte:=ah
 neB5:=by decide }
def Tryz.ahb:Go.Shelf.Ren:=⟨fun|156=>79|165=>134|166=>28|169=>34|240=>72|241=>182|276=>130|277=>232|n=>n,fun|31=>108|9=>9|3=>3|4=>4|0=>0|20=>20|72=>88|76=>91|70=>85|37=>86|75=>90|127=>157|164=>223|5=>5|80=>96|n=>n,fun|n=>n⟩
theorem Tryz.ahc:Go.Proofs.Lays.n156 Tryz.prog Tryz.ahb:={
 mixed:=ah
 f156:=Tryz.func79.trans (aF some ah)
 f165:=Tryz.func134.trans (aF some ah)
 f166:=Tryz.func28.trans (aF some ah)
 f169:=Tryz.func34.trans (aF some ah)
 f240:=Tryz.func72.trans (aF some ah)
 f241:=Tryz.func182.trans (aF some ah)
 f276:=Tryz.func130.trans (aF some ah)
 f277:=Tryz.func232.trans (aF some ah)
 t0:=Tryz.underlying0
 a0:=Tryz.isAgg0
 z0:=Tryz.sizeOf0
 v0:=Tryz.zeroValue0
 t3:=Tryz.underlying3
 a3:=Tryz.isAgg3
 z3:=Tryz.sizeOf3
 v3:=Tryz.zeroValue3
 t4:=Tryz.underlying4
 a4:=Tryz.isAgg4
 z4:=Tryz.sizeOf4
 v4:=Tryz.zeroValue4
 t9:=Tryz.underlying9
 a9:=Tryz.isAgg9
 z9:=Tryz.sizeOf9
 v9:=Tryz.zeroValue9
 t20:=Tryz.underlying20
 a20:=Tryz.isAgg20
 z20:=Tryz.sizeOf20
 v20:=Tryz.zeroValue20
 t31:=Tryz.underlying108
 a31:=Tryz.isAgg108
 z31:=Tryz.sizeOf108
 v31:=Tryz.zeroValue108
 t37:=Tryz.underlying86
 a37:=Tryz.isAgg86
 z37:=Tryz.sizeOf86
 v37:=Tryz.zeroValue86
 t70:=Tryz.underlying85
 a70:=Tryz.isAgg85
 z70:=Tryz.sizeOf85
 v70:=Tryz.zeroValue85
 t72:=Tryz.underlying88
 a72:=Tryz.isAgg88
 z72:=Tryz.sizeOf88
 v72:=Tryz.zeroValue88
 t75:=Tryz.underlying90
 a75:=Tryz.isAgg90
 z75:=Tryz.sizeOf90
 v75:=Tryz.zeroValue90
 t76:=Tryz.underlying91
 a76:=Tryz.isAgg91
 z76:=Tryz.sizeOf91
 v76:=Tryz.zeroValue91
 t127:=Tryz.underlying157
 a127:=Tryz.isAgg157
 z127:=Tryz.sizeOf157
 v127:=Tryz.zeroValue157
 t164:=Tryz.underlying223
 a164:=Tryz.isAgg223
 z164:=Tryz.sizeOf223
 v164:=Tryz.zeroValue223 }
theorem Tryz.ahd:Builder.Extra Tryz.prog Tryz.ahb:={
 sizeBuilder:=ah
 liesBuilder:=ah
 t5:=Tryz.underlying5
 a5:=Tryz.isAgg5
 z5:=Tryz.sizeOf5
 v5:=Tryz.zeroValue5
 infoByte:=ah
 cellsByte:=ah
 sizeByte:=ah
 neB5:=by decide }
open Go.RowKit in
theorem Tryz.strings_Join_none (a:Option Addr)(c:Nat)(sep:ByteArray)(w:World):
  Calls Tryz.prog 79 #[.slice a 0 c,.string sep] w fun e w'=>e=.returned (.string ⟨#[]⟩)/\w'=w:=Any.strings_Join_none Tryz.ahc Tryz.ahd a c sep w
open Go.RowKit in
theorem Tryz.strings_Join (bk o c:Nat)(xs:List ByteArray)(sep:ByteArray)(w:World)(YZ:∀(j:Nat) x,xs[j]? =some x->w.cell? ⟨bk,o+j,none⟩=some (.string x))(oy:bk<w.heap.size)(hN:xs.length<=140737488355328)(EL:xs.length<=c)(hlen:(Lib.join (xs.map (·.data.toList)) sep.data.toList).length<=140737488355328):
  Calls Tryz.prog 79 #[.slice (some ⟨bk,o,none⟩) xs.length c,.string sep] w fun e w'=>e=.returned (.string ⟨(Lib.join (xs.map (·.data.toList)) sep.data.toList).toArray⟩)/\aw w w':=Any.strings_Join Tryz.ahc Tryz.ahd bk o c xs sep w YZ oy hN EL hlen
def Tryz.auc:Go.Shelf.Ren:=⟨fun|103=>147|210=>191|206=>236|n=>n,fun|9=>9|4=>4|24=>112|3=>3|n=>n,fun|n=>n⟩
theorem Tryz.aud:Go.Proofs.Lays.n103 Tryz.prog Tryz.auc:={
 mixed:=ah
 f103:=Tryz.func147.trans (aF some ah)
 f206:=Tryz.func236.trans (aF some ah)
 f210:=Tryz.func191.trans (aF some ah)
 t3:=Tryz.underlying3
 a3:=Tryz.isAgg3
 z3:=Tryz.sizeOf3
 v3:=Tryz.zeroValue3
 t4:=Tryz.underlying4
 a4:=Tryz.isAgg4
 z4:=Tryz.sizeOf4
 v4:=Tryz.zeroValue4
 t9:=Tryz.underlying9
 a9:=Tryz.isAgg9
 z9:=Tryz.sizeOf9
 v9:=Tryz.zeroValue9
 t24:=Tryz.underlying112
 a24:=Tryz.isAgg112
 z24:=Tryz.sizeOf112
 v24:=Tryz.zeroValue112 }
open Go.RowKit in
theorem Tryz.strings_CutPrefix (s p:ByteArray)(w:World):
  Calls Tryz.prog 147 #[.string s,.string p] w fun e w'=>e=.returned (.tuple #[.string ⟨(Lib.trimPrefix s.data.toList p.data.toList).toArray⟩,.bool (Lib.hasPrefix s.data.toList p.data.toList)])/\w'=w:=Any.strings_CutPrefix Tryz.aud s p w
def Tryz.aue:Go.Shelf.Ren:=⟨fun|104=>50|211=>101|207=>145|n=>n,fun|9=>9|4=>4|24=>112|3=>3|n=>n,fun|n=>n⟩
theorem Tryz.auf:Go.Proofs.Lays.n104 Tryz.prog Tryz.aue:={
 mixed:=ah
 f104:=Tryz.func50.trans (aF some ah)
 f207:=Tryz.func145.trans (aF some ah)
 f211:=Tryz.func101.trans (aF some ah)
 t3:=Tryz.underlying3
 a3:=Tryz.isAgg3
 z3:=Tryz.sizeOf3
 v3:=Tryz.zeroValue3
 t4:=Tryz.underlying4
 a4:=Tryz.isAgg4
 z4:=Tryz.sizeOf4
 v4:=Tryz.zeroValue4
 t9:=Tryz.underlying9
 a9:=Tryz.isAgg9
 z9:=Tryz.sizeOf9
 v9:=Tryz.zeroValue9
 t24:=Tryz.underlying112
 a24:=Tryz.isAgg112
 z24:=Tryz.sizeOf112
 v24:=Tryz.zeroValue112 }
open Go.RowKit in
theorem Tryz.strings_CutSuffix (s p:ByteArray)(w:World)(hs:s.size<=9223372036854775807):
  Calls Tryz.prog 50 #[.string s,.string p] w fun e w'=>e=.returned (.tuple #[.string ⟨(Lib.trimSuffix s.data.toList p.data.toList).toArray⟩,.bool (Lib.hasSuffix s.data.toList p.data.toList)])/\w'=w:=Any.strings_CutSuffix Tryz.auf s p w hs
open Go.RowKit in
theorem Tryz.Builder_String_any_k (B b:Nat)(l:List UInt8)(w:World)(h:Lib.IsBuilderF 88 5 B b (Lib.byteCells l) w)(nP:B<=w.heap.size):
  Calls Tryz.prog 34 #[.pointer (some ⟨b,0,none⟩)] w fun e w'=>e=.returned (.string ⟨l.toArray⟩)/\(Lib.IsBuilderF 88 5 B b (Lib.byteCells l) w'/\Below B w w'/\Lib.OthersKept 5 (some b) w w'):=Any.Builder_String_any_k Tryz.aua Tryz.aub B b l w h nP
def Tryz.aug:Go.Shelf.Ren:=⟨fun|171=>29|243=>73|246=>131|283=>177|284=>178|285=>179|286=>180|129=>227|317=>226|318=>228|319=>229|320=>230|337=>268|338=>269|n=>n,fun|3=>3|9=>9|2=>2|4=>4|171=>280|0=>0|53=>222|37=>86|5=>5|173=>283|212=>323|51=>324|20=>20|213=>325|46=>288|232=>379|233=>380|n=>n,fun|17=>1|18=>6|19=>7|n=>n⟩
theorem Tryz.auh:Go.Proofs.LaysM.n171 Tryz.prog Tryz.aug:={
 mixed:=ah
 f129:=Tryz.func227.trans (aF some ah)
 f171:=Tryz.func29.trans (aF some ah)
 f243:=Tryz.func73.trans (aF some ah)
 f246:=Tryz.func131.trans (aF some ah)
 f283:=Tryz.func177.trans (aF some ah)
 f284:=Tryz.func178.trans (aF some ah)
 f285:=Tryz.func179.trans (aF some ah)
 f286:=Tryz.func180.trans (aF some ah)
 f317:=Tryz.func226.trans (aF some ah)
 f318:=Tryz.func228.trans (aF some ah)
 f319:=Tryz.func229.trans (aF some ah)
 f320:=Tryz.func230.trans (aF some ah)
 f337:=Tryz.func268.trans (aF some ah)
 f338:=Tryz.func269.trans (aF some ah)
 t0:=Tryz.underlying0
 a0:=Tryz.isAgg0
 z0:=Tryz.sizeOf0
 v0:=Tryz.zeroValue0
 t2:=Tryz.underlying2
 a2:=Tryz.isAgg2
 z2:=Tryz.sizeOf2
 v2:=Tryz.zeroValue2
 t3:=Tryz.underlying3
 a3:=Tryz.isAgg3
 z3:=Tryz.sizeOf3
 v3:=Tryz.zeroValue3
 t4:=Tryz.underlying4
 a4:=Tryz.isAgg4
 z4:=Tryz.sizeOf4
 v4:=Tryz.zeroValue4
 t5:=Tryz.underlying5
 a5:=Tryz.isAgg5
 z5:=Tryz.sizeOf5
 v5:=Tryz.zeroValue5
 t9:=Tryz.underlying9
 a9:=Tryz.isAgg9
 z9:=Tryz.sizeOf9
 v9:=Tryz.zeroValue9
 t20:=Tryz.underlying20
 a20:=Tryz.isAgg20
 z20:=Tryz.sizeOf20
 v20:=Tryz.zeroValue20
 t37:=Tryz.underlying86
 a37:=Tryz.isAgg86
 z37:=Tryz.sizeOf86
 v37:=Tryz.zeroValue86
 t46:=Tryz.underlying288
 a46:=Tryz.isAgg288
 z46:=Tryz.sizeOf288
 v46:=Tryz.zeroValue288
 t51:=Tryz.underlying324
 a51:=Tryz.isAgg324
 z51:=Tryz.sizeOf324
 v51:=Tryz.zeroValue324
 t53:=Tryz.underlying222
 a53:=Tryz.isAgg222
 z53:=Tryz.sizeOf222
 v53:=Tryz.zeroValue222
 t171:=Tryz.underlying280
 a171:=Tryz.isAgg280
 z171:=Tryz.sizeOf280
 v171:=Tryz.zeroValue280
 t173:=Tryz.underlying283
 a173:=Tryz.isAgg283
 z173:=Tryz.sizeOf283
 v173:=Tryz.zeroValue283
 t212:=Tryz.underlying323
 a212:=Tryz.isAgg323
 z212:=Tryz.sizeOf323
 v212:=Tryz.zeroValue323
 t213:=Tryz.underlying325
 a213:=Tryz.isAgg325
 z213:=Tryz.sizeOf325
 t232:=Tryz.underlying379
 a232:=Tryz.isAgg379
 z232:=Tryz.sizeOf379
 v232:=Tryz.zeroValue379
 t233:=Tryz.underlying380
 a233:=Tryz.isAgg380
 z233:=Tryz.sizeOf380
 v233:=Tryz.zeroValue380
 g17:=ah
 g18:=ah
 g19:=ah
 i0:=ah
 i2:=ah
 i3:=ah
 i4:=ah
 i5:=ah
 i9:=ah
 i20:=ah
 i37:=ah
 i46:=ah
 i51:=ah
 i53:=ah
 i171:=ah
 i173:=ah
 i212:=ah
 i232:=ah
 i233:=ah
 m17:=ah
 m18:=ah
 m19:=by kernel_rfl }
open Go.RowKit Go.Sort Go.Lib in
theorem Tryz.strconv_Itoa (n:Int)(h0: -9223372036854775808<=n)(h1:n<=9223372036854775807)(w:World)(yO:Lib.TabIs Tryz.prog w "internal/strconv.uint64pow10" .u64 Lib.pow10Tab):
  Calls Tryz.prog 29 #[.int .i64 n] w fun e w'=>e=.returned (.string ⟨(Lib.itoa n).toArray⟩)/\∃k os,w'=grow (w.drewN k) os:=Any.strconv_Itoa Tryz.auh n h0 h1 w yO
def Tryz.aui:Go.Shelf.Ren:=⟨fun|245=>193|279=>239|280=>240|281=>241|282=>242|316=>271|171=>29|205=>272|243=>73|246=>131|283=>177|284=>178|285=>179|286=>180|129=>227|317=>226|318=>228|319=>229|320=>230|337=>268|338=>269|n=>n,fun|9=>9|3=>3|75=>90|167=>329|4=>4|168=>331|210=>365|37=>86|0=>0|127=>157|145=>383|143=>381|2=>2|171=>280|53=>222|5=>5|173=>283|212=>323|51=>324|20=>20|213=>325|46=>288|232=>379|233=>380|80=>96|n=>n,fun|15=>4|16=>5|17=>1|18=>6|19=>7|n=>n⟩
theorem Tryz.ahe:Go.Proofs.LaysC.n245 Tryz.prog Tryz.aui:={
 mixed:=ah
 f129:=Tryz.func227.trans (aF some ah)
 f171:=Tryz.func29.trans (aF some ah)
 f205:=Tryz.func272.trans (aF some ah)
 f243:=Tryz.func73.trans (aF some ah)
 f245:=Tryz.func193.trans (aF some ah)
 f246:=Tryz.func131.trans (aF some ah)
 f279:=Tryz.func239.trans (aF some ah)
 f280:=Tryz.func240.trans (aF some ah)
 f281:=Tryz.func241.trans (aF some ah)
 f282:=Tryz.func242.trans (aF some ah)
 f283:=Tryz.func177.trans (aF some ah)
 f284:=Tryz.func178.trans (aF some ah)
 f285:=Tryz.func179.trans (aF some ah)
 f286:=Tryz.func180.trans (aF some ah)
 f316:=Tryz.func271.trans (aF some ah)
 f317:=Tryz.func226.trans (aF some ah)
 f318:=Tryz.func228.trans (aF some ah)
 f319:=Tryz.func229.trans (aF some ah)
 f320:=Tryz.func230.trans (aF some ah)
 f337:=Tryz.func268.trans (aF some ah)
 f338:=Tryz.func269.trans (aF some ah)
 t0:=Tryz.underlying0
 a0:=Tryz.isAgg0
 z0:=Tryz.sizeOf0
 v0:=Tryz.zeroValue0
 t2:=Tryz.underlying2
 a2:=Tryz.isAgg2
 z2:=Tryz.sizeOf2
 v2:=Tryz.zeroValue2
 t3:=Tryz.underlying3
 a3:=Tryz.isAgg3
 z3:=Tryz.sizeOf3
 v3:=Tryz.zeroValue3
 t4:=Tryz.underlying4
 a4:=Tryz.isAgg4
 z4:=Tryz.sizeOf4
 v4:=Tryz.zeroValue4
 t5:=Tryz.underlying5
 a5:=Tryz.isAgg5
 z5:=Tryz.sizeOf5
 v5:=Tryz.zeroValue5
 t9:=Tryz.underlying9
 a9:=Tryz.isAgg9
 z9:=Tryz.sizeOf9
 v9:=Tryz.zeroValue9
 t20:=Tryz.underlying20
 a20:=Tryz.isAgg20
 z20:=Tryz.sizeOf20
 v20:=Tryz.zeroValue20
 t37:=Tryz.underlying86
 a37:=Tryz.isAgg86
 z37:=Tryz.sizeOf86
 v37:=Tryz.zeroValue86
 t46:=Tryz.underlying288
 a46:=Tryz.isAgg288
 z46:=Tryz.sizeOf288
 v46:=Tryz.zeroValue288
 t51:=Tryz.underlying324
 a51:=Tryz.isAgg324
 z51:=Tryz.sizeOf324
 v51:=Tryz.zeroValue324
 t53:=Tryz.underlying222
 a53:=Tryz.isAgg222
 z53:=Tryz.sizeOf222
 v53:=Tryz.zeroValue222
 t75:=Tryz.underlying90
 a75:=Tryz.isAgg90
 z75:=Tryz.sizeOf90
 v75:=Tryz.zeroValue90
 t127:=Tryz.underlying157
 a127:=Tryz.isAgg157
 z127:=Tryz.sizeOf157
 v127:=Tryz.zeroValue157
 t143:=Tryz.underlying381
 a143:=Tryz.isAgg381
 z143:=Tryz.sizeOf381
 v143:=Tryz.zeroValue381
 t145:=Tryz.underlying383
 a145:=Tryz.isAgg383
 z145:=Tryz.sizeOf383
 v145:=Tryz.zeroValue383
 t167:=Tryz.underlying329
 a167:=Tryz.isAgg329
 z167:=Tryz.sizeOf329
 v167:=Tryz.zeroValue329
 t168:=Tryz.underlying331
 a168:=Tryz.isAgg331
 z168:=Tryz.sizeOf331
 v168:=Tryz.zeroValue331
 t171:=Tryz.underlying280
 a171:=Tryz.isAgg280
 z171:=Tryz.sizeOf280
 v171:=Tryz.zeroValue280
 t173:=Tryz.underlying283
 a173:=Tryz.isAgg283
 z173:=Tryz.sizeOf283
 v173:=Tryz.zeroValue283
 t210:=Tryz.underlying365
 a210:=Tryz.isAgg365
 z210:=Tryz.sizeOf365
 v210:=Tryz.zeroValue365
 t212:=Tryz.underlying323
 a212:=Tryz.isAgg323
 z212:=Tryz.sizeOf323
 v212:=Tryz.zeroValue323
 t213:=Tryz.underlying325
 a213:=Tryz.isAgg325
 z213:=Tryz.sizeOf325
 t232:=Tryz.underlying379
 a232:=Tryz.isAgg379
 z232:=Tryz.sizeOf379
 v232:=Tryz.zeroValue379
 t233:=Tryz.underlying380
 a233:=Tryz.isAgg380
 z233:=Tryz.sizeOf380
 v233:=Tryz.zeroValue380
 g15:=ah
 g16:=ah
 g17:=ah
 g18:=ah
 g19:=ah
 t80:=Tryz.underlying96
 a80:=Tryz.isAgg96
 z80:=Tryz.sizeOf96
 v80:=Tryz.zeroValue96
 i0:=ah
 i2:=ah
 i3:=ah
 i4:=ah
 i5:=ah
 i9:=ah
 i20:=ah
 i37:=ah
 i46:=ah
 i51:=ah
 i53:=ah
 i75:=ah
 i80:=ah
 i127:=ah
 i143:=ah
 i145:=ah
 i167:=ah
 i168:=ah
 i171:=ah
 i173:=ah
 i210:=ah
 i212:=ah
 i232:=ah
 i233:=ah
 m15:=ah
 m16:=ah
 m17:=ah
 m18:=ah
 m19:=ah
 c0:=ah
 c2:=ah
 c3:=ah
 c4:=ah
 c5:=ah
 c9:=ah
 c20:=ah
 c37:=ah
 c46:=ah
 c51:=ah
 c53:=ah
 c75:=ah
 c80:=ah
 c127:=ah
 c143:=ah
 c145:=ah
 c167:=ah
 c168:=ah
 c171:=ah
 c173:=ah
 c210:=ah
 c212:=ah
 c213:=ah
 c232:=ah
 c233:=by kernel_rfl }
open Go.RowKit in
theorem Tryz.strconv_toError_syntax (fn s:ByteArray)(base bits:Int)(ev:Value)(w:World)(Ir:s.size<=281474976710656)(hv:w.cell? ⟨4,0,none⟩=some ev)(aI:ev=.nilIface\/∃te pe,ev=.iface te pe):
  Calls Tryz.prog 193 #[.string fn,.string s,.int .i64 base,.int .i64 bits,.iface 329 (.int .i64 2)] w fun e w'=>∃N,e=.returned (.iface 331 (.pointer (some ⟨N,0,none⟩)))/\w.heap.size<=N/\w'.heap[N]? =some (.cells #[.string fn,.string s,ev] 365 (0,0))/\aw w w':=Any.strconv_toError_syntax Tryz.ahe fn s base bits ev w Ir hv aI
def Tryz.auj:Go.Shelf.Ren:=⟨fun|321=>237|n=>n,fun|5=>5|n=>n,fun|n=>n⟩
theorem Tryz.auk:Go.Proofs.Lays.n321 Tryz.prog Tryz.auj:={
 mixed:=ah
 f321:=Tryz.func237.trans (aF some ah)
 t5:=Tryz.underlying5
 a5:=Tryz.isAgg5
 z5:=Tryz.sizeOf5
 v5:=Tryz.zeroValue5 }
open Go.RowKit in
theorem Tryz.internal_strconv_lower (c:Int)(w:World):
  Calls Tryz.prog 237 #[.int .u8 c] w fun e w'=>e=.returned (.int .u8 (bits .or .u8 c 32))/\w'=w:=Any.internal_strconv_lower Tryz.auk c w
open Go.RowKit in
theorem Tryz.strconv_toError_range (fn s:ByteArray)(base bits:Int)(ev:Value)(w:World)(Ir:s.size<=281474976710656)(hv:w.cell? ⟨5,0,none⟩=some ev)(aI:ev=.nilIface\/∃te pe,ev=.iface te pe):
  Calls Tryz.prog 193 #[.string fn,.string s,.int .i64 base,.int .i64 bits,.iface 329 (.int .i64 1)] w fun e w'=>∃N,e=.returned (.iface 331 (.pointer (some ⟨N,0,none⟩)))/\w.heap.size<=N/\w'.heap[N]? =some (.cells #[.string fn,.string s,ev] 365 (0,0))/\aw w w':=Any.strconv_toError_range Tryz.ahe fn s base bits ev w Ir hv aI
def Tryz.aul:Go.Shelf.Ren:=⟨fun|172=>181|244=>231|245=>193|247=>270|279=>239|280=>240|281=>241|282=>242|287=>192|316=>271|171=>29|205=>272|321=>237|322=>238|243=>73|246=>131|283=>177|284=>178|285=>179|286=>180|129=>227|317=>226|318=>228|319=>229|320=>230|337=>268|338=>269|n=>n,fun|9=>9|3=>3|75=>90|76=>91|4=>4|5=>5|167=>329|37=>86|0=>0|85=>357|2=>2|168=>331|53=>222|175=>235|46=>288|210=>365|127=>157|145=>383|143=>381|21=>21|171=>280|173=>283|212=>323|51=>324|20=>20|213=>325|232=>379|233=>380|80=>96|n=>n,fun|15=>4|16=>5|17=>1|18=>6|19=>7|n=>n⟩
theorem Tryz.Za:Go.Proofs.LaysC.n172 Tryz.prog Tryz.aul:={
 mixed:=ah
 f129:=Tryz.func227.trans (aF some ah)
 f171:=Tryz.func29.trans (aF some ah)
 f172:=Tryz.func181.trans (aF some ah)
 f205:=Tryz.func272.trans (aF some ah)
 f243:=Tryz.func73.trans (aF some ah)
 f244:=Tryz.func231.trans (aF some ah)
 f245:=Tryz.func193.trans (aF some ah)
 f246:=Tryz.func131.trans (aF some ah)
 f247:=Tryz.func270.trans (aF some ah)
 f279:=Tryz.func239.trans (aF some ah)
 f280:=Tryz.func240.trans (aF some ah)
 f281:=Tryz.func241.trans (aF some ah)
 f282:=Tryz.func242.trans (aF some ah)
 f283:=Tryz.func177.trans (aF some ah)
 f284:=Tryz.func178.trans (aF some ah)
 f285:=Tryz.func179.trans (aF some ah)
 f286:=Tryz.func180.trans (aF some ah)
 f287:=Tryz.func192.trans (aF some ah)
 f316:=Tryz.func271.trans (aF some ah)
 f317:=Tryz.func226.trans (aF some ah)
 f318:=Tryz.func228.trans (aF some ah)
 f319:=Tryz.func229.trans (aF some ah)
 f320:=Tryz.func230.trans (aF some ah)
 f321:=Tryz.func237.trans (aF some ah)
 f322:=Tryz.func238.trans (aF some ah)
 f337:=Tryz.func268.trans (aF some ah)
 f338:=Tryz.func269.trans (aF some ah)
 t0:=Tryz.underlying0
 a0:=Tryz.isAgg0
 z0:=Tryz.sizeOf0
 v0:=Tryz.zeroValue0
 t2:=Tryz.underlying2
 a2:=Tryz.isAgg2
 z2:=Tryz.sizeOf2
 v2:=Tryz.zeroValue2
 t3:=Tryz.underlying3
 a3:=Tryz.isAgg3
 z3:=Tryz.sizeOf3
 v3:=Tryz.zeroValue3
 t4:=Tryz.underlying4
 a4:=Tryz.isAgg4
 z4:=Tryz.sizeOf4
 v4:=Tryz.zeroValue4
 t5:=Tryz.underlying5
 a5:=Tryz.isAgg5
 z5:=Tryz.sizeOf5
 v5:=Tryz.zeroValue5
 t9:=Tryz.underlying9
 a9:=Tryz.isAgg9
 z9:=Tryz.sizeOf9
 v9:=Tryz.zeroValue9
 t20:=Tryz.underlying20
 a20:=Tryz.isAgg20
 z20:=Tryz.sizeOf20
 v20:=Tryz.zeroValue20
 t21:=Tryz.underlying21
 a21:=Tryz.isAgg21
 z21:=Tryz.sizeOf21
 v21:=Tryz.zeroValue21
 t37:=Tryz.underlying86
 a37:=Tryz.isAgg86
 z37:=Tryz.sizeOf86
 v37:=Tryz.zeroValue86
 t46:=Tryz.underlying288
 a46:=Tryz.isAgg288
 z46:=Tryz.sizeOf288
 v46:=Tryz.zeroValue288
 t51:=Tryz.underlying324
 a51:=Tryz.isAgg324
 z51:=Tryz.sizeOf324
 v51:=Tryz.zeroValue324
 t53:=Tryz.underlying222
 a53:=Tryz.isAgg222
 z53:=Tryz.sizeOf222
 v53:=Tryz.zeroValue222
 t75:=Tryz.underlying90
 a75:=Tryz.isAgg90
 z75:=Tryz.sizeOf90
 v75:=Tryz.zeroValue90
 t76:=Tryz.underlying91
 a76:=Tryz.isAgg91
 z76:=Tryz.sizeOf91
 v76:=Tryz.zeroValue91
 t85:=Tryz.underlying357
 a85:=Tryz.isAgg357
 z85:=Tryz.sizeOf357
 v85:=Tryz.zeroValue357
 t127:=Tryz.underlying157
 a127:=Tryz.isAgg157
 z127:=Tryz.sizeOf157
 v127:=Tryz.zeroValue157
 t143:=Tryz.underlying381
 a143:=Tryz.isAgg381
 z143:=Tryz.sizeOf381
 v143:=Tryz.zeroValue381
 t145:=Tryz.underlying383
 a145:=Tryz.isAgg383
 z145:=Tryz.sizeOf383
 v145:=Tryz.zeroValue383
 t167:=Tryz.underlying329
 a167:=Tryz.isAgg329
 z167:=Tryz.sizeOf329
 v167:=Tryz.zeroValue329
 t168:=Tryz.underlying331
 a168:=Tryz.isAgg331
 z168:=Tryz.sizeOf331
 v168:=Tryz.zeroValue331
 t171:=Tryz.underlying280
 a171:=Tryz.isAgg280
 z171:=Tryz.sizeOf280
 v171:=Tryz.zeroValue280
 t173:=Tryz.underlying283
 a173:=Tryz.isAgg283
 z173:=Tryz.sizeOf283
 v173:=Tryz.zeroValue283
 t175:=Tryz.underlying235
 a175:=Tryz.isAgg235
 z175:=Tryz.sizeOf235
 v175:=Tryz.zeroValue235
 t210:=Tryz.underlying365
 a210:=Tryz.isAgg365
 z210:=Tryz.sizeOf365
 v210:=Tryz.zeroValue365
 t212:=Tryz.underlying323
 a212:=Tryz.isAgg323
 z212:=Tryz.sizeOf323
 v212:=Tryz.zeroValue323
 t213:=Tryz.underlying325
 a213:=Tryz.isAgg325
 z213:=Tryz.sizeOf325
 t232:=Tryz.underlying379
 a232:=Tryz.isAgg379
 z232:=Tryz.sizeOf379
 v232:=Tryz.zeroValue379
 t233:=Tryz.underlying380
 a233:=Tryz.isAgg380
 z233:=Tryz.sizeOf380
 v233:=Tryz.zeroValue380
 g15:=ah
 g16:=ah
 g17:=ah
 g18:=ah
 g19:=ah
 t80:=Tryz.underlying96
 a80:=Tryz.isAgg96
 z80:=Tryz.sizeOf96
 v80:=Tryz.zeroValue96
 i0:=ah
 i2:=ah
 i3:=ah
 i4:=ah
 i5:=ah
 i9:=ah
 i20:=ah
 i21:=ah
 i37:=ah
 i46:=ah
 i51:=ah
 i53:=ah
 i75:=ah
 i76:=ah
 i80:=ah
 i85:=ah
 i127:=ah
 i143:=ah
 i145:=ah
 i167:=ah
 i168:=ah
 i171:=ah
 i173:=ah
 i175:=ah
 i210:=ah
 i212:=ah
 i232:=ah
 i233:=ah
 m15:=ah
 m16:=ah
 m17:=ah
 m18:=ah
 m19:=ah
 c0:=ah
 c2:=ah
 c3:=ah
 c4:=ah
 c5:=ah
 c9:=ah
 c20:=ah
 c21:=ah
 c37:=ah
 c46:=ah
 c51:=ah
 c53:=ah
 c75:=ah
 c76:=ah
 c80:=ah
 c85:=ah
 c127:=ah
 c143:=ah
 c145:=ah
 c167:=ah
 c168:=ah
 c171:=ah
 c173:=ah
 c175:=ah
 c210:=ah
 c212:=ah
 c213:=ah
 c232:=ah
 c233:=by kernel_rfl }
open Go.RowKit in
theorem Tryz.strconv_Atoi_ok (s:ByteArray)(aum:s.size<=9223372036854775806)(v:Int)(h:Lib.atoiAll s.data.toList=.ok v)(w:World):
  Calls Tryz.prog 181 #[.string s] w fun e w'=>e=.returned (.tuple #[.int .i64 v,.nilIface])/\(w'=w\/∃t,w'=Lib.bytesWorld w 5 t):=Any.strconv_Atoi_ok Tryz.Za s aum v h w
open Go.RowKit in
theorem Tryz.strconv_Atoi_syntax (s:ByteArray)(Ir:s.size<=281474976710656)(h:Lib.atoiAll s.data.toList=.syntax)(ev:Value)(w:World)(hv:w.cell? ⟨4,0,none⟩=some ev)(aI:ev=.nilIface\/∃te pe,ev=.iface te pe):
  Calls Tryz.prog 181 #[.string s] w fun e w'=>∃N,e=.returned (.tuple #[.int .i64 (0),.iface 331 (.pointer (some ⟨N,0,none⟩))])/\w.heap.size<=N/\w'.heap[N]? =some (.cells #[.string ⟨#[65,116,111,105]⟩,.string s,ev] 365 (0,0))/\aw w w':=Any.strconv_Atoi_syntax Tryz.Za s Ir h ev w hv aI
open Go.RowKit in
theorem Tryz.strconv_Atoi_range (s:ByteArray)(Ir:s.size<=281474976710656)(h:Lib.atoiAll s.data.toList=.range)(ev:Value)(w:World)(hv:w.cell? ⟨5,0,none⟩=some ev)(aI:ev=.nilIface\/∃te pe,ev=.iface te pe):
  Calls Tryz.prog 181 #[.string s] w fun e w'=>∃N,e=.returned (.tuple #[.int .i64 (Lib.atoiSat s.data.toList),.iface 331 (.pointer (some ⟨N,0,none⟩))])/\w.heap.size<=N/\w'.heap[N]? =some (.cells #[.string ⟨#[65,116,111,105]⟩,.string s,ev] 365 (0,0))/\aw w w':=Any.strconv_Atoi_range Tryz.Za s Ir h ev w hv aI
def Tryz.aun:Go.Shelf.Ren:=⟨fun|143=>100|219=>144|217=>186|225=>187|224=>188|267=>189|266=>233|314=>234|n=>n,fun|9=>9|3=>3|4=>4|5=>5|46=>288|146=>327|51=>324|n=>n,fun|1=>0|n=>n⟩
theorem Tryz.auo:Go.Proofs.Lays.n143 Tryz.prog Tryz.aun:={
 mixed:=ah
 f143:=Tryz.func100.trans (aF some ah)
 f217:=Tryz.func186.trans (aF some ah)
 f219:=Tryz.func144.trans (aF some ah)
 f224:=Tryz.func188.trans (aF some ah)
 f225:=Tryz.func187.trans (aF some ah)
 f266:=Tryz.func233.trans (aF some ah)
 f267:=Tryz.func189.trans (aF some ah)
 f314:=Tryz.func234.trans (aF some ah)
 t3:=Tryz.underlying3
 a3:=Tryz.isAgg3
 z3:=Tryz.sizeOf3
 v3:=Tryz.zeroValue3
 t4:=Tryz.underlying4
 a4:=Tryz.isAgg4
 z4:=Tryz.sizeOf4
 v4:=Tryz.zeroValue4
 t5:=Tryz.underlying5
 a5:=Tryz.isAgg5
 z5:=Tryz.sizeOf5
 v5:=Tryz.zeroValue5
 t9:=Tryz.underlying9
 a9:=Tryz.isAgg9
 z9:=Tryz.sizeOf9
 v9:=Tryz.zeroValue9
 t46:=Tryz.underlying288
 a46:=Tryz.isAgg288
 z46:=Tryz.sizeOf288
 v46:=Tryz.zeroValue288
 t51:=Tryz.underlying324
 a51:=Tryz.isAgg324
 z51:=Tryz.sizeOf324
 v51:=Tryz.zeroValue324
 t146:=Tryz.underlying327
 a146:=Tryz.isAgg327
 z146:=Tryz.sizeOf327
 v146:=Tryz.zeroValue327
 g1:=by kernel_rfl }
open Go.RowKit Go.Lib in
theorem Tryz.strings_Index (s sub:ByteArray)(m:Int)(w:World)(hs:s.size<4294967281)(hm:w.cell? ⟨0,0,none⟩=some (.int .i64 m)):
  Calls Tryz.prog 100 #[.string s,.string sub] w fun e w'=>e=.returned (.int .i64 (Lib.index s.data.toList sub.data.toList))/\w'=w:=Any.strings_Index Tryz.auo s sub m w hs hm
def Tryz.aup:Go.Shelf.Ren:=⟨fun|138=>49|195=>98|218=>99|143=>100|219=>144|217=>186|225=>187|224=>188|267=>189|266=>233|314=>234|n=>n,fun|9=>9|3=>3|4=>4|5=>5|0=>0|46=>288|146=>327|51=>324|n=>n,fun|1=>0|n=>n⟩
theorem Tryz.auq:Go.Proofs.Lays.n138 Tryz.prog Tryz.aup:={
 mixed:=ah
 f138:=Tryz.func49.trans (aF some ah)
 f143:=Tryz.func100.trans (aF some ah)
 f195:=Tryz.func98.trans (aF some ah)
 f217:=Tryz.func186.trans (aF some ah)
 f218:=Tryz.func99.trans (aF some ah)
 f219:=Tryz.func144.trans (aF some ah)
 f224:=Tryz.func188.trans (aF some ah)
 f225:=Tryz.func187.trans (aF some ah)
 f266:=Tryz.func233.trans (aF some ah)
 f267:=Tryz.func189.trans (aF some ah)
 f314:=Tryz.func234.trans (aF some ah)
 t0:=Tryz.underlying0
 a0:=Tryz.isAgg0
 z0:=Tryz.sizeOf0
 v0:=Tryz.zeroValue0
 t3:=Tryz.underlying3
 a3:=Tryz.isAgg3
 z3:=Tryz.sizeOf3
 v3:=Tryz.zeroValue3
 t4:=Tryz.underlying4
 a4:=Tryz.isAgg4
 z4:=Tryz.sizeOf4
 v4:=Tryz.zeroValue4
 t5:=Tryz.underlying5
 a5:=Tryz.isAgg5
 z5:=Tryz.sizeOf5
 v5:=Tryz.zeroValue5
 t9:=Tryz.underlying9
 a9:=Tryz.isAgg9
 z9:=Tryz.sizeOf9
 v9:=Tryz.zeroValue9
 t46:=Tryz.underlying288
 a46:=Tryz.isAgg288
 z46:=Tryz.sizeOf288
 v46:=Tryz.zeroValue288
 t51:=Tryz.underlying324
 a51:=Tryz.isAgg324
 z51:=Tryz.sizeOf324
 v51:=Tryz.zeroValue324
 t146:=Tryz.underlying327
 a146:=Tryz.isAgg327
 z146:=Tryz.sizeOf327
 v146:=Tryz.zeroValue327
 g1:=by kernel_rfl }
open Go.RowKit Go.Lib in
theorem Tryz.strings_Count_one (s:ByteArray)(c:UInt8)(w:World):
  Calls Tryz.prog 49 #[.string s,.string ⟨#[c]⟩] w fun e w'=>e=.returned (.int .i64 (Lib.countByte s.data.toList c))/\w'=w:=Any.strings_Count_one Tryz.auq s c w
def Tryz.aur:Go.Shelf.Ren:=⟨fun|146=>51|221=>102|268=>146|138=>49|143=>100|195=>98|197=>190|218=>99|219=>144|260=>235|217=>186|225=>187|224=>188|267=>189|266=>233|314=>234|n=>n,fun|9=>9|31=>108|3=>3|4=>4|0=>0|105=>289|21=>21|5=>5|46=>288|119=>359|139=>362|138=>361|146=>327|51=>324|n=>n,fun|1=>0|3=>2|4=>3|n=>n⟩
theorem Tryz.aus:Go.Proofs.Lays.n146 Tryz.prog Tryz.aur:={
 mixed:=ah
 f138:=Tryz.func49.trans (aF some ah)
 f143:=Tryz.func100.trans (aF some ah)
 f146:=Tryz.func51.trans (aF some ah)
 f195:=Tryz.func98.trans (aF some ah)
 f197:=Tryz.func190.trans (aF some ah)
 f217:=Tryz.func186.trans (aF some ah)
 f218:=Tryz.func99.trans (aF some ah)
 f219:=Tryz.func144.trans (aF some ah)
 f221:=Tryz.func102.trans (aF some ah)
 f224:=Tryz.func188.trans (aF some ah)
 f225:=Tryz.func187.trans (aF some ah)
 f260:=Tryz.func235.trans (aF some ah)
 f266:=Tryz.func233.trans (aF some ah)
 f267:=Tryz.func189.trans (aF some ah)
 f268:=Tryz.func146.trans (aF some ah)
 f314:=Tryz.func234.trans (aF some ah)
 t0:=Tryz.underlying0
 a0:=Tryz.isAgg0
 z0:=Tryz.sizeOf0
 v0:=Tryz.zeroValue0
 t3:=Tryz.underlying3
 a3:=Tryz.isAgg3
 z3:=Tryz.sizeOf3
 v3:=Tryz.zeroValue3
 t4:=Tryz.underlying4
 a4:=Tryz.isAgg4
 z4:=Tryz.sizeOf4
 v4:=Tryz.zeroValue4
 t5:=Tryz.underlying5
 a5:=Tryz.isAgg5
 z5:=Tryz.sizeOf5
 v5:=Tryz.zeroValue5
 t9:=Tryz.underlying9
 a9:=Tryz.isAgg9
 z9:=Tryz.sizeOf9
 v9:=Tryz.zeroValue9
 t21:=Tryz.underlying21
 a21:=Tryz.isAgg21
 z21:=Tryz.sizeOf21
 v21:=Tryz.zeroValue21
 t31:=Tryz.underlying108
 a31:=Tryz.isAgg108
 z31:=Tryz.sizeOf108
 v31:=Tryz.zeroValue108
 t46:=Tryz.underlying288
 a46:=Tryz.isAgg288
 z46:=Tryz.sizeOf288
 v46:=Tryz.zeroValue288
 t51:=Tryz.underlying324
 a51:=Tryz.isAgg324
 z51:=Tryz.sizeOf324
 v51:=Tryz.zeroValue324
 t105:=Tryz.underlying289
 a105:=Tryz.isAgg289
 z105:=Tryz.sizeOf289
 v105:=Tryz.zeroValue289
 t119:=Tryz.underlying359
 a119:=Tryz.isAgg359
 z119:=Tryz.sizeOf359
 t138:=Tryz.underlying361
 a138:=Tryz.isAgg361
 z138:=Tryz.sizeOf361
 v138:=Tryz.zeroValue361
 t139:=Tryz.underlying362
 a139:=Tryz.isAgg362
 z139:=Tryz.sizeOf362
 v139:=Tryz.zeroValue362
 t146:=Tryz.underlying327
 a146:=Tryz.isAgg327
 z146:=Tryz.sizeOf327
 v146:=Tryz.zeroValue327
 g1:=ah
 g3:=ah
 g4:=by kernel_rfl }
open Go.RowKit Go.Lib in
theorem Tryz.strings_Split (s sep:ByteArray)(m:Int)(w:World)(hs:s.size<4294967281)(hm:w.cell? ⟨0,0,none⟩=some (.int .i64 m))(h1:1<=sep.size):
  Calls Tryz.prog 51 #[.string s,.string sep] w fun e w'=>
   e=.returned (.slice (some ⟨w.heap.size,0,none⟩) (Lib.countB s sep+1) (Lib.countB s sep+1))/\w'=w.alloc (.cells ((Lib.splitB sep 0 (Lib.countB s sep) s).map Value.string).toArray 9):=Any.strings_Split Tryz.aus ah s sep m w hs hm h1
end
section
open Go.RowKit
theorem AU {w w':World}(h:aw w w')(row:Option Nat):w.grownBy w' row:=⟨h.os,h.tape,h.output,h.size,fun k hk _=>h.block k hk⟩
theorem aut (w:World)(k:Nat)(os:Array Obj):aw w (Go.Sort.grow (w.drewN k) os):=by
 refine⟨rfl,rfl,rfl,by simp[Go.Sort.grow],fun j hj=> ?_⟩
 show((w.drewN k).heap++os)[j]? =w.heap[j]?
 rw[Wv (by simpa using hj)];simp
theorem ahf (s p:aq)(w:World):Calls Tryz.prog 147 #[sv s,sv p] w fun e w'=>e=.returned (.tuple #[sv (Lib.trimPrefix s p),.bool (Lib.hasPrefix s p)])/\w'=w:=Tryz.strings_CutPrefix ⟨s.toArray⟩ ⟨p.toArray⟩ w
theorem ahg (s p:aq)(w:World)(hs:s.length<=4000000000):Calls Tryz.prog 50 #[sv s,sv p] w fun e w'=>e=.returned (.tuple #[sv (Lib.trimSuffix s p),.bool (Lib.hasSuffix s p)])/\w'=w:=
 Tryz.strings_CutSuffix ⟨s.toArray⟩ ⟨p.toArray⟩ w (by show s.toArray.size<=_;simp;omega)
theorem ahh (s p:aq)(w:World)(hg:Gl w)(hs:s.length<=4000000000):Calls Tryz.prog 100 #[sv s,sv p] w fun e w'=>e=.returned (I (Lib.index s p))/\w'=w:=by
 obtain⟨m,hm⟩:=hg.mx;exact Tryz.strings_Index ⟨s.toArray⟩ ⟨p.toArray⟩ m w (by show s.toArray.size<_;simp;omega) hm
theorem Zb (s:aq)(c:UInt8)(w:World):Calls Tryz.prog 49 #[sv s,sv [c]] w fun e w'=>e=.returned (I (s.count c))/\w'=w:=Tryz.strings_Count_one ⟨s.toArray⟩ c w
theorem yR (n:Int)(h0:cJ n)(w:World)(hg:Gl w):Calls Tryz.prog 29 #[I n] w fun e w'=>e=.returned (sv (Lib.itoa n))/\aw w w':=by
 refine(Tryz.strconv_Itoa n h0.1 h0.2 w hg.lP).mono ?_;rintro e w' ⟨rfl,k,os,rfl⟩;exact⟨rfl,aut w k os⟩
theorem Zc (x c:UInt8)(r:aq)(h:x≠c):Lib.index (x::r) [c]=if Lib.index r [c]== -1 then -1 else Lib.index r [c]+1:=by
 have:([c]:aq).isPrefixOf (x::r)=false:=by simp[List.isPrefixOf];exact fun e=>h e.symm
 rw[Lib.index,this];rfl
theorem ahi (c:UInt8)(r:aq):Lib.index (c::r) [c]=0:=by
 have:([c]:aq).isPrefixOf (c::r)=true:=by simp[List.isPrefixOf]
 rw[Lib.index,this];rfl
theorem Zd (c:UInt8)(s:aq):cg c s≠[]:=by
 cases s with
 |nil=>simp[cg]
 |cons x r=>
  simp only[cg];split
  ·simp
  ·split<;>simp
theorem ahj (c:UInt8):∀(s:aq),Lib.splitK [c] 0 (Lib.count s [c]) s=cg c s
 |[]=>by
  rw[Lib.count_one];rfl
 |x::r=>by
  have ih:=ahj c r;by_cases h:x=c
  ·subst h;rw[Lib.count_cons_eq,DO,Lib.splitK,ahi];simp only[cg,nE];rw[show(if(0:Int)== -1 then [x::r] else(x::r).take ((0:Int).toNat+0)::Lib.splitK [x] 0 (Lib.count r [x]) ((x::r).drop ((0:Int).toNat+[x].length)))=[]::Lib.splitK [x] 0 (Lib.count r [x]) r from rfl,ih]
  ·rw[Lib.count_cons_ne x c r h];simp only[cg,af h];rw[<-ih]
   cases hn:Lib.count r [c] with
   |zero=>rfl
   |succ k=>
    rw[Lib.splitK,Lib.splitK,Zc x c r h]
    rcases Lib.index_spec r [c] with⟨h1,_⟩|⟨i,h1,_,_,_⟩
    ·rw[h1];rfl
    ·rw[h1];have e1:((i:Int)== -1)=false:=mO.2 ab;have e2:((i:Int)+1== -1)=false:=mO.2 ab;simp only[e1,e2,zL,py];have e3:((i:Int)+1).toNat=i+1:=ab;have e4:(i:Int).toNat=i:=ab;rw[e3,e4];simp
theorem Ls (c:UInt8)(s:aq):(cg c s).length=s.count c+1:=by
 induction s with
 |nil=>rfl
 |cons x r ih=>
  simp only[cg];by_cases h:x=c
  ·subst h;rw[aj rfl,List.length_cons,ih,List.count_cons_self]
  ·rw[af h,List.count_cons_of_ne (fun e=>h e)];rw[<-ih]
   cases hs:cg c r with
   |nil=>exact absurd hs (Zd c r)
   |cons a b=>rfl
def gX (w:World)(g:Nat)(l:List aq):Prop:=w.heap[g]? =some (.cells (l.map sv).toArray 9 (0,0))
theorem gX.cell {w:World}{g:Nat}{l:List aq}(h:gX w g l){i:Nat}{s:aq}(hi:l[i]? =some s):w.cell? ⟨g,i,none⟩=some (sv s):=by
 have h1:(l.map sv).toArray[i]? =some (sv s):=by simp[hi]
 exact(zR w g i _ _ _ h).trans h1
theorem auu (s:aq)(c:UInt8)(w:World)(hg:Gl w)(hs:s.length<=4000000000):Calls Tryz.prog 51 #[sv s,sv [c]] w fun e w'=>
  e=.returned (.slice (some ⟨w.heap.size,0,none⟩) (cg c s).length (cg c s).length)/\w'=w.alloc (.cells ((cg c s).map sv).toArray 9):=by
 obtain⟨m,hm⟩:=hg.mx;refine(Tryz.strings_Split ⟨s.toArray⟩ ⟨([c]:aq).toArray⟩ m w (by show s.toArray.size<_;simp;omega) hm (cP 1)).mono ?_;have hd:=Lib.splitB_data ⟨([c]:aq).toArray⟩ 0 (Lib.countB ⟨s.toArray⟩ ⟨([c]:aq).toArray⟩) ⟨s.toArray⟩;have hk:Lib.countB ⟨s.toArray⟩ ⟨([c]:aq).toArray⟩=Lib.count s [c]:=rfl;rw[hk] at hd⊢;have EM:(Lib.splitB ⟨([c]:aq).toArray⟩ 0 (Lib.count s [c]) ⟨s.toArray⟩).map (·.data.toList)=cg c s:=hd.trans (ahj c s)
 have AD:(Lib.splitB ⟨([c]:aq).toArray⟩ 0 (Lib.count s [c]) ⟨s.toArray⟩).map Value.string=(cg c s).map sv:=by
  rw[<-EM,List.map_map];rfl
 have hl:Lib.count s [c]+1=(cg c s).length:=by rw[Ls,Lib.count_one]
 rintro e w' ⟨rfl,rfl⟩;rw[AD,hl];exact⟨rfl,rfl⟩
theorem Ze (s:aq)(c:UInt8)(w:World)(hg:Gl w)(hs:s.length<=4000000000):Calls Tryz.prog 51 #[sv s,sv [c]] w fun e w'=>
  e=.returned (.slice (some ⟨w.heap.size,0,none⟩) (cg c s).length (cg c s).length)/\gX w' w.heap.size (cg c s)/\aw w w'/\w'.heap.size=w.heap.size+1:=by
 refine(auu s c w hg hs).mono ?_;rintro e w' ⟨rfl,rfl⟩;exact⟨rfl,dY _ _,(Below.refl _ _).alloc ax _,World.size_alloc _ _⟩
end
section
open Go.ChangeShapes Go.WideShapes Go.ChangeAt Go.RowKit
theorem own:ownKnob Tryz.prog.godebug=none:=ah
theorem star: "*" ++ "errors.errorString" = "*errors.errorString" :=au
theorem ahk (u:TypeId)(h:Tryz.prog.typeName? 3 u=some "*errors.errorString"):u=381:=
 typeName_ptr_named (nm:= "errors.errorString") (by rw[star];kernel_rfl) ah au u (by rw[star];exact h)
theorem auv:Tryz.prog.globalNamed "internal/strconv.uint64pow10" =some 1:=ah
theorem ahl:Tryz.prog.globalNamed "strconv.ErrRange" =some 5:=ah
theorem ahm:Tryz.prog.globalNamed "strconv.ErrSyntax" =some 4:=ah
theorem auw:(Tryz.prog.globals[5]?).map (·.type)=some 90:=ah
theorem auy:(Tryz.prog.globals[4]?).map (·.type)=some 90:=ah
abbrev tY:List (String×DataW Unit):=Rows.storyPrintsRow.laid
theorem auz {W:World}(h:laidMetH Tryz.prog tY W)(Iu:W.ShapedOpen Tryz.prog):Gl W:=by
 rw[MakeChecks.laidMetH_plain _ _ _ ah] at h;have h3:laidMet Tryz.prog (("internal/strconv.uint64pow10",Lib.tabData .u64 Lib.pow10Tab)::[("unicode/utf8.acceptRanges",Rows.laid_unicode_utf8_acceptRanges),("strconv.ErrRange",Rows.laid_strconv_ErrRange),("strconv.ErrSyntax",Rows.laid_strconv_ErrSyntax),("unicode/utf8.first",Rows.laid_unicode_utf8_first)]) W:=h.tail.tail;obtain⟨a1,s1,ji,_⟩:=laid_sentinel h3.tail.tail ahl auw Tryz.underlying90 ahk Tryz.underlying381 Tryz.underlying383 rfl rfl Tryz.underlying9 ah ah;obtain⟨a2,s2,pQ,_⟩:=laid_sentinel h3.tail.tail.tail ahm auy Tryz.underlying90 ahk Tryz.underlying381 Tryz.underlying383 rfl rfl Tryz.underlying9 ah ah;obtain⟨m,hm⟩:=cell_of_shapedOpen_int (P:=Tryz.prog) (g:=0) (t:=3) (zero:=#[.int .i64 0]) Iu (nC ah) ah rfl ah ah Tryz.underlying3;refine⟨⟨m,hm⟩,?_,⟨_,_,by simpa using World.var?_cell ahm pQ 0⟩,⟨_,_,by simpa using World.var?_cell ahl ji 0⟩,?_⟩
 ·exact Lib.tabIs_of_head auv ah Tryz.underlying323 Tryz.underlying222 ah ah h3
 ·obtain⟨cs,hh,_⟩:=Iu.1 7 (Array.replicate 64 (.int .u8 0)) 380 (nC ah) ah;exact(nA.1 hh).1
theorem Zf (os:Os)(args:Array Value):laidMetH Tryz.prog tY ((World.laidAll Tryz.prog os tY).forCall (fun _ _=>0) ⟨#[],args,[]⟩).memory:=by
 rw[MakeChecks.laidMetH_plain _ _ _ ah];exact laidMet_laidAll _ ah ah
theorem Zg {H:Type}{enc:TypeId×Value->H}{os:Os}{f:FuncId}{fn:Func}{s:ChangeSpec}(started:os.Started)(auA:Tryz.prog.inits.idxOf? f=none)(CA:Tryz.prog.funcs[f]? =some fn)
  (witness:∃(w:World) (tape:Tape) (i:Input),w.os=os/\(w.forCall tape i).Shaped Tryz.checked.prog/\i.vars=[]/\Input.okWide Tryz.checked.prog (w.forCall tape i) .any w.heap.size f i/\
   ((s.pre enc Tryz.checked.prog fn [] false (w.forCall tape i).memory i.args/\laidMetH Tryz.prog tY (w.forCall tape i).memory)/\sizedMet enc Tryz.checked.prog fn (OpenSpec.ofChange s) false (w.forCall tape i).memory i.args)/\({}:Assume).holds Tryz.checked.prog (lone (Frame.enter Tryz.checked.prog f i.args .normal) [] (w.forCall tape i)))
  (contract:∀(W:World) (base:Nat) (args:Array Value) (ds gs:List (DataW H)) (before:List MemPlace),
   (∀(j:Nat) t v,fn.params[j]? =some t->args[j]? =some v->Value.okWide Tryz.prog W .any base t v)->
   DataW.Whole enc Tryz.prog fn.params.toList s.vars false W args.toList ds gs before->Gl W->
   Calls Tryz.prog f args W fun e W'=>∃v,e=.returned v/\s.post enc Tryz.prog fn false true false false W args v W'):
  ReturnsInHanded {} Tryz.checked os f .any (fun w args=>(s.pre enc Tryz.checked.prog fn [] false w args/\laidMetH Tryz.prog tY w)/\sizedMet enc Tryz.checked.prog fn (OpenSpec.ofChange s) false w args) (s.post enc Tryz.checked.prog fn false true false false):=by
 refine returnsInHanded_of_calls own started auA witness ?_;intro w tape i _ Iu _ cB EN _;obtain⟨_,_,_,fn',auB,_,_,_,_,hval⟩:=cB;have e:fn'=fn:=eA (auB.symm.trans CA);subst e;obtain⟨⟨⟨ds,gs,before,hw,hc⟩,hx⟩,hz⟩:=EN;have hw':=DataW.Whole.of_heap (w':=w.forCall tape i) eH hw
 refine(contract (w.forCall tape i) w.heap.size i.args ds gs before hval hw' (auz (laidMetH.of_heap eH hx) Iu)).mono fun e W' ⟨v,he,hp⟩=> ?_
 subst he;exact ChangeSpec.post_blind hp
end
section
variable {done l:List Nat} {nx:Nat->List Nat}
def sO (nx:Nat->List Nat)(n:Nat):List Nat:=(List.range n).flatMap nx
structure rz (nx:Nat->List Nat)(n:Nat)(row:List Nat)(done:List Nat):Prop where
 nodup:row.Nodup
 lt:∀a∈row,a<n
 mem:∀b<n,b∈row↔done.count b=(sO nx n).count b
 order:∀(q:Nat) (b:Nat),row[q]? =some b->∀a<n,b∈nx a->a∈row.take q
theorem Zh{n:Nat}(hn:l.Nodup)(hl:∀a∈l,a<n):(l++(List.range n).filter (fun a=>decide (a∉l))).Perm (List.range n):=by
 refine(List.perm_ext_iff_of_nodup ?_ Np).2 fun a=> ?_
 ·rw[Nk];refine⟨hn,Np.filter _,?_⟩;intro x hx y hy;rintro rfl;have:=(nD.1 hy).2;simp at this;exact this hx
 ·simp only[fU,nD,gG,dv];constructor
  ·rintro(ha|ha)
   ·exact hl a ha
   ·exact ha.1
  ·intro ha;by_cases hr:a∈l
   ·exact .inl hr
   ·exact .inr ⟨ha,hr⟩
theorem ahn(nx:Nat->List Nat)(b:Nat){n:Nat}(hn:l.Nodup)(hl:∀a∈l,a<n):(l.flatMap nx).count b<=(sO nx n).count b:=by
 have:=(List.Perm.flatMap_right nx (Zh hn hl)).count_eq b;rw[pw,zO] at this;unfold sO;omega
theorem rz.step{n:Nat}{row:List Nat}(h:rz nx n row done)(k:Nat)(a:Nat)(hk:row[k]? =some a)(j:Nat)(b:Nat)(hj:(nx a)[j]? =some b)(hb:b<n)
  (hd:done=(row.take k).flatMap nx++(nx a).take j):b∉row/\done.count b<(sO nx n).count b/\
   ((sO nx n).count b=done.count b+1->rz nx n (row++[b]) (done++[b]))/\((sO nx n).count b≠done.count b+1->rz nx n row (done++[b])):=by
 have ei:=(bN.1 hk).1;have eb:=(bN.1 hj).1
 have de:row.take (k+1)=row.take k++[a]:=by rw[DL,hk];rfl
 have EN:(done++[b])<+:(row.take (k+1)).flatMap nx:=by
  rw[de,pw,hd,List.append_assoc];refine(List.prefix_append_right_inj _).2 ?_
  have:(nx a).take j++[b]=(nx a).take (j+1):=by rw[DL,hj];rfl
  rw[this];simp only[uK,List.flatMap_nil,sb];exact List.take_prefix _ _
 have cK:(row.take (k+1)).Nodup:=(List.take_sublist _ _).nodup h.nodup
 have jg:∀x∈row.take (k+1),x<n:=fun x hx=>h.lt x (tC hx)
 have hle:(done++[b]).count b<=(sO nx n).count b:=bm (EN.sublist.count_le b) (ahn nx b cK jg);have jV:(done++[b]).count b=done.count b+1:=ai;have hlt:done.count b<(sO nx n).count b:=ab
 have CB:b∉row:=fun hm=>by have:=(h.mem b hb).1 hm;omega
 have aho:∀x,x≠b->(done++[b]).count x=done.count x:=fun x hx=>by
  simp[zO,Ne.symm hx]
 refine⟨CB,hlt,fun he=> ?_,fun he=> ?_⟩
 ·refine⟨?_,?_,?_,?_⟩
  ·rw[Nk];refine⟨h.nodup,ai,?_⟩;intro x hx y hy;simp at hy;subst hy;rintro rfl;exact CB hx
  ·intro x hx
   rcases fU.1 hx with hx|hx
   ·exact h.lt x hx
   ·simp at hx;omega
  ·intro x hx;by_cases CC:x=b
   ·subst CC;simp[jV,he]
   ·rw[aho x CC,<-h.mem x hx];simp[CC]
  ·intro q x hq c hc yG;by_cases fO:q<row.length
   ·rw[mj fO] at hq;rw[uF ab];exact h.order q x hq c hc yG
   ·have sP:q=row.length:=by
     have:=(bN.1 hq).1;simp at this;omega
    subst sP;rw[jc ax] at hq;simp at hq;subst hq;rw[oL]
    refine Gj fun vf=> ?_
    have Th:c∉row.take (k+1):=fun hm=>vf (tC hm)
    have lu:=ahn nx b (n:=n) (l:=c::row.take (k+1)) (List.nodup_cons.2 ⟨Th,cK⟩) (by
     intro y hy
     rcases cA.1 hy with rfl|hy
     ·exact hc
     ·exact jg y hy)
    rw[uK,zO] at lu;have h1:0<(nx c).count b:=List.count_pos_iff.2 yG;have h2:=EN.sublist.count_le b;omega
 ·refine⟨h.nodup,h.lt,?_,h.order⟩;intro x hx;by_cases CC:x=b
  ·subst CC;rw[jV];constructor
   ·intro hm;exact absurd hm CB
   ·intro e;exact absurd e.symm he
  ·rw[aho x CC];exact h.mem x hx
theorem rz.full{n:Nat}{row:List Nat}(h:rz nx n row (row.flatMap nx))(hx:∀a<n,∀b∈nx a,a<b):∀i<n,i∈row:=by
 intro i
 induction i using Nat.strongRecOn with
 |_ i ih=>
  intro hi;rw[h.mem i hi];have hp:=Zh h.nodup h.lt;have hc:=(List.Perm.flatMap_right nx hp).count_eq i;rw[pw,zO] at hc
  have h0:(((List.range n).filter (fun a=>decide (a∉row))).flatMap nx).count i=0:=by
   rw[List.count_eq_zero];intro hm;obtain⟨a,ha,hia⟩:=BP.1 hm;obtain⟨h1,h2⟩:=nD.1 ha;simp only[gG,dv] at h1 h2;exact h2 (ih a (hx a h1 i hia) h1)
  unfold sO;omega
theorem rz.length{n:Nat}{row:List Nat}(h:rz nx n row (row.flatMap nx))(hx:∀a<n,∀b∈nx a,a<b):row.length=n:=by
 have hp:row.Perm (List.range n):=(List.perm_ext_iff_of_nodup h.nodup Np).2 fun a=>⟨fun ha=>gG.2 (h.lt a ha),fun ha=>h.full hx a (gG.1 ha)⟩
 simpa using hp.length_eq
theorem rz.length_le{n:Nat}{row:List Nat}(h:rz nx n row done):row.length<=n:=by
 have:=(Zh h.nodup h.lt).length_eq;rw[List.length_append,BN] at this;omega
theorem rz.start(nx:Nat->List Nat)(n:Nat):rz nx n ((List.range n).filter fun i=>decide ((sO nx n).count i=0)) []:=by
 refine⟨Np.filter _,fun a ha=>gG.1 (nD.1 ha).1,fun b hb=> ?_,fun q b hq a ha hba=> ?_⟩
 ·simp only[nD,gG,dv,List.count_nil];constructor
  ·rintro⟨_,h⟩;exact h.symm
  ·intro h;exact⟨hb,h.symm⟩
 ·have hm:=eI hq;have:=(nD.1 hm).2;simp only[dv,List.count_eq_zero] at this;exact absurd (BP.2 ⟨a,gG.2 ha,hba⟩) this
end
end Go.Proofs.YtkanpepkdcmpmaaGreatDoor
