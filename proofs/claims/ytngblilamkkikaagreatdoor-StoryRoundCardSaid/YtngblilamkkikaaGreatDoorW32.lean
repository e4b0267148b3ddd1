import Derived.Shelf.Strings.Builder1
import Derived.Shelf.Strings.Builder2
import Derived.Shelf.Strings.OnBuilder
import Derived.Shelf.Small.Bits
import Derived.Shelf.Small.Wraps
import Derived.Shelf.Strings.BuilderF
import Derived.Shelf.Strings.BuilderK
import Derived.Shelf.Strconv.Atoi
import Derived.Shelf.Strconv.Itoa0
import Derived.Shelf.Strconv.Itoa1
import Derived.Shelf.LaysM
import Derived.Shelf.Strconv.Itoa2
import Derived.Shelf.Strconv.Itoa3
import Derived.Shelf.Strconv.AtoiErrFast
import Derived.Shelf.Strconv.ParseIntEmpty
import Derived.Shelf.Strconv.AtoiFail
import Derived.Shelf.Strconv.Clone
import Derived.Shelf.Strconv.SyntaxError
import Derived.Shelf.LaysC
import Derived.Shelf.Strconv.ToError
import Derived.Shelf.Strconv.Lower
import Derived.Shelf.Strconv.ParseUint10
import Derived.Shelf.Strconv.ParseUint10Empty
import Derived.Shelf.Strconv.ParseUint10Any
import Derived.Shelf.Strconv.ParseInt10
import Derived.Shelf.Strconv.AtoiLong
import Derived.Shelf.Strconv.AtoiInnerAll
import Derived.Shelf.Strconv.RangeError
import Derived.Shelf.Strconv.ToErrorRange
import Derived.Shelf.Strconv.AtoiAll
import Derived.Ground.MpProg
import Derived.Shelf.Pu.ParseUintPublic10
import Derived.Shelf.Strings.Search1
import Derived.Shelf.Strings.Search2
import Derived.Shelf.Strings.Search3
import Derived.Shelf.Strings.Count
import Derived.Shelf.Strings.Shaped
import Derived.Shelf.Strings.Prefix
import Derived.Shelf.Strings.Split
import Derived.Shelf.Strings.SplitShaped
import Derived.Shelf.Unicode.DecodeSlow
import Derived.Test.YtngblilamkkikaaGreatDoorW31
import Derived.Test.YtngblilamkkikaaGreatDoorW1
import Derived.Test.YtngblilamkkikaaGreatDoorRows
import Derived.ProofKit
import Derived.OpenShut
import Derived.ShutString
import Derived.ChangeOld
import Derived.Lay
import Derived.Stop.Joined
import Derived.Stop.LaidErr
import Derived.Shelf.Vars
import Derived.HandedShaped
import Derived.MakeChecks
set_option maxHeartbeats 40000000
set_option maxRecDepth 100000
set_option linter.all false
namespace Go.Proofs.YtngblilamkkikaaGreatDoor
section
open Go.Shelf
def Tryz.aht:Go.Shelf.Ren:=⟨fun|169=>27|n=>n,fun|70=>77|9=>9|0=>0|72=>80|37=>78|127=>156|3=>3|5=>5|n=>n,fun|n=>n⟩
theorem Tryz.avI:Go.Proofs.Lays.n169 Tryz.prog Tryz.aht:={
 mixed:=ah
 f169:=Tryz.func27.trans (aG some ah)
 t0:=Tryz.underlying0
 a0:=Tryz.isAgg0
 z0:=Tryz.sizeOf0
 v0:=Tryz.zeroValue0
 t3:=Tryz.underlying3
 a3:=Tryz.isAgg3
 z3:=Tryz.sizeOf3
 v3:=Tryz.zeroValue3
 t9:=Tryz.underlying9
 a9:=Tryz.isAgg9
 z9:=Tryz.sizeOf9
 v9:=Tryz.zeroValue9
 t37:=Tryz.underlying78
 a37:=Tryz.isAgg78
 z37:=Tryz.sizeOf78
 v37:=Tryz.zeroValue78
 t70:=Tryz.underlying77
 a70:=Tryz.isAgg77
 z70:=Tryz.sizeOf77
 v70:=Tryz.zeroValue77
 t72:=Tryz.underlying80
 a72:=Tryz.isAgg80
 z72:=Tryz.sizeOf80
 v72:=Tryz.zeroValue80
 t127:=Tryz.underlying156
 a127:=Tryz.isAgg156
 z127:=Tryz.sizeOf156
 v127:=Tryz.zeroValue156 }
theorem Tryz.avJ:Builder.Extra Tryz.prog Tryz.aht:={
 sizeBuilder:=ah
 liesBuilder:=ah
 t5:=Tryz.underlying5
 a5:=Tryz.isAgg5
 z5:=Tryz.sizeOf5
 v5:=Tryz.zeroValue5
 infoByte:=ah
 cellsByte:=ah
 sizeByte:=ah
 neB5:=by decide }
def Tryz.ahu:Go.Shelf.Ren:=⟨fun|156=>70|165=>113|166=>21|169=>27|240=>64|241=>158|276=>111|277=>218|n=>n,fun|31=>57|9=>9|3=>3|4=>4|0=>0|20=>20|72=>80|76=>87|70=>77|37=>78|75=>86|127=>156|164=>210|5=>5|80=>98|n=>n,fun|n=>n⟩
theorem Tryz.ahv:Go.Proofs.Lays.n156 Tryz.prog Tryz.ahu:={
 mixed:=ah
 f156:=Tryz.func70.trans (aG some ah)
 f165:=Tryz.func113.trans (aG some ah)
 f166:=Tryz.func21.trans (aG some ah)
 f169:=Tryz.func27.trans (aG some ah)
 f240:=Tryz.func64.trans (aG some ah)
 f241:=Tryz.func158.trans (aG some ah)
 f276:=Tryz.func111.trans (aG some ah)
 f277:=Tryz.func218.trans (aG some ah)
 t0:=Tryz.underlying0
 a0:=Tryz.isAgg0
 z0:=Tryz.sizeOf0
 v0:=Tryz.zeroValue0
 t3:=Tryz.underlying3
 a3:=Tryz.isAgg3
 z3:=Tryz.sizeOf3
 v3:=Tryz.zeroValue3
 t4:=Tryz.underlying4
 a4:=Tryz.isAgg4
 z4:=Tryz.sizeOf4
 v4:=Tryz.zeroValue4
 t9:=Tryz.underlying9
 a9:=Tryz.isAgg9
 z9:=Tryz.sizeOf9
 v9:=Tryz.zeroValue9
 t20:=Tryz.underlying20
 a20:=Tryz.isAgg20
 z20:=Tryz.sizeOf20
 v20:=Tryz.zeroValue20
 t31:=Tryz.underlying57
 a31:=Tryz.isAgg57
 z31:=Tryz.sizeOf57
 v31:=Tryz.zeroValue57
 t37:=Tryz.underlying78
 a37:=Tryz.isAgg78
 z37:=Tryz.sizeOf78
 v37:=Tryz.zeroValue78
 t70:=Tryz.underlying77
 a70:=Tryz.isAgg77
 z70:=Tryz.sizeOf77
 v70:=Tryz.zeroValue77
 t72:=Tryz.underlying80
 a72:=Tryz.isAgg80
 z72:=Tryz.sizeOf80
 v72:=Tryz.zeroValue80
 t75:=Tryz.underlying86
 a75:=Tryz.isAgg86
 z75:=Tryz.sizeOf86
 v75:=Tryz.zeroValue86
 t76:=Tryz.underlying87
 a76:=Tryz.isAgg87
 z76:=Tryz.sizeOf87
 v76:=Tryz.zeroValue87
 t127:=Tryz.underlying156
 a127:=Tryz.isAgg156
 z127:=Tryz.sizeOf156
 v127:=Tryz.zeroValue156
 t164:=Tryz.underlying210
 a164:=Tryz.isAgg210
 z164:=Tryz.sizeOf210
 v164:=Tryz.zeroValue210 }
theorem Tryz.ahw:Builder.Extra Tryz.prog Tryz.ahu:={
 sizeBuilder:=ah
 liesBuilder:=ah
 t5:=Tryz.underlying5
 a5:=Tryz.isAgg5
 z5:=Tryz.sizeOf5
 v5:=Tryz.zeroValue5
 infoByte:=ah
 cellsByte:=ah
 sizeByte:=ah
 neB5:=by decide }
open Go.RowKit in
theorem Tryz.strings_Join_none (a:Option Addr)(c:Nat)(sep:ByteArray)(w:World):
  Calls Tryz.prog 70 #[.slice a 0 c,.string sep] w fun e w'=>e=.returned (.string ⟨#[]⟩)/\w'=w:=Any.strings_Join_none Tryz.ahv Tryz.ahw a c sep w
open Go.RowKit in
theorem Tryz.strings_Join (bk o c:Nat)(xs:List ByteArray)(sep:ByteArray)(w:World)(YQ:∀(j:Nat) x,xs[j]? =some x->w.cell? ⟨bk,o+j,none⟩=some (.string x))(ug:bk<w.heap.size)(hN:xs.length<=140737488355328)(JZ:xs.length<=c)(hlen:(Lib.join (xs.map (·.data.toList)) sep.data.toList).length<=140737488355328):
  Calls Tryz.prog 70 #[.slice (some ⟨bk,o,none⟩) xs.length c,.string sep] w fun e w'=>e=.returned (.string ⟨(Lib.join (xs.map (·.data.toList)) sep.data.toList).toArray⟩)/\ay w w':=Any.strings_Join Tryz.ahv Tryz.ahw bk o c xs sep w YQ ug hN JZ hlen
def Tryz.avK:Go.Shelf.Ren:=⟨fun|103=>97|210=>145|206=>193|n=>n,fun|9=>9|4=>4|24=>55|3=>3|n=>n,fun|n=>n⟩
theorem Tryz.avL:Go.Proofs.Lays.n103 Tryz.prog Tryz.avK:={
 mixed:=ah
 f103:=Tryz.func97.trans (aG some ah)
 f206:=Tryz.func193.trans (aG some ah)
 f210:=Tryz.func145.trans (aG some ah)
 t3:=Tryz.underlying3
 a3:=Tryz.isAgg3
 z3:=Tryz.sizeOf3
 v3:=Tryz.zeroValue3
 t4:=Tryz.underlying4
 a4:=Tryz.isAgg4
 z4:=Tryz.sizeOf4
 v4:=Tryz.zeroValue4
 t9:=Tryz.underlying9
 a9:=Tryz.isAgg9
 z9:=Tryz.sizeOf9
 v9:=Tryz.zeroValue9
 t24:=Tryz.underlying55
 a24:=Tryz.isAgg55
 z24:=Tryz.sizeOf55
 v24:=Tryz.zeroValue55 }
open Go.RowKit in
theorem Tryz.strings_CutPrefix (s p:ByteArray)(w:World):
  Calls Tryz.prog 97 #[.string s,.string p] w fun e w'=>e=.returned (.tuple #[.string ⟨(Lib.trimPrefix s.data.toList p.data.toList).toArray⟩,.bool (Lib.hasPrefix s.data.toList p.data.toList)])/\w'=w:=Any.strings_CutPrefix Tryz.avL s p w
def Tryz.avM:Go.Shelf.Ren:=⟨fun|104=>15|211=>46|207=>95|n=>n,fun|9=>9|4=>4|24=>55|3=>3|n=>n,fun|n=>n⟩
theorem Tryz.avN:Go.Proofs.Lays.n104 Tryz.prog Tryz.avM:={
 mixed:=ah
 f104:=Tryz.func15.trans (aG some ah)
 f207:=Tryz.func95.trans (aG some ah)
 f211:=Tryz.func46.trans (aG some ah)
 t3:=Tryz.underlying3
 a3:=Tryz.isAgg3
 z3:=Tryz.sizeOf3
 v3:=Tryz.zeroValue3
 t4:=Tryz.underlying4
 a4:=Tryz.isAgg4
 z4:=Tryz.sizeOf4
 v4:=Tryz.zeroValue4
 t9:=Tryz.underlying9
 a9:=Tryz.isAgg9
 z9:=Tryz.sizeOf9
 v9:=Tryz.zeroValue9
 t24:=Tryz.underlying55
 a24:=Tryz.isAgg55
 z24:=Tryz.sizeOf55
 v24:=Tryz.zeroValue55 }
open Go.RowKit in
theorem Tryz.strings_CutSuffix (s p:ByteArray)(w:World)(hs:s.size<=9223372036854775807):
  Calls Tryz.prog 15 #[.string s,.string p] w fun e w'=>e=.returned (.tuple #[.string ⟨(Lib.trimSuffix s.data.toList p.data.toList).toArray⟩,.bool (Lib.hasSuffix s.data.toList p.data.toList)])/\w'=w:=Any.strings_CutSuffix Tryz.avN s p w hs
open Go.RowKit in
theorem Tryz.Builder_String_any_k (B b:Nat)(l:List UInt8)(w:World)(h:Lib.IsBuilderF 80 5 B b (Lib.byteCells l) w)(xz:B<=w.heap.size):
  Calls Tryz.prog 27 #[.pointer (some ⟨b,0,none⟩)] w fun e w'=>e=.returned (.string ⟨l.toArray⟩)/\(Lib.IsBuilderF 80 5 B b (Lib.byteCells l) w'/\Below B w w'/\Lib.OthersKept 5 (some b) w w'):=Any.Builder_String_any_k Tryz.avI Tryz.avJ B b l w h xz
def Tryz.avO:Go.Shelf.Ren:=⟨fun|171=>22|243=>65|246=>112|283=>154|284=>155|285=>156|286=>157|129=>210|317=>214|318=>215|319=>216|320=>217|337=>246|338=>247|n=>n,fun|3=>3|9=>9|2=>2|4=>4|171=>262|0=>0|53=>196|37=>78|5=>5|173=>265|212=>317|51=>295|20=>20|213=>318|46=>255|232=>365|233=>366|n=>n,fun|17=>1|18=>6|19=>7|n=>n⟩
theorem Tryz.avP:Go.Proofs.LaysM.n171 Tryz.prog Tryz.avO:={
 mixed:=ah
 f129:=Tryz.func210.trans (aG some ah)
 f171:=Tryz.func22.trans (aG some ah)
 f243:=Tryz.func65.trans (aG some ah)
 f246:=Tryz.func112.trans (aG some ah)
 f283:=Tryz.func154.trans (aG some ah)
 f284:=Tryz.func155.trans (aG some ah)
 f285:=Tryz.func156.trans (aG some ah)
 f286:=Tryz.func157.trans (aG some ah)
 f317:=Tryz.func214.trans (aG some ah)
 f318:=Tryz.func215.trans (aG some ah)
 f319:=Tryz.func216.trans (aG some ah)
 f320:=Tryz.func217.trans (aG some ah)
 f337:=Tryz.func246.trans (aG some ah)
 f338:=Tryz.func247.trans (aG some ah)
 t0:=Tryz.underlying0
 a0:=Tryz.isAgg0
 z0:=Tryz.sizeOf0
 v0:=Tryz.zeroValue0
 t2:=Tryz.underlying2
 a2:=Tryz.isAgg2
 z2:=Tryz.sizeOf2
 v2:=Tryz.zeroValue2
 t3:=Tryz.underlying3
 a3:=Tryz.isAgg3
 z3:=Tryz.sizeOf3
 v3:=Tryz.zeroValue3
 t4:=Tryz.underlying4
 a4:=Tryz.isAgg4
 z4:=Tryz.sizeOf4
 v4:=Tryz.zeroValue4
 t5:=Tryz.underlying5
 a5:=Tryz.isAgg5
 z5:=Tryz.sizeOf5
 v5:=Tryz.zeroValue5
 t9:=Tryz.underlying9
 a9:=Tryz.isAgg9
 z9:=Tryz.sizeOf9
 v9:=Tryz.zeroValue9
 t20:=Tryz.underlying20
 a20:=Tryz.isAgg20
 z20:=Tryz.sizeOf20
 v20:=Tryz.zeroValue20
 t37:=Tryz.underlying78
 a37:=Tryz.isAgg78
 z37:=Tryz.sizeOf78
 v37:=Tryz.zeroValue78
 t46:=Tryz.underlying255
 a46:=Tryz.isAgg255
 z46:=Tryz.sizeOf255
 v46:=Tryz.zeroValue255
 t51:=Tryz.underlying295
 a51:=Tryz.isAgg295
 z51:=Tryz.sizeOf295
 v51:=Tryz.zeroValue295
 t53:=Tryz.underlying196
 a53:=Tryz.isAgg196
 z53:=Tryz.sizeOf196
 v53:=Tryz.zeroValue196
 t171:=Tryz.underlying262
 a171:=Tryz.isAgg262
 z171:=Tryz.sizeOf262
 v171:=Tryz.zeroValue262
 t173:=Tryz.underlying265
 a173:=Tryz.isAgg265
 z173:=Tryz.sizeOf265
 v173:=Tryz.zeroValue265
 t212:=Tryz.underlying317
 a212:=Tryz.isAgg317
 z212:=Tryz.sizeOf317
 v212:=Tryz.zeroValue317
 t213:=Tryz.underlying318
 a213:=Tryz.isAgg318
 z213:=Tryz.sizeOf318
 t232:=Tryz.underlying365
 a232:=Tryz.isAgg365
 z232:=Tryz.sizeOf365
 v232:=Tryz.zeroValue365
 t233:=Tryz.underlying366
 a233:=Tryz.isAgg366
 z233:=Tryz.sizeOf366
 v233:=Tryz.zeroValue366
 g17:=ah
 g18:=ah
 g19:=ah
 i0:=ah
 i2:=ah
 i3:=ah
 i4:=ah
 i5:=ah
 i9:=ah
 i20:=ah
 i37:=ah
 i46:=ah
 i51:=ah
 i53:=ah
 i171:=ah
 i173:=ah
 i212:=ah
 i232:=ah
 i233:=ah
 m17:=ah
 m18:=ah
 m19:=by kernel_rfl }
open Go.RowKit Go.Sort Go.Lib in
theorem Tryz.strconv_Itoa (n:Int)(h0: -9223372036854775808<=n)(h1:n<=9223372036854775807)(w:World)(xf:Lib.TabIs Tryz.prog w "internal/strconv.uint64pow10" .u64 Lib.pow10Tab):
  Calls Tryz.prog 22 #[.int .i64 n] w fun e w'=>e=.returned (.string ⟨(Lib.itoa n).toArray⟩)/\∃k os,w'=grow (w.drewN k) os:=Any.strconv_Itoa Tryz.avP n h0 h1 w xf
def Tryz.avQ:Go.Shelf.Ren:=⟨fun|245=>148|279=>197|280=>198|281=>199|282=>200|316=>238|171=>22|205=>239|243=>65|246=>112|283=>154|284=>155|285=>156|286=>157|129=>210|317=>214|318=>215|319=>216|320=>217|337=>246|338=>247|n=>n,fun|9=>9|3=>3|75=>86|167=>298|4=>4|168=>300|210=>344|37=>78|0=>0|127=>156|145=>361|143=>359|2=>2|171=>262|53=>196|5=>5|173=>265|212=>317|51=>295|20=>20|213=>318|46=>255|232=>365|233=>366|80=>98|n=>n,fun|15=>4|16=>5|17=>1|18=>6|19=>7|n=>n⟩
theorem Tryz.ahx:Go.Proofs.LaysC.n245 Tryz.prog Tryz.avQ:={
 mixed:=ah
 f129:=Tryz.func210.trans (aG some ah)
 f171:=Tryz.func22.trans (aG some ah)
 f205:=Tryz.func239.trans (aG some ah)
 f243:=Tryz.func65.trans (aG some ah)
 f245:=Tryz.func148.trans (aG some ah)
 f246:=Tryz.func112.trans (aG some ah)
 f279:=Tryz.func197.trans (aG some ah)
 f280:=Tryz.func198.trans (aG some ah)
 f281:=Tryz.func199.trans (aG some ah)
 f282:=Tryz.func200.trans (aG some ah)
 f283:=Tryz.func154.trans (aG some ah)
 f284:=Tryz.func155.trans (aG some ah)
 f285:=Tryz.func156.trans (aG some ah)
 f286:=Tryz.func157.trans (aG some ah)
 f316:=Tryz.func238.trans (aG some ah)
 f317:=Tryz.func214.trans (aG some ah)
 f318:=Tryz.func215.trans (aG some ah)
 f319:=Tryz.func216.trans (aG some ah)
 f320:=Tryz.func217.trans (aG some ah)
 f337:=Tryz.func246.trans (aG some ah)
 f338:=Tryz.func247.trans (aG some ah)
 t0:=Tryz.underlying0
 a0:=Tryz.isAgg0
 z0:=Tryz.sizeOf0
 v0:=Tryz.zeroValue0
 t2:=Tryz.underlying2
 a2:=Tryz.isAgg2
 z2:=Tryz.sizeOf2
 v2:=Tryz.zeroValue2
 t3:=Tryz.underlying3
 a3:=Tryz.isAgg3
 z3:=Tryz.sizeOf3
 v3:=Tryz.zeroValue3
 t4:=Tryz.underlying4
 a4:=Tryz.isAgg4
 z4:=Tryz.sizeOf4
 v4:=Tryz.zeroValue4
 t5:=Tryz.underlying5
 a5:=Tryz.isAgg5
 z5:=Tryz.sizeOf5
 v5:=Tryz.zeroValue5
 t9:=Tryz.underlying9
 a9:=Tryz.isAgg9
 z9:=Tryz.sizeOf9
 v9:=Tryz.zeroValue9
 t20:=Tryz.underlying20
 a20:=Tryz.isAgg20
 z20:=Tryz.sizeOf20
 v20:=Tryz.zeroValue20
 t37:=Tryz.underlying78
 a37:=Tryz.isAgg78
 z37:=Tryz.sizeOf78
 v37:=Tryz.zeroValue78
 t46:=Tryz.underlying255
 a46:=Tryz.isAgg255
 z46:=Tryz.sizeOf255
 v46:=Tryz.zeroValue255
 t51:=Tryz.underlying295
 a51:=Tryz.isAgg295
 z51:=Tryz.sizeOf295
 v51:=Tryz.zeroValue295
 t53:=Tryz.underlying196
 a53:=Tryz.isAgg196
 z53:=Tryz.sizeOf196
 v53:=Tryz.zeroValue196
 t75:=Tryz.underlying86
 a75:=Tryz.isAgg86
 z75:=Tryz.sizeOf86
 v75:=Tryz.zeroValue86
 t127:=Tryz.underlying156
 a127:=Tryz.isAgg156
 z127:=Tryz.sizeOf156
 v127:=Tryz.zeroValue156
 t143:=Tryz.underlying359
 a143:=Tryz.isAgg359
 z143:=Tryz.sizeOf359
 v143:=Tryz.zeroValue359
 t145:=Tryz.underlying361
 a145:=Tryz.isAgg361
 z145:=Tryz.sizeOf361
 v145:=Tryz.zeroValue361
 t167:=Tryz.underlying298
 a167:=Tryz.isAgg298
 z167:=Tryz.sizeOf298
 v167:=Tryz.zeroValue298
 t168:=Tryz.underlying300
 a168:=Tryz.isAgg300
 z168:=Tryz.sizeOf300
 v168:=Tryz.zeroValue300
 t171:=Tryz.underlying262
 a171:=Tryz.isAgg262
 z171:=Tryz.sizeOf262
 v171:=Tryz.zeroValue262
 t173:=Tryz.underlying265
 a173:=Tryz.isAgg265
 z173:=Tryz.sizeOf265
 v173:=Tryz.zeroValue265
 t210:=Tryz.underlying344
 a210:=Tryz.isAgg344
 z210:=Tryz.sizeOf344
 v210:=Tryz.zeroValue344
 t212:=Tryz.underlying317
 a212:=Tryz.isAgg317
 z212:=Tryz.sizeOf317
 v212:=Tryz.zeroValue317
 t213:=Tryz.underlying318
 a213:=Tryz.isAgg318
 z213:=Tryz.sizeOf318
 t232:=Tryz.underlying365
 a232:=Tryz.isAgg365
 z232:=Tryz.sizeOf365
 v232:=Tryz.zeroValue365
 t233:=Tryz.underlying366
 a233:=Tryz.isAgg366
 z233:=Tryz.sizeOf366
 v233:=Tryz.zeroValue366
 g15:=ah
 g16:=ah
 g17:=ah
 g18:=ah
 g19:=ah
 t80:=Tryz.underlying98
 a80:=Tryz.isAgg98
 z80:=Tryz.sizeOf98
 v80:=Tryz.zeroValue98
 i0:=ah
 i2:=ah
 i3:=ah
 i4:=ah
 i5:=ah
 i9:=ah
 i20:=ah
 i37:=ah
 i46:=ah
 i51:=ah
 i53:=ah
 i75:=ah
 i80:=ah
 i127:=ah
 i143:=ah
 i145:=ah
 i167:=ah
 i168:=ah
 i171:=ah
 i173:=ah
 i210:=ah
 i212:=ah
 i232:=ah
 i233:=ah
 m15:=ah
 m16:=ah
 m17:=ah
 m18:=ah
 m19:=ah
 c0:=ah
 c2:=ah
 c3:=ah
 c4:=ah
 c5:=ah
 c9:=ah
 c20:=ah
 c37:=ah
 c46:=ah
 c51:=ah
 c53:=ah
 c75:=ah
 c80:=ah
 c127:=ah
 c143:=ah
 c145:=ah
 c167:=ah
 c168:=ah
 c171:=ah
 c173:=ah
 c210:=ah
 c212:=ah
 c213:=ah
 c232:=ah
 c233:=by kernel_rfl }
open Go.RowKit in
theorem Tryz.strconv_toError_syntax (fn s:ByteArray)(base bits:Int)(ev:Value)(w:World)(Gj:s.size<=281474976710656)(hv:w.cell? ⟨4,0,none⟩=some ev)(aF:ev=.nilIface\/∃te pe,ev=.iface te pe):
  Calls Tryz.prog 148 #[.string fn,.string s,.int .i64 base,.int .i64 bits,.iface 298 (.int .i64 2)] w fun e w'=>∃N,e=.returned (.iface 300 (.pointer (some ⟨N,0,none⟩)))/\w.heap.size<=N/\w'.heap[N]? =some (.cells #[.string fn,.string s,ev] 344 (0,0))/\ay w w':=Any.strconv_toError_syntax Tryz.ahx fn s base bits ev w Gj hv aF
def Tryz.avR:Go.Shelf.Ren:=⟨fun|321=>195|n=>n,fun|5=>5|n=>n,fun|n=>n⟩
theorem Tryz.avS:Go.Proofs.Lays.n321 Tryz.prog Tryz.avR:={
 mixed:=ah
 f321:=Tryz.func195.trans (aG some ah)
 t5:=Tryz.underlying5
 a5:=Tryz.isAgg5
 z5:=Tryz.sizeOf5
 v5:=Tryz.zeroValue5 }
open Go.RowKit in
theorem Tryz.internal_strconv_lower (c:Int)(w:World):
  Calls Tryz.prog 195 #[.int .u8 c] w fun e w'=>e=.returned (.int .u8 (bits .or .u8 c 32))/\w'=w:=Any.internal_strconv_lower Tryz.avS c w
open Go.RowKit in
theorem Tryz.strconv_toError_range (fn s:ByteArray)(base bits:Int)(ev:Value)(w:World)(Gj:s.size<=281474976710656)(hv:w.cell? ⟨5,0,none⟩=some ev)(aF:ev=.nilIface\/∃te pe,ev=.iface te pe):
  Calls Tryz.prog 148 #[.string fn,.string s,.int .i64 base,.int .i64 bits,.iface 298 (.int .i64 1)] w fun e w'=>∃N,e=.returned (.iface 300 (.pointer (some ⟨N,0,none⟩)))/\w.heap.size<=N/\w'.heap[N]? =some (.cells #[.string fn,.string s,ev] 344 (0,0))/\ay w w':=Any.strconv_toError_range Tryz.ahx fn s base bits ev w Gj hv aF
def Tryz.avT:Go.Shelf.Ren:=⟨fun|172=>146|244=>194|245=>148|247=>237|279=>197|280=>198|281=>199|282=>200|287=>147|316=>238|171=>22|205=>239|321=>195|322=>196|243=>65|246=>112|283=>154|284=>155|285=>156|286=>157|129=>210|317=>214|318=>215|319=>216|320=>217|337=>246|338=>247|n=>n,fun|9=>9|3=>3|75=>86|76=>87|4=>4|5=>5|167=>298|37=>78|0=>0|85=>340|2=>2|168=>300|53=>196|175=>197|46=>255|210=>344|127=>156|145=>361|143=>359|21=>21|171=>262|173=>265|212=>317|51=>295|20=>20|213=>318|232=>365|233=>366|80=>98|n=>n,fun|15=>4|16=>5|17=>1|18=>6|19=>7|n=>n⟩
theorem Tryz.YR:Go.Proofs.LaysC.n172 Tryz.prog Tryz.avT:={
 mixed:=ah
 f129:=Tryz.func210.trans (aG some ah)
 f171:=Tryz.func22.trans (aG some ah)
 f172:=Tryz.func146.trans (aG some ah)
 f205:=Tryz.func239.trans (aG some ah)
 f243:=Tryz.func65.trans (aG some ah)
 f244:=Tryz.func194.trans (aG some ah)
 f245:=Tryz.func148.trans (aG some ah)
 f246:=Tryz.func112.trans (aG some ah)
 f247:=Tryz.func237.trans (aG some ah)
 f279:=Tryz.func197.trans (aG some ah)
 f280:=Tryz.func198.trans (aG some ah)
 f281:=Tryz.func199.trans (aG some ah)
 f282:=Tryz.func200.trans (aG some ah)
 f283:=Tryz.func154.trans (aG some ah)
 f284:=Tryz.func155.trans (aG some ah)
 f285:=Tryz.func156.trans (aG some ah)
 f286:=Tryz.func157.trans (aG some ah)
 f287:=Tryz.func147.trans (aG some ah)
 f316:=Tryz.func238.trans (aG some ah)
 f317:=Tryz.func214.trans (aG some ah)
 f318:=Tryz.func215.trans (aG some ah)
 f319:=Tryz.func216.trans (aG some ah)
 f320:=Tryz.func217.trans (aG some ah)
 f321:=Tryz.func195.trans (aG some ah)
 f322:=Tryz.func196.trans (aG some ah)
 f337:=Tryz.func246.trans (aG some ah)
 f338:=Tryz.func247.trans (aG some ah)
 t0:=Tryz.underlying0
 a0:=Tryz.isAgg0
 z0:=Tryz.sizeOf0
 v0:=Tryz.zeroValue0
 t2:=Tryz.underlying2
 a2:=Tryz.isAgg2
 z2:=Tryz.sizeOf2
 v2:=Tryz.zeroValue2
 t3:=Tryz.underlying3
 a3:=Tryz.isAgg3
 z3:=Tryz.sizeOf3
 v3:=Tryz.zeroValue3
 t4:=Tryz.underlying4
 a4:=Tryz.isAgg4
 z4:=Tryz.sizeOf4
 v4:=Tryz.zeroValue4
 t5:=Tryz.underlying5
 a5:=Tryz.isAgg5
 z5:=Tryz.sizeOf5
 v5:=Tryz.zeroValue5
 t9:=Tryz.underlying9
 a9:=Tryz.isAgg9
 z9:=Tryz.sizeOf9
 v9:=Tryz.zeroValue9
 t20:=Tryz.underlying20
 a20:=Tryz.isAgg20
 z20:=Tryz.sizeOf20
 v20:=Tryz.zeroValue20
 t21:=Tryz.underlying21
 a21:=Tryz.isAgg21
 z21:=Tryz.sizeOf21
 v21:=Tryz.zeroValue21
 t37:=Tryz.underlying78
 a37:=Tryz.isAgg78
 z37:=Tryz.sizeOf78
 v37:=Tryz.zeroValue78
 t46:=Tryz.underlying255
 a46:=Tryz.isAgg255
 z46:=Tryz.sizeOf255
 v46:=Tryz.zeroValue255
 t51:=Tryz.underlying295
 a51:=Tryz.isAgg295
 z51:=Tryz.sizeOf295
 v51:=Tryz.zeroValue295
 t53:=Tryz.underlying196
 a53:=Tryz.isAgg196
 z53:=Tryz.sizeOf196
 v53:=Tryz.zeroValue196
 t75:=Tryz.underlying86
 a75:=Tryz.isAgg86
 z75:=Tryz.sizeOf86
 v75:=Tryz.zeroValue86
 t76:=Tryz.underlying87
 a76:=Tryz.isAgg87
 z76:=Tryz.sizeOf87
 v76:=Tryz.zeroValue87
 t85:=Tryz.underlying340
 a85:=Tryz.isAgg340
 z85:=Tryz.sizeOf340
 v85:=Tryz.zeroValue340
 t127:=Tryz.underlying156
 a127:=Tryz.isAgg156
 z127:=Tryz.sizeOf156
 v127:=Tryz.zeroValue156
 t143:=Tryz.underlying359
 a143:=Tryz.isAgg359
 z143:=Tryz.sizeOf359
 v143:=Tryz.zeroValue359
 t145:=Tryz.underlying361
 a145:=Tryz.isAgg361
 z145:=Tryz.sizeOf361
 v145:=Tryz.zeroValue361
 t167:=Tryz.underlying298
 a167:=Tryz.isAgg298
 z167:=Tryz.sizeOf298
 v167:=Tryz.zeroValue298
 t168:=Tryz.underlying300
 a168:=Tryz.isAgg300
 z168:=Tryz.sizeOf300
 v168:=Tryz.zeroValue300
 t171:=Tryz.underlying262
 a171:=Tryz.isAgg262
 z171:=Tryz.sizeOf262
 v171:=Tryz.zeroValue262
 t173:=Tryz.underlying265
 a173:=Tryz.isAgg265
 z173:=Tryz.sizeOf265
 v173:=Tryz.zeroValue265
 t175:=Tryz.underlying197
 a175:=Tryz.isAgg197
 z175:=Tryz.sizeOf197
 v175:=Tryz.zeroValue197
 t210:=Tryz.underlying344
 a210:=Tryz.isAgg344
 z210:=Tryz.sizeOf344
 v210:=Tryz.zeroValue344
 t212:=Tryz.underlying317
 a212:=Tryz.isAgg317
 z212:=Tryz.sizeOf317
 v212:=Tryz.zeroValue317
 t213:=Tryz.underlying318
 a213:=Tryz.isAgg318
 z213:=Tryz.sizeOf318
 t232:=Tryz.underlying365
 a232:=Tryz.isAgg365
 z232:=Tryz.sizeOf365
 v232:=Tryz.zeroValue365
 t233:=Tryz.underlying366
 a233:=Tryz.isAgg366
 z233:=Tryz.sizeOf366
 v233:=Tryz.zeroValue366
 g15:=ah
 g16:=ah
 g17:=ah
 g18:=ah
 g19:=ah
 t80:=Tryz.underlying98
 a80:=Tryz.isAgg98
 z80:=Tryz.sizeOf98
 v80:=Tryz.zeroValue98
 i0:=ah
 i2:=ah
 i3:=ah
 i4:=ah
 i5:=ah
 i9:=ah
 i20:=ah
 i21:=ah
 i37:=ah
 i46:=ah
 i51:=ah
 i53:=ah
 i75:=ah
 i76:=ah
 i80:=ah
 i85:=ah
 i127:=ah
 i143:=ah
 i145:=ah
 i167:=ah
 i168:=ah
 i171:=ah
 i173:=ah
 i175:=ah
 i210:=ah
 i212:=ah
 i232:=ah
 i233:=ah
 m15:=ah
 m16:=ah
 m17:=ah
 m18:=ah
 m19:=ah
 c0:=ah
 c2:=ah
 c3:=ah
 c4:=ah
 c5:=ah
 c9:=ah
 c20:=ah
 c21:=ah
 c37:=ah
 c46:=ah
 c51:=ah
 c53:=ah
 c75:=ah
 c76:=ah
 c80:=ah
 c85:=ah
 c127:=ah
 c143:=ah
 c145:=ah
 c167:=ah
 c168:=ah
 c171:=ah
 c173:=ah
 c175:=ah
 c210:=ah
 c212:=ah
 c213:=ah
 c232:=ah
 c233:=by kernel_rfl }
open Go.RowKit in
theorem Tryz.strconv_Atoi_ok (s:ByteArray)(avU:s.size<=9223372036854775806)(v:Int)(h:Lib.atoiAll s.data.toList=.ok v)(w:World):
  Calls Tryz.prog 146 #[.string s] w fun e w'=>e=.returned (.tuple #[.int .i64 v,.nilIface])/\(w'=w\/∃t,w'=Lib.bytesWorld w 5 t):=Any.strconv_Atoi_ok Tryz.YR s avU v h w
open Go.RowKit in
theorem Tryz.strconv_Atoi_syntax (s:ByteArray)(Gj:s.size<=281474976710656)(h:Lib.atoiAll s.data.toList=.syntax)(ev:Value)(w:World)(hv:w.cell? ⟨4,0,none⟩=some ev)(aF:ev=.nilIface\/∃te pe,ev=.iface te pe):
  Calls Tryz.prog 146 #[.string s] w fun e w'=>∃N,e=.returned (.tuple #[.int .i64 (0),.iface 300 (.pointer (some ⟨N,0,none⟩))])/\w.heap.size<=N/\w'.heap[N]? =some (.cells #[.string ⟨#[65,116,111,105]⟩,.string s,ev] 344 (0,0))/\ay w w':=Any.strconv_Atoi_syntax Tryz.YR s Gj h ev w hv aF
open Go.RowKit in
theorem Tryz.strconv_Atoi_range (s:ByteArray)(Gj:s.size<=281474976710656)(h:Lib.atoiAll s.data.toList=.range)(ev:Value)(w:World)(hv:w.cell? ⟨5,0,none⟩=some ev)(aF:ev=.nilIface\/∃te pe,ev=.iface te pe):
  Calls Tryz.prog 146 #[.string s] w fun e w'=>∃N,e=.returned (.tuple #[.int .i64 (Lib.atoiSat s.data.toList),.iface 300 (.pointer (some ⟨N,0,none⟩))])/\w.heap.size<=N/\w'.heap[N]? =some (.cells #[.string ⟨#[65,116,111,105]⟩,.string s,ev] 344 (0,0))/\ay w w':=Any.strconv_Atoi_range Tryz.YR s Gj h ev w hv aF
def Tryz.avV:Go.Shelf.Ren:=⟨fun|143=>45|219=>94|217=>140|225=>141|224=>142|267=>143|266=>190|314=>191|n=>n,fun|9=>9|3=>3|4=>4|5=>5|46=>255|146=>296|51=>295|n=>n,fun|1=>0|n=>n⟩
theorem Tryz.avW:Go.Proofs.Lays.n143 Tryz.prog Tryz.avV:={
 mixed:=ah
 f143:=Tryz.func45.trans (aG some ah)
 f217:=Tryz.func140.trans (aG some ah)
 f219:=Tryz.func94.trans (aG some ah)
 f224:=Tryz.func142.trans (aG some ah)
 f225:=Tryz.func141.trans (aG some ah)
 f266:=Tryz.func190.trans (aG some ah)
 f267:=Tryz.func143.trans (aG some ah)
 f314:=Tryz.func191.trans (aG some ah)
 t3:=Tryz.underlying3
 a3:=Tryz.isAgg3
 z3:=Tryz.sizeOf3
 v3:=Tryz.zeroValue3
 t4:=Tryz.underlying4
 a4:=Tryz.isAgg4
 z4:=Tryz.sizeOf4
 v4:=Tryz.zeroValue4
 t5:=Tryz.underlying5
 a5:=Tryz.isAgg5
 z5:=Tryz.sizeOf5
 v5:=Tryz.zeroValue5
 t9:=Tryz.underlying9
 a9:=Tryz.isAgg9
 z9:=Tryz.sizeOf9
 v9:=Tryz.zeroValue9
 t46:=Tryz.underlying255
 a46:=Tryz.isAgg255
 z46:=Tryz.sizeOf255
 v46:=Tryz.zeroValue255
 t51:=Tryz.underlying295
 a51:=Tryz.isAgg295
 z51:=Tryz.sizeOf295
 v51:=Tryz.zeroValue295
 t146:=Tryz.underlying296
 a146:=Tryz.isAgg296
 z146:=Tryz.sizeOf296
 v146:=Tryz.zeroValue296
 g1:=by kernel_rfl }
open Go.RowKit Go.Lib in
theorem Tryz.strings_Index (s sub:ByteArray)(m:Int)(w:World)(hs:s.size<4294967281)(hm:w.cell? ⟨0,0,none⟩=some (.int .i64 m)):
  Calls Tryz.prog 45 #[.string s,.string sub] w fun e w'=>e=.returned (.int .i64 (Lib.index s.data.toList sub.data.toList))/\w'=w:=Any.strings_Index Tryz.avW s sub m w hs hm
def Tryz.avX:Go.Shelf.Ren:=⟨fun|138=>14|195=>43|218=>44|143=>45|219=>94|217=>140|225=>141|224=>142|267=>143|266=>190|314=>191|n=>n,fun|9=>9|3=>3|4=>4|5=>5|0=>0|46=>255|146=>296|51=>295|n=>n,fun|1=>0|n=>n⟩
theorem Tryz.avY:Go.Proofs.Lays.n138 Tryz.prog Tryz.avX:={
 mixed:=ah
 f138:=Tryz.func14.trans (aG some ah)
 f143:=Tryz.func45.trans (aG some ah)
 f195:=Tryz.func43.trans (aG some ah)
 f217:=Tryz.func140.trans (aG some ah)
 f218:=Tryz.func44.trans (aG some ah)
 f219:=Tryz.func94.trans (aG some ah)
 f224:=Tryz.func142.trans (aG some ah)
 f225:=Tryz.func141.trans (aG some ah)
 f266:=Tryz.func190.trans (aG some ah)
 f267:=Tryz.func143.trans (aG some ah)
 f314:=Tryz.func191.trans (aG some ah)
 t0:=Tryz.underlying0
 a0:=Tryz.isAgg0
 z0:=Tryz.sizeOf0
 v0:=Tryz.zeroValue0
 t3:=Tryz.underlying3
 a3:=Tryz.isAgg3
 z3:=Tryz.sizeOf3
 v3:=Tryz.zeroValue3
 t4:=Tryz.underlying4
 a4:=Tryz.isAgg4
 z4:=Tryz.sizeOf4
 v4:=Tryz.zeroValue4
 t5:=Tryz.underlying5
 a5:=Tryz.isAgg5
 z5:=Tryz.sizeOf5
 v5:=Tryz.zeroValue5
 t9:=Tryz.underlying9
 a9:=Tryz.isAgg9
 z9:=Tryz.sizeOf9
 v9:=Tryz.zeroValue9
 t46:=Tryz.underlying255
 a46:=Tryz.isAgg255
 z46:=Tryz.sizeOf255
 v46:=Tryz.zeroValue255
 t51:=Tryz.underlying295
 a51:=Tryz.isAgg295
 z51:=Tryz.sizeOf295
 v51:=Tryz.zeroValue295
 t146:=Tryz.underlying296
 a146:=Tryz.isAgg296
 z146:=Tryz.sizeOf296
 v146:=Tryz.zeroValue296
 g1:=by kernel_rfl }
open Go.RowKit Go.Lib in
theorem Tryz.strings_Count_one (s:ByteArray)(c:UInt8)(w:World):
  Calls Tryz.prog 14 #[.string s,.string ⟨#[c]⟩] w fun e w'=>e=.returned (.int .i64 (Lib.countByte s.data.toList c))/\w'=w:=Any.strings_Count_one Tryz.avY s c w
def Tryz.avZ:Go.Shelf.Ren:=⟨fun|146=>16|221=>47|268=>96|138=>14|143=>45|195=>43|197=>144|218=>44|219=>94|260=>192|217=>140|225=>141|224=>142|267=>143|266=>190|314=>191|n=>n,fun|9=>9|31=>57|3=>3|4=>4|0=>0|105=>256|21=>21|5=>5|46=>255|119=>336|139=>339|138=>338|146=>296|51=>295|n=>n,fun|1=>0|3=>2|4=>3|n=>n⟩
theorem Tryz.awa:Go.Proofs.Lays.n146 Tryz.prog Tryz.avZ:={
 mixed:=ah
 f138:=Tryz.func14.trans (aG some ah)
 f143:=Tryz.func45.trans (aG some ah)
 f146:=Tryz.func16.trans (aG some ah)
 f195:=Tryz.func43.trans (aG some ah)
 f197:=Tryz.func144.trans (aG some ah)
 f217:=Tryz.func140.trans (aG some ah)
 f218:=Tryz.func44.trans (aG some ah)
 f219:=Tryz.func94.trans (aG some ah)
 f221:=Tryz.func47.trans (aG some ah)
 f224:=Tryz.func142.trans (aG some ah)
 f225:=Tryz.func141.trans (aG some ah)
 f260:=Tryz.func192.trans (aG some ah)
 f266:=Tryz.func190.trans (aG some ah)
 f267:=Tryz.func143.trans (aG some ah)
 f268:=Tryz.func96.trans (aG some ah)
 f314:=Tryz.func191.trans (aG some ah)
 t0:=Tryz.underlying0
 a0:=Tryz.isAgg0
 z0:=Tryz.sizeOf0
 v0:=Tryz.zeroValue0
 t3:=Tryz.underlying3
 a3:=Tryz.isAgg3
 z3:=Tryz.sizeOf3
 v3:=Tryz.zeroValue3
 t4:=Tryz.underlying4
 a4:=Tryz.isAgg4
 z4:=Tryz.sizeOf4
 v4:=Tryz.zeroValue4
 t5:=Tryz.underlying5
 a5:=Tryz.isAgg5
 z5:=Tryz.sizeOf5
 v5:=Tryz.zeroValue5
 t9:=Tryz.underlying9
 a9:=Tryz.isAgg9
 z9:=Tryz.sizeOf9
 v9:=Tryz.zeroValue9
 t21:=Tryz.underlying21
 a21:=Tryz.isAgg21
 z21:=Tryz.sizeOf21
 v21:=Tryz.zeroValue21
 t31:=Tryz.underlying57
 a31:=Tryz.isAgg57
 z31:=Tryz.sizeOf57
 v31:=Tryz.zeroValue57
 t46:=Tryz.underlying255
 a46:=Tryz.isAgg255
 z46:=Tryz.sizeOf255
 v46:=Tryz.zeroValue255
 t51:=Tryz.underlying295
 a51:=Tryz.isAgg295
 z51:=Tryz.sizeOf295
 v51:=Tryz.zeroValue295
 t105:=Tryz.underlying256
 a105:=Tryz.isAgg256
 z105:=Tryz.sizeOf256
 v105:=Tryz.zeroValue256
 t119:=Tryz.underlying336
 a119:=Tryz.isAgg336
 z119:=Tryz.sizeOf336
 t138:=Tryz.underlying338
 a138:=Tryz.isAgg338
 z138:=Tryz.sizeOf338
 v138:=Tryz.zeroValue338
 t139:=Tryz.underlying339
 a139:=Tryz.isAgg339
 z139:=Tryz.sizeOf339
 v139:=Tryz.zeroValue339
 t146:=Tryz.underlying296
 a146:=Tryz.isAgg296
 z146:=Tryz.sizeOf296
 v146:=Tryz.zeroValue296
 g1:=ah
 g3:=ah
 g4:=by kernel_rfl }
open Go.RowKit Go.Lib in
theorem Tryz.strings_Split (s sep:ByteArray)(m:Int)(w:World)(hs:s.size<4294967281)(hm:w.cell? ⟨0,0,none⟩=some (.int .i64 m))(h1:1<=sep.size):
  Calls Tryz.prog 16 #[.string s,.string sep] w fun e w'=>
   e=.returned (.slice (some ⟨w.heap.size,0,none⟩) (Lib.countB s sep+1) (Lib.countB s sep+1))/\w'=w.alloc (.cells ((Lib.splitB sep 0 (Lib.countB s sep) s).map Value.string).toArray 9):=Any.strings_Split Tryz.awa ah s sep m w hs hm h1
end
section
open Go.RowKit
theorem fZ (w:World)(a:Addr)(v:Value):w.grownBy (w.setCell a v) (some a.block):=⟨rfl,rfl,rfl,ai,fun k _ hne=>by
 simp only[World.setCell,PC]
 rw[af (fun h=>hne (by rw[h]))]⟩
theorem zw {w w':World}(h:ay w w')(row:Option Nat):w.grownBy w' row:=⟨h.os,h.tape,h.output,h.size,fun k hk _=>h.block k hk⟩
theorem awb (w:World)(k:Nat)(os:Array Obj):ay w (Go.Sort.grow (w.drewN k) os):=by
 refine⟨rfl,rfl,rfl,by simp[Go.Sort.grow],fun j hj=> ?_⟩
 show((w.drewN k).heap++os)[j]? =w.heap[j]?
 rw[UG (by simpa using hj)];simp
theorem awc (s p:aw)(w:World):Calls Tryz.prog 97 #[sv s,sv p] w fun e w'=>e=.returned (.tuple #[sv (Lib.trimPrefix s p),.bool (Lib.hasPrefix s p)])/\w'=w:=Tryz.strings_CutPrefix ⟨s.toArray⟩ ⟨p.toArray⟩ w
theorem awd (s p:aw)(w:World)(hs:s.length<=4000000000):Calls Tryz.prog 15 #[sv s,sv p] w fun e w'=>e=.returned (.tuple #[sv (Lib.trimSuffix s p),.bool (Lib.hasSuffix s p)])/\w'=w:=
 Tryz.strings_CutSuffix ⟨s.toArray⟩ ⟨p.toArray⟩ w (by show s.toArray.size<=_;simp;omega)
theorem awe (s p:aw)(w:World)(hg:Gl w)(hs:s.length<=4000000000):Calls Tryz.prog 45 #[sv s,sv p] w fun e w'=>e=.returned (I (Lib.index s p))/\w'=w:=by
 obtain⟨m,hm⟩:=hg.mx;exact Tryz.strings_Index ⟨s.toArray⟩ ⟨p.toArray⟩ m w (by show s.toArray.size<_;simp;omega) hm
theorem ahy (s:aw)(c:UInt8)(w:World):Calls Tryz.prog 14 #[sv s,sv [c]] w fun e w'=>e=.returned (I (s.count c))/\w'=w:=Tryz.strings_Count_one ⟨s.toArray⟩ c w
theorem vL (n:Int)(h0:dI n)(w:World)(hg:Gl w):Calls Tryz.prog 22 #[I n] w fun e w'=>e=.returned (sv (Lib.itoa n))/\ay w w':=by
 refine(Tryz.strconv_Itoa n h0.1 h0.2 w hg.kJ).mono ?_;rintro e w' ⟨rfl,k,os,rfl⟩;exact⟨rfl,awb w k os⟩
theorem YS (x c:UInt8)(r:aw)(h:x≠c):Lib.index (x::r) [c]=if Lib.index r [c]== -1 then -1 else Lib.index r [c]+1:=by
 have:([c]:aw).isPrefixOf (x::r)=false:=by simp[List.isPrefixOf];exact fun e=>h e.symm
 rw[Lib.index,this];rfl
theorem ahz (c:UInt8)(r:aw):Lib.index (c::r) [c]=0:=by
 have:([c]:aw).isPrefixOf (c::r)=true:=by simp[List.isPrefixOf]
 rw[Lib.index,this];rfl
theorem YT (c:UInt8)(s:aw):bM c s≠[]:=by
 cases s with
 |nil=>simp[bM]
 |cons x r=>
  simp only[bM];split
  ·simp
  ·split<;>simp
theorem ahA (c:UInt8):∀(s:aw),Lib.splitK [c] 0 (Lib.count s [c]) s=bM c s
 |[]=>by
  rw[Lib.count_one];rfl
 |x::r=>by
  have ih:=ahA c r;by_cases h:x=c
  ·subst h;rw[Lib.count_cons_eq,Ck,Lib.splitK,ahz];simp only[bM,mr];rw[show(if(0:Int)== -1 then [x::r] else(x::r).take ((0:Int).toNat+0)::Lib.splitK [x] 0 (Lib.count r [x]) ((x::r).drop ((0:Int).toNat+[x].length)))=[]::Lib.splitK [x] 0 (Lib.count r [x]) r from rfl,ih]
  ·rw[Lib.count_cons_ne x c r h];simp only[bM,af h];rw[<-ih]
   cases hn:Lib.count r [c] with
   |zero=>rfl
   |succ k=>
    rw[Lib.splitK,Lib.splitK,YS x c r h]
    rcases Lib.index_spec r [c] with⟨h1,_⟩|⟨i,h1,_,_,_⟩
    ·rw[h1];rfl
    ·rw[h1];have e1:((i:Int)== -1)=false:=nV.2 ab;have e2:((i:Int)+1== -1)=false:=nV.2 ab;simp only[e1,e2,ye,nY];have e3:((i:Int)+1).toNat=i+1:=ab;have e4:(i:Int).toNat=i:=ab;rw[e3,e4];simp
theorem Ka (c:UInt8)(s:aw):(bM c s).length=s.count c+1:=by
 induction s with
 |nil=>rfl
 |cons x r ih=>
  simp only[bM];by_cases h:x=c
  ·subst h;rw[aj rfl,List.length_cons,ih,List.count_cons_self]
  ·rw[af h,List.count_cons_of_ne (fun e=>h e)];rw[<-ih]
   cases hs:bM c r with
   |nil=>exact absurd hs (YT c r)
   |cons a b=>rfl
def du (w:World)(g:Nat)(l:List aw):Prop:=w.heap[g]? =some (.cells (l.map sv).toArray 9 (0,0))
theorem du.cell {w:World}{g:Nat}{l:List aw}(h:du w g l){i:Nat}{s:aw}(hi:l[i]? =some s):w.cell? ⟨g,i,none⟩=some (sv s):=by
 have h1:(l.map sv).toArray[i]? =some (sv s):=by simp[hi]
 exact(yj w g i _ _ _ h).trans h1
theorem awf (s:aw)(c:UInt8)(w:World)(hg:Gl w)(hs:s.length<=4000000000):Calls Tryz.prog 16 #[sv s,sv [c]] w fun e w'=>
  e=.returned (.slice (some ⟨w.heap.size,0,none⟩) (bM c s).length (bM c s).length)/\w'=w.alloc (.cells ((bM c s).map sv).toArray 9):=by
 obtain⟨m,hm⟩:=hg.mx;refine(Tryz.strings_Split ⟨s.toArray⟩ ⟨([c]:aw).toArray⟩ m w (by show s.toArray.size<_;simp;omega) hm (cI 1)).mono ?_;have hd:=Lib.splitB_data ⟨([c]:aw).toArray⟩ 0 (Lib.countB ⟨s.toArray⟩ ⟨([c]:aw).toArray⟩) ⟨s.toArray⟩;have hk:Lib.countB ⟨s.toArray⟩ ⟨([c]:aw).toArray⟩=Lib.count s [c]:=rfl;rw[hk] at hd⊢;have hd2:(Lib.splitB ⟨([c]:aw).toArray⟩ 0 (Lib.count s [c]) ⟨s.toArray⟩).map (·.data.toList)=bM c s:=hd.trans (ahA c s)
 have yQ:(Lib.splitB ⟨([c]:aw).toArray⟩ 0 (Lib.count s [c]) ⟨s.toArray⟩).map Value.string=(bM c s).map sv:=by
  rw[<-hd2,List.map_map];rfl
 have hl:Lib.count s [c]+1=(bM c s).length:=by rw[Ka,Lib.count_one]
 rintro e w' ⟨rfl,rfl⟩;rw[yQ,hl];exact⟨rfl,rfl⟩
theorem Nr (s:aw)(c:UInt8)(w:World)(hg:Gl w)(hs:s.length<=4000000000):Calls Tryz.prog 16 #[sv s,sv [c]] w fun e w'=>
  e=.returned (.slice (some ⟨w.heap.size,0,none⟩) (bM c s).length (bM c s).length)/\du w' w.heap.size (bM c s)/\ay w w'/\w'.heap.size=w.heap.size+1:=by
 refine(awf s c w hg hs).mono ?_;rintro e w' ⟨rfl,rfl⟩;exact⟨rfl,ej _ _,(Below.refl _ _).alloc aA _,World.size_alloc _ _⟩
end
section
open Go.ChangeShapes Go.WideShapes Go.ChangeAt Go.RowKit
theorem own:ownKnob Tryz.prog.godebug=none:=ah
theorem star: "*" ++ "errors.errorString" = "*errors.errorString" :=aq
theorem ahB (u:TypeId)(h:Tryz.prog.typeName? 3 u=some "*errors.errorString"):u=359:=
 typeName_ptr_named (nm:= "errors.errorString") (by rw[star];kernel_rfl) ah aq u (by rw[star];exact h)
theorem awg:Tryz.prog.globalNamed "internal/strconv.uint64pow10" =some 1:=ah
theorem ahC:Tryz.prog.globalNamed "strconv.ErrRange" =some 5:=ah
theorem ahD:Tryz.prog.globalNamed "strconv.ErrSyntax" =some 4:=ah
theorem awh:(Tryz.prog.globals[5]?).map (·.type)=some 86:=ah
theorem awi:(Tryz.prog.globals[4]?).map (·.type)=some 86:=ah
abbrev Dz:List (String×DataW Unit):=Rows.storyRoundRow.laid
theorem awj {W:World}(h:laidMetH Tryz.prog Dz W)(Gk:W.ShapedOpen Tryz.prog):Gl W:=by
 rw[MakeChecks.laidMetH_plain _ _ _ ah] at h;have h3:laidMet Tryz.prog (("internal/strconv.uint64pow10",Lib.tabData .u64 Lib.pow10Tab)::[("unicode/utf8.acceptRanges",Rows.laid_unicode_utf8_acceptRanges),("strconv.ErrRange",Rows.laid_strconv_ErrRange),("strconv.ErrSyntax",Rows.laid_strconv_ErrSyntax),("unicode/utf8.first",Rows.laid_unicode_utf8_first)]) W:=h.tail.tail;obtain⟨a1,s1,iO,_⟩:=laid_sentinel h3.tail.tail ahC awh Tryz.underlying86 ahB Tryz.underlying359 Tryz.underlying361 rfl rfl Tryz.underlying9 ah ah;obtain⟨a2,s2,qW,_⟩:=laid_sentinel h3.tail.tail.tail ahD awi Tryz.underlying86 ahB Tryz.underlying359 Tryz.underlying361 rfl rfl Tryz.underlying9 ah ah;obtain⟨m,hm⟩:=cell_of_shapedOpen_int (P:=Tryz.prog) (g:=0) (t:=3) (zero:=#[.int .i64 0]) Gk (uK ah) ah rfl ah ah Tryz.underlying3;refine⟨⟨m,hm⟩,?_,⟨_,_,by simpa using World.var?_cell ahD qW 0⟩,⟨_,_,by simpa using World.var?_cell ahC iO 0⟩,?_⟩
 ·exact Lib.tabIs_of_head awg ah Tryz.underlying317 Tryz.underlying196 ah ah h3
 ·obtain⟨cs,hh,_⟩:=Gk.1 7 (Array.replicate 64 (.int .u8 0)) 366 (uK ah) ah;exact(nB.1 hh).1
theorem awk (os:Os)(args:Array Value):laidMetH Tryz.prog Dz ((World.laidAll Tryz.prog os Dz).forCall (fun _ _=>0) ⟨#[],args,[]⟩).memory:=by
 rw[MakeChecks.laidMetH_plain _ _ _ ah];exact laidMet_laidAll _ ah ah
theorem awl {H:Type}{enc:TypeId×Value->H}{os:Os}{f:FuncId}{fn:Func}{s:ChangeSpec}(started:os.Started)(awm:Tryz.prog.inits.idxOf? f=none)(MY:Tryz.prog.funcs[f]? =some fn)
  (witness:∃(w:World) (tape:Tape) (i:Input),w.os=os/\(w.forCall tape i).Shaped Tryz.checked.prog/\i.vars=[]/\Input.okWide Tryz.checked.prog (w.forCall tape i) .any w.heap.size f i/\
   ((s.pre enc Tryz.checked.prog fn [] false (w.forCall tape i).memory i.args/\laidMetH Tryz.prog Dz (w.forCall tape i).memory)/\sizedMet enc Tryz.checked.prog fn (OpenSpec.ofChange s) false (w.forCall tape i).memory i.args)/\({}:Assume).holds Tryz.checked.prog (lone (Frame.enter Tryz.checked.prog f i.args .normal) [] (w.forCall tape i)))
  (contract:∀(W:World) (base:Nat) (args:Array Value) (ds gs:List (DataW H)) (before:List MemPlace),
   (∀(j:Nat) t v,fn.params[j]? =some t->args[j]? =some v->Value.okWide Tryz.prog W .any base t v)->
   DataW.Whole enc Tryz.prog fn.params.toList s.vars false W args.toList ds gs before->Gl W->
   Calls Tryz.prog f args W fun e W'=>∃v,e=.returned v/\s.post enc Tryz.prog fn false true false false W args v W'):
  ReturnsInHanded {} Tryz.checked os f .any (fun w args=>(s.pre enc Tryz.checked.prog fn [] false w args/\laidMetH Tryz.prog Dz w)/\sizedMet enc Tryz.checked.prog fn (OpenSpec.ofChange s) false w args) (s.post enc Tryz.checked.prog fn false true false false):=by
 refine returnsInHanded_of_calls own started awm witness ?_;intro w tape i _ Gk _ ct DA _;obtain⟨_,_,_,fn',awn,_,_,_,_,hval⟩:=ct;have e:fn'=fn:=ei (awn.symm.trans MY);subst e;obtain⟨⟨⟨ds,gs,before,hw,hc⟩,hx⟩,hz⟩:=DA;have hw':=DataW.Whole.of_heap (w':=w.forCall tape i) iY hw
 refine(contract (w.forCall tape i) w.heap.size i.args ds gs before hval hw' (awj (laidMetH.of_heap iY hx) Gk)).mono fun e W' ⟨v,he,hp⟩=> ?_
 subst he;exact ChangeSpec.post_blind hp
end
section
variable {done l:List Nat} {nx:Nat->List Nat}
def rz (nx:Nat->List Nat)(n:Nat):List Nat:=(List.range n).flatMap nx
structure pU (nx:Nat->List Nat)(n:Nat)(row:List Nat)(done:List Nat):Prop where
 nodup:row.Nodup
 lt:∀a∈row,a<n
 mem:∀b<n,b∈row↔done.count b=(rz nx n).count b
 order:∀(q:Nat) (b:Nat),row[q]? =some b->∀a<n,b∈nx a->a∈row.take q
theorem YU{n:Nat}(hn:l.Nodup)(hl:∀a∈l,a<n):(l++(List.range n).filter (fun a=>decide (a∉l))).Perm (List.range n):=by
 refine(List.perm_ext_iff_of_nodup ?_ Lv).2 fun a=> ?_
 ·rw[Lr];refine⟨hn,Lv.filter _,?_⟩;intro x hx y hy;rintro rfl;have:=(mq.1 hy).2;simp at this;exact this hx
 ·simp only[fJ,mq,fK,cP];constructor
  ·rintro(ha|ha)
   ·exact hl a ha
   ·exact ha.1
  ·intro ha;by_cases hr:a∈l
   ·exact .inl hr
   ·exact .inr ⟨ha,hr⟩
theorem ahE(nx:Nat->List Nat)(b:Nat){n:Nat}(hn:l.Nodup)(hl:∀a∈l,a<n):(l.flatMap nx).count b<=(rz nx n).count b:=by
 have:=(List.Perm.flatMap_right nx (YU hn hl)).count_eq b;rw[nC,Ac] at this;unfold rz;omega
theorem pU.step{n:Nat}{row:List Nat}(h:pU nx n row done)(k:Nat)(a:Nat)(hk:row[k]? =some a)(j:Nat)(b:Nat)(hj:(nx a)[j]? =some b)(hb:b<n)
  (hd:done=(row.take k).flatMap nx++(nx a).take j):b∉row/\done.count b<(rz nx n).count b/\
   ((rz nx n).count b=done.count b+1->pU nx n (row++[b]) (done++[b]))/\((rz nx n).count b≠done.count b+1->pU nx n row (done++[b])):=by
 have lW:=(bG.1 hk).1;have dV:=(bG.1 hj).1
 have cM:row.take (k+1)=row.take k++[a]:=by rw[Ci,hk];rfl
 have DA:(done++[b])<+:(row.take (k+1)).flatMap nx:=by
  rw[cM,nC,hd,List.append_assoc];refine(List.prefix_append_right_inj _).2 ?_
  have:(nx a).take j++[b]=(nx a).take (j+1):=by rw[Ci,hj];rfl
  rw[this];simp only[qu,List.flatMap_nil,uO];exact List.take_prefix _ _
 have cB:(row.take (k+1)).Nodup:=(List.take_sublist _ _).nodup h.nodup
 have ik:∀x∈row.take (k+1),x<n:=fun x hx=>h.lt x (uH hx)
 have hle:(done++[b]).count b<=(rz nx n).count b:=bh (DA.sublist.count_le b) (ahE nx b cB ik);have lu:(done++[b]).count b=done.count b+1:=ai;have hlt:done.count b<(rz nx n).count b:=ab
 have Bc:b∉row:=fun hm=>by have:=(h.mem b hb).1 hm;omega
 have ahF:∀x,x≠b->(done++[b]).count x=done.count x:=fun x hx=>by
  simp[Ac,Ne.symm hx]
 refine⟨Bc,hlt,fun he=> ?_,fun he=> ?_⟩
 ·refine⟨?_,?_,?_,?_⟩
  ·rw[Lr];refine⟨h.nodup,ai,?_⟩;intro x hx y hy;simp at hy;subst hy;rintro rfl;exact Bc hx
  ·intro x hx
   rcases fJ.1 hx with hx|hx
   ·exact h.lt x hx
   ·simp at hx;omega
  ·intro x hx;by_cases Bl:x=b
   ·subst Bl;simp[lu,he]
   ·rw[ahF x Bl,<-h.mem x hx];simp[Bl]
  ·intro q x hq c hc wY;by_cases fu:q<row.length
   ·rw[lJ fu] at hq;rw[sU ab];exact h.order q x hq c hc wY
   ·have rf:q=row.length:=by
     have:=(bG.1 hq).1;simp at this;omega
    subst rf;rw[jz aA] at hq;simp at hq;subst hq;rw[nW]
    refine EE fun tB=> ?_
    have hct:c∉row.take (k+1):=fun hm=>tB (uH hm)
    have ki:=ahE nx b (n:=n) (l:=c::row.take (k+1)) (List.nodup_cons.2 ⟨hct,cB⟩) (by
     intro y hy
     rcases bZ.1 hy with rfl|hy
     ·exact hc
     ·exact ik y hy)
    rw[qu,Ac] at ki;have h1:0<(nx c).count b:=List.count_pos_iff.2 wY;have h2:=DA.sublist.count_le b;omega
 ·refine⟨h.nodup,h.lt,?_,h.order⟩;intro x hx;by_cases Bl:x=b
  ·subst Bl;rw[lu];constructor
   ·intro hm;exact absurd hm Bc
   ·intro e;exact absurd e.symm he
  ·rw[ahF x Bl];exact h.mem x hx
theorem pU.full{n:Nat}{row:List Nat}(h:pU nx n row (row.flatMap nx))(hx:∀a<n,∀b∈nx a,a<b):∀i<n,i∈row:=by
 intro i
 induction i using Nat.strongRecOn with
 |_ i ih=>
  intro hi;rw[h.mem i hi];have hp:=YU h.nodup h.lt;have hc:=(List.Perm.flatMap_right nx hp).count_eq i;rw[nC,Ac] at hc
  have h0:(((List.range n).filter (fun a=>decide (a∉row))).flatMap nx).count i=0:=by
   rw[List.count_eq_zero];intro hm;obtain⟨a,ha,hia⟩:=yh.1 hm;obtain⟨h1,h2⟩:=mq.1 ha;simp only[fK,cP] at h1 h2;exact h2 (ih a (hx a h1 i hia) h1)
  unfold rz;omega
theorem pU.length{n:Nat}{row:List Nat}(h:pU nx n row (row.flatMap nx))(hx:∀a<n,∀b∈nx a,a<b):row.length=n:=by
 have hp:row.Perm (List.range n):=(List.perm_ext_iff_of_nodup h.nodup Lv).2 fun a=>⟨fun ha=>fK.2 (h.lt a ha),fun ha=>h.full hx a (fK.1 ha)⟩
 simpa using hp.length_eq
theorem pU.length_le{n:Nat}{row:List Nat}(h:pU nx n row done):row.length<=n:=by
 have:=(YU h.nodup h.lt).length_eq;rw[List.length_append,Aa] at this;omega
theorem pU.start(nx:Nat->List Nat)(n:Nat):pU nx n ((List.range n).filter fun i=>decide ((rz nx n).count i=0)) []:=by
 refine⟨Lv.filter _,fun a ha=>fK.1 (mq.1 ha).1,fun b hb=> ?_,fun q b hq a ha hba=> ?_⟩
 ·simp only[mq,fK,cP,List.count_nil];constructor
  ·rintro⟨_,h⟩;exact h.symm
  ·intro h;exact⟨hb,h.symm⟩
 ·have hm:=dD hq;have:=(mq.1 hm).2;simp only[cP,List.count_eq_zero] at this;exact absurd (yh.2 ⟨a,fK.2 ha,hba⟩) this
end
end Go.Proofs.YtngblilamkkikaaGreatDoor
