/- Walks. -/
import Derived.Test.YthamegenljmgmaaGreatDoorY01
import Derived.Shelf.Strings.Builder1
import Derived.Shelf.Strings.Trim
import Derived.Shelf.Small.Utf8
import Derived.Shelf.Small.Bits
import Derived.Shelf.Small.Strs
import Derived.Shelf.Small.Wraps
import Derived.Shelf.Strings.BuilderF
import Derived.Shelf.Strings.BuilderK
import Derived.Shelf.Strconv.Atoi
import Derived.Shelf.Strconv.Itoa0
import Derived.Shelf.Strconv.Itoa1
import Derived.Shelf.LaysM
import Derived.Shelf.Strconv.Itoa2
import Derived.Shelf.Strconv.Itoa3
import Derived.Shelf.Strconv.AtoiErrFast
import Derived.Shelf.Strconv.ParseIntEmpty
import Derived.Shelf.Strconv.AtoiFail
import Derived.Shelf.Strconv.Clone
import Derived.Shelf.Strconv.SyntaxError
import Derived.Shelf.LaysC
import Derived.Shelf.Strconv.ToError
import Derived.Shelf.Strconv.AtoiErr
import Derived.Shelf.Strconv.ErrVar
import Derived.Shelf.Strconv.Lower
import Derived.Shelf.Strconv.ParseUint10
import Derived.Shelf.Strconv.ParseUint10Empty
import Derived.Shelf.Strconv.ParseUint10Any
import Derived.Shelf.Strconv.ParseInt10
import Derived.Shelf.Strconv.AtoiLong
import Derived.Shelf.Strconv.AtoiInnerAll
import Derived.Shelf.Strconv.RangeError
import Derived.Shelf.Strconv.ToErrorRange
import Derived.Shelf.Strconv.AtoiAll
import Derived.Shelf.Strconv.ErrVarAll
import Derived.Shelf.Strings.Search1
import Derived.Shelf.Sort.Plain
import Derived.Shelf.Strings.Prefix
import Derived.Shelf.Unicode.Decode
import Derived.Shelf.Strings.Runes
import Derived.Shelf.Strings.AsciiSet
import Derived.Shelf.Unicode.DecodeSlow
import Derived.Shelf.Unicode.DecodeAny
import Derived.Shelf.Strings.BuilderCap
import Derived.Shelf.Slices.Turned
import Derived.Ground.Names2Prog
import Derived.Shelf.Slices.Clone
import Derived.Shelf.Slices.CompactI
import Derived.Shelf.Slices.SearchI
import Derived.Shelf.Slices.Cells
import Derived.Shelf.Slices.In.SortNone
import Derived.Ground.SlgnProg
import Derived.Shelf.SlicesE.Clone
import Derived.Test.YthamegenljmgmaaGreatDoorProg
set_option maxRecDepth 100000
set_option maxHeartbeats 16000000
set_option linter.unusedVariables false
set_option linter.unusedSimpArgs false
namespace Go.Proofs
open Go.Shelf
def Tryz.CX:Go.Shelf.Ren:=⟨fun|137=>142|217=>148|266=>160|n=>n,fun|9=>9|5=>5|3=>3|n=>n,fun|n=>n⟩
theorem Tryz.Sg:Go.Proofs.Lays.n137 Tryz.prog Tryz.CX:={mixed:=by kernel_rfl,f137:=Tryz.func142.t (congrArg some (by kernel_rfl)),f217:=Tryz.func148.t (congrArg some (by kernel_rfl)),f266:=Tryz.func160.t (congrArg some (by kernel_rfl)),t3:=Tryz.underlying3,a3:=Tryz.isAgg3,z3:=Tryz.sizeOf3,v3:=Tryz.zeroValue3,t5:=Tryz.underlying5,a5:=Tryz.isAgg5,z5:=Tryz.sizeOf5,v5:=Tryz.zeroValue5,t9:=Tryz.underlying9,a9:=Tryz.isAgg9,z9:=Tryz.sizeOf9,v9:=Tryz.zeroValue9}
open Go.RowKit in
theorem Tryz.strings_IndexByte (s:ByteArray)(c:Int)(w:World) :
 Calls Tryz.prog 142 #[.string s, .int .u8 c] w fun e w'=>e = .returned (.int .i64 (Lib.indexByte s.data.toList c.toNat.toUInt8))∧w' = w:=Any.strings_IndexByte Tryz.Sg s c w
def Tryz.CY:Go.Shelf.Ren:=⟨fun|103=>122|210=>137|206=>145|n=>n,fun|9=>9|4=>4|24=>167|3=>3|n=>n,fun|n=>n⟩
theorem Tryz.Sh:Go.Proofs.Lays.n103 Tryz.prog Tryz.CY:={mixed:=by kernel_rfl,f103:=Tryz.func122.t (congrArg some (by kernel_rfl)),f206:=Tryz.func145.t (congrArg some (by kernel_rfl)),f210:=Tryz.func137.t (congrArg some (by kernel_rfl)),t3:=Tryz.underlying3,a3:=Tryz.isAgg3,z3:=Tryz.sizeOf3,v3:=Tryz.zeroValue3,t4:=Tryz.underlying4,a4:=Tryz.isAgg4,z4:=Tryz.sizeOf4,v4:=Tryz.zeroValue4,t9:=Tryz.underlying9,a9:=Tryz.isAgg9,z9:=Tryz.sizeOf9,v9:=Tryz.zeroValue9,t24:=Tryz.underlying167,a24:=Tryz.isAgg167,z24:=Tryz.sizeOf167,v24:=Tryz.zeroValue167}
open Go.RowKit in
theorem Tryz.strings_CutPrefix (s p:ByteArray)(w:World) :
 Calls Tryz.prog 122 #[.string s, .string p] w fun e w'=>e = .returned (.tuple #[.string ⟨(Lib.trimPrefix s.data.toList p.data.toList).toArray⟩, .bool (Lib.hasPrefix s.data.toList p.data.toList)])∧w' = w:=Any.strings_CutPrefix Tryz.Sh s p w
def Tryz.T9:Go.Shelf.Ren:=⟨fun|214=>119|n=>n,fun|4=>4|9=>9|n=>n,fun|n=>n⟩
def Tryz.CZ:Go.Shelf.Ren:=⟨fun|121=>101|214=>119|n=>n,fun|4=>4|9=>9|n=>n,fun|n=>n⟩
theorem Tryz.Si:Go.Proofs.Lays.n121 Tryz.prog Tryz.CZ:={mixed:=by kernel_rfl,f121:=Tryz.func101.t (congrArg some (by kernel_rfl)),f214:=Tryz.func119.t (congrArg some (by kernel_rfl)),t4:=Tryz.underlying4,a4:=Tryz.isAgg4,z4:=Tryz.sizeOf4,v4:=Tryz.zeroValue4,t9:=Tryz.underlying9,a9:=Tryz.isAgg9,z9:=Tryz.sizeOf9,v9:=Tryz.zeroValue9}
open Go.RowKit in
theorem Tryz.strconv_FormatBool (b:Bool)(w:World) :
 Calls Tryz.prog 101 #[.bool b] w fun e w'=>e = .returned (.string ⟨(Lib.formatBool b).toArray⟩)∧w' = w:=Any.strconv_FormatBool Tryz.Si b w
def Tryz.Ua:Go.Shelf.Ren:=⟨fun|172=>144|244=>153|245=>147|247=>164|279=>156|280=>157|281=>158|282=>159|287=>146|316=>165|171=>39|205=>166|321=>154|322=>155|243=>66|246=>85|283=>108|284=>109|285=>110|286=>111|129=>97|317=>128|318=>129|319=>130|320=>131|337=>139|338=>140|n=>n,fun|9=>9|3=>3|75=>86|76=>87|4=>4|5=>5|167=>199|37=>78|0=>0|85=>208|2=>2|168=>201|53=>146|175=>184|46=>115|210=>212|127=>110|145=>217|143=>215|21=>21|171=>155|173=>157|212=>175|51=>144|20=>20|213=>176|232=>189|233=>190|80=>91|n=>n,fun|15=>3|16=>4|17=>0|18=>1|19=>2|n=>n⟩
def Tryz.Sj:Go.Shelf.Ren:=⟨fun|246=>85|283=>108|284=>109|285=>110|286=>111|129=>97|317=>128|318=>129|319=>130|320=>131|337=>139|338=>140|n=>n,fun|2=>2|3=>3|9=>9|4=>4|171=>155|0=>0|53=>146|37=>78|5=>5|173=>157|212=>175|51=>144|20=>20|213=>176|46=>115|232=>189|233=>190|n=>n,fun|17=>0|18=>1|19=>2|n=>n⟩
def Tryz.Sk:Go.Shelf.Ren:=⟨fun|243=>66|246=>85|283=>108|284=>109|285=>110|286=>111|129=>97|317=>128|318=>129|319=>130|320=>131|337=>139|338=>140|n=>n,fun|3=>3|9=>9|2=>2|4=>4|171=>155|0=>0|53=>146|37=>78|5=>5|173=>157|212=>175|51=>144|20=>20|213=>176|46=>115|232=>189|233=>190|n=>n,fun|17=>0|18=>1|19=>2|n=>n⟩
def Tryz.Ax:Go.Shelf.Ren:=⟨fun|171=>39|243=>66|246=>85|283=>108|284=>109|285=>110|286=>111|129=>97|317=>128|318=>129|319=>130|320=>131|337=>139|338=>140|n=>n,fun|3=>3|9=>9|2=>2|4=>4|171=>155|0=>0|53=>146|37=>78|5=>5|173=>157|212=>175|51=>144|20=>20|213=>176|46=>115|232=>189|233=>190|n=>n,fun|17=>0|18=>1|19=>2|n=>n⟩
theorem Tryz.Om:Go.Proofs.LaysM.n171 Tryz.prog Tryz.Ax:={mixed:=by kernel_rfl,f129:=Tryz.func97.t (congrArg some (by kernel_rfl)),f171:=Tryz.func39.t (congrArg some (by kernel_rfl)),f243:=Tryz.func66.t (congrArg some (by kernel_rfl)),f246:=Tryz.func85.t (congrArg some (by kernel_rfl)),f283:=Tryz.func108.t (congrArg some (by kernel_rfl)),f284:=Tryz.func109.t (congrArg some (by kernel_rfl)),f285:=Tryz.func110.t (congrArg some (by kernel_rfl)),f286:=Tryz.func111.t (congrArg some (by kernel_rfl)),f317:=Tryz.func128.t (congrArg some (by kernel_rfl)),f318:=Tryz.func129.t (congrArg some (by kernel_rfl)),f319:=Tryz.func130.t (congrArg some (by kernel_rfl)),f320:=Tryz.func131.t (congrArg some (by kernel_rfl)),f337:=Tryz.func139.t (congrArg some (by kernel_rfl)),f338:=Tryz.func140.t (congrArg some (by kernel_rfl)),t0:=Tryz.underlying0,a0:=Tryz.isAgg0,z0:=Tryz.sizeOf0,v0:=Tryz.zeroValue0,t2:=Tryz.underlying2,a2:=Tryz.isAgg2,z2:=Tryz.sizeOf2,v2:=Tryz.zeroValue2,t3:=Tryz.underlying3,a3:=Tryz.isAgg3,z3:=Tryz.sizeOf3,v3:=Tryz.zeroValue3,t4:=Tryz.underlying4,a4:=Tryz.isAgg4,z4:=Tryz.sizeOf4,v4:=Tryz.zeroValue4,t5:=Tryz.underlying5,a5:=Tryz.isAgg5,z5:=Tryz.sizeOf5,v5:=Tryz.zeroValue5,t9:=Tryz.underlying9,a9:=Tryz.isAgg9,z9:=Tryz.sizeOf9,v9:=Tryz.zeroValue9,t20:=Tryz.underlying20,a20:=Tryz.isAgg20,z20:=Tryz.sizeOf20,v20:=Tryz.zeroValue20,t37:=Tryz.underlying78,a37:=Tryz.isAgg78,z37:=Tryz.sizeOf78,v37:=Tryz.zeroValue78,t46:=Tryz.underlying115,a46:=Tryz.isAgg115,z46:=Tryz.sizeOf115,v46:=Tryz.zeroValue115,t51:=Tryz.underlying144,a51:=Tryz.isAgg144,z51:=Tryz.sizeOf144,v51:=Tryz.zeroValue144,t53:=Tryz.underlying146,a53:=Tryz.isAgg146,z53:=Tryz.sizeOf146,v53:=Tryz.zeroValue146,t171:=Tryz.underlying155,a171:=Tryz.isAgg155,z171:=Tryz.sizeOf155,v171:=Tryz.zeroValue155,t173:=Tryz.underlying157,a173:=Tryz.isAgg157,z173:=Tryz.sizeOf157,v173:=Tryz.zeroValue157,t212:=Tryz.underlying175,a212:=Tryz.isAgg175,z212:=Tryz.sizeOf175,v212:=Tryz.zeroValue175,t213:=Tryz.underlying176,a213:=Tryz.isAgg176,z213:=Tryz.sizeOf176,t232:=Tryz.underlying189,a232:=Tryz.isAgg189,z232:=Tryz.sizeOf189,v232:=Tryz.zeroValue189,t233:=Tryz.underlying190,a233:=Tryz.isAgg190,z233:=Tryz.sizeOf190,v233:=Tryz.zeroValue190,g17:=by kernel_rfl,g18:=by kernel_rfl,g19:=by kernel_rfl,i0:=by kernel_rfl,i2:=by kernel_rfl,i3:=by kernel_rfl,i4:=by kernel_rfl,i5:=by kernel_rfl,i9:=by kernel_rfl,i20:=by kernel_rfl,i37:=by kernel_rfl,i46:=by kernel_rfl,i51:=by kernel_rfl,i53:=by kernel_rfl,i171:=by kernel_rfl,i173:=by kernel_rfl,i212:=by kernel_rfl,i232:=by kernel_rfl,i233:=by kernel_rfl,m17:=by kernel_rfl,m18:=by kernel_rfl,m19:=by kernel_rfl}
open Go.RowKit Go.Sort Go.Lib in
theorem Tryz.strconv_Itoa (n:Int)(h0 : -9223372036854775808≤n)(h1:n≤9223372036854775807)(w:World)(ak3:Lib.TabIs Tryz.prog w "internal/strconv.uint64pow10" .u64 Lib.pow10Tab) :
 Calls Tryz.prog 39 #[.int .i64 n] w fun e w'=>e = .returned (.string ⟨(Lib.itoa n).toArray⟩)∧∃ k os,w' = grow (w.drewN k) os:=Any.strconv_Itoa Tryz.Om n h0 h1 w ak3
def Tryz.Ay:Go.Shelf.Ren:=⟨fun|172=>144|244=>153|245=>147|247=>164|279=>156|280=>157|281=>158|282=>159|287=>146|316=>165|171=>39|205=>166|321=>154|322=>155|243=>66|246=>85|283=>108|284=>109|285=>110|286=>111|129=>97|317=>128|318=>129|319=>130|320=>131|337=>139|338=>140|n=>n,fun|9=>9|3=>3|75=>86|76=>87|4=>4|5=>5|167=>199|37=>78|0=>0|85=>208|2=>2|168=>201|53=>146|175=>184|46=>115|210=>212|127=>110|145=>217|143=>215|21=>21|171=>155|173=>157|212=>175|51=>144|20=>20|213=>176|232=>189|233=>190|80=>91|n=>n,fun|15=>3|16=>4|17=>0|18=>1|19=>2|n=>n⟩
theorem Tryz.On:Go.Proofs.LaysC.n172 Tryz.prog Tryz.Ay:={mixed:=by kernel_rfl,f129:=Tryz.func97.t (congrArg some (by kernel_rfl)),f171:=Tryz.func39.t (congrArg some (by kernel_rfl)),f172:=Tryz.func144.t (congrArg some (by kernel_rfl)),f205:=Tryz.func166.t (congrArg some (by kernel_rfl)),f243:=Tryz.func66.t (congrArg some (by kernel_rfl)),f244:=Tryz.func153.t (congrArg some (by kernel_rfl)),f245:=Tryz.func147.t (congrArg some (by kernel_rfl)),f246:=Tryz.func85.t (congrArg some (by kernel_rfl)),f247:=Tryz.func164.t (congrArg some (by kernel_rfl)),f279:=Tryz.func156.t (congrArg some (by kernel_rfl)),f280:=Tryz.func157.t (congrArg some (by kernel_rfl)),f281:=Tryz.func158.t (congrArg some (by kernel_rfl)),f282:=Tryz.func159.t (congrArg some (by kernel_rfl)),f283:=Tryz.func108.t (congrArg some (by kernel_rfl)),f284:=Tryz.func109.t (congrArg some (by kernel_rfl)),f285:=Tryz.func110.t (congrArg some (by kernel_rfl)),f286:=Tryz.func111.t (congrArg some (by kernel_rfl)),f287:=Tryz.func146.t (congrArg some (by kernel_rfl)),f316:=Tryz.func165.t (congrArg some (by kernel_rfl)),f317:=Tryz.func128.t (congrArg some (by kernel_rfl)),f318:=Tryz.func129.t (congrArg some (by kernel_rfl)),f319:=Tryz.func130.t (congrArg some (by kernel_rfl)),f320:=Tryz.func131.t (congrArg some (by kernel_rfl)),f321:=Tryz.func154.t (congrArg some (by kernel_rfl)),f322:=Tryz.func155.t (congrArg some (by kernel_rfl)),f337:=Tryz.func139.t (congrArg some (by kernel_rfl)),f338:=Tryz.func140.t (congrArg some (by kernel_rfl)),t0:=Tryz.underlying0,a0:=Tryz.isAgg0,z0:=Tryz.sizeOf0,v0:=Tryz.zeroValue0,t2:=Tryz.underlying2,a2:=Tryz.isAgg2,z2:=Tryz.sizeOf2,v2:=Tryz.zeroValue2,t3:=Tryz.underlying3,a3:=Tryz.isAgg3,z3:=Tryz.sizeOf3,v3:=Tryz.zeroValue3,t4:=Tryz.underlying4,a4:=Tryz.isAgg4,z4:=Tryz.sizeOf4,v4:=Tryz.zeroValue4,t5:=Tryz.underlying5,a5:=Tryz.isAgg5,z5:=Tryz.sizeOf5,v5:=Tryz.zeroValue5,t9:=Tryz.underlying9,a9:=Tryz.isAgg9,z9:=Tryz.sizeOf9,v9:=Tryz.zeroValue9,t20:=Tryz.underlying20,a20:=Tryz.isAgg20,z20:=Tryz.sizeOf20,v20:=Tryz.zeroValue20,t21:=Tryz.underlying21,a21:=Tryz.isAgg21,z21:=Tryz.sizeOf21,v21:=Tryz.zeroValue21,t37:=Tryz.underlying78,a37:=Tryz.isAgg78,z37:=Tryz.sizeOf78,v37:=Tryz.zeroValue78,t46:=Tryz.underlying115,a46:=Tryz.isAgg115,z46:=Tryz.sizeOf115,v46:=Tryz.zeroValue115,t51:=Tryz.underlying144,a51:=Tryz.isAgg144,z51:=Tryz.sizeOf144,v51:=Tryz.zeroValue144,t53:=Tryz.underlying146,a53:=Tryz.isAgg146,z53:=Tryz.sizeOf146,v53:=Tryz.zeroValue146,t75:=Tryz.underlying86,a75:=Tryz.isAgg86,z75:=Tryz.sizeOf86,v75:=Tryz.zeroValue86,t76:=Tryz.underlying87,a76:=Tryz.isAgg87,z76:=Tryz.sizeOf87,v76:=Tryz.zeroValue87,t85:=Tryz.underlying208,a85:=Tryz.isAgg208,z85:=Tryz.sizeOf208,v85:=Tryz.zeroValue208,t127:=Tryz.underlying110,a127:=Tryz.isAgg110,z127:=Tryz.sizeOf110,v127:=Tryz.zeroValue110,t143:=Tryz.underlying215,a143:=Tryz.isAgg215,z143:=Tryz.sizeOf215,v143:=Tryz.zeroValue215,t145:=Tryz.underlying217,a145:=Tryz.isAgg217,z145:=Tryz.sizeOf217,v145:=Tryz.zeroValue217,t167:=Tryz.underlying199,a167:=Tryz.isAgg199,z167:=Tryz.sizeOf199,v167:=Tryz.zeroValue199,t168:=Tryz.underlying201,a168:=Tryz.isAgg201,z168:=Tryz.sizeOf201,v168:=Tryz.zeroValue201,t171:=Tryz.underlying155,a171:=Tryz.isAgg155,z171:=Tryz.sizeOf155,v171:=Tryz.zeroValue155,t173:=Tryz.underlying157,a173:=Tryz.isAgg157,z173:=Tryz.sizeOf157,v173:=Tryz.zeroValue157,t175:=Tryz.underlying184,a175:=Tryz.isAgg184,z175:=Tryz.sizeOf184,v175:=Tryz.zeroValue184,t210:=Tryz.underlying212,a210:=Tryz.isAgg212,z210:=Tryz.sizeOf212,v210:=Tryz.zeroValue212,t212:=Tryz.underlying175,a212:=Tryz.isAgg175,z212:=Tryz.sizeOf175,v212:=Tryz.zeroValue175,t213:=Tryz.underlying176,a213:=Tryz.isAgg176,z213:=Tryz.sizeOf176,t232:=Tryz.underlying189,a232:=Tryz.isAgg189,z232:=Tryz.sizeOf189,v232:=Tryz.zeroValue189,t233:=Tryz.underlying190,a233:=Tryz.isAgg190,z233:=Tryz.sizeOf190,v233:=Tryz.zeroValue190,g15:=by kernel_rfl,g16:=by kernel_rfl,g17:=by kernel_rfl,g18:=by kernel_rfl,g19:=by kernel_rfl,t80:=Tryz.underlying91,a80:=Tryz.isAgg91,z80:=Tryz.sizeOf91,v80:=Tryz.zeroValue91,i0:=by kernel_rfl,i2:=by kernel_rfl,i3:=by kernel_rfl,i4:=by kernel_rfl,i5:=by kernel_rfl,i9:=by kernel_rfl,i20:=by kernel_rfl,i21:=by kernel_rfl,i37:=by kernel_rfl,i46:=by kernel_rfl,i51:=by kernel_rfl,i53:=by kernel_rfl,i75:=by kernel_rfl,i76:=by kernel_rfl,i80:=by kernel_rfl,i85:=by kernel_rfl,i127:=by kernel_rfl,i143:=by kernel_rfl,i145:=by kernel_rfl,i167:=by kernel_rfl,i168:=by kernel_rfl,i171:=by kernel_rfl,i173:=by kernel_rfl,i175:=by kernel_rfl,i210:=by kernel_rfl,i212:=by kernel_rfl,i232:=by kernel_rfl,i233:=by kernel_rfl,m15:=by kernel_rfl,m16:=by kernel_rfl,m17:=by kernel_rfl,m18:=by kernel_rfl,m19:=by kernel_rfl,c0:=by kernel_rfl,c2:=by kernel_rfl,c3:=by kernel_rfl,c4:=by kernel_rfl,c5:=by kernel_rfl,c9:=by kernel_rfl,c20:=by kernel_rfl,c21:=by kernel_rfl,c37:=by kernel_rfl,c46:=by kernel_rfl,c51:=by kernel_rfl,c53:=by kernel_rfl,c75:=by kernel_rfl,c76:=by kernel_rfl,c80:=by kernel_rfl,c85:=by kernel_rfl,c127:=by kernel_rfl,c143:=by kernel_rfl,c145:=by kernel_rfl,c167:=by kernel_rfl,c168:=by kernel_rfl,c171:=by kernel_rfl,c173:=by kernel_rfl,c175:=by kernel_rfl,c210:=by kernel_rfl,c212:=by kernel_rfl,c213:=by kernel_rfl,c232:=by kernel_rfl,c233:=by kernel_rfl}
open Go.RowKit in
theorem Tryz.strconv_Atoi_ok (s:ByteArray)(ak4:s.size≤9223372036854775806)(v:Int)(h:Lib.atoiAll s.data.toList = .ok v)(w:World) :
 Calls Tryz.prog 144 #[.string s] w fun e w'=>e = .returned (.tuple #[.int .i64 v, .nilIface])∧(w' = w ∨ ∃ t,w' = Lib.bytesWorld w 5 t):=Any.strconv_Atoi_ok Tryz.On s ak4 v h w
def Tryz.C0:Go.Shelf.Ren:=⟨fun|189=>43|125=>70|257=>69|128=>96|129=>97|294=>87|295=>88|296=>89|297=>90|298=>91|299=>92|216=>93|300=>94|301=>95|328=>112|329=>113|330=>114|331=>115|332=>116|215=>117|343=>132|n=>n,fun|28=>22|3=>3|46=>115|0=>0|51=>144|53=>146|4=>4|183=>137|182=>136|131=>90|5=>5|9=>9|218=>159|222=>163|228=>177|229=>178|n=>n,fun|n=>n⟩
theorem Tryz.G5:Go.Proofs.Lays.n189 Tryz.prog Tryz.C0:={mixed:=by kernel_rfl,f125:=Tryz.func70.t (congrArg some (by kernel_rfl)),f128:=Tryz.func96.t (congrArg some (by kernel_rfl)),f129:=Tryz.func97.t (congrArg some (by kernel_rfl)),f189:=Tryz.func43.t (congrArg some (by kernel_rfl)),f215:=Tryz.func117.t (congrArg some (by kernel_rfl)),f216:=Tryz.func93.t (congrArg some (by kernel_rfl)),f257:=Tryz.func69.t (congrArg some (by kernel_rfl)),f294:=Tryz.func87.t (congrArg some (by kernel_rfl)),f295:=Tryz.func88.t (congrArg some (by kernel_rfl)),f296:=Tryz.func89.t (congrArg some (by kernel_rfl)),f297:=Tryz.func90.t (congrArg some (by kernel_rfl)),f298:=Tryz.func91.t (congrArg some (by kernel_rfl)),f299:=Tryz.func92.t (congrArg some (by kernel_rfl)),f300:=Tryz.func94.t (congrArg some (by kernel_rfl)),f301:=Tryz.func95.t (congrArg some (by kernel_rfl)),f328:=Tryz.func112.t (congrArg some (by kernel_rfl)),f329:=Tryz.func113.t (congrArg some (by kernel_rfl)),f330:=Tryz.func114.t (congrArg some (by kernel_rfl)),f331:=Tryz.func115.t (congrArg some (by kernel_rfl)),f332:=Tryz.func116.t (congrArg some (by kernel_rfl)),f343:=Tryz.func132.t (congrArg some (by kernel_rfl)),t0:=Tryz.underlying0,a0:=Tryz.isAgg0,z0:=Tryz.sizeOf0,v0:=Tryz.zeroValue0,t3:=Tryz.underlying3,a3:=Tryz.isAgg3,z3:=Tryz.sizeOf3,v3:=Tryz.zeroValue3,t4:=Tryz.underlying4,a4:=Tryz.isAgg4,z4:=Tryz.sizeOf4,v4:=Tryz.zeroValue4,t5:=Tryz.underlying5,a5:=Tryz.isAgg5,z5:=Tryz.sizeOf5,v5:=Tryz.zeroValue5,t9:=Tryz.underlying9,a9:=Tryz.isAgg9,z9:=Tryz.sizeOf9,v9:=Tryz.zeroValue9,t28:=Tryz.underlying22,a28:=Tryz.isAgg22,z28:=Tryz.sizeOf22,v28:=Tryz.zeroValue22,t46:=Tryz.underlying115,a46:=Tryz.isAgg115,z46:=Tryz.sizeOf115,v46:=Tryz.zeroValue115,t51:=Tryz.underlying144,a51:=Tryz.isAgg144,z51:=Tryz.sizeOf144,v51:=Tryz.zeroValue144,t53:=Tryz.underlying146,a53:=Tryz.isAgg146,z53:=Tryz.sizeOf146,v53:=Tryz.zeroValue146,t131:=Tryz.underlying90,a131:=Tryz.isAgg90,z131:=Tryz.sizeOf90,v131:=Tryz.zeroValue90,t182:=Tryz.underlying136,a182:=Tryz.isAgg136,z182:=Tryz.sizeOf136,v182:=Tryz.zeroValue136,t183:=Tryz.underlying137,a183:=Tryz.isAgg137,z183:=Tryz.sizeOf137,v183:=Tryz.zeroValue137,t218:=Tryz.underlying159,a218:=Tryz.isAgg159,z218:=Tryz.sizeOf159,v218:=Tryz.zeroValue159,t222:=Tryz.underlying163,a222:=Tryz.isAgg163,z222:=Tryz.sizeOf163,v222:=Tryz.zeroValue163,t228:=Tryz.underlying177,a228:=Tryz.isAgg177,z228:=Tryz.sizeOf177,v228:=Tryz.zeroValue177,t229:=Tryz.underlying178,a229:=Tryz.isAgg178,z229:=Tryz.sizeOf178,v229:=Tryz.zeroValue178}
open Go.Sort Go.RowKit in
theorem Tryz.slices_Sort_int (aq off cap:Nat)(zs:List Int)(w:World)(hH:Holds (Value.int .i64) w aq off zs.toArray)(kR:aq < w.heap.size)(jn:zs.length < 4611686018427387904) :
 Calls Tryz.prog 43 #[.slice (some ⟨aq,off,none⟩) zs.length cap] w fun e w'=>
   e = .returned (.tuple #[])∧∃ n os,w' = grow (putRow (Value.int .i64) (Sort.ahead w n) aq off (zs.mergeSort fun x y=>decide (x≤y)).toArray) os:=Any.slices_Sort_int Tryz.G5 aq off cap zs w hH kR jn
def Tryz.C3:Go.Shelf.Ren:=⟨fun|227=>150|n=>n,fun|9=>9|116=>194|4=>4|0=>0|3=>3|5=>5|n=>n,fun|n=>n⟩
theorem Tryz.Sl:Go.Proofs.Lays.n227 Tryz.prog Tryz.C3:={mixed:=by kernel_rfl,f227:=Tryz.func150.t (congrArg some (by kernel_rfl)),t0:=Tryz.underlying0,a0:=Tryz.isAgg0,z0:=Tryz.sizeOf0,v0:=Tryz.zeroValue0,t3:=Tryz.underlying3,a3:=Tryz.isAgg3,z3:=Tryz.sizeOf3,v3:=Tryz.zeroValue3,t4:=Tryz.underlying4,a4:=Tryz.isAgg4,z4:=Tryz.sizeOf4,v4:=Tryz.zeroValue4,t5:=Tryz.underlying5,a5:=Tryz.isAgg5,z5:=Tryz.sizeOf5,v5:=Tryz.zeroValue5,t9:=Tryz.underlying9,a9:=Tryz.isAgg9,z9:=Tryz.sizeOf9,v9:=Tryz.zeroValue9,t116:=Tryz.underlying194,a116:=Tryz.isAgg194,z116:=Tryz.sizeOf194}
open Go.RowKit Go.Lib in
theorem Tryz.strings_makeASCIISet (aec : ∀ w,(zeroValue 194).run Tryz.prog w = .ok (.agg (Array.replicate 256 (.bool false))) w)(chars:ByteArray)(w:World)(hs:chars.size < 4294967281)(XX : ∀ (j:Nat) b,chars.data.toList[j]? = some b→b.toNat < 128) :
 Calls Tryz.prog 150 #[.string chars] w fun e w'=>e = .returned (.tuple #[.agg (Lib.setCells chars.data.toList), .bool true])∧w' = w.alloc (.cells (Lib.setCells chars.data.toList) 194):=Any.strings_makeASCIISet Tryz.Sl aec (by kernel_rfl) chars w hs XX
def Tryz.C4:Go.Shelf.Ren:=⟨fun|228=>161|n=>n,fun|124=>198|5=>5|4=>4|0=>0|116=>194|n=>n,fun|n=>n⟩
theorem Tryz.Sm:Go.Proofs.Lays.n228 Tryz.prog Tryz.C4:={mixed:=by kernel_rfl,f228:=Tryz.func161.t (congrArg some (by kernel_rfl)),t0:=Tryz.underlying0,a0:=Tryz.isAgg0,z0:=Tryz.sizeOf0,v0:=Tryz.zeroValue0,t4:=Tryz.underlying4,a4:=Tryz.isAgg4,z4:=Tryz.sizeOf4,v4:=Tryz.zeroValue4,t5:=Tryz.underlying5,a5:=Tryz.isAgg5,z5:=Tryz.sizeOf5,v5:=Tryz.zeroValue5,t116:=Tryz.underlying194,a116:=Tryz.isAgg194,z116:=Tryz.sizeOf194,t124:=Tryz.underlying198,a124:=Tryz.isAgg198,z124:=Tryz.sizeOf198,v124:=Tryz.zeroValue198}
open Go.RowKit Go.Lib in
theorem Tryz.asciiSet_contains (b:Nat)(x:UInt8)(v:Bool)(w:World)(hc:w.cell? ⟨b,x.toNat,none⟩ = some (.bool v)) :
 Calls Tryz.prog 161 #[.pointer (some ⟨b,0,none⟩), .int .u8 x.toNat] w fun e w'=>e = .returned (.bool v)∧w' = w:=Any.asciiSet_contains Tryz.Sm b x v w hc
def Tryz.C5:Go.Shelf.Ren:=⟨fun|108=>47|n=>n,fun|28=>22|3=>3|0=>0|4=>4|n=>n,fun|n=>n⟩
theorem Tryz.Sn:Go.Proofs.Lays.n108 Tryz.prog Tryz.C5:={mixed:=by kernel_rfl,f108:=Tryz.func47.t (congrArg some (by kernel_rfl)),t0:=Tryz.underlying0,a0:=Tryz.isAgg0,z0:=Tryz.sizeOf0,v0:=Tryz.zeroValue0,t3:=Tryz.underlying3,a3:=Tryz.isAgg3,z3:=Tryz.sizeOf3,v3:=Tryz.zeroValue3,t4:=Tryz.underlying4,a4:=Tryz.isAgg4,z4:=Tryz.sizeOf4,v4:=Tryz.zeroValue4,t28:=Tryz.underlying22,a28:=Tryz.isAgg22,z28:=Tryz.sizeOf22,v28:=Tryz.zeroValue22}
open Go.Lib in
theorem Tryz.slices_Index_int (b off n c:Nat)(zs:List Int)(x:Int)(w:World)(hz:n≤zs.length)(xj:n≤9223372036854775807)(hc : ∀ j,j < zs.length→w.cell? ⟨b,off + j,none⟩ = some (.int .i64 (zs.getD j 0))) :
 Calls Tryz.prog 47 #[.slice (some ⟨b,off,none⟩) n c, .int .i64 x] w fun e w'=>e = .returned (.int .i64 (Lib.idxOf (zs.take n) x))∧w' = w:=Any.slices_Index_int Tryz.Sn b off n c zs x w hz xj hc
def Tryz.xI:Go.Shelf.Ren:=⟨fun|15=>42|n=>n,fun|22=>22|3=>3|4=>4|n=>n,fun|n=>n⟩
theorem Tryz.yK:Go.Proofs.Lays2.n15 Tryz.prog Tryz.xI:={mixed:=by kernel_rfl,f15:=Tryz.func42.t (congrArg some (by kernel_rfl)),t3:=Tryz.underlying3,a3:=Tryz.isAgg3,z3:=Tryz.sizeOf3,v3:=Tryz.zeroValue3,t4:=Tryz.underlying4,a4:=Tryz.isAgg4,z4:=Tryz.sizeOf4,v4:=Tryz.zeroValue4,t22:=Tryz.underlying22,a22:=Tryz.isAgg22,z22:=Tryz.sizeOf22,v22:=Tryz.zeroValue22,i3:=by kernel_rfl}
open Go.RowKit Go.Lib in
theorem Tryz.slices_Clone_int (b off n c:Nat)(zs:List Int)(w:World)(hz:n≤zs.length)(xj:n * 8≤140737488355328)(hc : ∀ j,j < zs.length→w.cell? ⟨b,off + j,none⟩ = some (.int .i64 (zs.getD j 0))) :
 Calls Tryz.prog 42 #[.slice (some ⟨b,off,none⟩) n c] w fun e w'=>∃ v',e = .returned v'∧w'.ownsRow w.heap.size 3 1 v' n ((zs.take n).map (Value.int .i64))∧v' ≠ .slice none 0 0∧Below w.heap.size w w':=Any.slices_Clone_int Tryz.yK b off n c zs w hz xj hc
open Go.RowKit Go.Lib in
theorem Tryz.slices_Clone_int_nil (n c:Nat)(w:World) :
 Calls Tryz.prog 42 #[.slice none n c] w fun e w'=>e = .returned (.slice none 0 0)∧w' = w:=Any.slices_Clone_int_nil Tryz.yK n c w
def Tryz.xJ:Go.Shelf.Ren:=⟨fun|20=>44|n=>n,fun|22=>22|3=>3|4=>4|0=>0|n=>n,fun|n=>n⟩
theorem Tryz.yL:Go.Proofs.Lays2.n20 Tryz.prog Tryz.xJ:={mixed:=by kernel_rfl,f20:=Tryz.func44.t (congrArg some (by kernel_rfl)),t0:=Tryz.underlying0,a0:=Tryz.isAgg0,z0:=Tryz.sizeOf0,v0:=Tryz.zeroValue0,t3:=Tryz.underlying3,a3:=Tryz.isAgg3,z3:=Tryz.sizeOf3,v3:=Tryz.zeroValue3,t4:=Tryz.underlying4,a4:=Tryz.isAgg4,z4:=Tryz.sizeOf4,v4:=Tryz.zeroValue4,t22:=Tryz.underlying22,a22:=Tryz.isAgg22,z22:=Tryz.sizeOf22,v22:=Tryz.zeroValue22,i3:=by kernel_rfl}
open Go.RowKit Go.Lib Go.Sort in
theorem Tryz.slices_Compact_int (aq off cap:Nat)(zs:List Int)(w:World)(hH:Holds (Value.int .i64) w aq off zs.toArray)(jn:zs.length≤9223372036854775807)(adR:zs.length≤cap) :
 Calls Tryz.prog 44 #[.slice (some ⟨aq,off,none⟩) zs.length cap] w fun e w'=>e = .returned (.slice (some ⟨aq,off,none⟩) (Lib.compact zs).length cap)∧∃ q,w' = putRow (Value.int .i64) (Sort.ahead w q) aq off (Lib.compact zs ++ List.replicate (zs.length - (Lib.compact zs).length) 0).toArray:=Any.slices_Compact_int Tryz.yL aq off cap zs w hH jn adR
open Go.RowKit Go.Lib Go.Sort in
theorem Tryz.slices_Compact_int_empty (a:Option Addr)(cap:Nat)(w:World) :
 Calls Tryz.prog 44 #[.slice a 0 cap] w fun e w'=>e = .returned (.slice a 0 cap)∧w' = w:=Any.slices_Compact_int_empty Tryz.yL a cap w
open Go.RowKit Go.Sort in
theorem Tryz.slices_Sort_int_none (p:Option Addr)(cap:Nat)(w:World) :
 Calls Tryz.prog 43 #[.slice p 0 cap] w fun e w'=>e = .returned (.tuple #[])∧w' = w:=Any.slices_Sort_int_none Tryz.G5 p cap w
end Go.Proofs
