/- Walks. -/
import Derived.Test.YtdmoogjddmdmbaaGreatDoorX01
import Derived.Shelf.Strings.Builder1
import Derived.Shelf.Small.Bits
import Derived.Shelf.Small.Wraps
import Derived.Shelf.Strings.BuilderF
import Derived.Shelf.Strings.BuilderK
import Derived.Shelf.Strconv.Itoa0
import Derived.Shelf.Strconv.Itoa1
import Derived.Shelf.LaysM
import Derived.Shelf.Strconv.Itoa2
import Derived.Shelf.Strconv.Itoa3
import Derived.Shelf.Strings.Search1
import Derived.Shelf.Sort.Plain
import Derived.Shelf.Strings.BuilderCap
import Derived.Shelf.Slices.Turned
import Derived.Ground.Names2Prog
import Derived.Shelf.Slices.Clone
import Derived.Shelf.Slices.CompactI
import Derived.Shelf.Slices.SearchI
import Derived.Shelf.Slices.Cells
import Derived.Shelf.Slices.In.SortNone
import Derived.Shelf.Bytes.SlIndexSmall
import Derived.Shelf.Bytes.SlIndexAt
import Derived.Shelf.Bytes.SlSearch0
import Derived.Shelf.Bytes.SlSearch1
import Derived.Shelf.Bytes.SlSearch2
import Derived.Shelf.Bytes.SlIndexWhole
import Derived.Ground.SlgnProg
import Derived.Shelf.SlicesE.Clone
import Derived.Shelf.Bytes.Small
import Derived.Shelf.Bytes.IndexByte
import Derived.Test.YtdmoogjddmdmbaaGreatDoorProg
set_option maxRecDepth 100000
set_option maxHeartbeats 16000000
set_option linter.unusedVariables false
set_option linter.unusedSimpArgs false
namespace Go.Proofs
open Go.Shelf
def Tryz.CZ:Go.Shelf.Ren:=⟨fun|125=>78|128=>105|129=>106|n=>n,fun|46=>133|3=>3|51=>105|53=>160|4=>4|5=>5|9=>9|n=>n,fun|n=>n⟩
theorem Tryz.SJ:Go.Proofs.Lays.n125 Tryz.prog Tryz.CZ:={mixed:=by kernel_rfl,f125:=Tryz.func78.trans (congrArg some (by kernel_rfl)),f128:=Tryz.func105.trans (congrArg some (by kernel_rfl)),f129:=Tryz.func106.trans (congrArg some (by kernel_rfl)),t3:=Tryz.underlying3,a3:=Tryz.isAgg3,z3:=Tryz.sizeOf3,v3:=Tryz.zeroValue3,t4:=Tryz.underlying4,a4:=Tryz.isAgg4,z4:=Tryz.sizeOf4,v4:=Tryz.zeroValue4,t5:=Tryz.underlying5,a5:=Tryz.isAgg5,z5:=Tryz.sizeOf5,v5:=Tryz.zeroValue5,t9:=Tryz.underlying9,a9:=Tryz.isAgg9,z9:=Tryz.sizeOf9,v9:=Tryz.zeroValue9,t46:=Tryz.underlying133,a46:=Tryz.isAgg133,z46:=Tryz.sizeOf133,v46:=Tryz.zeroValue133,t51:=Tryz.underlying105,a51:=Tryz.isAgg105,z51:=Tryz.sizeOf105,v51:=Tryz.zeroValue105,t53:=Tryz.underlying160,a53:=Tryz.isAgg160,z53:=Tryz.sizeOf160,v53:=Tryz.zeroValue160}
theorem Tryz.bits_Len (x:Int)(w:World)(h0:0≤x)(h1:x≤18446744073709551615) :
 Calls Tryz.prog 78 #[.int .u64 x] w fun e w'=>e = .returned (.int .i64 (Lib.bitLen x.toNat))∧w' = w:=Any.bits_Len Tryz.SJ x w h0 h1
def Tryz.Uv:Go.Shelf.Ren:=⟨fun|214=>227|n=>n,fun|4=>4|9=>9|n=>n,fun|n=>n⟩
def Tryz.C0:Go.Shelf.Ren:=⟨fun|121=>218|214=>227|n=>n,fun|4=>4|9=>9|n=>n,fun|n=>n⟩
theorem Tryz.SK:Go.Proofs.Lays.n121 Tryz.prog Tryz.C0:={mixed:=by kernel_rfl,f121:=Tryz.func218.trans (congrArg some (by kernel_rfl)),f214:=Tryz.func227.trans (congrArg some (by kernel_rfl)),t4:=Tryz.underlying4,a4:=Tryz.isAgg4,z4:=Tryz.sizeOf4,v4:=Tryz.zeroValue4,t9:=Tryz.underlying9,a9:=Tryz.isAgg9,z9:=Tryz.sizeOf9,v9:=Tryz.zeroValue9}
open Go.RowKit in
theorem Tryz.strconv_FormatBool (b:Bool)(w:World) :
 Calls Tryz.prog 218 #[.bool b] w fun e w'=>e = .returned (.string ⟨(Lib.formatBool b).toArray⟩)∧w' = w:=Any.strconv_FormatBool Tryz.SK b w
def Tryz.SM:Go.Shelf.Ren:=⟨fun|246=>204|283=>219|284=>220|285=>221|286=>222|129=>106|317=>228|318=>229|319=>230|320=>231|337=>233|338=>234|n=>n,fun|2=>2|3=>3|9=>9|4=>4|171=>244|0=>0|53=>160|37=>28|5=>5|173=>246|212=>252|51=>105|20=>20|213=>253|46=>133|232=>255|233=>256|n=>n,fun|17=>1|18=>2|19=>3|n=>n⟩
def Tryz.SN:Go.Shelf.Ren:=⟨fun|243=>190|246=>204|283=>219|284=>220|285=>221|286=>222|129=>106|317=>228|318=>229|319=>230|320=>231|337=>233|338=>234|n=>n,fun|3=>3|9=>9|2=>2|4=>4|171=>244|0=>0|53=>160|37=>28|5=>5|173=>246|212=>252|51=>105|20=>20|213=>253|46=>133|232=>255|233=>256|n=>n,fun|17=>1|18=>2|19=>3|n=>n⟩
def Tryz.zG:Go.Shelf.Ren:=⟨fun|171=>165|243=>190|246=>204|283=>219|284=>220|285=>221|286=>222|129=>106|317=>228|318=>229|319=>230|320=>231|337=>233|338=>234|n=>n,fun|3=>3|9=>9|2=>2|4=>4|171=>244|0=>0|53=>160|37=>28|5=>5|173=>246|212=>252|51=>105|20=>20|213=>253|46=>133|232=>255|233=>256|n=>n,fun|17=>1|18=>2|19=>3|n=>n⟩
theorem Tryz.Ow:Go.Proofs.LaysM.n171 Tryz.prog Tryz.zG:={mixed:=by kernel_rfl,f129:=Tryz.func106.trans (congrArg some (by kernel_rfl)),f171:=Tryz.func165.trans (congrArg some (by kernel_rfl)),f243:=Tryz.func190.trans (congrArg some (by kernel_rfl)),f246:=Tryz.func204.trans (congrArg some (by kernel_rfl)),f283:=Tryz.func219.trans (congrArg some (by kernel_rfl)),f284:=Tryz.func220.trans (congrArg some (by kernel_rfl)),f285:=Tryz.func221.trans (congrArg some (by kernel_rfl)),f286:=Tryz.func222.trans (congrArg some (by kernel_rfl)),f317:=Tryz.func228.trans (congrArg some (by kernel_rfl)),f318:=Tryz.func229.trans (congrArg some (by kernel_rfl)),f319:=Tryz.func230.trans (congrArg some (by kernel_rfl)),f320:=Tryz.func231.trans (congrArg some (by kernel_rfl)),f337:=Tryz.func233.trans (congrArg some (by kernel_rfl)),f338:=Tryz.func234.trans (congrArg some (by kernel_rfl)),t0:=Tryz.underlying0,a0:=Tryz.isAgg0,z0:=Tryz.sizeOf0,v0:=Tryz.zeroValue0,t2:=Tryz.underlying2,a2:=Tryz.isAgg2,z2:=Tryz.sizeOf2,v2:=Tryz.zeroValue2,t3:=Tryz.underlying3,a3:=Tryz.isAgg3,z3:=Tryz.sizeOf3,v3:=Tryz.zeroValue3,t4:=Tryz.underlying4,a4:=Tryz.isAgg4,z4:=Tryz.sizeOf4,v4:=Tryz.zeroValue4,t5:=Tryz.underlying5,a5:=Tryz.isAgg5,z5:=Tryz.sizeOf5,v5:=Tryz.zeroValue5,t9:=Tryz.underlying9,a9:=Tryz.isAgg9,z9:=Tryz.sizeOf9,v9:=Tryz.zeroValue9,t20:=Tryz.underlying20,a20:=Tryz.isAgg20,z20:=Tryz.sizeOf20,v20:=Tryz.zeroValue20,t37:=Tryz.underlying28,a37:=Tryz.isAgg28,z37:=Tryz.sizeOf28,v37:=Tryz.zeroValue28,t46:=Tryz.underlying133,a46:=Tryz.isAgg133,z46:=Tryz.sizeOf133,v46:=Tryz.zeroValue133,t51:=Tryz.underlying105,a51:=Tryz.isAgg105,z51:=Tryz.sizeOf105,v51:=Tryz.zeroValue105,t53:=Tryz.underlying160,a53:=Tryz.isAgg160,z53:=Tryz.sizeOf160,v53:=Tryz.zeroValue160,t171:=Tryz.underlying244,a171:=Tryz.isAgg244,z171:=Tryz.sizeOf244,v171:=Tryz.zeroValue244,t173:=Tryz.underlying246,a173:=Tryz.isAgg246,z173:=Tryz.sizeOf246,v173:=Tryz.zeroValue246,t212:=Tryz.underlying252,a212:=Tryz.isAgg252,z212:=Tryz.sizeOf252,v212:=Tryz.zeroValue252,t213:=Tryz.underlying253,a213:=Tryz.isAgg253,z213:=Tryz.sizeOf253,t232:=Tryz.underlying255,a232:=Tryz.isAgg255,z232:=Tryz.sizeOf255,v232:=Tryz.zeroValue255,t233:=Tryz.underlying256,a233:=Tryz.isAgg256,z233:=Tryz.sizeOf256,v233:=Tryz.zeroValue256,g17:=by kernel_rfl,g18:=by kernel_rfl,g19:=by kernel_rfl,i0:=by kernel_rfl,i2:=by kernel_rfl,i3:=by kernel_rfl,i4:=by kernel_rfl,i5:=by kernel_rfl,i9:=by kernel_rfl,i20:=by kernel_rfl,i37:=by kernel_rfl,i46:=by kernel_rfl,i51:=by kernel_rfl,i53:=by kernel_rfl,i171:=by kernel_rfl,i173:=by kernel_rfl,i212:=by kernel_rfl,i232:=by kernel_rfl,i233:=by kernel_rfl,m17:=by kernel_rfl,m18:=by kernel_rfl,m19:=by kernel_rfl}
open Go.RowKit Go.Sort Go.Lib in
theorem Tryz.strconv_Itoa (n:Int)(h0 : -9223372036854775808≤n)(h1:n≤9223372036854775807)(w:World)(amk:Lib.TabIs Tryz.prog w "internal/strconv.uint64pow10" .u64 Lib.pow10Tab) :
 Calls Tryz.prog 165 #[.int .i64 n] w fun e w'=>e = .returned (.string ⟨(Lib.itoa n).toArray⟩)∧∃ k os,w' = grow (w.drewN k) os:=Any.strconv_Itoa Tryz.Ow n h0 h1 w amk
def Tryz.C4:Go.Shelf.Ren:=⟨fun|189=>168|125=>78|257=>193|128=>105|129=>106|294=>206|295=>207|296=>208|297=>209|298=>210|299=>211|216=>212|300=>213|301=>214|328=>223|329=>130|330=>131|331=>224|332=>225|215=>107|343=>232|n=>n,fun|28=>22|3=>3|46=>133|0=>0|51=>105|53=>160|4=>4|183=>153|182=>152|131=>128|5=>5|9=>9|218=>169|222=>173|228=>198|229=>199|n=>n,fun|n=>n⟩
theorem Tryz.Hc:Go.Proofs.Lays.n189 Tryz.prog Tryz.C4:={mixed:=by kernel_rfl,f125:=Tryz.func78.trans (congrArg some (by kernel_rfl)),f128:=Tryz.func105.trans (congrArg some (by kernel_rfl)),f129:=Tryz.func106.trans (congrArg some (by kernel_rfl)),f189:=Tryz.func168.trans (congrArg some (by kernel_rfl)),f215:=Tryz.func107.trans (congrArg some (by kernel_rfl)),f216:=Tryz.func212.trans (congrArg some (by kernel_rfl)),f257:=Tryz.func193.trans (congrArg some (by kernel_rfl)),f294:=Tryz.func206.trans (congrArg some (by kernel_rfl)),f295:=Tryz.func207.trans (congrArg some (by kernel_rfl)),f296:=Tryz.func208.trans (congrArg some (by kernel_rfl)),f297:=Tryz.func209.trans (congrArg some (by kernel_rfl)),f298:=Tryz.func210.trans (congrArg some (by kernel_rfl)),f299:=Tryz.func211.trans (congrArg some (by kernel_rfl)),f300:=Tryz.func213.trans (congrArg some (by kernel_rfl)),f301:=Tryz.func214.trans (congrArg some (by kernel_rfl)),f328:=Tryz.func223.trans (congrArg some (by kernel_rfl)),f329:=Tryz.func130.trans (congrArg some (by kernel_rfl)),f330:=Tryz.func131.trans (congrArg some (by kernel_rfl)),f331:=Tryz.func224.trans (congrArg some (by kernel_rfl)),f332:=Tryz.func225.trans (congrArg some (by kernel_rfl)),f343:=Tryz.func232.trans (congrArg some (by kernel_rfl)),t0:=Tryz.underlying0,a0:=Tryz.isAgg0,z0:=Tryz.sizeOf0,v0:=Tryz.zeroValue0,t3:=Tryz.underlying3,a3:=Tryz.isAgg3,z3:=Tryz.sizeOf3,v3:=Tryz.zeroValue3,t4:=Tryz.underlying4,a4:=Tryz.isAgg4,z4:=Tryz.sizeOf4,v4:=Tryz.zeroValue4,t5:=Tryz.underlying5,a5:=Tryz.isAgg5,z5:=Tryz.sizeOf5,v5:=Tryz.zeroValue5,t9:=Tryz.underlying9,a9:=Tryz.isAgg9,z9:=Tryz.sizeOf9,v9:=Tryz.zeroValue9,t28:=Tryz.underlying22,a28:=Tryz.isAgg22,z28:=Tryz.sizeOf22,v28:=Tryz.zeroValue22,t46:=Tryz.underlying133,a46:=Tryz.isAgg133,z46:=Tryz.sizeOf133,v46:=Tryz.zeroValue133,t51:=Tryz.underlying105,a51:=Tryz.isAgg105,z51:=Tryz.sizeOf105,v51:=Tryz.zeroValue105,t53:=Tryz.underlying160,a53:=Tryz.isAgg160,z53:=Tryz.sizeOf160,v53:=Tryz.zeroValue160,t131:=Tryz.underlying128,a131:=Tryz.isAgg128,z131:=Tryz.sizeOf128,v131:=Tryz.zeroValue128,t182:=Tryz.underlying152,a182:=Tryz.isAgg152,z182:=Tryz.sizeOf152,v182:=Tryz.zeroValue152,t183:=Tryz.underlying153,a183:=Tryz.isAgg153,z183:=Tryz.sizeOf153,v183:=Tryz.zeroValue153,t218:=Tryz.underlying169,a218:=Tryz.isAgg169,z218:=Tryz.sizeOf169,v218:=Tryz.zeroValue169,t222:=Tryz.underlying173,a222:=Tryz.isAgg173,z222:=Tryz.sizeOf173,v222:=Tryz.zeroValue173,t228:=Tryz.underlying198,a228:=Tryz.isAgg198,z228:=Tryz.sizeOf198,v228:=Tryz.zeroValue198,t229:=Tryz.underlying199,a229:=Tryz.isAgg199,z229:=Tryz.sizeOf199,v229:=Tryz.zeroValue199}
open Go.Sort Go.RowKit in
theorem Tryz.slices_Sort_int (blk off cap:Nat)(zs:List Int)(w:World)(hH:Holds (Value.int .i64) w blk off zs.toArray)(hblk:blk < w.heap.size)(hsz:zs.length < 4611686018427387904) :
 Calls Tryz.prog 168 #[.slice (some ⟨blk,off,none⟩) zs.length cap] w fun e w'=>
   e = .returned (.tuple #[])∧∃ n os,w' = grow (putRow (Value.int .i64) (Sort.ahead w n) blk off (zs.mergeSort fun x y=>decide (x≤y)).toArray) os:=Any.slices_Sort_int Tryz.Hc blk off cap zs w hH hblk hsz
def Tryz.C5:Go.Shelf.Ren:=⟨fun|108=>172|n=>n,fun|28=>22|3=>3|0=>0|4=>4|n=>n,fun|n=>n⟩
theorem Tryz.SP:Go.Proofs.Lays.n108 Tryz.prog Tryz.C5:={mixed:=by kernel_rfl,f108:=Tryz.func172.trans (congrArg some (by kernel_rfl)),t0:=Tryz.underlying0,a0:=Tryz.isAgg0,z0:=Tryz.sizeOf0,v0:=Tryz.zeroValue0,t3:=Tryz.underlying3,a3:=Tryz.isAgg3,z3:=Tryz.sizeOf3,v3:=Tryz.zeroValue3,t4:=Tryz.underlying4,a4:=Tryz.isAgg4,z4:=Tryz.sizeOf4,v4:=Tryz.zeroValue4,t28:=Tryz.underlying22,a28:=Tryz.isAgg22,z28:=Tryz.sizeOf22,v28:=Tryz.zeroValue22}
open Go.Lib in
theorem Tryz.slices_Index_int (b off n c:Nat)(zs:List Int)(x:Int)(w:World)(hz:n≤zs.length)(pX:n≤9223372036854775807)(hc : ∀ j,j < zs.length→w.cell? ⟨b,off + j,none⟩ = some (.int .i64 (zs.getD j 0))) :
 Calls Tryz.prog 172 #[.slice (some ⟨b,off,none⟩) n c, .int .i64 x] w fun e w'=>e = .returned (.int .i64 (Lib.idxOf (zs.take n) x))∧w' = w:=Any.slices_Index_int Tryz.SP b off n c zs x w hz pX hc
def Tryz.xb:Go.Shelf.Ren:=⟨fun|15=>72|n=>n,fun|22=>22|3=>3|4=>4|n=>n,fun|n=>n⟩
theorem Tryz.yh:Go.Proofs.Lays2.n15 Tryz.prog Tryz.xb:={mixed:=by kernel_rfl,f15:=Tryz.func72.trans (congrArg some (by kernel_rfl)),t3:=Tryz.underlying3,a3:=Tryz.isAgg3,z3:=Tryz.sizeOf3,v3:=Tryz.zeroValue3,t4:=Tryz.underlying4,a4:=Tryz.isAgg4,z4:=Tryz.sizeOf4,v4:=Tryz.zeroValue4,t22:=Tryz.underlying22,a22:=Tryz.isAgg22,z22:=Tryz.sizeOf22,v22:=Tryz.zeroValue22,i3:=by kernel_rfl}
open Go.RowKit Go.Lib in
theorem Tryz.slices_Clone_int (b off n c:Nat)(zs:List Int)(w:World)(hz:n≤zs.length)(pX:n * 8≤140737488355328)(hc : ∀ j,j < zs.length→w.cell? ⟨b,off + j,none⟩ = some (.int .i64 (zs.getD j 0))) :
 Calls Tryz.prog 72 #[.slice (some ⟨b,off,none⟩) n c] w fun e w'=>∃ v',e = .returned v'∧w'.ownsRow w.heap.size 3 1 v' n ((zs.take n).map (Value.int .i64))∧v' ≠ .slice none 0 0∧Below w.heap.size w w':=Any.slices_Clone_int Tryz.yh b off n c zs w hz pX hc
open Go.RowKit Go.Lib in
theorem Tryz.slices_Clone_int_nil (n c:Nat)(w:World) :
 Calls Tryz.prog 72 #[.slice none n c] w fun e w'=>e = .returned (.slice none 0 0)∧w' = w:=Any.slices_Clone_int_nil Tryz.yh n c w
def Tryz.xd:Go.Shelf.Ren:=⟨fun|20=>169|n=>n,fun|22=>22|3=>3|4=>4|0=>0|n=>n,fun|n=>n⟩
theorem Tryz.yi:Go.Proofs.Lays2.n20 Tryz.prog Tryz.xd:={mixed:=by kernel_rfl,f20:=Tryz.func169.trans (congrArg some (by kernel_rfl)),t0:=Tryz.underlying0,a0:=Tryz.isAgg0,z0:=Tryz.sizeOf0,v0:=Tryz.zeroValue0,t3:=Tryz.underlying3,a3:=Tryz.isAgg3,z3:=Tryz.sizeOf3,v3:=Tryz.zeroValue3,t4:=Tryz.underlying4,a4:=Tryz.isAgg4,z4:=Tryz.sizeOf4,v4:=Tryz.zeroValue4,t22:=Tryz.underlying22,a22:=Tryz.isAgg22,z22:=Tryz.sizeOf22,v22:=Tryz.zeroValue22,i3:=by kernel_rfl}
open Go.RowKit Go.Lib Go.Sort in
theorem Tryz.slices_Compact_int (blk off cap:Nat)(zs:List Int)(w:World)(hH:Holds (Value.int .i64) w blk off zs.toArray)(hsz:zs.length≤9223372036854775807)(rp:zs.length≤cap) :
 Calls Tryz.prog 169 #[.slice (some ⟨blk,off,none⟩) zs.length cap] w fun e w'=>e = .returned (.slice (some ⟨blk,off,none⟩) (Lib.compact zs).length cap)∧∃ q,w' = putRow (Value.int .i64) (Sort.ahead w q) blk off (Lib.compact zs ++ List.replicate (zs.length - (Lib.compact zs).length) 0).toArray:=Any.slices_Compact_int Tryz.yi blk off cap zs w hH hsz rp
open Go.RowKit Go.Lib Go.Sort in
theorem Tryz.slices_Compact_int_empty (a:Option Addr)(cap:Nat)(w:World) :
 Calls Tryz.prog 169 #[.slice a 0 cap] w fun e w'=>e = .returned (.slice a 0 cap)∧w' = w:=Any.slices_Compact_int_empty Tryz.yi a cap w
open Go.RowKit Go.Sort in
theorem Tryz.slices_Sort_int_none (p:Option Addr)(cap:Nat)(w:World) :
 Calls Tryz.prog 168 #[.slice p 0 cap] w fun e w'=>e = .returned (.tuple #[])∧w' = w:=Any.slices_Sort_int_none Tryz.Hc p cap w
def Tryz.Uw:Go.Shelf.Ren:=⟨fun|185=>159|187=>183|115=>184|253=>185|224=>186|254=>187|255=>200|291=>201|n=>n,fun|37=>28|3=>3|4=>4|0=>0|5=>5|46=>133|9=>9|146=>228|51=>105|n=>n,fun|1=>0|n=>n⟩
def Tryz.C7:Go.Shelf.Ren:=⟨fun|186=>128|185=>159|187=>183|115=>184|253=>185|224=>186|254=>187|255=>200|291=>201|n=>n,fun|37=>28|4=>4|3=>3|0=>0|5=>5|46=>133|9=>9|146=>228|51=>105|n=>n,fun|1=>0|n=>n⟩
theorem Tryz.He:Go.Proofs.Lays.n186 Tryz.prog Tryz.C7:={mixed:=by kernel_rfl,f115:=Tryz.func184.trans (congrArg some (by kernel_rfl)),f185:=Tryz.func159.trans (congrArg some (by kernel_rfl)),f186:=Tryz.func128.trans (congrArg some (by kernel_rfl)),f187:=Tryz.func183.trans (congrArg some (by kernel_rfl)),f224:=Tryz.func186.trans (congrArg some (by kernel_rfl)),f253:=Tryz.func185.trans (congrArg some (by kernel_rfl)),f254:=Tryz.func187.trans (congrArg some (by kernel_rfl)),f255:=Tryz.func200.trans (congrArg some (by kernel_rfl)),f291:=Tryz.func201.trans (congrArg some (by kernel_rfl)),t0:=Tryz.underlying0,a0:=Tryz.isAgg0,z0:=Tryz.sizeOf0,v0:=Tryz.zeroValue0,t3:=Tryz.underlying3,a3:=Tryz.isAgg3,z3:=Tryz.sizeOf3,v3:=Tryz.zeroValue3,t4:=Tryz.underlying4,a4:=Tryz.isAgg4,z4:=Tryz.sizeOf4,v4:=Tryz.zeroValue4,t5:=Tryz.underlying5,a5:=Tryz.isAgg5,z5:=Tryz.sizeOf5,v5:=Tryz.zeroValue5,t9:=Tryz.underlying9,a9:=Tryz.isAgg9,z9:=Tryz.sizeOf9,v9:=Tryz.zeroValue9,t37:=Tryz.underlying28,a37:=Tryz.isAgg28,z37:=Tryz.sizeOf28,v37:=Tryz.zeroValue28,t46:=Tryz.underlying133,a46:=Tryz.isAgg133,z46:=Tryz.sizeOf133,v46:=Tryz.zeroValue133,t51:=Tryz.underlying105,a51:=Tryz.isAgg105,z51:=Tryz.sizeOf105,v51:=Tryz.zeroValue105,t146:=Tryz.underlying228,a146:=Tryz.isAgg228,z146:=Tryz.sizeOf228,v146:=Tryz.zeroValue228,g1:=by kernel_rfl}
open Go.Proofs Go.RowKit Go.Lib in
theorem Tryz.bytes_Contains_at (a1 a2:Addr)(n c1 k c2:Nat)(xs ys:List Int)(m:Int)(w:World)(hx:xs.length = n)(hy:ys.length = k)(nR : ∀ x ∈ xs,0≤x∧x < 256)(mP : ∀ y ∈ ys,0≤y∧y < 256)(lY : ∀ i,i < n→w.cell? (a1.add i) = some (.int .u8 (xs.getD i 0)))(qD : ∀ i,i < k→w.cell? (a2.add i) = some (.int .u8 (ys.getD i 0)))(rp:n≤c1)(hs:n < 4294967281)(hk:k≤9223372036854775807)(hm:w.cell? ⟨0,0,none⟩ = some (.int .i64 m)) :
 Calls Tryz.prog 128 #[.slice (some a1) n c1, .slice (some a2) k c2] w fun e w'=>e = .returned (.bool (Lib.contains (Lib.bytesOf xs) (Lib.bytesOf ys)))∧∃ q,w' = w.drewN q:=Any.bytes_Contains_at Tryz.He a1 a2 n c1 k c2 xs ys m w hx hy nR mP lY qD rp hs hk hm
open Go.Proofs Go.RowKit Go.Lib in
theorem Tryz.bytes_Contains_nil (p2:Option Addr)(k c2:Nat)(w:World)(hk:k≤9223372036854775807)(h1:k = 1→∃ b2 o2 cv,p2 = some ⟨b2,o2,none⟩∧w.cell? ⟨b2,o2,none⟩ = some (.int .u8 cv)) :
 Calls Tryz.prog 128 #[.slice none 0 0, .slice p2 k c2] w fun e w'=>e = .returned (.bool (decide (k = 0)))∧w' = w:=Any.bytes_Contains_nil Tryz.He p2 k c2 w hk h1
end Go.Proofs
