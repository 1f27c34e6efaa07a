/- Walks. -/
import Derived.Test.YtdmoogjddmdmbaaGreatDoorX01
import Derived.Shelf.SlSortCmp.WholeK
import Derived.Test.YtdmoogjddmdmbaaGreatDoorProg
set_option maxRecDepth 100000
set_option maxHeartbeats 16000000
set_option linter.unusedVariables false
set_option linter.unusedSimpArgs false
namespace Go.Proofs
open Go.Shelf Go.Proofs.YtdmoogjddmdmbaaGreatDoor
def Tryz.C8:Go.Shelf.Ren:=⟨fun|6=>45|15=>78|14=>77|28=>105|29=>106|20=>97|21=>98|22=>99|23=>100|24=>101|25=>102|26=>103|27=>104|46=>129|47=>130|48=>131|49=>132|50=>133|57=>160|n=>n,fun|22=>31|24=>36|25=>101|3=>3|39=>133|0=>0|53=>105|55=>160|4=>4|46=>153|45=>152|50=>128|5=>5|9=>9|66=>169|70=>173|76=>198|77=>199|n=>n,fun|n=>n⟩
theorem Tryz.zH:Go.Proofs.SlLaysF0.n6 Tryz.prog Tryz.C8:={
 mixed:=κ
 f6:=⟨Tryz.f45.name,O,Tryz.func45.trans (congrArg some κ)⟩
 f14:=⟨Tryz.f77.name,O,Tryz.func77.trans (congrArg some κ)⟩
 f15:=Tryz.func78.trans (congrArg some κ)
 f20:=⟨Tryz.f97.name,O,Tryz.func97.trans (congrArg some κ)⟩
 f21:=⟨Tryz.f98.name,O,Tryz.func98.trans (congrArg some κ)⟩
 f22:=⟨Tryz.f99.name,O,Tryz.func99.trans (congrArg some κ)⟩
 f23:=⟨Tryz.f100.name,O,Tryz.func100.trans (congrArg some κ)⟩
 f24:=⟨Tryz.f101.name,O,Tryz.func101.trans (congrArg some κ)⟩
 f25:=⟨Tryz.f102.name,O,Tryz.func102.trans (congrArg some κ)⟩
 f26:=⟨Tryz.f103.name,O,Tryz.func103.trans (congrArg some κ)⟩
 f27:=⟨Tryz.f104.name,O,Tryz.func104.trans (congrArg some κ)⟩
 f28:=Tryz.func105.trans (congrArg some κ)
 f29:=Tryz.func106.trans (congrArg some κ)
 f46:=⟨Tryz.f129.name,O,Tryz.func129.trans (congrArg some κ)⟩
 f47:=Tryz.func130.trans (congrArg some κ)
 f48:=Tryz.func131.trans (congrArg some κ)
 f49:=⟨Tryz.f132.name,O,Tryz.func132.trans (congrArg some κ)⟩
 f50:=⟨Tryz.f133.name,O,Tryz.func133.trans (congrArg some κ)⟩
 f57:=⟨Tryz.f160.name,O,Tryz.func160.trans (congrArg some κ)⟩
 t0:=Tryz.underlying0
 a0:=Tryz.isAgg0
 z0:=Tryz.sizeOf0
 v0:=Tryz.zeroValue0
 t3:=Tryz.underlying3
 a3:=Tryz.isAgg3
 z3:=Tryz.sizeOf3
 v3:=Tryz.zeroValue3
 t4:=Tryz.underlying4
 a4:=Tryz.isAgg4
 z4:=Tryz.sizeOf4
 v4:=Tryz.zeroValue4
 t5:=Tryz.underlying5
 a5:=Tryz.isAgg5
 z5:=Tryz.sizeOf5
 v5:=Tryz.zeroValue5
 t9:=Tryz.underlying9
 a9:=Tryz.isAgg9
 z9:=Tryz.sizeOf9
 v9:=Tryz.zeroValue9
 t22:=Tryz.underlying31
 a22:=Tryz.isAgg31
 z22:=Tryz.sizeOf31
 v22:=Tryz.zeroValue31
 t25:=Tryz.underlying101
 a25:=Tryz.isAgg101
 z25:=Tryz.sizeOf101
 v25:=Tryz.zeroValue101
 t39:=Tryz.underlying133
 a39:=Tryz.isAgg133
 z39:=Tryz.sizeOf133
 v39:=Tryz.zeroValue133
 t45:=Tryz.underlying152
 a45:=Tryz.isAgg152
 z45:=Tryz.sizeOf152
 v45:=Tryz.zeroValue152
 t46:=Tryz.underlying153
 a46:=Tryz.isAgg153
 z46:=Tryz.sizeOf153
 v46:=Tryz.zeroValue153
 t50:=Tryz.underlying128
 a50:=Tryz.isAgg128
 z50:=Tryz.sizeOf128
 v50:=Tryz.zeroValue128
 t53:=Tryz.underlying105
 a53:=Tryz.isAgg105
 z53:=Tryz.sizeOf105
 v53:=Tryz.zeroValue105
 t55:=Tryz.underlying160
 a55:=Tryz.isAgg160
 z55:=Tryz.sizeOf160
 v55:=Tryz.zeroValue160
 t66:=Tryz.underlying169
 a66:=Tryz.isAgg169
 z66:=Tryz.sizeOf169
 v66:=Tryz.zeroValue169
 t70:=Tryz.underlying173
 a70:=Tryz.isAgg173
 z70:=Tryz.sizeOf173
 v70:=Tryz.zeroValue173
 t76:=Tryz.underlying198
 a76:=Tryz.isAgg198
 z76:=Tryz.sizeOf198
 v76:=Tryz.zeroValue198
 t77:=Tryz.underlying199
 a77:=Tryz.isAgg199
 z77:=Tryz.sizeOf199
 v77:=Tryz.zeroValue199 }
end Go.Proofs
