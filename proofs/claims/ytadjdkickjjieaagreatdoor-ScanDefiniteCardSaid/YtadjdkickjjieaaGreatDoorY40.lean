/- The shelf's contract of slices.SortFunc at this translation, in plain words, laid by the kit's programs. -/
import Derived.Shelf.SlSortCmp.WholeK
import Derived.Test.YtadjdkickjjieaaGreatDoorProg
namespace Go.Proofs
open Go.Shelf
def Tryz.sortRun_ren:Go.Shelf.Ren:=⟨fun| 6=>55 | 15=>85 | 14=>84 | 28=>117 | 29=>118 | 20=>109 | 21=>110 | 22=>111 | 23=>112 | 24=>113 | 25=>114 | 26=>115 | 27=>116 | 46=>143 | 47=>144 | 48=>145 | 49=>146 | 50=>147 | 57=>178 | n=>n,fun| 22=>49 | 24=>53 | 25=>111 | 3=>3 | 39=>140 | 0=>0 | 53=>123 | 55=>167 | 4=>4 | 46=>160 | 45=>159 | 50=>116 | 5=>5 | 9=>9 | 66=>189 | 70=>193 | 76=>217 | 77=>218 | n=>n,fun| n=>n⟩
end Go.Proofs
