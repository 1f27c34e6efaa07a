/- Walks: members of patterns. -/
import Derived.Deep.RegionHeld3
import Derived.Deep.CutRange
import Derived.Test.YtdmoogjddmdmbaaGreatDoorY04
import Derived.Test.YtdmoogjddmdmbaaGreatDoorY03
namespace Go.Proofs.YtdmoogjddmdmbaaGreatDoor
set_option linter.unusedVariables false
set_option linter.unusedSimpArgs false
set_option maxRecDepth 100000
open Go.RowKit
def MbPost (b m:Nat) (w:World) (e:Ending) (w':World):Prop:=∃(v:Value) (l:List UInt8),e = .returned v/\l.length<=m/\OB 5 w.heap.size v l w'/\TapeOK b w'/\Fr b w w'
end Go.Proofs.YtdmoogjddmdmbaaGreatDoor
