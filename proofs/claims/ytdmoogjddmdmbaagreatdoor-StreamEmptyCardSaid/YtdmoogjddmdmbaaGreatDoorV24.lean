/- Walks. -/
import Derived.Test.YtdmoogjddmdmbaaGreatDoorV12
import Derived.LoopN
import Derived.Lib.AsciiSet
import Derived.Test.YtdmoogjddmdmbaaGreatDoorV19
import Derived.Deep.WholeRow
set_option maxRecDepth 100000
set_option maxHeartbeats 16000000
set_option linter.unusedVariables false
set_option linter.unusedSimpArgs false
namespace Go.Proofs.YtdmoogjddmdmbaaGreatDoor
open Go.RowKit
section
set_option linter.unusedVariables false
set_option linter.unusedSimpArgs false
open Go.RowKit
def aue:ByteArray:=⟨#[48,49,50,51,52,53,54,55,56,57]⟩
end
end Go.Proofs.YtdmoogjddmdmbaaGreatDoor
