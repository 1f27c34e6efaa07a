/- Walks. -/
import Derived.Test.YtdmoogjddmdmbaaGreatDoorX11
import Derived.LoopN
import Derived.Lib.AsciiSet
import Derived.Test.YtdmoogjddmdmbaaGreatDoorX15
import Derived.Deep.WholeRow
set_option maxRecDepth 100000
set_option maxHeartbeats 16000000
set_option linter.unusedVariables false
set_option linter.unusedSimpArgs false
namespace Go.Proofs.YtdmoogjddmdmbaaGreatDoor
open Go.RowKit
def at4:ByteArray:=⟨#[48,49,50,51,52,53,54,55,56,57]⟩
end Go.Proofs.YtdmoogjddmdmbaaGreatDoor
