/- Walks. -/
import Derived.Test.YtdmoogjddmdmbaaGreatDoorV12
import Derived.Test.YtdmoogjddmdmbaaGreatDoorV31
set_option maxRecDepth 100000
set_option maxHeartbeats 16000000
set_option linter.unusedVariables false
set_option linter.unusedSimpArgs false
namespace Go.Proofs.YtdmoogjddmdmbaaGreatDoor
open Go.RowKit
section
set_option linter.unusedVariables false
set_option linter.unusedSimpArgs false
open Go.RowKit
def spA:ByteArray:=⟨#[92,91,93,40,41,123,125,124,45]⟩
end
section
set_option linter.unusedVariables false
set_option linter.unusedSimpArgs false
open Go.RowKit
end
section
set_option linter.unusedVariables false
set_option linter.unusedSimpArgs false
open Go.RowKit
end
end Go.Proofs.YtdmoogjddmdmbaaGreatDoor
