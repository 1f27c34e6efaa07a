/- Walks. -/
import Derived.Test.YtdmoogjddmdmbaaGreatDoorV32
import Derived.Test.YtdmoogjddmdmbaaGreatDoorV22
import Derived.Lib.SmallJoins
set_option maxRecDepth 100000
set_option maxHeartbeats 16000000
set_option linter.unusedVariables false
set_option linter.unusedSimpArgs false
namespace Go.Proofs.YtdmoogjddmdmbaaGreatDoor
open Go.RowKit
section
set_option linter.unusedVariables false
set_option linter.unusedSimpArgs false
open Go.RowKit
def vsA (g:Nat):List Value:=[.int .i64 4, .slice none 0 0, .slice (some ⟨g,0,none⟩) 1 1, .int .i64 1, .int .i64 2]
def nmX:ByteArray:=⟨#[120]⟩
end
end Go.Proofs.YtdmoogjddmdmbaaGreatDoor
