/- library.Compile at the kind of chapter 8's example. -/
import Derived.Test.YtdmoogjddmdmbaaGreatDoorY32
import Derived.Test.YtdmoogjddmdmbaaGreatDoorY22
import Derived.Lib.SmallJoins
namespace Go.Proofs.YtdmoogjddmdmbaaGreatDoor
set_option linter.unusedVariables false
set_option linter.unusedSimpArgs false
set_option maxRecDepth 100000
open Go.RowKit
def vsA (g:Nat):List Value:=[.int .i64 4, .slice none 0 0, .slice (some ⟨g,0,none⟩) 1 1, .int .i64 1, .int .i64 2]
def nmX:ByteArray:=⟨#[120]⟩
end Go.Proofs.YtdmoogjddmdmbaaGreatDoor
