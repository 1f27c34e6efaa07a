/- Walks: the reader of patterns at one text: its number. -/
import Derived.Test.YtdmoogjddmdmbaaGreatDoorY12
import Derived.LoopN
import Derived.Lib.AsciiSet
import Derived.Test.YtdmoogjddmdmbaaGreatDoorY19
import Derived.Deep.WholeRow
namespace Go.Proofs.YtdmoogjddmdmbaaGreatDoor
set_option linter.unusedVariables false
set_option linter.unusedSimpArgs false
set_option maxRecDepth 100000
open Go.RowKit
def digT:ByteArray:=⟨#[48,49,50,51,52,53,54,55,56,57]⟩
end Go.Proofs.YtdmoogjddmdmbaaGreatDoor
