/- ref05: Valid and Text at the node of a{1,2}: the text. · ref05: Text, Read and Parse at a{1,2}. · ref05: Read and Parse at a{1,2}. -/
import Derived.Test.YtdmoogjddmdmbaaGreatDoorY14
import Derived.Test.YtdmoogjddmdmbaaGreatDoorY31
namespace Go.Proofs.YtdmoogjddmdmbaaGreatDoor
set_option linter.unusedVariables false
set_option linter.unusedSimpArgs false
set_option maxRecDepth 100000
open Go.RowKit
def spA:ByteArray:=⟨#[92,91,93,40,41,123,125,124,45]⟩
end Go.Proofs.YtdmoogjddmdmbaaGreatDoor
