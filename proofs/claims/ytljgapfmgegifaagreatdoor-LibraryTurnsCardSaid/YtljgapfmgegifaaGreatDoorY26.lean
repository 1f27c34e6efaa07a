/- Appends of bytes to a row of the call's own; new rows. -/
import Derived.Laws.AppendOwnNone
import Derived.Test.YtljgapfmgegifaaGreatDoorY02
namespace Go.Proofs.YtljgapfmgegifaaGreatDoor
set_option linter.unusedVariables false
set_option linter.unusedSimpArgs false
set_option maxRecDepth 100000
open Go.RowKit
end Go.Proofs.YtljgapfmgegifaaGreatDoor
