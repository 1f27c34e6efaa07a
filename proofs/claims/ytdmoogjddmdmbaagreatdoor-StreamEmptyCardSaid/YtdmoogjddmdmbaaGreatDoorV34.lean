/- Walks. -/
import Derived.Test.YtdmoogjddmdmbaaGreatDoorV33
import Derived.Test.YtdmoogjddmdmbaaGreatDoorV25
set_option maxRecDepth 100000
set_option maxHeartbeats 16000000
set_option linter.unusedVariables false
set_option linter.unusedSimpArgs false
namespace Go.Proofs.YtdmoogjddmdmbaaGreatDoor
open Go.RowKit
section
set_option linter.unusedVariables false
set_option linter.unusedSimpArgs false
open Go.RowKit
def bxK (g b:Nat) (w:World):Prop:=w.heap[b]?=some (.cells #[.string nmX, .int .i64 4, .slice none 0 0, .slice (some ⟨g,0,none⟩) 1 1, .int .i64 1, .int .i64 2, .bool false, .int .i64 0, .int .i64 0, .slice none 0 0, .int .i64 0] 44 (0,0))
end
section
set_option linter.unusedVariables false
set_option linter.unusedSimpArgs false
open Go.RowKit
def Wz (b:Nat):List (Nat×Value)->World->World
 | [],w=>w
 | (o,v)::r,w=>Wz b r (w.setCell ⟨b,o,none⟩ v)
end
end Go.Proofs.YtdmoogjddmdmbaaGreatDoor
