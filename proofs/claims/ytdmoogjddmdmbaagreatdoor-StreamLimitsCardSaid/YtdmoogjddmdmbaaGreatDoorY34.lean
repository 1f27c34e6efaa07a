/- library.Compile at the kind of chapter 8's example. · scan.finder at the kind of chapter 8's example. -/
import Derived.Test.YtdmoogjddmdmbaaGreatDoorY33
import Derived.Test.YtdmoogjddmdmbaaGreatDoorY25
namespace Go.Proofs.YtdmoogjddmdmbaaGreatDoor
set_option linter.unusedVariables false
set_option linter.unusedSimpArgs false
set_option maxRecDepth 100000
open Go.RowKit
def bxK (g b:Nat) (w:World):Prop:=w.heap[b]?=some (.cells #[.string nmX, .int .i64 4, .slice none 0 0, .slice (some ⟨g,0,none⟩) 1 1, .int .i64 1, .int .i64 2, .bool false, .int .i64 0, .int .i64 0, .slice none 0 0, .int .i64 0] 44 (0,0))
def setAll (b:Nat):List (Nat×Value)->World->World
 | [],w=>w
 | (o,v)::r,w=>setAll b r (w.setCell ⟨b,o,none⟩ v)
end Go.Proofs.YtdmoogjddmdmbaaGreatDoor
