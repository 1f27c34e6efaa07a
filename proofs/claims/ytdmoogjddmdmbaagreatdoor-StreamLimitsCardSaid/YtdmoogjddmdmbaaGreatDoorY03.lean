/- Appends of bytes to a row of the call's own; new rows. -/
import Derived.Laws.AppendOwnNone
import Derived.Test.YtdmoogjddmdmbaaGreatDoorY02
namespace Go.Proofs.YtdmoogjddmdmbaaGreatDoor
set_option linter.unusedVariables false
set_option linter.unusedSimpArgs false
set_option maxRecDepth 100000
open Go.RowKit
theorem row_look {w:World} {g:Nat} {cs:Array Value} {e:TypeId} {z:Nat×Nat} (h:w.heap[g]?=some (.cells cs e z)):∀j u,cs.toList[j]?=some u->w.cell? ((⟨g,0,none⟩:Addr).add j)=some u:=by
 intro j u hu;rw[Addr.add_lit,cell_of_row _ _ _ _ _ _ h];simpa using hu
end Go.Proofs.YtdmoogjddmdmbaaGreatDoor
