/- Rows of strings of the call's own; an append of strings; a text in memory; boxes of a kind that is changed. -/
import Derived.Test.YtdmoogjddmdmbaaGreatDoorY40
import Derived.Test.YtdmoogjddmdmbaaGreatDoorY04
import Derived.Test.YtdmoogjddmdmbaaGreatDoorY25
import Derived.Test.YtdmoogjddmdmbaaGreatDoorY28
import Derived.Test.YtdmoogjddmdmbaaGreatDoorY08
import Derived.Test.YtdmoogjddmdmbaaGreatDoorY41
namespace Go.Proofs.YtdmoogjddmdmbaaGreatDoor
set_option linter.unusedVariables false
set_option linter.unusedSimpArgs false
set_option maxRecDepth 100000
open Go.RowKit
def OSw (B:Nat) (v:Value) (ss:List ByteArray) (w:World):Prop:=w.ownsRow B 9 1 v ss.length (ss.map Value.string)
theorem run_append_zero {P:Program} {w:World} (base:Nat) (t ty e:TypeId) (i:TypeInfo) (size:Nat) (ht:P.underlying t=some (.slice e)) (hi:P.info? e=some i) (c:Nat)
  (v:Value) (n:Nat) (xs:List Value) (hown:w.ownsRow base e size v n xs) :
  (Builtin.append_ #[t,t] ty #[v, .slice none 0 c]).run P w = .ok v w:=by
 rcases hown.2 with ⟨rfl,rfl⟩ | ⟨g,cap,cur,rfl,_,_,hnc,_⟩
 .simp[Builtin.append_,run_underlying ht,sizeOf,typeInfo,hi,Builtin.lenOf,Builtin.firstCells]
 .simp[Builtin.append_,run_underlying ht,sizeOf,typeInfo,hi,Builtin.lenOf,Builtin.firstCells,hnc,storeCells]
end Go.Proofs.YtdmoogjddmdmbaaGreatDoor
