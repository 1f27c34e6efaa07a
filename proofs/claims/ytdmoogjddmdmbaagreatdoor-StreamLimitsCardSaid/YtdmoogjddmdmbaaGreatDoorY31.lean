/- The reference's decimal numbers. -/
import Derived.Lib.ItoaNum
import Derived.IntWalk
import Derived.Deep.CutRange
import Derived.Test.YtdmoogjddmdmbaaGreatDoorY11
import Derived.Test.YtdmoogjddmdmbaaGreatDoorY04
namespace Go.Proofs.YtdmoogjddmdmbaaGreatDoor
set_option linter.unusedVariables false
set_option linter.unusedSimpArgs false
set_option maxRecDepth 100000
open Go.RowKit
def factN (W:World) (n:Nat) (q r:Int) (u:UInt8) (D:List UInt8):Nat->Value->World->Prop
 | 0,x,_=>x = .int .i64 (n:Int)
 | 1,x,_=>x = .int .i64 q
 | 2,x,_=>x = .string (bs D)
 | 3,x,_=>x = .int .i64 (n:Int)
 | 4,x,_=>x = .int .i64 r
 | 5,x,_=>x = .int .u8 r
 | 6,x,_=>x = .int .u8 (48+r)
 | 7,x,w=>∃g,x = .slice (some ⟨g,0,none⟩) 1 1/\w.heap[g]?=some (.cells #[.int .u8 (48+r)] 5 (0,0))
 | 8,x,_=>x = .string (bs [u])
 | 9,x,_=>x = .string (bs (D++[u]))
 | 10,x,_=>x = .string (bs (D++[u]))
 | _,_,_=>True
end Go.Proofs.YtdmoogjddmdmbaaGreatDoor
