/- The order of matches: scan.Compare, and the sort's contract at it. -/
import Derived.Deep.RegionHeld3
import Derived.Shelf.SlSortCmp.NoneTotal
import Derived.LoopN
import Derived.Test.YtadjdkickjjieaaGreatDoorY40
import Derived.Test.YtadjdkickjjieaaGreatDoorY04
import Derived.Test.YtadjdkickjjieaaGreatDoorY21
import Derived.Test.YtadjdkickjjieaaGreatDoorY13
namespace Go.Proofs.YtadjdkickjjieaaGreatDoor
set_option linter.unusedVariables false
set_option linter.unusedSimpArgs false
set_option maxRecDepth 100000
open Go.RowKit
def encT (a:Mt):List Value:=[.int .i64 (a.k:Int), .int .i64 (a.f:Int), .int .i64 (a.t:Int)]
def cfT (x y:Mt):Int:=if cmpI x.f y.f=0 then (if cmpI x.t y.t=0 then cmpI x.k y.k else cmpI x.t y.t) else cmpI x.f y.f
def MtIn (w:World) (v:Value) (l:List Mt):Prop:=∃A c,v = .slice A l.length c/\(l.length<=c/\c<=9223372036854775807)/\(l=[]\/∃g f,A=some ⟨g,f,none⟩/\g<w.heap.size/\∀i (h:i<l.length),∀j,j<3->w.cell? ⟨g,f+i*3+j,none⟩=(encT l[i])[j]?)
end Go.Proofs.YtadjdkickjjieaaGreatDoor
