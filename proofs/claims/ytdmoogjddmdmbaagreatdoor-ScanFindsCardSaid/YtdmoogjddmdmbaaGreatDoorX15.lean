/- Walks. -/
import Derived.Test.YtdmoogjddmdmbaaGreatDoorX08
import Derived.Test.YtdmoogjddmdmbaaGreatDoorX14
import Derived.Test.YtdmoogjddmdmbaaGreatDoorX05
set_option maxRecDepth 100000
set_option maxHeartbeats 16000000
set_option linter.unusedVariables false
set_option linter.unusedSimpArgs false
namespace Go.Proofs.YtdmoogjddmdmbaaGreatDoor
open Go.RowKit
theorem Ga(l:List UInt8):(bs l).data.toList=l:=by simp[bs]
theorem Wx(l:List UInt8):(⟨l.toArray⟩:ByteArray)=bs l:=rfl
theorem Cf(w:World)(q:Nat)(os:Array Obj):Below w.heap.size w (Sort.grow (w.drewN q) os):=by
 refine ⟨rfl,rfl,rfl,?_,λk hk=>?_⟩
 .show _<=(w.heap++os).size;rw[Array.size_append];omega
 .show (w.heap++os)[k]?=_;rw[Array.getElem?_append_left hk]
theorem pW(n:Nat)(hn:n<4611686018427387904)(w:World)(hv:dn w):Calls Tryz.prog 165 #[.int .i64 (n:Int)] w λe w'=>e=.returned (.string (bs (Lib.decDigits n)))/\Below w.heap.size w w':=by
 refine (Tryz.strconv_Itoa (n:Int) Y Y w hv.tab).mono ?_;rintro e w' ⟨rfl,k,os,rfl⟩;refine ⟨?_,Cf _ _ _⟩;rw[Wx,Lib.itoa,if_neg Y,Int.toNat_natCast]
end Go.Proofs.YtdmoogjddmdmbaaGreatDoor
