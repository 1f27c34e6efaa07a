/- Walks. -/
import Derived.Test.YthamegenljmgmaaGreatDoorY07
import Derived.Test.YthamegenljmgmaaGreatDoorY17
import Derived.Test.YthamegenljmgmaaGreatDoorY04
set_option maxRecDepth 100000
set_option maxHeartbeats 16000000
set_option linter.unusedVariables false
set_option linter.unusedSimpArgs false
namespace Go.Proofs.YthamegenljmgmaaGreatDoor
open Go.RowKit
theorem zi(l:List UInt8):(bs l).data.toList=l:=by simp[bs]
theorem VL(l:List UInt8):(⟨l.toArray⟩:ByteArray)=bs l:=rfl
theorem Ce(w:World)(q:Nat)(os:Array Obj):Below w w (Sort.grow (w.drewN q) os):=by
 refine ⟨rfl,rfl,rfl,?_,λk hk=>?_⟩
 .show _<=(w.heap++os).size;rw[Array.size_append];omega
 .show (w.heap++os)[k]?=_;rw[Array.getElem?_append_left hk]
theorem oC(n:Nat)(hn:n<4611686018427387904)(w:World)(hv:eU w):Calls Tryz.prog 39 #[(n:Int)] w λe w'=>e=.returned (.string (bs (Lib.decDigits n)))/\Below w w w':=by
 refine (Tryz.strconv_Itoa (n:Int) U U w hv.tab).mono ?_;rintro e w' ⟨rfl,k,os,rfl⟩;refine ⟨?_,Ce _ _ _⟩;rw[VL,Lib.itoa,if_neg U,Int.toNat_natCast]
end Go.Proofs.YthamegenljmgmaaGreatDoor
