/- strconv.Itoa at numbers from 0 on. Conditions: the variables read as laid. -/
import Derived.Test.YtdmoogjddmdmbaaGreatDoorY09
import Derived.Test.YtdmoogjddmdmbaaGreatDoorY18
import Derived.Test.YtdmoogjddmdmbaaGreatDoorY04
namespace Go.Proofs.YtdmoogjddmdmbaaGreatDoor
set_option linter.unusedVariables false
set_option linter.unusedSimpArgs false
set_option maxRecDepth 100000
open Go.RowKit
theorem bs_data (l:List UInt8):(bs l).data.toList=l:=by simp[bs]
theorem bs_arr (l:List UInt8):(⟨l.toArray⟩:ByteArray)=bs l:=rfl
theorem below_sgrow (w:World) (q:Nat) (os:Array Obj):Below w.heap.size w (Sort.grow (w.drewN q) os):=by
 refine ⟨rfl,rfl,rfl,?_,λk hk=>?_⟩
 .show _<=(w.heap++os).size;rw[Array.size_append];omega
 .show (w.heap++os)[k]?=_;rw[Array.getElem?_append_left hk]
theorem itoa_any (n:Nat) (hn:n<4611686018427387904) (w:World) (hv:VrOK w):Calls Tryz.prog 165 #[.int .i64 (n:Int)] w λe w'=>e = .returned (.string (bs (Lib.decDigits n)))/\Below w.heap.size w w':=by
 refine (Tryz.strconv_Itoa (n:Int) (by omega) (by omega) w hv.tab).mono ?_
 rintro e w' ⟨rfl,k,os,rfl⟩;refine ⟨?_,below_sgrow _ _ _⟩;rw[bs_arr,Lib.itoa,if_neg (by omega),Int.toNat_natCast]
end Go.Proofs.YtdmoogjddmdmbaaGreatDoor
