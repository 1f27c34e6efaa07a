/- strconv.Itoa at numbers from 0 on. Conditions: the variables read as laid. -/
import Derived.Test.YtadjdkickjjieaaGreatDoorY07
import Derived.Test.YtadjdkickjjieaaGreatDoorY16
import Derived.Test.YtadjdkickjjieaaGreatDoorY04
namespace Go.Proofs.YtadjdkickjjieaaGreatDoor
set_option linter.unusedVariables false
set_option linter.unusedSimpArgs false
set_option maxRecDepth 100000
open Go.RowKit
theorem zIz (l:List UInt8):(bs l).data.toList=l:=by simp[bs]
theorem zMi (l:List UInt8):(⟨l.toArray⟩:ByteArray)=bs l:=rfl
theorem zFu (w:World) (q:Nat) (os:Array Obj):Below w.heap.size w (Sort.grow (w.drewN q) os):=by
 refine ⟨rfl,rfl,rfl,?_,λk hk=>?_⟩
 .show _<=(w.heap++os).size;rw[Array.size_append];omega
 .show (w.heap++os)[k]?=_;rw[Array.getElem?_append_left hk]
theorem zDJ (n:Nat) (hn:n<4611686018427387904) (w:World) (hv:VrOK w):Calls Tryz.prog 152 #[.int .i64 (n:Int)] w λe w'=>e = .returned (.string (bs (Lib.decDigits n)))/\Below w.heap.size w w':=by
 refine (Tryz.strconv_Itoa (n:Int) (by omega) (by omega) w hv.tab).mono ?_
 rintro e w' ⟨rfl,k,os,rfl⟩;refine ⟨?_,zFu _ _ _⟩;rw[zMi,Lib.itoa,if_neg (by omega),Int.toNat_natCast]
end Go.Proofs.YtadjdkickjjieaaGreatDoor
