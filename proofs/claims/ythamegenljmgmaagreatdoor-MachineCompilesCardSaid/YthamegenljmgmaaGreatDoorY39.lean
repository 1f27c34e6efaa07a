/- Walks. -/
import Derived.LaidMore
import Derived.MakeChecks
import Derived.Stop.LaidErr
import Derived.Lib.LaidTab
import Derived.Shelf.Vars
import Derived.Test.YthamegenljmgmaaGreatDoorY17
import Derived.Test.YthamegenljmgmaaGreatDoorRows
set_option maxRecDepth 100000
set_option maxHeartbeats 16000000
set_option linter.unusedVariables false
set_option linter.unusedSimpArgs false
namespace Go.Proofs.YthamegenljmgmaaGreatDoor
open Go.RowKit
theorem Oz(u:TypeId)(h:Tryz.prog.typeName? 3 u=some "*errors.errorString"):u=215:=
 typeName_ptr_named (nm:="errors.errorString") (by rw[show "*"++"errors.errorString" = "*errors.errorString" by decide];kernel_rfl) R O u (by rw[show "*"++"errors.errorString" = "*errors.errorString" by decide];exact h)
theorem X4{w:World}(h:w.ShapedOpen Tryz.prog):nG<=w:=by
 obtain ⟨cs,hh,-,-⟩:=h.1 (nG - 1) (((begin Tryz.prog (λ_ _=>0) default).world.heap[nG - 1]?).bind Obj.row? |>.getD default).1 (((begin Tryz.prog (λ_ _=>0) default).world.heap[nG - 1]?).bind Obj.row? |>.getD default).2 (of_decide_eq_true R) R;have:=(γ hh).1;have h0:nG=nG - 1+1:=R;omega
theorem Ri{w:World}(PY:w.ShapedOpen Tryz.prog)(hL:laidMetH Tryz.prog Rows.machineCompilesRow.laid w):eU w:=by
 rw[MakeChecks.laidMetH_plain _ _ _ R]at hL;refine ⟨X4 PY,?_,?_,?_,?_⟩
 .exact Lib.tabIs_of_head (zs:=Lib.pow10Tab) (g:=0) R R Tryz.underlying175 Tryz.underlying146 R R (laidMet.tail (laidMet.tail (hL)))
 .obtain ⟨a,s,h,-⟩:=laid_sentinel (laidMet.tail (laidMet.tail (laidMet.tail (laidMet.tail (laidMet.tail (hL)))))) (g:=3) R R Tryz.underlying86 Oz Tryz.underlying215 Tryz.underlying217 rfl rfl Tryz.underlying9 R R;exact λ_=>⟨_,_,h⟩
 .obtain ⟨a,s,h,-⟩:=laid_sentinel (laidMet.tail (laidMet.tail (laidMet.tail (laidMet.tail (hL))))) (g:=4) R R Tryz.underlying86 Oz Tryz.underlying215 Tryz.underlying217 rfl rfl Tryz.underlying9 R R;exact λ_=>⟨_,_,h⟩
 .exact Go.Proofs.cell_of_shapedOpen_int (zero:=#[(0:Int)]) (t:=3) PY (of_decide_eq_true R) R rfl R R Tryz.underlying3
end Go.Proofs.YthamegenljmgmaaGreatDoor
