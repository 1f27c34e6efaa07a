/- Walks. -/
import Derived.LaidMore
import Derived.MakeChecks
import Derived.Stop.LaidErr
import Derived.Lib.LaidTab
import Derived.Shelf.Vars
import Derived.Test.YtdmoogjddmdmbaaGreatDoorV18
import Derived.Test.YtdmoogjddmdmbaaGreatDoorRows
set_option maxRecDepth 100000
set_option maxHeartbeats 16000000
set_option linter.unusedVariables false
set_option linter.unusedSimpArgs false
namespace Go.Proofs.YtdmoogjddmdmbaaGreatDoor
open Go.RowKit
section
set_option linter.unusedVariables false
set_option linter.unusedSimpArgs false
open Go.RowKit
theorem YD {w:World} (h:w.ShapedOpen Tryz.prog):nG<=w.heap.size:=by
 obtain ⟨cs,hh,-,-⟩:=h.1 (nG - 1) (((begin Tryz.prog (λ_ _=>0) default).world.heap[nG - 1]?).bind Obj.row? |>.getD default).1 (((begin Tryz.prog (λ_ _=>0) default).world.heap[nG - 1]?).bind Obj.row? |>.getD default).2 (of_decide_eq_true (by kernel_rfl)) (by kernel_rfl)
 have:=(Array.getElem?_eq_some_iff.1 hh).1;have h0:nG=nG - 1+1:=by kernel_rfl
 omega
theorem Sg {w:World} (Gq:w.ShapedOpen Tryz.prog) (hL:laidMetH Tryz.prog Rows.scanFindsRow.laid w):cd w:=by
 rw[MakeChecks.laidMetH_plain _ _ _ (by kernel_rfl)]at hL
 refine ⟨YD Gq,?_,λe=>?_,λe=>?_,?_⟩
 .exact Lib.tabIs_of_head (zs:=Lib.pow10Tab) (g:=1) (by kernel_rfl) (by kernel_rfl) Tryz.underlying252 Tryz.underlying160 (by kernel_rfl) (by kernel_rfl) (laidMet.tail (laidMet.tail (hL)))
 .rw[show Tryz.prog.globalNamed "strconv.ErrSyntax" = none by kernel_rfl]at e;cases e
 .rw[show Tryz.prog.globalNamed "strconv.ErrRange" = none by kernel_rfl]at e;cases e
 .exact Go.Proofs.cell_of_shapedOpen_int (zero:=#[.int .i64 0]) (t:=3) Gq (of_decide_eq_true (by kernel_rfl)) (by kernel_rfl) rfl (by kernel_rfl) (by kernel_rfl) Tryz.underlying3
end
end Go.Proofs.YtdmoogjddmdmbaaGreatDoor
