/- Walks. -/
import Derived.LaidMore
import Derived.MakeChecks
import Derived.Stop.LaidErr
import Derived.Lib.LaidTab
import Derived.Shelf.Vars
import Derived.Test.YtdmoogjddmdmbaaGreatDoorX14
import Derived.Test.YtdmoogjddmdmbaaGreatDoorRows
set_option maxRecDepth 100000
set_option maxHeartbeats 16000000
set_option linter.unusedVariables false
set_option linter.unusedSimpArgs false
namespace Go.Proofs.YtdmoogjddmdmbaaGreatDoor
open Go.RowKit
theorem Yx{w:World}(h:w.ShapedOpen Tryz.prog):nG<=w.heap.size:=by
 obtain ⟨cs,hh,-,-⟩:=h.1 (nG - 1) (((begin Tryz.prog (λ_ _=>0) default).world.heap[nG - 1]?).bind Obj.row? |>.getD default).1 (((begin Tryz.prog (λ_ _=>0) default).world.heap[nG - 1]?).bind Obj.row? |>.getD default).2 (of_decide_eq_true κ) κ;have:=(γ hh).1;have h0:nG=nG - 1+1:=κ;omega
theorem R0{w:World}(Bg:w.ShapedOpen Tryz.prog)(hL:laidMetH Tryz.prog Rows.scanFindsRow.laid w):dn w:=by
 rw[MakeChecks.laidMetH_plain _ _ _ κ]at hL;refine ⟨Yx Bg,?_,λe=>?_,λe=>?_,?_⟩
 .exact Lib.tabIs_of_head (zs:=Lib.pow10Tab) (g:=1) κ κ Tryz.underlying252 Tryz.underlying160 κ κ (laidMet.tail (laidMet.tail (hL)))
 .rw[show Tryz.prog.globalNamed "strconv.ErrSyntax" = none by kernel_rfl]at e;cases e
 .rw[show Tryz.prog.globalNamed "strconv.ErrRange" = none by kernel_rfl]at e;cases e
 .exact Go.Proofs.cell_of_shapedOpen_int (zero:=#[.int .i64 0]) (t:=3) Bg (of_decide_eq_true κ) κ rfl κ κ Tryz.underlying3
end Go.Proofs.YtdmoogjddmdmbaaGreatDoor
