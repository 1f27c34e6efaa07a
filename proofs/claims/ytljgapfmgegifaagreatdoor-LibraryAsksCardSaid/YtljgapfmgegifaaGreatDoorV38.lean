/- What the laid row of a law gives: the library's variables hold what the program's text lays. -/
import Derived.LaidMore
import Derived.MakeChecks
import Derived.Stop.LaidErr
import Derived.Lib.LaidTab
import Derived.Shelf.Vars
import Derived.Test.YtljgapfmgegifaaGreatDoorV17
import Derived.Test.YtljgapfmgegifaaGreatDoorRows
namespace Go.Proofs.YtljgapfmgegifaaGreatDoor
set_option linter.unusedVariables false
set_option linter.unusedSimpArgs false
set_option maxRecDepth 100000
open Go.RowKit
theorem vr_row (u:TypeId) (h:Tryz.prog.typeName? 3 u=some "*errors.errorString"):u=231:=
 typeName_ptr_named (nm:="errors.errorString") (by rw[show "*"++"errors.errorString" = "*errors.errorString" by decide];kernel_rfl) (by kernel_rfl) (by decide) u (by rw[show "*"++"errors.errorString" = "*errors.errorString" by decide];exact h)
theorem vr_low {w:World} (h:w.ShapedOpen Tryz.prog):nG<=w.heap.size:=by
 obtain ⟨cs,hh,-,-⟩:=h.1 (nG - 1) (((begin Tryz.prog (λ_ _=>0) default).world.heap[nG - 1]?).bind Obj.row? |>.getD default).1 (((begin Tryz.prog (λ_ _=>0) default).world.heap[nG - 1]?).bind Obj.row? |>.getD default).2 (of_decide_eq_true (by kernel_rfl)) (by kernel_rfl)
 have:=(Array.getElem?_eq_some_iff.1 hh).1;have h0:nG=nG - 1+1:=by kernel_rfl
 omega
theorem vrOK_of {w:World} (hsh:w.ShapedOpen Tryz.prog) (hL:laidMetH Tryz.prog Rows.libraryTurnsRow.laid w):VrOK w:=by
 rw[MakeChecks.laidMetH_plain _ _ _ (by kernel_rfl)]at hL
 refine ⟨vr_low hsh,?_,?_,?_,?_⟩
 .exact Lib.tabIs_of_head (zs:=Lib.pow10Tab) (g:=3) (by kernel_rfl) (by kernel_rfl) Tryz.underlying250 Tryz.underlying159 (by kernel_rfl) (by kernel_rfl) (laidMet.tail (laidMet.tail (hL)))
 .obtain ⟨a,s,h,-⟩:=laid_sentinel (laidMet.tail (laidMet.tail (laidMet.tail (laidMet.tail (laidMet.tail (hL)))))) (g:=1) (by kernel_rfl) (by kernel_rfl) Tryz.underlying107 vr_row Tryz.underlying231 Tryz.underlying233 rfl rfl Tryz.underlying9 (by kernel_rfl) (by kernel_rfl)
  exact λ_=>⟨_,_,h⟩
 .obtain ⟨a,s,h,-⟩:=laid_sentinel (laidMet.tail (laidMet.tail (laidMet.tail (laidMet.tail (hL))))) (g:=2) (by kernel_rfl) (by kernel_rfl) Tryz.underlying107 vr_row Tryz.underlying231 Tryz.underlying233 rfl rfl Tryz.underlying9 (by kernel_rfl) (by kernel_rfl)
  exact λ_=>⟨_,_,h⟩
 .exact Go.Proofs.cell_of_shapedOpen_int (zero:=#[.int .i64 0]) (t:=3) hsh (of_decide_eq_true (by kernel_rfl)) (by kernel_rfl) rfl (by kernel_rfl) (by kernel_rfl) Tryz.underlying3
end Go.Proofs.YtljgapfmgegifaaGreatDoor
