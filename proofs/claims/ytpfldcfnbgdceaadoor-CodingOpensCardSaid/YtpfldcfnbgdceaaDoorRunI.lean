/- The reference's order of runs. -/
import Derived.Test.YtpfldcfnbgdceaaDoorRunH
import Derived.Test.YtpfldcfnbgdceaaDoorRunE
namespace Go.Proofs.YtpfldcfnbgdceaaDoor
set_option linter.unusedVariables false
set_option linter.unusedSimpArgs false
set_option maxRecDepth 100000
open Go.RowKit
set_option maxHeartbeats 1000000 in
theorem before_any (x y : Rn) (W : World) : Calls Tryd.prog 51 #[.agg (encR x).toArray, .agg (encR y).toArray] W fun e w' => e = .returned (.bool (ltR x y)) ∧ Below W.heap.size W w' := by
  obtain ⟨xc, xf, xt⟩ := x
  obtain ⟨yc, yf, yt⟩ := y
  unfold encR ltR
  simp only
  go_enter Tryd.func51, Tryd.ntmps51
  go_wp2
  all_goals go_ret
  all_goals refine ⟨ret_bool ?_, ((Below.refl _ _).alloc (Nat.le_refl _) _).alloc (by go_simp) _⟩
  all_goals (rw [Bool.eq_iff_iff]; simp <;> omega)
end Go.Proofs.YtpfldcfnbgdceaaDoor
