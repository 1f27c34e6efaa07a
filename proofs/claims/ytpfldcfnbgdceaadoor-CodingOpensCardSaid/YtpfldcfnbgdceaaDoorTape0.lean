/- What a call of a law is handed as its tape, and the tape that it makes of it. -/
import Derived.Test.YtpfldcfnbgdceaaDoorTape
namespace Go.Proofs.YtpfldcfnbgdceaaDoor
set_option linter.unusedVariables false
set_option linter.unusedSimpArgs false
set_option maxRecDepth 100000
open Go.RowKit
/-- What a call of a law is handed as its tape. -/
def TapeArg (A : Option Addr) (n : Nat) (w : World) : Prop := n ≤ maxLen ∧ ∀ j, j < n → ∃ ad x, A = some ad ∧ ad.block < w.heap.size ∧ w.cell? (ad.add j) = some (.int .i64 x)
theorem tape_new {A : Option Addr} {n c : Nat} {w : World} (h : TapeArg A n w) : TapeOK w.heap.size (w.alloc (.cells #[.slice A n c, .int .i64 0] 26)) := by
  refine ⟨A, n, c, 0, heap_alloc_new w _, Nat.zero_le _, h.1, fun j hj => ?_⟩
  obtain ⟨ad, x, ha, hlt, hc⟩ := h.2 j hj
  exact ⟨ad, x, ha, hlt, (World.cell?_alloc_lt w _ _ (by rw [Reads_block]; exact hlt)).trans hc⟩
end Go.Proofs.YtpfldcfnbgdceaaDoor
