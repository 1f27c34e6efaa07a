/- What the shell of a law's proof tells of its tape is what the walks ask of it. -/
import Derived.Test.YthmpcdjhighhgaaGreatDoorY05
namespace Go.Proofs.YthmpcdjhighhgaaGreatDoor
set_option linter.unusedVariables false
set_option linter.unusedSimpArgs false
set_option maxRecDepth 100000
open Go.RowKit
theorem tapeArg_of {w : World} {a : Option Addr} {len cap : Nat} {zs : List Int}
    (h : (a = none ∧ len = 0 ∧ cap = 0 ∧ zs = []) ∨ ∃ x, a = some x ∧ len ≤ cap ∧ cap ≤ maxLen ∧ zs.length = cap ∧ (∀ i, i < zs.length → w.cell? (x.add i) = some (.int .i64 (zs.getD i 0))) ∧ ∀ n ∈ zs, (Lit.int .i64 n).wf = true) : TapeArg a len w := by
  rcases h with ⟨rfl, rfl, rfl, rfl⟩ | ⟨x, rfl, hl, hm, hz, hc, -⟩
  · exact ⟨Nat.zero_le _, fun j hj => absurd hj (Nat.not_lt_zero _)⟩
  · refine ⟨Nat.le_trans hl hm, fun j hj => ⟨x, _, rfl, ?_, hc j (by omega)⟩⟩
    have := World.block_lt_of_cell? w _ (hc j (by omega))
    rwa [Reads_block] at this
end Go.Proofs.YthmpcdjhighhgaaGreatDoor
