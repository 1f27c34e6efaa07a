/- Closed facts on the element types of this program's slices. -/
import Derived.Test.YtpfldcfnbgdceaaProg
import Derived.Test.YtpfldcfnbgdceaaBase
import Derived.Test.YtpfldcfnbgdceaaSum
namespace Go.Proofs.Ytpfldcfnbgdceaa
set_option linter.unusedVariables false
theorem info_u8 : (Try.prog.info? 5).map (fun i => (i.zero, i.size, i.bytes)) = some (some (.int .u8 0), 1, 1) := by kernel_rfl
theorem info_str : (Try.prog.info? 9).map (fun i => (i.zero, i.size, i.bytes)) = some (some (.string ByteArray.empty), 1, 16) := by kernel_rfl
theorem info_int : (Try.prog.info? 3).map (fun i => (i.zero, i.size, i.bytes)) = some (some (.int .i64 0), 1, 8) := by kernel_rfl
theorem nat16 {n : Nat} (h : n < 16) : n = 0 ∨ n = 1 ∨ n = 2 ∨ n = 3 ∨ n = 4 ∨ n = 5 ∨ n = 6 ∨ n = 7 ∨ n = 8 ∨ n = 9 ∨ n = 10 ∨ n = 11 ∨ n = 12 ∨ n = 13 ∨ n = 14 ∨ n = 15 := by omega
theorem idx_hex (k : IntKind) (hk : k = .u32 ∨ k = .i64 ∨ k = .u8) (y : Int) (h0 : 0 ≤ y) (h1 : y < 16) (w : World) : (Instr.index 9 (.string ⟨#[48, 49, 50, 51, 52, 53, 54, 55, 56, 57, 97, 98, 99, 100, 101, 102]⟩) (.int k y)).run Try.prog w = .ok (.int .u8 (hexd y).toNat) w := by
  obtain ⟨n, rfl⟩ := Int.eq_ofNat_of_zero_le h0
  rcases hk with rfl | rfl | rfl <;> (rcases nat16 (n := n) (by omega) with h | h | h | h | h | h | h | h | h | h | h | h | h | h | h | h <;> (subst h; rfl))
end Go.Proofs.Ytpfldcfnbgdceaa
