/- Bits of small numbers as sums and remainders. No program in sight. -/
import Derived.Test.YtpfldcfnbgdceaaDoorBase
namespace Go.Proofs.YtpfldcfnbgdceaaDoor
set_option linter.unusedVariables false
set_option linter.unusedSimpArgs false
set_option maxRecDepth 100000
open Go.RowKit
theorem ofInt_nat (n : Nat) (h : n < 18446744073709551616) : (BitVec.ofInt 64 (n : Int)).toNat = n := by
  rw [BitVec.toNat_ofInt]; omega
theorem or_nat (a b i : Nat) (hb : b < 2 ^ i) (h : a * 2 ^ i + b < 4611686018427387904) : bits .or .i64 ((a * 2 ^ i : Nat) : Int) (b : Int) = ((a * 2 ^ i + b : Nat) : Int) := by
  have e : (BitVec.ofInt 64 ((a * 2 ^ i : Nat) : Int) ||| BitVec.ofInt 64 (b : Int)).toNat = a * 2 ^ i + b := by
    rw [BitVec.toNat_or, ofInt_nat _ (by omega), ofInt_nat _ (by omega), ← Nat.shiftLeft_eq, Nat.shiftLeft_add_eq_or_of_lt hb]
  unfold bits
  show IntKind.i64.wrap (((BitVec.ofInt 64 ((a * 2 ^ i : Nat) : Int) ||| BitVec.ofInt 64 (b : Int)).toNat : Nat) : Int) = _
  rw [e, IntWalk.i64_in _ (by omega)]
theorem and_nat (a i : Nat) (h : a < 4611686018427387904) (hi : i ≤ 62) : bits .and .i64 (a : Int) ((2 ^ i - 1 : Nat) : Int) = ((a % 2 ^ i : Nat) : Int) := by
  have hp : 2 ^ i ≤ 2 ^ 62 := Nat.pow_le_pow_right (by decide) hi
  have hp' : 2 ^ i ≤ 4611686018427387904 := hp
  have e : (BitVec.ofInt 64 (a : Int) &&& BitVec.ofInt 64 ((2 ^ i - 1 : Nat) : Int)).toNat = a % 2 ^ i := by
    rw [BitVec.toNat_and, ofInt_nat _ (by omega), ofInt_nat _ (by omega), Nat.and_two_pow_sub_one_eq_mod]
  have hm : a % 2 ^ i ≤ a := Nat.mod_le _ _
  unfold bits
  show IntKind.i64.wrap (((BitVec.ofInt 64 (a : Int) &&& BitVec.ofInt 64 ((2 ^ i - 1 : Nat) : Int)).toNat : Nat) : Int) = _
  rw [e, IntWalk.i64_in _ (by omega)]
theorem or_sum (x v M : Int) (i : Nat) (hM : M = 2 ^ i) (h0 : 0 ≤ x) (h1 : 0 ≤ v) (h2 : v < M) (h3 : x * M + v < 4611686018427387904) : bits .or .i64 (x * M) v = x * M + v := by
  obtain ⟨a, rfl⟩ := Int.eq_ofNat_of_zero_le h0
  obtain ⟨b, rfl⟩ := Int.eq_ofNat_of_zero_le h1
  have hM2 : M = ((2 ^ i : Nat) : Int) := by rw [hM]; simp
  subst hM2
  have := or_nat a b i (by omega) (by rw [← Int.natCast_mul] at h3; omega)
  rw [← Int.natCast_mul, this]; simp
theorem and_rem (x m M : Int) (i : Nat) (hM : M = 2 ^ i) (hm : m = M - 1) (hi : i ≤ 62) (h0 : 0 ≤ x) (h3 : x < 4611686018427387904) : bits .and .i64 x m = x % M := by
  obtain ⟨a, rfl⟩ := Int.eq_ofNat_of_zero_le h0
  have hp : 0 < 2 ^ i := Nat.two_pow_pos i
  have hM2 : M = ((2 ^ i : Nat) : Int) := by rw [hM]; simp
  subst hM2
  have hm2 : m = ((2 ^ i - 1 : Nat) : Int) := by omega
  subst hm2
  rw [and_nat a i (by omega) hi]; simp
example : bits .or .i64 (5 * 64) 7 = 5 * 64 + 7 := or_sum 5 7 64 6 (by decide) (by decide) (by decide) (by decide) (by decide)
end Go.Proofs.YtpfldcfnbgdceaaDoor
