/- Walks of the leaves of check sums: each contract says what the function returns, for all texts of a length that Go allows. -/
import Derived.Test.YtpfldcfnbgdceaaProg
import Derived.Test.YtpfldcfnbgdceaaBase
import Derived.Test.YtpfldcfnbgdceaaSum
namespace Go.Proofs.Ytpfldcfnbgdceaa
set_option linter.unusedVariables false
open Go.RowKit

theorem digit_any (c : Int) (w : World) :
    Calls Try.prog 36 #[.int .u8 c] w fun e w' => e = .returned (.bool (dig c)) ∧ w = w' := by
  by_cases h : 48 ≤ c
  all_goals
    go_enter Try.func36, Try.ntmps36
    go_wp2
    go_ret
    exact ⟨ret_bool (by unfold dig; first | (simp [h]; done) | (rw [decide_eq_false (by omega)]; rfl)), rfl⟩
theorem capital_any (c : Int) (w : World) :
    Calls Try.prog 40 #[.int .u8 c] w fun e w' => e = .returned (.bool (cap c)) ∧ w = w' := by
  by_cases h : 65 ≤ c
  all_goals
    go_enter Try.func40, Try.ntmps40
    go_wp2
    go_ret
    exact ⟨ret_bool (by unfold cap; first | (simp [h]; done) | (rw [decide_eq_false (by omega)]; rfl)), rfl⟩

set_option maxHeartbeats 400000 in
theorem letter_any (s : ByteArray) (w : World) (hs : s.size ≤ 1000000) :
    Calls Try.prog 20 #[.string s] w fun e w' => e = .returned (.int .u8 (65 + letF (bl s) 0 0)) ∧ Below w.heap.size w w' := by
  have hcv := fun w => Lib.run_convert_string_bytes (P := Try.prog) w 9 28 5 s Try.underlying9 Try.underlying28 Try.underlying5
  obtain ⟨W, C, B, hW, hC, hB, hcell, hbel, -⟩ := conv_names w 5 s
  have hbd := letF_bd (bl s) 0 0 (by omega) (by omega)
  go_enter Try.func20, Try.ntmps20
  go_wp2
  rw [← hW, ← hC, ← hB]
  clear hcv hW hC
  have hBw := Lib.hid hB; clear hB
  go_loop [3, 4, 5, 9] (fun n _ _ i => ∃ (k : Nat) (N : Int), k ≤ s.size ∧ i = .int .i64 k ∧ n = .int .i64 N ∧ 0 ≤ N ∧ N < 26 ∧ letF ((bl s).drop k) k N = letF (bl s) 0 0) (fun _ _ _ i => s.size - (intOf i).toNat)
  case atStart => exact ⟨0, 0, Nat.zero_le _, rfl, rfl, by omega, by omega, rfl⟩
  case round =>
    obtain ⟨k, N, hk, rfl, rfl, hN0, hN1, hrel⟩ := hrel
    have HR := Lib.hid hrel; clear hrel
    by_cases hlt : k < s.size
    · obtain ⟨u, c, hcu, hc0, hc1, hc, hdr⟩ := byte_of hcell k hlt
      have hp := let_step_bd c k hc0 hc1 (by omega)
      go_wp2
      go_round
      case rel =>
        refine ⟨k + 1, (N + c * ((k + 1) % 26)) % 26, by omega, by go_num, rfl, by omega, by omega, ?_⟩
        rw [← HR.out, hdr.out, hcu.out]; rfl
      case measure => simp [intOf]; omega
    · obtain rfl : k = s.size := by omega
      have hN : N = letF (bl s) 0 0 := by rw [← HR.out, drop_all]; rfl
      have HN := Lib.hid hN; clear hN hbd
      go_wp2
      go_ret
      exact ⟨ret_int (by rw [HN.out]), hBw.out ▸ hbel⟩

theorem signs1_any (c : Int) (w : World) :
    Calls Try.prog 39 #[.int .u8 c] w fun e w' => e = .returned (.bool (sgn c)) ∧ w = w' := by
  by_cases h : dig c = true
  · go_enter Try.func39, Try.ntmps39
    go_wp2_with (go_at_call 36; refine (digit_any _ _).mono ?_; rintro e w' ⟨rfl, rfl⟩)
    go_ret
    exact ⟨ret_bool (by unfold sgn; rw [h]; rfl), rfl⟩
  · have h : dig c = false := by simpa using h
    go_enter Try.func39, Try.ntmps39
    go_wp2_with (first | (go_at_call 36; refine (digit_any _ _).mono ?_; rintro e w' ⟨rfl, rfl⟩) | (go_at_call 40; refine (capital_any _ _).mono ?_; rintro e w' ⟨rfl, rfl⟩))
    go_ret
    exact ⟨ret_bool (by unfold sgn; rw [h]; rfl), rfl⟩

theorem all_any (n : FuncId) (p : Int → Bool) (hn : n = 36 ∨ n = 39)
    (hcon : ∀ c w, Calls Try.prog n #[.int .u8 c] w fun e w' => e = .returned (.bool (p c)) ∧ w = w') (s : ByteArray) (w : World) (hs : s.size ≤ 1000000) :
    Calls Try.prog 35 #[.string s, .func (.func n) #[] #[]] w fun e w' => e = .returned (.bool (allF p (bl s))) ∧ Below w.heap.size w w' := by
  have hcv := fun w => Lib.run_convert_string_bytes (P := Try.prog) w 9 28 5 s Try.underlying9 Try.underlying28 Try.underlying5
  obtain ⟨W, C, B, hW, hC, hB, hcell, hbel, -⟩ := conv_names w 5 s
  have HC := Lib.hid hcon; clear hcon
  rcases hn with rfl | rfl
  all_goals
    go_enter Try.func35, Try.ntmps35
    go_wp2
    rw [← hW, ← hC, ← hB]
    clear hcv hW hC
    have hBw := Lib.hid hB; clear hB
    go_loop [10] (fun i => ∃ k : Nat, k ≤ s.size ∧ i = .int .i64 k ∧ allF p ((bl s).drop k) = (allF p (bl s))) (fun i => s.size - (intOf i).toNat)
    case atStart => exact ⟨0, Nat.zero_le _, rfl, rfl⟩
    case round =>
      obtain ⟨k, hk, rfl, hrel⟩ := hrel
      have HR := Lib.hid hrel; clear hrel
      by_cases hlt : k < s.size
      · obtain ⟨u, c, hcu, hc0, hc1, hc, hdr⟩ := byte_of hcell k hlt
        by_cases hp : p c = true
        · go_wp2_with (first | (go_at_call 36; refine (HC.out _ _).mono ?_; rintro e w' ⟨rfl, rfl⟩) | (go_at_call 39; refine (HC.out _ _).mono ?_; rintro e w' ⟨rfl, rfl⟩))
          go_round
          case rel => exact ⟨k + 1, by omega, by go_num, by rw [← HR.out, hdr.out, allF_yes (by rw [← hcu.out]; exact hp)]⟩
          case measure => simp [intOf]; omega
        · have hp : p c = false := by simpa using hp
          go_wp2_with (first | (go_at_call 36; refine (HC.out _ _).mono ?_; rintro e w' ⟨rfl, rfl⟩) | (go_at_call 39; refine (HC.out _ _).mono ?_; rintro e w' ⟨rfl, rfl⟩))
          go_ret
          exact ⟨ret_bool (by rw [← HR.out, hdr.out, allF_no (by rw [← hcu.out]; exact hp)]), hBw.out ▸ hbel⟩
      · obtain rfl : k = s.size := by omega
        go_wp2
        go_ret
        exact ⟨ret_bool (by rw [← HR.out, drop_all]; rfl), hBw.out ▸ hbel⟩

theorem signs_any (s : ByteArray) (w : World) (hs : s.size ≤ 1000000) :
    Calls Try.prog 34 #[.string s] w fun e w' => e = .returned (.bool (allF sgn (bl s))) ∧ Below w.heap.size w w' := by
  go_enter Try.func34, Try.ntmps34
  go_wp2_with (go_at_call 35; refine (all_any _ _ (Or.inr rfl) (fun _ _ => signs1_any _ _) _ _ hs).mono ?_; rintro e w' ⟨rfl, hb⟩)
  go_ret
  exact ⟨rfl, hb⟩
end Go.Proofs.Ytpfldcfnbgdceaa
