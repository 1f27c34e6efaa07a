/- Walks of the sums: the sum of digits, the number modulo 97, the number of 32 bits; each contract says what the function returns, for all texts of a length that Go allows. -/
import Derived.Test.YtpfldcfnbgdceaaWalkA
namespace Go.Proofs.Ytpfldcfnbgdceaa
set_option linter.unusedVariables false
open Go.RowKit

theorem luhn_any (s : ByteArray) (w : World) (hs : s.size ≤ 1000000) :
    Calls Try.prog 27 #[.string s] w fun e w' => e = .returned (.int .i64 (luhnF (bl s) 0)) ∧ Below w.heap.size w w' := by
  have hcv := fun w => Lib.run_convert_string_bytes (P := Try.prog) w 9 28 5 s Try.underlying9 Try.underlying28 Try.underlying5
  obtain ⟨W, C, B, hW, hC, hB, hcell, hbel, -⟩ := conv_names w 5 s
  go_enter Try.func27, Try.ntmps27
  go_wp2
  rw [← hW, ← hC, ← hB]
  clear hcv hW hC
  have hBw := Lib.hid hB; clear hB
  go_loop [3, 10] (fun n i => ∃ (k : Nat) (N : Int), k ≤ s.size ∧ i = .int .i64 k ∧ n = .int .i64 N ∧ 0 ≤ N ∧ N ≤ 512 * k ∧ luhnF ((bl s).drop k) N = luhnF (bl s) 0) (fun _ i => s.size - (intOf i).toNat)
  case atStart => exact ⟨0, 0, Nat.zero_le _, rfl, rfl, by omega, by omega, rfl⟩
  case round =>
    obtain ⟨k, N, hk, rfl, rfl, hN0, hN1, hrel⟩ := hrel
    have HR := Lib.hid hrel; clear hrel
    by_cases hlt : k < s.size
    · obtain ⟨u, c, hcu, hc0, hc1, hc, hdr⟩ := byte_of hcell k hlt
      by_cases hev : ((s.size : Int) - k) % 2 = 0
      · have hpar := Lib.hid (show (((bl s).drop (k + 1)).length + 1) % 2 = 0 by rw [List.length_drop, size_list]; omega)
        by_cases hd : 9 < (c - 48) % 256 * 2
        · go_wp2
          go_round
          case rel => exact ⟨k + 1, _, by omega, by go_num, rfl, by omega, by omega, by rw [← HR.out, hdr.out]; exact luhn_step hcu.out (by rw [if_pos hpar.out]; unfold dbl val; split <;> omega)⟩
          case measure => simp [intOf]; omega
        · go_wp2
          go_round
          case rel => exact ⟨k + 1, _, by omega, by go_num, rfl, by omega, by omega, by rw [← HR.out, hdr.out]; exact luhn_step hcu.out (by rw [if_pos hpar.out]; unfold dbl val; split <;> omega)⟩
          case measure => simp [intOf]; omega
      · have hpar := Lib.hid (show ¬ (((bl s).drop (k + 1)).length + 1) % 2 = 0 by rw [List.length_drop, size_list]; omega)
        go_wp2
        go_round
        case rel => exact ⟨k + 1, _, by omega, by go_num, rfl, by omega, by omega, by rw [← HR.out, hdr.out]; exact luhn_step hcu.out (by rw [if_neg hpar.out]; unfold val; omega)⟩
        case measure => simp [intOf]; omega
    · obtain rfl : k = s.size := by omega
      have hN : N = luhnF (bl s) 0 := by rw [← HR.out, drop_all]; rfl
      have HN := Lib.hid hN; clear hN
      go_wp2
      go_ret
      exact ⟨ret_int (by rw [HN.out]), hBw.out ▸ hbel⟩
theorem mod97_any (s : ByteArray) (w : World) (hs : s.size ≤ 1000000) :
    Calls Try.prog 28 #[.string s] w fun e w' => e = .returned (.int .i64 (mod97F (bl s) 0)) ∧ Below w.heap.size w w' := by
  have hcv := fun w => Lib.run_convert_string_bytes (P := Try.prog) w 9 28 5 s Try.underlying9 Try.underlying28 Try.underlying5
  obtain ⟨W, C, B, hW, hC, hB, hcell, hbel, -⟩ := conv_names w 5 s
  go_enter Try.func28, Try.ntmps28
  go_wp2
  rw [← hW, ← hC, ← hB]
  clear hcv hW hC
  have hBw := Lib.hid hB; clear hB
  go_loop [3, 9] (fun n i => ∃ (k : Nat) (N : Int), k ≤ s.size ∧ i = .int .i64 k ∧ n = .int .i64 N ∧ 0 ≤ N ∧ N < 97 ∧ mod97F ((bl s).drop k) N = mod97F (bl s) 0) (fun _ i => s.size - (intOf i).toNat)
  case atStart => exact ⟨0, 0, Nat.zero_le _, rfl, rfl, by omega, by omega, rfl⟩
  case round =>
    obtain ⟨k, N, hk, rfl, rfl, hN0, hN1, hrel⟩ := hrel
    have HR := Lib.hid hrel; clear hrel
    by_cases hlt : k < s.size
    · obtain ⟨u, c, hcu, hc0, hc1, hc, hdr⟩ := byte_of hcell k hlt
      rcases hdg : dig c
      all_goals
        go_wp2_with (go_at_call 36; refine (digit_any _ _).mono ?_; rintro e w' ⟨rfl, rfl⟩)
        go_round
        case rel => exact ⟨k + 1, _, by omega, by go_num, rfl, by omega, by omega, by rw [← HR.out, hdr.out]; exact mod97_step hcu.out hdg⟩
        case measure => simp [intOf]; omega
    · obtain rfl : k = s.size := by omega
      have hN : N = mod97F (bl s) 0 := by rw [← HR.out, drop_all]; rfl
      have HN := Lib.hid hN; clear hN
      go_wp2
      go_ret
      exact ⟨ret_int (by rw [HN.out]), hBw.out ▸ hbel⟩
theorem crc_any (s : ByteArray) (w : World) (hs : s.size ≤ 1000000) :
    Calls Try.prog 18 #[.string s] w fun e w' => e = .returned (.int .u32 (crc (bl s))) ∧ Below w.heap.size w w' := by
  have hcv := fun w => Lib.run_convert_string_bytes (P := Try.prog) w 9 28 5 s Try.underlying9 Try.underlying28 Try.underlying5
  obtain ⟨W, C, B, hW, hC, hB, hcell, hbel, -⟩ := conv_names w 5 s
  go_enter Try.func18, Try.ntmps18
  go_wp2
  rw [← hW, ← hC, ← hB]
  clear hcv hW hC
  have hBw := Lib.hid hB; clear hB
  go_loop [3, 10] (fun n i => ∃ (k : Nat) (N : Int), k ≤ s.size ∧ i = .int .i64 k ∧ n = .int .u32 N ∧ 0 ≤ N ∧ N < 4294967296 ∧ crcF ((bl s).drop k) N = crcF (bl s) 4294967295) (fun _ i => s.size - (intOf i).toNat)
  case atStart => exact ⟨0, _, Nat.zero_le _, rfl, rfl, by omega, by omega, rfl⟩
  case round =>
    obtain ⟨k, N, hk, rfl, rfl, hN0, hN1, hrel⟩ := hrel
    have HR := Lib.hid hrel; clear hrel
    by_cases hlt : k < s.size
    · obtain ⟨u, c, hcu, hc0, hc1, hc, hdr⟩ := byte_of hcell k hlt
      go_wp2
      obtain ⟨X, hX⟩ : ∃ X, X = bits .xor .u32 N c := ⟨_, rfl⟩
      have hXb := u32_bd .xor N c
      rw [← hX] at hXb ⊢
      have HX := Lib.hid hX; clear hX
      go_loop [3, 18] (fun n i => ∃ (j : Nat) (M : Int), j ≤ 8 ∧ i = .int .i64 j ∧ n = .int .u32 M ∧ 0 ≤ M ∧ M < 4294967296 ∧ crcBits (8 - j) M = crcBits 8 X) (fun _ i => 8 - (intOf i).toNat)
      case atStart => exact ⟨0, X, by omega, rfl, rfl, by omega, by omega, rfl⟩
      case round =>
        obtain ⟨j, M, hj, rfl, rfl, hM0, hM1, hrel⟩ := hrel
        have HI := Lib.hid hrel; clear hrel
        by_cases hlj : j < 8
        · have hs8 := Lib.hid (show 8 - j = (8 - (j + 1)) + 1 by omega)
          have hcb := Lib.hid (crcBit_bd hM0 hM1)
          rcases hb : (bits .and .u32 M 1 == 1)
          · go_wp2
            go_round
            case rel => exact ⟨j + 1, M / 2, by omega, by go_num, rfl, by omega, by omega, by rw [← HI.out, hs8.out, crcBits_step, crc_no hb]⟩
            case measure => simp [intOf]; omega
          · go_wp2
            go_round
            case rel => exact ⟨j + 1, _, by omega, by go_num, rfl, (u32_bd _ _ _).1, (u32_bd _ _ _).2, by rw [← HI.out, hs8.out, crcBits_step, crc_yes hb]⟩
            case measure => simp [intOf]; omega
        · obtain rfl : j = 8 := by omega
          go_wp2
          go_round
          case rel => exact ⟨k + 1, M, by omega, by go_num, rfl, by omega, by omega, by rw [← HR.out, hdr.out, crcF, ← hcu.out, ← HX.out, ← HI.out]; rfl⟩
          case measure => simp [intOf]; omega
    · obtain rfl : k = s.size := by omega
      have hN : N = crcF (bl s) 4294967295 := by rw [← HR.out, drop_all]; rfl
      have HN := Lib.hid hN; clear hN
      go_wp2
      go_ret
      exact ⟨ret_int (by unfold crc; rw [← HN.out, ← xor_max]), hBw.out ▸ hbel⟩
end Go.Proofs.Ytpfldcfnbgdceaa
