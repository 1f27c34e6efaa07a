/- Walks of the reference's sums: each contract says what the function returns, for all texts of at most 1000000 bytes. -/
import Derived.Test.YtpfldcfnbgdceaaWalkA
namespace Go.Proofs.Ytpfldcfnbgdceaa
set_option linter.unusedVariables false
open Go.RowKit

theorem valid_any (c : Int) (w : World) :
    Calls Try.prog 24 #[.int .i64 c] w fun e w' => e = .returned (.bool (vld c)) ∧ w = w' := by
  by_cases h : 0 ≤ c
  all_goals
    go_enter Try.func24, Try.ntmps24
    go_wp2
    go_ret
    exact ⟨ret_bool (by unfold vld; first | (simp [h]; done) | (rw [decide_eq_false (by omega)]; rfl)), rfl⟩
theorem valid_ref (c : Int) (w : World) :
    Calls Try.prog 25 #[.int .i64 c] w fun e w' => e = .returned (.bool (vld c)) ∧ w = w' := by
  by_cases h : 0 ≤ c
  all_goals
    go_enter Try.func25, Try.ntmps25
    go_wp2
    go_ret
    exact ⟨ret_bool (by unfold vld; first | (simp [h]; done) | (rw [decide_eq_false (by omega)]; rfl)), rfl⟩
theorem digits_ref (s : ByteArray) (w : World) (hs : s.size ≤ 1000000) :
    Calls Try.prog 30 #[.string s] w fun e w' => e = .returned (.bool (allF dig (bl s))) ∧ w = w' := by
  go_enter Try.func30, Try.ntmps30
  go_wp2
  go_loop [3] (fun i => ∃ k : Nat, k ≤ s.size ∧ i = .int .i64 k ∧ allF dig ((bl s).drop k) = allF dig (bl s)) (fun i => s.size - (intOf i).toNat)
  case atStart => exact ⟨0, Nat.zero_le _, rfl, rfl⟩
  case round =>
    obtain ⟨k, hk, rfl, hrel⟩ := hrel
    have HR := Lib.hid hrel; clear hrel
    by_cases hlt : k < s.size
    · have hdr := Lib.hid (drop_byte s k hlt)
      by_cases h1 : (s[k].toNat : Int) < 48
      · go_wp2
        go_ret
        exact ⟨ret_bool (by rw [← HR.out, hdr.out, allF_no (dig_mk0 (by omega))]), rfl⟩
      · by_cases h2 : 57 < (s[k].toNat : Int)
        · go_wp2
          go_ret
          exact ⟨ret_bool (by rw [← HR.out, hdr.out, allF_no (dig_mk0 (by omega))]), rfl⟩
        · go_wp2
          go_round
          case rel => exact ⟨k + 1, by omega, by go_num, by rw [← HR.out, hdr.out, allF_yes (dig_mk (by omega) (by omega))]⟩
          case measure => simp [intOf]; omega
    · obtain rfl : k = s.size := by omega
      go_wp2
      go_ret
      exact ⟨ret_bool (by rw [← HR.out, drop_all]; rfl), rfl⟩
theorem capitals_ref (s : ByteArray) (w : World) (hs : s.size ≤ 1000000) :
    Calls Try.prog 31 #[.string s] w fun e w' => e = .returned (.bool (allF sgn (bl s))) ∧ w = w' := by
  go_enter Try.func31, Try.ntmps31
  go_wp2
  go_loop [3] (fun i => ∃ k : Nat, k ≤ s.size ∧ i = .int .i64 k ∧ allF sgn ((bl s).drop k) = allF sgn (bl s)) (fun i => s.size - (intOf i).toNat)
  case atStart => exact ⟨0, Nat.zero_le _, rfl, rfl⟩
  case round =>
    obtain ⟨k, hk, rfl, hrel⟩ := hrel
    have HR := Lib.hid hrel; clear hrel
    by_cases hlt : k < s.size
    · have hdr := Lib.hid (drop_byte s k hlt)
      by_cases h1 : (s[k].toNat : Int) < 48
      · by_cases h3 : (s[k].toNat : Int) < 65
        · go_wp2
          go_ret
          exact ⟨ret_bool (by rw [← HR.out, hdr.out, allF_no (sgn_mk0 (by omega))]), rfl⟩
        · exfalso; omega
      · by_cases h2 : 57 < (s[k].toNat : Int)
        · by_cases h3 : (s[k].toNat : Int) < 65
          · go_wp2
            go_ret
            exact ⟨ret_bool (by rw [← HR.out, hdr.out, allF_no (sgn_mk0 (by omega))]), rfl⟩
          · by_cases h4 : 90 < (s[k].toNat : Int)
            · go_wp2
              go_ret
              exact ⟨ret_bool (by rw [← HR.out, hdr.out, allF_no (sgn_mk0 (by omega))]), rfl⟩
            · go_wp2
              go_round
              case rel => exact ⟨k + 1, by omega, by go_num, by rw [← HR.out, hdr.out, allF_yes (sgn_mk (by omega))]⟩
              case measure => simp [intOf]; omega
        · go_wp2
          go_round
          case rel => exact ⟨k + 1, by omega, by go_num, by rw [← HR.out, hdr.out, allF_yes (sgn_mk (by omega))]⟩
          case measure => simp [intOf]; omega
    · obtain rfl : k = s.size := by omega
      go_wp2
      go_ret
      exact ⟨ret_bool (by rw [← HR.out, drop_all]; rfl), rfl⟩
theorem rest_ref (s : ByteArray) (w : World) (hs : s.size ≤ 1000000) :
    Calls Try.prog 32 #[.string s] w fun e w' => e = .returned (.int .i64 (mod97R (bl s) 0)) ∧ w = w' := by
  go_enter Try.func32, Try.ntmps32
  go_wp2
  go_loop [3, 4] (fun n i => ∃ (k : Nat) (N : Int), k ≤ s.size ∧ i = .int .i64 k ∧ n = .int .i64 N ∧ 0 ≤ N ∧ N < 97 ∧ mod97R ((bl s).drop k) N = mod97R (bl s) 0) (fun _ i => s.size - (intOf i).toNat)
  case atStart => exact ⟨0, 0, Nat.zero_le _, rfl, rfl, by omega, by omega, rfl⟩
  case round =>
    obtain ⟨k, N, hk, rfl, rfl, hN0, hN1, hrel⟩ := hrel
    have HR := Lib.hid hrel; clear hrel
    by_cases hlt : k < s.size
    · have hdr := Lib.hid (drop_byte s k hlt)
      have hcb := byte_lt s[k]
      by_cases hd : (s[k].toNat : Int) ≤ 57
      all_goals
        go_wp2
        go_round
        case rel => exact ⟨k + 1, _, by omega, by go_num, rfl, by omega, by omega, by rw [← HR.out, hdr.out]; first | exact mod97R_lo hd (by unfold val; omega) | exact mod97R_hi hd (by unfold val; omega)⟩
        case measure => simp [intOf]; omega
    · obtain rfl : k = s.size := by omega
      have hN : N = mod97R (bl s) 0 := by rw [← HR.out, drop_all]; rfl
      have HN := Lib.hid hN; clear hN
      go_wp2
      go_ret
      exact ⟨ret_int (by rw [HN.out]), rfl⟩
theorem crc_ref (s : ByteArray) (w : World) (hs : s.size ≤ 1000000) :
    Calls Try.prog 19 #[.string s] w fun e w' => e = .returned (.int .u32 (crc (bl s))) ∧ w = w' := by
  go_enter Try.func19, Try.ntmps19
  go_wp2
  go_loop [3, 4] (fun n i => ∃ (k : Nat) (N : Int), k ≤ s.size ∧ i = .int .i64 k ∧ n = .int .u32 N ∧ 0 ≤ N ∧ N < 4294967296 ∧ crcF ((bl s).drop k) N = crcF (bl s) 4294967295) (fun _ i => s.size - (intOf i).toNat)
  case atStart => exact ⟨0, _, Nat.zero_le _, rfl, rfl, by omega, by omega, rfl⟩
  case round =>
    obtain ⟨k, N, hk, rfl, rfl, hN0, hN1, hrel⟩ := hrel
    have HR := Lib.hid hrel; clear hrel
    by_cases hlt : k < s.size
    · have hdr := Lib.hid (drop_byte s k hlt)
      have hcb := byte_lt s[k]
      go_wp2
      obtain ⟨X, hX⟩ : ∃ X, X = bits .xor .u32 N s[k].toNat := ⟨_, rfl⟩
      have hXb := u32_bd .xor N s[k].toNat
      rw [← hX] at hXb ⊢
      have HX := Lib.hid hX; clear hX hcb
      go_loop [3, 5] (fun n i => ∃ (j : Nat) (M : Int), j ≤ 8 ∧ i = .int .i64 j ∧ n = .int .u32 M ∧ 0 ≤ M ∧ M < 4294967296 ∧ crcBits (8 - j) M = crcBits 8 X) (fun _ i => 8 - (intOf i).toNat)
      case atStart => exact ⟨0, X, by omega, rfl, rfl, by omega, by omega, rfl⟩
      case round =>
        obtain ⟨j, M, hj, rfl, rfl, hM0, hM1, hrel⟩ := hrel
        have HI := Lib.hid hrel; clear hrel
        by_cases hlj : j < 8
        · have hs8 := Lib.hid (show 8 - j = (8 - (j + 1)) + 1 by omega)
          rcases hb : (bits .and .u32 M 1 == 1)
          · go_wp2
            go_round
            case rel => exact ⟨j + 1, M / 2, by omega, by go_num, rfl, by omega, by omega, by rw [← HI.out, hs8.out, crcBits_step, crc_no hb]⟩
            case measure => simp [intOf]; omega
          · go_wp2
            go_round
            case rel => exact ⟨j + 1, _, by omega, by go_num, rfl, (u32_bd _ _ _).1, (u32_bd _ _ _).2, by rw [← HI.out, hs8.out, crcBits_step, crc_yes hb]⟩
            case measure => simp [intOf]; omega
        · obtain rfl : j = 8 := by omega
          go_wp2
          go_round
          case rel => exact ⟨k + 1, M, by omega, by go_num, rfl, by omega, by omega, by rw [← HR.out, hdr.out, crcF, ← HX.out, ← HI.out]; rfl⟩
          case measure => simp [intOf]; omega
    · obtain rfl : k = s.size := by omega
      have hN : N = crcF (bl s) 4294967295 := by rw [← HR.out, drop_all]; rfl
      have HN := Lib.hid hN; clear hN
      go_wp2
      go_ret
      exact ⟨ret_int (by unfold crc; rw [← HN.out]), rfl⟩
theorem letter_ref (s : ByteArray) (w : World) (hs : s.size ≤ 1000000) :
    Calls Try.prog 21 #[.string s] w fun e w' => e = .returned (.int .u8 (65 + letF (bl s) 0 0)) ∧ w = w' := by
  go_enter Try.func21, Try.ntmps21
  go_wp2
  have hbd := letF_bd (bl s) 0 0 (by omega) (by omega)
  go_loop [3, 4] (fun n i => ∃ (k : Nat) (N : Int), k ≤ s.size ∧ i = .int .i64 k ∧ n = .int .i64 N ∧ 0 ≤ N ∧ N < 26 ∧ letF ((bl s).drop k) k N = letF (bl s) 0 0) (fun _ i => s.size - (intOf i).toNat)
  case atStart => exact ⟨0, 0, Nat.zero_le _, rfl, rfl, by omega, by omega, rfl⟩
  case round =>
    obtain ⟨k, N, hk, rfl, rfl, hN0, hN1, hrel⟩ := hrel
    have HR := Lib.hid hrel; clear hrel
    by_cases hlt : k < s.size
    · have hdr := Lib.hid (drop_byte s k hlt)
      have hcb := byte_lt s[k]
      have hp := let_step_bd s[k].toNat k (by omega) hcb (by omega)
      go_wp2
      go_round
      case rel => exact ⟨k + 1, (N + s[k].toNat * ((k + 1) % 26)) % 26, by omega, by go_num, rfl, by omega, by omega, by rw [← HR.out, hdr.out]; rfl⟩
      case measure => simp [intOf]; omega
    · obtain rfl : k = s.size := by omega
      have hN : N = letF (bl s) 0 0 := by rw [← HR.out, drop_all]; rfl
      have HN := Lib.hid hN; clear hN hbd
      go_wp2
      go_ret
      exact ⟨ret_int (by rw [HN.out]), rfl⟩
end Go.Proofs.Ytpfldcfnbgdceaa
