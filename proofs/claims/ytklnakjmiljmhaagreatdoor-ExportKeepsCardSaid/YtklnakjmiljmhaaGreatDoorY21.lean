/- What the shell of a law's proof tells of its tape is what the walks ask of it. · Walks of the reference of check sums: what a text is completed by. · Walks: the patterns of kinds. · The library comparison of ints. -/
import Derived.Test.YtklnakjmiljmhaaGreatDoorY03
import Derived.Test.YtklnakjmiljmhaaGreatDoorY02
namespace Go.Proofs.YtklnakjmiljmhaaGreatDoor
set_option linter.unusedVariables false
set_option linter.unusedSimpArgs false
set_option maxRecDepth 100000
open Go.RowKit
theorem tapeArg_of {w : World} {a : Option Addr} {len cap : Nat} {zs : List Int}
    (h : (a = none ∧ len = 0 ∧ cap = 0 ∧ zs = []) ∨ ∃ x, a = some x ∧ len ≤ cap ∧ cap ≤ maxLen ∧ zs.length = cap ∧ (∀ i, i < zs.length → w.cell? (x.add i) = some (.int .i64 (zs.getD i 0))) ∧ ∀ n ∈ zs, (Lit.int .i64 n).wf = true) : TapeArg a len w := by
  rcases h with ⟨rfl, rfl, rfl, rfl⟩ | ⟨x, rfl, hl, hm, hz, hc, -⟩
  · exact ⟨Nat.zero_le _, fun j hj => absurd hj (Nat.not_lt_zero _)⟩
  · refine ⟨Nat.le_trans hl hm, fun j hj => ⟨x, _, rfl, ?_, hc j (by omega)⟩⟩
    have := World.block_lt_of_cell? w _ (hc j (by omega))
    rwa [Reads_block] at this
end Go.Proofs.YtklnakjmiljmhaaGreatDoor
namespace Go.Proofs.YtklnakjmiljmhaaGreatDoor
set_option linter.unusedVariables false
set_option linter.unusedSimpArgs false
set_option maxRecDepth 100000
open Go.RowKit
theorem valid_ref (c : Int) (w : World) :
    Calls Tryz.prog 80 #[.int .i64 c] w fun e w' => e = .returned (.bool (vld c)) ∧ w = w' := by
  by_cases h : 0 ≤ c
  all_goals
    go_enter Tryz.func80, Tryz.ntmps80
    go_wp2
    go_ret
    exact ⟨ret_bool (by unfold vld; first | (simp [h]; done) | (rw [decide_eq_false (by omega)]; rfl)), rfl⟩
theorem digits_ref (s : ByteArray) (w : World) (hs : s.size ≤ 1000000) :
    Calls Tryz.prog 81 #[.string s] w fun e w' => e = .returned (.bool (allF dig (bl s))) ∧ w = w' := by
  go_enter Tryz.func81, Tryz.ntmps81
  go_wp2
  go_loop [3] (fun i => ∃ k : Nat, k ≤ s.size ∧ i = .int .i64 k ∧ allF dig ((bl s).drop k) = allF dig (bl s)) (fun i => s.size - (intOf i).toNat)
  case atStart => exact ⟨0, Nat.zero_le _, rfl, rfl⟩
  case round =>
    obtain ⟨k, hk, rfl, hrel⟩ := hrel
    have HR := Lib.hid hrel; clear hrel
    by_cases hlt : k < s.size
    · have hdr := Lib.hid (drop_byte s k hlt)
      by_cases h1 : (s[k].toNat : Int) < 48
      · go_wp2
        go_ret
        exact ⟨ret_bool (by rw [← HR.out, hdr.out, allF_no (dig_mk0 (by omega))]), rfl⟩
      · by_cases h2 : 57 < (s[k].toNat : Int)
        · go_wp2
          go_ret
          exact ⟨ret_bool (by rw [← HR.out, hdr.out, allF_no (dig_mk0 (by omega))]), rfl⟩
        · go_wp2
          go_round
          case rel => exact ⟨k + 1, by omega, by go_num, by rw [← HR.out, hdr.out, allF_yes (dig_mk (by omega) (by omega))]⟩
          case measure => simp [intOf]; omega
    · obtain rfl : k = s.size := by omega
      go_wp2
      go_ret
      exact ⟨ret_bool (by rw [← HR.out, drop_all]; rfl), rfl⟩
theorem capitals_ref (s : ByteArray) (w : World) (hs : s.size ≤ 1000000) :
    Calls Tryz.prog 82 #[.string s] w fun e w' => e = .returned (.bool (allF sgn (bl s))) ∧ w = w' := by
  go_enter Tryz.func82, Tryz.ntmps82
  go_wp2
  go_loop [3] (fun i => ∃ k : Nat, k ≤ s.size ∧ i = .int .i64 k ∧ allF sgn ((bl s).drop k) = allF sgn (bl s)) (fun i => s.size - (intOf i).toNat)
  case atStart => exact ⟨0, Nat.zero_le _, rfl, rfl⟩
  case round =>
    obtain ⟨k, hk, rfl, hrel⟩ := hrel
    have HR := Lib.hid hrel; clear hrel
    by_cases hlt : k < s.size
    · have hdr := Lib.hid (drop_byte s k hlt)
      by_cases h1 : (s[k].toNat : Int) < 48
      · by_cases h3 : (s[k].toNat : Int) < 65
        · go_wp2
          go_ret
          exact ⟨ret_bool (by rw [← HR.out, hdr.out, allF_no (sgn_mk0 (by omega))]), rfl⟩
        · exfalso; omega
      · by_cases h2 : 57 < (s[k].toNat : Int)
        · by_cases h3 : (s[k].toNat : Int) < 65
          · go_wp2
            go_ret
            exact ⟨ret_bool (by rw [← HR.out, hdr.out, allF_no (sgn_mk0 (by omega))]), rfl⟩
          · by_cases h4 : 90 < (s[k].toNat : Int)
            · go_wp2
              go_ret
              exact ⟨ret_bool (by rw [← HR.out, hdr.out, allF_no (sgn_mk0 (by omega))]), rfl⟩
            · go_wp2
              go_round
              case rel => exact ⟨k + 1, by omega, by go_num, by rw [← HR.out, hdr.out, allF_yes (sgn_mk (by omega))]⟩
              case measure => simp [intOf]; omega
        · go_wp2
          go_round
          case rel => exact ⟨k + 1, by omega, by go_num, by rw [← HR.out, hdr.out, allF_yes (sgn_mk (by omega))]⟩
          case measure => simp [intOf]; omega
    · obtain rfl : k = s.size := by omega
      go_wp2
      go_ret
      exact ⟨ret_bool (by rw [← HR.out, drop_all]; rfl), rfl⟩
theorem rest_ref (s : ByteArray) (w : World) (hs : s.size ≤ 1000000) :
    Calls Tryz.prog 84 #[.string s] w fun e w' => e = .returned (.int .i64 (mod97R (bl s) 0)) ∧ w = w' := by
  go_enter Tryz.func84, Tryz.ntmps84
  go_wp2
  go_loop [3, 4] (fun n i => ∃ (k : Nat) (N : Int), k ≤ s.size ∧ i = .int .i64 k ∧ n = .int .i64 N ∧ 0 ≤ N ∧ N < 97 ∧ mod97R ((bl s).drop k) N = mod97R (bl s) 0) (fun _ i => s.size - (intOf i).toNat)
  case atStart => exact ⟨0, 0, Nat.zero_le _, rfl, rfl, by omega, by omega, rfl⟩
  case round =>
    obtain ⟨k, N, hk, rfl, rfl, hN0, hN1, hrel⟩ := hrel
    have HR := Lib.hid hrel; clear hrel
    by_cases hlt : k < s.size
    · have hdr := Lib.hid (drop_byte s k hlt)
      have hcb := byte_lt s[k]
      by_cases hd : (s[k].toNat : Int) ≤ 57
      all_goals
        go_wp2
        go_round
        case rel => exact ⟨k + 1, _, by omega, by go_num, rfl, by omega, by omega, by rw [← HR.out, hdr.out]; first | exact mod97R_lo hd (by unfold val; omega) | exact mod97R_hi hd (by unfold val; omega)⟩
        case measure => simp [intOf]; omega
    · obtain rfl : k = s.size := by omega
      have hN : N = mod97R (bl s) 0 := by rw [← HR.out, drop_all]; rfl
      have HN := Lib.hid hN; clear hN
      go_wp2
      go_ret
      exact ⟨ret_int (by rw [HN.out]), rfl⟩
theorem crc_ref (s : ByteArray) (w : World) (hs : s.size ≤ 1000000) :
    Calls Tryz.prog 86 #[.string s] w fun e w' => e = .returned (.int .u32 (crc (bl s))) ∧ w = w' := by
  go_enter Tryz.func86, Tryz.ntmps86
  go_wp2
  go_loop [3, 4] (fun n i => ∃ (k : Nat) (N : Int), k ≤ s.size ∧ i = .int .i64 k ∧ n = .int .u32 N ∧ 0 ≤ N ∧ N < 4294967296 ∧ crcF ((bl s).drop k) N = crcF (bl s) 4294967295) (fun _ i => s.size - (intOf i).toNat)
  case atStart => exact ⟨0, _, Nat.zero_le _, rfl, rfl, by omega, by omega, rfl⟩
  case round =>
    obtain ⟨k, N, hk, rfl, rfl, hN0, hN1, hrel⟩ := hrel
    have HR := Lib.hid hrel; clear hrel
    by_cases hlt : k < s.size
    · have hdr := Lib.hid (drop_byte s k hlt)
      have hcb := byte_lt s[k]
      go_wp2
      obtain ⟨X, hX⟩ : ∃ X, X = bits .xor .u32 N s[k].toNat := ⟨_, rfl⟩
      have hXb := u32_bd .xor N s[k].toNat
      rw [← hX] at hXb ⊢
      have HX := Lib.hid hX; clear hX hcb
      go_loop [3, 5] (fun n i => ∃ (j : Nat) (M : Int), j ≤ 8 ∧ i = .int .i64 j ∧ n = .int .u32 M ∧ 0 ≤ M ∧ M < 4294967296 ∧ crcBits (8 - j) M = crcBits 8 X) (fun _ i => 8 - (intOf i).toNat)
      case atStart => exact ⟨0, X, by omega, rfl, rfl, by omega, by omega, rfl⟩
      case round =>
        obtain ⟨j, M, hj, rfl, rfl, hM0, hM1, hrel⟩ := hrel
        have HI := Lib.hid hrel; clear hrel
        by_cases hlj : j < 8
        · have hs8 := Lib.hid (show 8 - j = (8 - (j + 1)) + 1 by omega)
          rcases hb : (bits .and .u32 M 1 == 1)
          · go_wp2
            go_round
            case rel => exact ⟨j + 1, M / 2, by omega, by go_num, rfl, by omega, by omega, by rw [← HI.out, hs8.out, crcBits_step, crc_no hb]⟩
            case measure => simp [intOf]; omega
          · go_wp2
            go_round
            case rel => exact ⟨j + 1, _, by omega, by go_num, rfl, (u32_bd _ _ _).1, (u32_bd _ _ _).2, by rw [← HI.out, hs8.out, crcBits_step, crc_yes hb]⟩
            case measure => simp [intOf]; omega
        · obtain rfl : j = 8 := by omega
          go_wp2
          go_round
          case rel => exact ⟨k + 1, M, by omega, by go_num, rfl, by omega, by omega, by rw [← HR.out, hdr.out, crcF, ← HX.out, ← HI.out]; rfl⟩
          case measure => simp [intOf]; omega
    · obtain rfl : k = s.size := by omega
      have hN : N = crcF (bl s) 4294967295 := by rw [← HR.out, drop_all]; rfl
      have HN := Lib.hid hN; clear hN
      go_wp2
      go_ret
      exact ⟨ret_int (by unfold crc; rw [← HN.out]), rfl⟩
theorem letter_ref (s : ByteArray) (w : World) (hs : s.size ≤ 1000000) :
    Calls Tryz.prog 87 #[.string s] w fun e w' => e = .returned (.int .u8 (65 + letF (bl s) 0 0)) ∧ w = w' := by
  go_enter Tryz.func87, Tryz.ntmps87
  go_wp2
  have hbd := letF_bd (bl s) 0 0 (by omega) (by omega)
  go_loop [3, 4] (fun n i => ∃ (k : Nat) (N : Int), k ≤ s.size ∧ i = .int .i64 k ∧ n = .int .i64 N ∧ 0 ≤ N ∧ N < 26 ∧ letF ((bl s).drop k) k N = letF (bl s) 0 0) (fun _ i => s.size - (intOf i).toNat)
  case atStart => exact ⟨0, 0, Nat.zero_le _, rfl, rfl, by omega, by omega, rfl⟩
  case round =>
    obtain ⟨k, N, hk, rfl, rfl, hN0, hN1, hrel⟩ := hrel
    have HR := Lib.hid hrel; clear hrel
    by_cases hlt : k < s.size
    · have hdr := Lib.hid (drop_byte s k hlt)
      have hcb := byte_lt s[k]
      have hp := let_step_bd s[k].toNat k (by omega) hcb (by omega)
      go_wp2
      go_round
      case rel => exact ⟨k + 1, (N + s[k].toNat * ((k + 1) % 26)) % 26, by omega, by go_num, rfl, by omega, by omega, by rw [← HR.out, hdr.out]; rfl⟩
      case measure => simp [intOf]; omega
    · obtain rfl : k = s.size := by omega
      have hN : N = letF (bl s) 0 0 := by rw [← HR.out, drop_all]; rfl
      have HN := Lib.hid hN; clear hN hbd
      go_wp2
      go_ret
      exact ⟨ret_int (by rw [HN.out]), rfl⟩
set_option maxHeartbeats 400000 in
theorem hex3_ref (x : Int) (w : World) (h0 : 0 ≤ x) (h1 : x < 4294967296) :
    Calls Tryz.prog 85 #[.int .u32 x] w fun e w' => e = .returned (.string (bs (hexR 8 x))) ∧ Below w.heap.size w w' := by
  obtain ⟨i0, hi, hz0, hz1, hz2⟩ := info_parts info_u8
  go_enter Tryz.func85, Tryz.ntmps85
  go_wp2
  go_loopw [3, 4] (fun v i wr => ∃ (m : Nat) (l : List UInt8), m ≤ 8 ∧ i = .int .i64 (4 * (m : Int) - 4) ∧ OB 5 w.heap.size v l wr ∧ l.length + m = 8 ∧ Below w.heap.size w wr ∧ l ++ hexR m x = hexR 8 x) (fun _ i _ => (intOf i + 4).toNat)
  case atStart => exact ⟨8, [], by omega, rfl, OB.nil_ _ _ _, rfl, Below.refl _ _, rfl⟩
  case round =>
    obtain ⟨m, l, hm, rfl, hown, hl, hbel, hrel⟩ := hrel
    have HR := Lib.hid hrel; clear hrel
    rcases m with _ | m
    · obtain ⟨A, n, c, rfl⟩ : ∃ A n c, u3 = .slice A n c := hown.form_
      have hcv := hown.conv Tryz.underlying23 Tryz.underlying5 Tryz.underlying9
      go_wp2
      go_ret
      exact ⟨ret_str (by rw [← HR.out]; simp [hexR]), hbel⟩
    · obtain ⟨y, hy⟩ : ∃ y, bits .and .u32 (x / 2 ^ (4 * (m + 1) - 4)) 15 = y := ⟨_, rfl⟩
      have hyb : y = x / 2 ^ (4 * m) % 16 := by rw [← hy, and15 (div_bd _ h0 h1).1 (div_bd _ h0 h1).2]; rfl
      have hy0 : 0 ≤ y := by omega
      have hy1 : y < 16 := by omega
      have HY := Lib.hid hyb; clear hyb
      have hix := idx_hex .u32 y hy0 hy1
      go_wp2_with (at_builtin; refine app_u8 Tryz.underlying23 hi hz0 hz1 hz2 _ _ _ _ _ (hexd y) _ rfl rfl rfl rfl hown rfl (by omega) hbel.size ?_; intro v1 w1 hown1 hb1 _ _)
      go_roundw
      case rel => exact ⟨m, l ++ [hexd y], by omega, by go_num, hown1, by simp; omega, hbel.trans (hb1.mono (Nat.le_refl _)), by rw [← HR.out, hexR, ← HY.out]; simp⟩
      case measure => simp [intOf]; omega
set_option maxHeartbeats 400000 in
theorem luhn_ref (s : ByteArray) (w : World) (hs : s.size ≤ 1000000) :
    Calls Tryz.prog 83 #[.string s] w fun e w' => e = .returned (.bool (luhnQ (bl s))) ∧ w = w' := by
  by_cases h2 : s.size < 2
  · go_enter Tryz.func83, Tryz.ntmps83
    go_wp2
    go_ret
    exact ⟨ret_bool (by unfold luhnQ; rw [decide_eq_false (by rw [size_list]; omega)]; rfl), rfl⟩
  · rcases hd : allF dig (bl s)
    · go_enter Tryz.func83, Tryz.ntmps83
      go_wp2_with (go_at_call 81; refine (digits_ref _ _ hs).mono ?_; rintro e w' ⟨rfl, rfl⟩)
      go_ret
      exact ⟨ret_bool (by unfold luhnQ; rw [hd]; simp), rfl⟩
    · go_enter Tryz.func83, Tryz.ntmps83
      go_wp2_with (go_at_call 81; refine (digits_ref _ _ hs).mono ?_; rintro e w' ⟨rfl, rfl⟩)
      have Hd := Lib.hid hd; clear hd
      go_loop [3, 4] (fun n i => ∃ (k : Nat) (N : Int), k ≤ s.size ∧ i = .int .i64 k ∧ n = .int .i64 N ∧ 0 ≤ N ∧ N ≤ 512 * k ∧ luhnR ((bl s).reverse.drop k) k N = luhnR (bl s).reverse 0 0) (fun _ i => s.size - (intOf i).toNat)
      case atStart => exact ⟨0, 0, Nat.zero_le _, rfl, rfl, by omega, by omega, rfl⟩
      case round =>
        obtain ⟨k, N, hk, rfl, rfl, hN0, hN1, hrel⟩ := hrel
        have HR := Lib.hid hrel; clear hrel
        by_cases hlt : k < s.size
        · have hdr := Lib.hid (drop_rev s k hlt)
          obtain ⟨u, c, hus, hcu, hc0, hc1, hix⟩ := idx_str Tryz.underlying9 s (s.size - 1 - k) (by omega) .i64 ((s.size : Int) - 1 - k) (by omega)
          by_cases hev : (k : Int) % 2 = 1
          · by_cases hd : 9 < (c - 48) % 256 * 2
            all_goals
              go_wp2
              go_round
              case rel => exact ⟨k + 1, _, by omega, by go_num, rfl, by omega, by omega, by rw [← HR.out, hdr.out, ← hus.out]; exact luhnR_step hcu.out (by rw [if_pos (by omega)]; unfold dbl val; split <;> omega)⟩
              case measure => simp [intOf]; omega
          · go_wp2
            go_round
            case rel => exact ⟨k + 1, _, by omega, by go_num, rfl, by omega, by omega, by rw [← HR.out, hdr.out, ← hus.out]; exact luhnR_step hcu.out (by rw [if_neg (by omega)]; unfold val; omega)⟩
            case measure => simp [intOf]; omega
        · obtain rfl : k = s.size := by omega
          have hN : N = luhnR (bl s).reverse 0 0 := by rw [← HR.out, List.drop_eq_nil_of_le (by rw [List.length_reverse, size_list]; exact Nat.le_refl _)]; rfl
          have HN := Lib.hid hN; clear hN
          go_wp2
          go_ret
          exact ⟨ret_bool (by unfold luhnQ; rw [Hd.out, ← HN.out, decide_eq_true (by rw [size_list]; omega)]; rfl), rfl⟩
theorem cmpR_yes {c : Int} {s : ByteArray} {r : ByteArray} (hv : vld c = true) (hs : s.size ≤ 65536) (hp : prm c (bl s) = true) (h : r = bs (bl s ++ addQ c (bl s))) :
    Ending.returned (.tuple #[.string r, .int .i64 0]) = .returned (.tuple #[.string (bs (cmpQ c (bl s)).1), .int .i64 (cmpQ c (bl s)).2]) := by
  unfold cmpQ
  rw [hv, hp, if_neg (by decide), if_neg (by rw [size_list]; omega), if_neg (by decide), h]
theorem cmpR_no {c : Int} {s : ByteArray} (hv : vld c = true) (hs : s.size ≤ 65536) (hp : prm c (bl s) = false) :
    Ending.returned (.tuple #[.string ⟨#[]⟩, .int .i64 4]) = .returned (.tuple #[.string (bs (cmpQ c (bl s)).1), .int .i64 (cmpQ c (bl s)).2]) := by
  unfold cmpQ
  rw [hv, hp, if_neg (by decide), if_neg (by rw [size_list]; omega), if_pos rfl]; rfl
set_option maxHeartbeats 1000000 in
theorem compR1 (s : ByteArray) (w : World) (hs : s.size ≤ 65536) (hz : ¬ s.size = 0) (hp : allF dig (bl s) = true) :
    Calls Tryz.prog 55 #[.int .i64 1, .string s] w fun e w' => e = .returned (.tuple #[.string (bs (cmpQ 1 (bl s)).1), .int .i64 (cmpQ 1 (bl s)).2]) ∧ Below w.heap.size w w' := by
  have hv : vld 1 = true := rfl
  have hpp := Lib.hid ((prm_at1 hz).trans hp)
  have hz0 : ((s.size : Int) == 0) = false := beq_eq_false_iff_ne.2 (by omega)
  go_enter Tryz.func55, Tryz.ntmps55
  go_wp2_with (first | (go_at_call 80; refine (valid_ref _ _).mono ?_; rintro e w' ⟨rfl, rfl⟩) | (go_at_call 81; refine (digits_ref _ _ (by omega)).mono ?_; rintro e w' ⟨rfl, rfl⟩))
  have HP := Lib.hid hp; clear hp
  go_loopw [6] (fun d wr => ∃ j : Nat, j ≤ 9 ∧ d = .int .u8 (48 + (j : Int)) ∧ Below w.heap.size w wr ∧ luhnSf (9 - j) (bl s) = luhnSf 9 (bl s)) (fun d _ => (57 - intOf d).toNat)
  case atStart => exact ⟨0, by omega, rfl, Below.refl _ _, rfl⟩
  case round =>
    obtain ⟨j, hj, rfl, hbel, hrel⟩ := hrel
    have HR := Lib.hid hrel; clear hrel
    by_cases hlt : j < 9
    · obtain ⟨u, hu⟩ : ∃ u, UInt8.ofNat (48 + j) = u := ⟨_, rfl⟩
      have hcv := fun w => conv_row (P := Tryz.prog) Tryz.underlying23 Tryz.underlying5 Tryz.underlying9 [u] [.int .u8 (48 + (j : Int))] (by rw [← hu]; simp only [List.map]; rw [← byte_nat (48 + j) (by omega)]; simp) 1 1 rfl w
      have hcv2 : ∀ (W : World) (o : Obj), _ := fun W o => conv_row2 (P := Tryz.prog) Tryz.underlying23 Tryz.underlying5 Tryz.underlying9 [u] [.int .u8 (48 + (j : Int))] (by rw [← hu]; simp only [List.map]; rw [← byte_nat (48 + j) (by omega)]; simp) 1 1 rfl W o
      have h56 : UInt8.ofNat (56 - (8 - j)) = u := by rw [← hu]; congr 1; omega
      have Hu := Lib.hid h56; clear hu h56
      have hs1 := size_bs1 u
      have hsz : (s ++ bs [u]).size ≤ 1000000 := by rw [ByteArray.size_append, hs1]; omega
      have hfuel := Lib.hid (show 9 - j = (8 - j) + 1 by omega)
      rcases hq : luhnQ (bl (s ++ bs [u]))
      · have hq' := Lib.hid (cat_bl s [u] ▸ hq)
        go_wp2_with (go_at_call 83; refine (luhn_ref _ _ hsz).mono ?_; rintro e w' ⟨rfl, rfl⟩)
        go_roundw
        case rel => exact ⟨j + 1, by omega, by go_num, hbel.alloc hbel.size _, by rw [← HR.out, hfuel.out, luhnSf_no (by rw [Hu.out]; exact hq'.out)]; congr 1; omega⟩
        case measure => simp [intOf]; omega
      · have hq' := Lib.hid (cat_bl s [u] ▸ hq)
        have hfin := Lib.hid (show s ++ bs [u] = bs (bl s ++ addQ 1 (bl s)) by rw [cat_bs]; unfold addQ; rw [if_pos rfl, ← HR.out, hfuel.out, luhnSf_yes (by rw [Hu.out]; exact hq'.out), Hu.out])
        go_wp2_with (go_at_call 83; refine (luhn_ref _ _ hsz).mono ?_; rintro e w' ⟨rfl, rfl⟩)
        go_ret2
        exact ⟨cmpR_yes hv hs hpp.out hfin.out, (hbel.alloc hbel.size _).alloc ((hbel.alloc hbel.size _).size) _⟩
    · obtain rfl : j = 9 := by omega
      have hfin := Lib.hid (show s ++ ⟨#[57]⟩ = bs (bl s ++ addQ 1 (bl s)) by rw [show (⟨#[57]⟩ : ByteArray) = bs [57] from rfl, cat_bs]; unfold addQ; rw [if_pos rfl, ← HR.out]; rfl)
      go_wp2
      go_ret2
      exact ⟨cmpR_yes hv hs hpp.out hfin.out, hbel⟩
set_option maxHeartbeats 1000000 in
theorem compR2 (s : ByteArray) (w : World) (hs : s.size ≤ 65536) (hz : ¬ s.size = 0) (hp : allF sgn (bl s) = true) :
    Calls Tryz.prog 55 #[.int .i64 2, .string s] w fun e w' => e = .returned (.tuple #[.string (bs (cmpQ 2 (bl s)).1), .int .i64 (cmpQ 2 (bl s)).2]) ∧ Below w.heap.size w w' := by
  have hv : vld 2 = true := rfl
  have hpp := Lib.hid ((prm_at2 hz).trans hp)
  have hz0 : ((s.size : Int) == 0) = false := beq_eq_false_iff_ne.2 (by omega)
  have hsz : (s ++ ⟨#[48, 48]⟩ : ByteArray).size ≤ 1000000 := by rw [ByteArray.size_append]; exact Nat.le_trans (Nat.add_le_add_right hs 2) (by decide)
  obtain ⟨hN0, hN1⟩ := mod97R_bd (bl (s ++ ⟨#[48, 48]⟩)) 0 (by omega) (by omega)
  obtain ⟨N, hN⟩ : ∃ N, mod97R (bl (s ++ ⟨#[48, 48]⟩)) 0 = N := ⟨_, rfl⟩
  rw [hN] at hN0 hN1
  have hcv := fun w => conv_row (P := Tryz.prog) Tryz.underlying23 Tryz.underlying5 Tryz.underlying9 [UInt8.ofNat (48 + (98 - N) / 10).toNat, UInt8.ofNat (48 + (98 - N) % 10).toNat] [.int .u8 (48 + (98 - N) / 10), .int .u8 (48 + (98 - N) % 10)] (by simp only [List.map]; rw [← byte_nat _ (by omega), ← byte_nat _ (by omega), Int.toNat_of_nonneg (by omega), Int.toNat_of_nonneg (by omega)]) 2 2 rfl w
  have hfin := Lib.hid (show s ++ bs [UInt8.ofNat (48 + (98 - N) / 10).toNat, UInt8.ofNat (48 + (98 - N) % 10).toNat] = bs (bl s ++ addQ 2 (bl s)) by rw [cat_bs]; unfold addQ twoD; rw [if_neg (by decide), if_pos rfl, show mod97R (bl s ++ [48, 48]) 0 = N from bl_lit s [48, 48] ▸ hN])
  have hs2 : (bs [UInt8.ofNat (48 + (98 - N) / 10).toNat, UInt8.ofNat (48 + (98 - N) % 10).toNat]).size = 2 := rfl
  generalize bs [UInt8.ofNat (48 + (98 - N) / 10).toNat, UInt8.ofNat (48 + (98 - N) % 10).toNat] = t at hcv hfin hs2
  go_enter Tryz.func55, Tryz.ntmps55
  go_wp2_with (first | (go_at_call 80; refine (valid_ref _ _).mono ?_; rintro e w' ⟨rfl, rfl⟩) | (go_at_call 82; refine (capitals_ref _ _ (by omega)).mono ?_; rintro e w' ⟨rfl, rfl⟩) | (go_at_call 84; refine (rest_ref _ _ hsz).mono ?_; rintro e w' ⟨rfl, rfl⟩))
  go_ret2
  exact ⟨cmpR_yes hv hs hpp.out hfin.out, (Below.refl _ w).alloc (Nat.le_refl _) _⟩
set_option maxHeartbeats 1000000 in
theorem compR3 (s : ByteArray) (w : World) (hs : s.size ≤ 65536) (hz : ¬ s.size = 0) :
    Calls Tryz.prog 55 #[.int .i64 3, .string s] w fun e w' => e = .returned (.tuple #[.string (bs (cmpQ 3 (bl s)).1), .int .i64 (cmpQ 3 (bl s)).2]) ∧ Below w.heap.size w w' := by
  have hv : vld 3 = true := rfl
  have hz0 : ((s.size : Int) == 0) = false := beq_eq_false_iff_ne.2 (by omega)
  have hcb := Lib.hid (crc_bd (bl s))
  have hs8 : (bs (hexR 8 (crc (bl s)))).size = 8 := by rw [size_bs, hexR_len]
  have hfin := Lib.hid (show s ++ bs (hexR 8 (crc (bl s))) = bs (bl s ++ addQ 3 (bl s)) by rw [cat_bs]; rfl)
  go_enter Tryz.func55, Tryz.ntmps55
  go_wp2_with (first | (go_at_call 80; refine (valid_ref _ _).mono ?_; rintro e w' ⟨rfl, rfl⟩) | (go_at_call 86; refine (crc_ref _ _ (by omega)).mono ?_; rintro e w' ⟨rfl, rfl⟩) | (go_at_call 85; refine (hex3_ref _ _ hcb.out.1 hcb.out.2).mono ?_; rintro e w3 ⟨rfl, hb3⟩))
  go_ret2
  exact ⟨cmpR_yes hv hs (prm_at3 hz) hfin.out, hb3⟩
set_option maxHeartbeats 1000000 in
theorem compR4 (s : ByteArray) (w : World) (hs : s.size ≤ 65536) (hz : ¬ s.size = 0) :
    Calls Tryz.prog 55 #[.int .i64 4, .string s] w fun e w' => e = .returned (.tuple #[.string (bs (cmpQ 4 (bl s)).1), .int .i64 (cmpQ 4 (bl s)).2]) ∧ Below w.heap.size w w' := by
  have hv : vld 4 = true := rfl
  have hz0 : ((s.size : Int) == 0) = false := beq_eq_false_iff_ne.2 (by omega)
  obtain ⟨hN0, hN1⟩ := letF_bd (bl s) 0 0 (by omega) (by omega)
  have hfin : ∀ N, letF (bl s) 0 0 = N → s ++ bs [UInt8.ofNat (65 + N).toNat] = bs (bl s ++ addQ 4 (bl s)) := by rintro N rfl; rw [cat_bs]; rfl
  obtain ⟨N, hN⟩ : ∃ N, letF (bl s) 0 0 = N := ⟨_, rfl⟩
  rw [hN] at hN0 hN1
  have hfin := Lib.hid (hfin N hN)
  have hcv := fun w => conv_row (P := Tryz.prog) Tryz.underlying23 Tryz.underlying5 Tryz.underlying9 [UInt8.ofNat (65 + N).toNat] [.int .u8 (65 + N)] (by simp only [List.map]; rw [← byte_nat _ (by omega), Int.toNat_of_nonneg (by omega)]) 1 1 rfl w
  generalize UInt8.ofNat (65 + N).toNat = u at hcv hfin
  have hs1 := size_bs1 u
  go_enter Tryz.func55, Tryz.ntmps55
  go_wp2_with (first | (go_at_call 80; refine (valid_ref _ _).mono ?_; rintro e w' ⟨rfl, rfl⟩) | (go_at_call 87; refine (letter_ref _ _ (by omega)).mono ?_; rintro e w' ⟨rfl, rfl⟩))
  go_ret2
  exact ⟨cmpR_yes hv hs (prm_at4 hz) hfin.out, (Below.refl _ w).alloc (Nat.le_refl _) _⟩
set_option maxHeartbeats 400000 in
theorem complete_ref (c : Int) (s : ByteArray) (w : World) (hs : s.size ≤ 1000000) :
    Calls Tryz.prog 55 #[.int .i64 c, .string s] w fun e w' => e = .returned (.tuple #[.string (bs (cmpQ c (bl s)).1), .int .i64 (cmpQ c (bl s)).2]) ∧ Below w.heap.size w w' := by
  rcases hv : vld c
  · go_enter Tryz.func55, Tryz.ntmps55
    go_wp2_with (go_at_call 80; refine (valid_ref _ _).mono ?_; rintro e w' ⟨rfl, rfl⟩)
    go_ret2
    exact ⟨by unfold cmpQ; rw [hv]; rfl, Below.refl _ _⟩
  by_cases hl : 65536 < s.size
  · go_enter Tryz.func55, Tryz.ntmps55
    go_wp2_with (go_at_call 80; refine (valid_ref _ _).mono ?_; rintro e w' ⟨rfl, rfl⟩)
    go_ret2
    exact ⟨by unfold cmpQ; rw [hv, if_neg (by decide), if_pos (by rw [size_list]; exact hl)]; rfl, Below.refl _ _⟩
  have hc := vld_cases hv
  by_cases h0 : c = 0
  · subst h0
    have hfin := Lib.hid (show s = bs (bl s ++ addQ 0 (bl s)) by unfold addQ; simp; rfl)
    go_enter Tryz.func55, Tryz.ntmps55
    go_wp2_with (go_at_call 80; refine (valid_ref _ _).mono ?_; rintro e w' ⟨rfl, rfl⟩)
    go_ret2
    exact ⟨cmpR_yes hv (by omega) rfl hfin.out, Below.refl _ _⟩
  by_cases hz : s.size = 0
  · have hz0 : ((s.size : Int) == 0) = true := beq_iff_eq.2 (by omega)
    have hp := prm_nil hz h0
    have HZ := Lib.hid hz; clear hz
    go_enter Tryz.func55, Tryz.ntmps55
    go_wp2_with (go_at_call 80; refine (valid_ref _ _).mono ?_; rintro e w' ⟨rfl, rfl⟩)
    go_ret2
    exact ⟨cmpR_no hv (by omega) hp, Below.refl _ _⟩
  have hz0 : ((s.size : Int) == 0) = false := beq_eq_false_iff_ne.2 (by omega)
  rcases hc with rfl | rfl | rfl | rfl | rfl
  · exact absurd rfl h0
  · rcases hp : allF dig (bl s)
    · have hpp := (prm_at1 hz).trans hp
      go_enter Tryz.func55, Tryz.ntmps55
      go_wp2_with (first | (go_at_call 80; refine (valid_ref _ _).mono ?_; rintro e w' ⟨rfl, rfl⟩) | (go_at_call 81; refine (digits_ref _ _ (by omega)).mono ?_; rintro e w' ⟨rfl, rfl⟩))
      go_ret2
      exact ⟨cmpR_no hv (by omega) hpp, Below.refl _ _⟩
    · exact compR1 s w (by omega) hz hp
  · rcases hp : allF sgn (bl s)
    · have hpp := (prm_at2 hz).trans hp
      go_enter Tryz.func55, Tryz.ntmps55
      go_wp2_with (first | (go_at_call 80; refine (valid_ref _ _).mono ?_; rintro e w' ⟨rfl, rfl⟩) | (go_at_call 82; refine (capitals_ref _ _ (by omega)).mono ?_; rintro e w' ⟨rfl, rfl⟩))
      go_ret2
      exact ⟨cmpR_no hv (by omega) hpp, Below.refl _ _⟩
    · exact compR2 s w (by omega) hz hp
  · exact compR3 s w (by omega) hz
  · exact compR4 s w (by omega) hz
end Go.Proofs.YtklnakjmiljmhaaGreatDoor
namespace Go.Proofs.YtklnakjmiljmhaaGreatDoor
set_option linter.unusedVariables false
set_option linter.unusedSimpArgs false
set_option maxRecDepth 100000
open Go.RowKit
theorem RgV.new {b : Nat} {w w' : World} {g n c : Nat} {rs : List (Int × Int)} {e : TypeId} (hg : w'.heap[g]? = some (.cells (rs.flatMap fun p => [Value.int .u8 p.1, Value.int .u8 p.2]).toArray e (0, 0))) (hb : b < g) (hn : n = rs.length) (h1 : 1 ≤ n) (h2 : n ≤ 1000) (hr : ∀ p ∈ rs, 0 ≤ p.1 ∧ p.1 ≤ p.2 ∧ p.2 < 256) : RgV b w' (.slice (some ⟨g, 0, none⟩) n c) := by
  subst hn
  refine ⟨g, 0, _, c, rfl, h1, h2, hb, (Array.getElem?_eq_some_iff.1 hg).1, fun j hj => ?_⟩
  have hflat : ∀ (rs : List (Int × Int)) j (hj : j < rs.length), (rs.flatMap fun p => [Value.int .u8 p.1, Value.int .u8 p.2])[j * 2]? = some (.int .u8 (rs[j]).1) ∧ (rs.flatMap fun p => [Value.int .u8 p.1, Value.int .u8 p.2])[j * 2 + 1]? = some (.int .u8 (rs[j]).2) := by
    intro rs
    induction rs with
    | nil => intro j hj; simp at hj
    | cons a r ih =>
      intro j hj
      match j, hj with
      | 0, _ => exact ⟨rfl, rfl⟩
      | j + 1, hj =>
        obtain ⟨q1, q2⟩ := ih j (by simpa using hj)
        refine ⟨?_, ?_⟩
        · rw [List.flatMap_cons, List.getElem?_append_right (by simp; omega), show (j + 1) * 2 - [Value.int IntKind.u8 a.1, Value.int IntKind.u8 a.2].length = j * 2 by simp; omega]; exact q1
        · rw [List.flatMap_cons, List.getElem?_append_right (by simp; omega), show (j + 1) * 2 + 1 - [Value.int IntKind.u8 a.1, Value.int IntKind.u8 a.2].length = j * 2 + 1 by simp; omega]; exact q2
  obtain ⟨q1, q2⟩ := hflat rs j hj
  refine ⟨(rs[j]).1, (rs[j]).2, ?_, ?_, hr _ (List.getElem_mem hj)⟩
  · rw [cell_of_row _ _ _ _ _ _ hg, Nat.zero_add]; simpa using q1
  · rw [cell_of_row _ _ _ _ _ _ hg, Nat.zero_add]; simpa using q2
/-- The patterns of kinds in memory. -/
def ShPost (b : Nat) (w : World) (e : Ending) (w' : World) : Prop := ∃ g, e = .returned (.slice (some ⟨g, 0, none⟩) 6 6) ∧ KdV b w' (Pat b w' 4 18) 6 (.slice (some ⟨g, 0, none⟩) 6 6) ∧ Below w.heap.size w w'
set_option maxHeartbeats 8000000 in
theorem shapes_any (b : Nat) (w : World) (hb : b < w.heap.size) : Calls Tryz.prog 30 #[] w (ShPost b w) := by
  obtain ⟨v0, hv0⟩ : ∃ V, ((w.alloc (Obj.cells #[Value.int IntKind.u8 48, Value.int IntKind.u8 57] 91)).alloc (Obj.cells #[Value.int IntKind.u8 48, Value.int IntKind.u8 57, Value.int IntKind.u8 97, Value.int IntKind.u8 102] 91)).alloc (Obj.cells #[Value.int IntKind.u8 65, Value.int IntKind.u8 90, Value.int IntKind.u8 97, Value.int IntKind.u8 122] 91) = V := ⟨_, rfl⟩
  have hlow : Below w.heap.size w v0 := by rw [← hv0]; exact (((Below.refl _ w).alloc (Nat.le_refl _) _).alloc (by simp) _).alloc (by simp; omega) _
  have g1 : v0.heap[w.heap.size]? = some (.cells #[Value.int IntKind.u8 48, Value.int IntKind.u8 57] 91 (0, 0)) := by
    rw [← hv0, Below.heap_alloc _ _ _ (by simp; omega), Below.heap_alloc _ _ _ (by simp)]; exact heap_alloc_new _ _
  have g2 : v0.heap[w.heap.size + 1]? = some (.cells #[Value.int IntKind.u8 48, Value.int IntKind.u8 57, Value.int IntKind.u8 97, Value.int IntKind.u8 102] 91 (0, 0)) := by
    rw [← hv0, Below.heap_alloc _ _ _ (by simp)]
    rw [show w.heap.size + 1 = (w.alloc (Obj.cells #[Value.int IntKind.u8 48, Value.int IntKind.u8 57] 91)).heap.size by simp]; exact heap_alloc_new _ _
  have g3 : v0.heap[w.heap.size + 1 + 1]? = some (.cells #[Value.int IntKind.u8 65, Value.int IntKind.u8 90, Value.int IntKind.u8 97, Value.int IntKind.u8 122] 91 (0, 0)) := by
    rw [← hv0]
    rw [show w.heap.size + 1 + 1 = ((w.alloc (Obj.cells #[Value.int IntKind.u8 48, Value.int IntKind.u8 57] 91)).alloc (Obj.cells #[Value.int IntKind.u8 48, Value.int IntKind.u8 57, Value.int IntKind.u8 97, Value.int IntKind.u8 102] 91)).heap.size by simp]; exact heap_alloc_new _ _
  have R1 := Lib.hid (RgV.new (b := b) (w := w) (n := 1) (c := 1) (rs := [(48, 57)]) g1 (by omega) rfl (by decide) (by decide) (by decide))
  have R2 := Lib.hid (RgV.new (b := b) (w := w) (n := 2) (c := 2) (rs := [(48, 57), (97, 102)]) g2 (by omega) rfl (by decide) (by decide) (by decide))
  have R3 := Lib.hid (RgV.new (b := b) (w := w) (n := 2) (c := 2) (rs := [(65, 90), (97, 122)]) g3 (by omega) rfl (by decide) (by decide) (by decide))
  have hbv : b < v0.heap.size := by have := hlow.size; omega
  have HV0 := Lib.hid hv0
  have HLOW := Lib.hid hlow
  clear g1 g2 g3 hv0 hlow
  go_enter Tryz.func30, Tryz.ntmps30
  go_wp2_with fail
  rw [HV0.out]
  clear HV0
  refine (byte_node b 116 (by decide) (by decide) _ hbv).mono ?_
  rintro e w1 ⟨A1, B1, n1, k1, c1, d1, o1, l1, h1, rfl, p1, hb1⟩
  have P1 := Lib.hid p1
  have R1 := Lib.hid (R1.out.later (Stay.of_below hb1))
  have R2 := Lib.hid (R2.out.later (Stay.of_below hb1))
  have R3 := Lib.hid (R3.out.later (Stay.of_below hb1))
  have HLOW := Lib.hid (HLOW.out.trans (hb1.mono HLOW.out.size))
  have hbv : b < w1.heap.size := by have := hb1.size; omega
  clear p1 hb1
  go_wp2_with fail
  refine (byte_node b 107 (by decide) (by decide) _ hbv).mono ?_
  rintro e w2 ⟨A2, B2, n2, k2, c2, d2, o2, l2, h2, rfl, p2, hb2⟩
  have P2 := Lib.hid p2
  have R1 := Lib.hid (R1.out.later (Stay.of_below hb2))
  have R2 := Lib.hid (R2.out.later (Stay.of_below hb2))
  have R3 := Lib.hid (R3.out.later (Stay.of_below hb2))
  have P1 := Lib.hid (P1.out.later (Stay.of_below hb2))
  have HLOW := Lib.hid (HLOW.out.trans (hb2.mono HLOW.out.size))
  have hbv : b < w2.heap.size := by have := hb2.size; omega
  clear p2 hb2
  go_wp2_with fail
  refine (times_node b _ _ _ 2 4 _ R1.out hbv (by decide) (by decide) (by decide) (by decide)).mono ?_
  rintro e w3 ⟨A3, B3, n3, k3, c3, d3, o3, l3, h3, rfl, p3, hb3⟩
  have P3 := Lib.hid p3
  have R1 := Lib.hid (R1.out.later (Stay.of_below hb3))
  have R2 := Lib.hid (R2.out.later (Stay.of_below hb3))
  have R3 := Lib.hid (R3.out.later (Stay.of_below hb3))
  have P1 := Lib.hid (P1.out.later (Stay.of_below hb3))
  have P2 := Lib.hid (P2.out.later (Stay.of_below hb3))
  have HLOW := Lib.hid (HLOW.out.trans (hb3.mono HLOW.out.size))
  have hbv : b < w3.heap.size := by have := hb3.size; omega
  clear p3 hb3
  obtain ⟨w4, hw4⟩ : ∃ V, w3.alloc (Obj.cells #[Value.int IntKind.i64 o1, Value.slice A1 n1 c1, Value.slice B1 k1 d1, Value.int IntKind.i64 l1, Value.int IntKind.i64 h1, Value.int IntKind.i64 o2, Value.slice A2 n2 c2, Value.slice B2 k2 d2, Value.int IntKind.i64 l2, Value.int IntKind.i64 h2, Value.int IntKind.i64 o3, Value.slice A3 n3 c3, Value.slice B3 k3 d3, Value.int IntKind.i64 l3, Value.int IntKind.i64 h3] 62) = V := ⟨_, rfl⟩
  have K1 := KdV.new (w := w3) (G := Pat b w3 2 6) (us := [[Value.int IntKind.i64 o1, Value.slice A1 n1 c1, Value.slice B1 k1 d1, Value.int IntKind.i64 l1, Value.int IntKind.i64 h1], [Value.int IntKind.i64 o2, Value.slice A2 n2 c2, Value.slice B2 k2 d2, Value.int IntKind.i64 l2, Value.int IntKind.i64 h2], [Value.int IntKind.i64 o3, Value.slice A3 n3 c3, Value.slice B3 k3 d3, Value.int IntKind.i64 l3, Value.int IntKind.i64 h3]]) (cs := #[Value.int IntKind.i64 o1, Value.slice A1 n1 c1, Value.slice B1 k1 d1, Value.int IntKind.i64 l1, Value.int IntKind.i64 h1, Value.int IntKind.i64 o2, Value.slice A2 n2 c2, Value.slice B2 k2 d2, Value.int IntKind.i64 l2, Value.int IntKind.i64 h2, Value.int IntKind.i64 o3, Value.slice A3 n3 c3, Value.slice B3 k3 d3, Value.int IntKind.i64 l3, Value.int IntKind.i64 h3]) (e := 62) (n := 3) (c := 3) hbv rfl (by intro u hu; simp only [List.mem_cons, List.not_mem_nil, or_false] at hu; rcases hu with rfl | rfl | rfl <;> rfl) (by intro u hu; simp only [List.mem_cons, List.not_mem_nil, or_false] at hu; rcases hu with rfl | rfl | rfl <;> (first | exact P1.out.mono (by decide) (by decide) | exact P2.out.mono (by decide) (by decide) | exact P3.out.mono (by decide) (by decide))) rfl (by decide)
  have hb4 : Below w3.heap.size w3 w4 := by rw [← hw4]; exact (Below.refl _ _).alloc (Nat.le_refl _) _
  rw [hw4] at K1
  have K1 := Lib.hid (K1.later (Stay.refl b _) (fun us => Pat.later (Stay.of_below hb4)))
  have HW4 := Lib.hid hw4
  have R1 := Lib.hid (R1.out.later (Stay.of_below hb4))
  have R2 := Lib.hid (R2.out.later (Stay.of_below hb4))
  have R3 := Lib.hid (R3.out.later (Stay.of_below hb4))
  have P1 := Lib.hid (P1.out.later (Stay.of_below hb4))
  have P2 := Lib.hid (P2.out.later (Stay.of_below hb4))
  have P3 := Lib.hid (P3.out.later (Stay.of_below hb4))
  have HLOW := Lib.hid (HLOW.out.trans (hb4.mono HLOW.out.size))
  have hbv : b < w4.heap.size := by have := hb4.size; omega
  clear hw4 hb4
  go_wp2_with fail
  rw [HW4.out]
  clear HW4
  clear P1
  clear P2
  clear P3
  refine (seq_node b _ _ _ _ K1.out (by decide)).mono ?_
  rintro e w5 ⟨AS1, BS1, nS1, kS1, cS1, dS1, oS1, lS1, hS1, rfl, pS1, hb5⟩
  have PS1 := Lib.hid pS1
  have R1 := Lib.hid (R1.out.later (Stay.of_below hb5))
  have R2 := Lib.hid (R2.out.later (Stay.of_below hb5))
  have R3 := Lib.hid (R3.out.later (Stay.of_below hb5))
  have HLOW := Lib.hid (HLOW.out.trans (hb5.mono HLOW.out.size))
  have hbv : b < w5.heap.size := by have := hb5.size; omega
  clear pS1 hb5
  clear K1
  go_wp2_with fail
  refine (byte_node b 107 (by decide) (by decide) _ hbv).mono ?_
  rintro e w6 ⟨A4, B4, n4, k4, c4, d4, o4, l4, h4, rfl, p4, hb6⟩
  have P4 := Lib.hid p4
  have R1 := Lib.hid (R1.out.later (Stay.of_below hb6))
  have R2 := Lib.hid (R2.out.later (Stay.of_below hb6))
  have R3 := Lib.hid (R3.out.later (Stay.of_below hb6))
  have PS1 := Lib.hid (PS1.out.later (Stay.of_below hb6))
  have HLOW := Lib.hid (HLOW.out.trans (hb6.mono HLOW.out.size))
  have hbv : b < w6.heap.size := by have := hb6.size; omega
  clear p4 hb6
  go_wp2_with fail
  refine (byte_node b 45 (by decide) (by decide) _ hbv).mono ?_
  rintro e w7 ⟨A5, B5, n5, k5, c5, d5, o5, l5, h5, rfl, p5, hb7⟩
  have P5 := Lib.hid p5
  have R1 := Lib.hid (R1.out.later (Stay.of_below hb7))
  have R2 := Lib.hid (R2.out.later (Stay.of_below hb7))
  have R3 := Lib.hid (R3.out.later (Stay.of_below hb7))
  have PS1 := Lib.hid (PS1.out.later (Stay.of_below hb7))
  have P4 := Lib.hid (P4.out.later (Stay.of_below hb7))
  have HLOW := Lib.hid (HLOW.out.trans (hb7.mono HLOW.out.size))
  have hbv : b < w7.heap.size := by have := hb7.size; omega
  clear p5 hb7
  go_wp2_with fail
  refine (times_node b _ _ _ 3 6 _ R2.out hbv (by decide) (by decide) (by decide) (by decide)).mono ?_
  rintro e w8 ⟨A6, B6, n6, k6, c6, d6, o6, l6, h6, rfl, p6, hb8⟩
  have P6 := Lib.hid p6
  have R1 := Lib.hid (R1.out.later (Stay.of_below hb8))
  have R2 := Lib.hid (R2.out.later (Stay.of_below hb8))
  have R3 := Lib.hid (R3.out.later (Stay.of_below hb8))
  have PS1 := Lib.hid (PS1.out.later (Stay.of_below hb8))
  have P4 := Lib.hid (P4.out.later (Stay.of_below hb8))
  have P5 := Lib.hid (P5.out.later (Stay.of_below hb8))
  have HLOW := Lib.hid (HLOW.out.trans (hb8.mono HLOW.out.size))
  have hbv : b < w8.heap.size := by have := hb8.size; omega
  clear p6 hb8
  obtain ⟨w9, hw9⟩ : ∃ V, w8.alloc (Obj.cells #[Value.int IntKind.i64 o4, Value.slice A4 n4 c4, Value.slice B4 k4 d4, Value.int IntKind.i64 l4, Value.int IntKind.i64 h4, Value.int IntKind.i64 o5, Value.slice A5 n5 c5, Value.slice B5 k5 d5, Value.int IntKind.i64 l5, Value.int IntKind.i64 h5, Value.int IntKind.i64 o6, Value.slice A6 n6 c6, Value.slice B6 k6 d6, Value.int IntKind.i64 l6, Value.int IntKind.i64 h6] 62) = V := ⟨_, rfl⟩
  have K2 := KdV.new (w := w8) (G := Pat b w8 2 6) (us := [[Value.int IntKind.i64 o4, Value.slice A4 n4 c4, Value.slice B4 k4 d4, Value.int IntKind.i64 l4, Value.int IntKind.i64 h4], [Value.int IntKind.i64 o5, Value.slice A5 n5 c5, Value.slice B5 k5 d5, Value.int IntKind.i64 l5, Value.int IntKind.i64 h5], [Value.int IntKind.i64 o6, Value.slice A6 n6 c6, Value.slice B6 k6 d6, Value.int IntKind.i64 l6, Value.int IntKind.i64 h6]]) (cs := #[Value.int IntKind.i64 o4, Value.slice A4 n4 c4, Value.slice B4 k4 d4, Value.int IntKind.i64 l4, Value.int IntKind.i64 h4, Value.int IntKind.i64 o5, Value.slice A5 n5 c5, Value.slice B5 k5 d5, Value.int IntKind.i64 l5, Value.int IntKind.i64 h5, Value.int IntKind.i64 o6, Value.slice A6 n6 c6, Value.slice B6 k6 d6, Value.int IntKind.i64 l6, Value.int IntKind.i64 h6]) (e := 62) (n := 3) (c := 3) hbv rfl (by intro u hu; simp only [List.mem_cons, List.not_mem_nil, or_false] at hu; rcases hu with rfl | rfl | rfl <;> rfl) (by intro u hu; simp only [List.mem_cons, List.not_mem_nil, or_false] at hu; rcases hu with rfl | rfl | rfl <;> (first | exact P4.out.mono (by decide) (by decide) | exact P5.out.mono (by decide) (by decide) | exact P6.out.mono (by decide) (by decide))) rfl (by decide)
  have hb9 : Below w8.heap.size w8 w9 := by rw [← hw9]; exact (Below.refl _ _).alloc (Nat.le_refl _) _
  rw [hw9] at K2
  have K2 := Lib.hid (K2.later (Stay.refl b _) (fun us => Pat.later (Stay.of_below hb9)))
  have HW9 := Lib.hid hw9
  have R1 := Lib.hid (R1.out.later (Stay.of_below hb9))
  have R2 := Lib.hid (R2.out.later (Stay.of_below hb9))
  have R3 := Lib.hid (R3.out.later (Stay.of_below hb9))
  have PS1 := Lib.hid (PS1.out.later (Stay.of_below hb9))
  have P4 := Lib.hid (P4.out.later (Stay.of_below hb9))
  have P5 := Lib.hid (P5.out.later (Stay.of_below hb9))
  have P6 := Lib.hid (P6.out.later (Stay.of_below hb9))
  have HLOW := Lib.hid (HLOW.out.trans (hb9.mono HLOW.out.size))
  have hbv : b < w9.heap.size := by have := hb9.size; omega
  clear hw9 hb9
  go_wp2_with fail
  rw [HW9.out]
  clear HW9
  clear P4
  clear P5
  clear P6
  refine (seq_node b _ _ _ _ K2.out (by decide)).mono ?_
  rintro e w10 ⟨AS2, BS2, nS2, kS2, cS2, dS2, oS2, lS2, hS2, rfl, pS2, hb10⟩
  have PS2 := Lib.hid pS2
  have R1 := Lib.hid (R1.out.later (Stay.of_below hb10))
  have R2 := Lib.hid (R2.out.later (Stay.of_below hb10))
  have R3 := Lib.hid (R3.out.later (Stay.of_below hb10))
  have PS1 := Lib.hid (PS1.out.later (Stay.of_below hb10))
  have HLOW := Lib.hid (HLOW.out.trans (hb10.mono HLOW.out.size))
  have hbv : b < w10.heap.size := by have := hb10.size; omega
  clear pS2 hb10
  clear K2
  go_wp2_with fail
  refine (times_node b _ _ _ 4 4 _ R1.out hbv (by decide) (by decide) (by decide) (by decide)).mono ?_
  rintro e w11 ⟨A7, B7, n7, k7, c7, d7, o7, l7, h7, rfl, p7, hb11⟩
  have P7 := Lib.hid p7
  have R1 := Lib.hid (R1.out.later (Stay.of_below hb11))
  have R2 := Lib.hid (R2.out.later (Stay.of_below hb11))
  have R3 := Lib.hid (R3.out.later (Stay.of_below hb11))
  have PS1 := Lib.hid (PS1.out.later (Stay.of_below hb11))
  have PS2 := Lib.hid (PS2.out.later (Stay.of_below hb11))
  have HLOW := Lib.hid (HLOW.out.trans (hb11.mono HLOW.out.size))
  have hbv : b < w11.heap.size := by have := hb11.size; omega
  clear p7 hb11
  go_wp2_with fail
  refine (times_node b _ _ _ 2 5 _ R3.out hbv (by decide) (by decide) (by decide) (by decide)).mono ?_
  rintro e w12 ⟨A8, B8, n8, k8, c8, d8, o8, l8, h8, rfl, p8, hb12⟩
  have P8 := Lib.hid p8
  have R1 := Lib.hid (R1.out.later (Stay.of_below hb12))
  have R2 := Lib.hid (R2.out.later (Stay.of_below hb12))
  have R3 := Lib.hid (R3.out.later (Stay.of_below hb12))
  have PS1 := Lib.hid (PS1.out.later (Stay.of_below hb12))
  have PS2 := Lib.hid (PS2.out.later (Stay.of_below hb12))
  have P7 := Lib.hid (P7.out.later (Stay.of_below hb12))
  have HLOW := Lib.hid (HLOW.out.trans (hb12.mono HLOW.out.size))
  have hbv : b < w12.heap.size := by have := hb12.size; omega
  clear p8 hb12
  go_wp2_with fail
  refine (byte_node b 107 (by decide) (by decide) _ hbv).mono ?_
  rintro e w13 ⟨A9, B9, n9, k9, c9, d9, o9, l9, h9, rfl, p9, hb13⟩
  have P9 := Lib.hid p9
  have R1 := Lib.hid (R1.out.later (Stay.of_below hb13))
  have R2 := Lib.hid (R2.out.later (Stay.of_below hb13))
  have R3 := Lib.hid (R3.out.later (Stay.of_below hb13))
  have PS1 := Lib.hid (PS1.out.later (Stay.of_below hb13))
  have PS2 := Lib.hid (PS2.out.later (Stay.of_below hb13))
  have P7 := Lib.hid (P7.out.later (Stay.of_below hb13))
  have P8 := Lib.hid (P8.out.later (Stay.of_below hb13))
  have HLOW := Lib.hid (HLOW.out.trans (hb13.mono HLOW.out.size))
  have hbv : b < w13.heap.size := by have := hb13.size; omega
  clear p9 hb13
  go_wp2_with fail
  refine (byte_node b 107 (by decide) (by decide) _ hbv).mono ?_
  rintro e w14 ⟨A10, B10, n10, k10, c10, d10, o10, l10, h10, rfl, p10, hb14⟩
  have P10 := Lib.hid p10
  have R1 := Lib.hid (R1.out.later (Stay.of_below hb14))
  have R2 := Lib.hid (R2.out.later (Stay.of_below hb14))
  have R3 := Lib.hid (R3.out.later (Stay.of_below hb14))
  have PS1 := Lib.hid (PS1.out.later (Stay.of_below hb14))
  have PS2 := Lib.hid (PS2.out.later (Stay.of_below hb14))
  have P7 := Lib.hid (P7.out.later (Stay.of_below hb14))
  have P8 := Lib.hid (P8.out.later (Stay.of_below hb14))
  have P9 := Lib.hid (P9.out.later (Stay.of_below hb14))
  have HLOW := Lib.hid (HLOW.out.trans (hb14.mono HLOW.out.size))
  have hbv : b < w14.heap.size := by have := hb14.size; omega
  clear p10 hb14
  go_wp2_with fail
  refine (byte_node b 101 (by decide) (by decide) _ hbv).mono ?_
  rintro e w15 ⟨A11, B11, n11, k11, c11, d11, o11, l11, h11, rfl, p11, hb15⟩
  have P11 := Lib.hid p11
  have R1 := Lib.hid (R1.out.later (Stay.of_below hb15))
  have R2 := Lib.hid (R2.out.later (Stay.of_below hb15))
  have R3 := Lib.hid (R3.out.later (Stay.of_below hb15))
  have PS1 := Lib.hid (PS1.out.later (Stay.of_below hb15))
  have PS2 := Lib.hid (PS2.out.later (Stay.of_below hb15))
  have P7 := Lib.hid (P7.out.later (Stay.of_below hb15))
  have P8 := Lib.hid (P8.out.later (Stay.of_below hb15))
  have P9 := Lib.hid (P9.out.later (Stay.of_below hb15))
  have P10 := Lib.hid (P10.out.later (Stay.of_below hb15))
  have HLOW := Lib.hid (HLOW.out.trans (hb15.mono HLOW.out.size))
  have hbv : b < w15.heap.size := by have := hb15.size; omega
  clear p11 hb15
  obtain ⟨w16, hw16⟩ : ∃ V, w15.alloc (Obj.cells #[Value.int IntKind.i64 o10, Value.slice A10 n10 c10, Value.slice B10 k10 d10, Value.int IntKind.i64 l10, Value.int IntKind.i64 h10, Value.int IntKind.i64 o11, Value.slice A11 n11 c11, Value.slice B11 k11 d11, Value.int IntKind.i64 l11, Value.int IntKind.i64 h11] 62) = V := ⟨_, rfl⟩
  have K3 := KdV.new (w := w15) (G := Pat b w15 2 6) (us := [[Value.int IntKind.i64 o10, Value.slice A10 n10 c10, Value.slice B10 k10 d10, Value.int IntKind.i64 l10, Value.int IntKind.i64 h10], [Value.int IntKind.i64 o11, Value.slice A11 n11 c11, Value.slice B11 k11 d11, Value.int IntKind.i64 l11, Value.int IntKind.i64 h11]]) (cs := #[Value.int IntKind.i64 o10, Value.slice A10 n10 c10, Value.slice B10 k10 d10, Value.int IntKind.i64 l10, Value.int IntKind.i64 h10, Value.int IntKind.i64 o11, Value.slice A11 n11 c11, Value.slice B11 k11 d11, Value.int IntKind.i64 l11, Value.int IntKind.i64 h11]) (e := 62) (n := 2) (c := 2) hbv rfl (by intro u hu; simp only [List.mem_cons, List.not_mem_nil, or_false] at hu; rcases hu with rfl | rfl <;> rfl) (by intro u hu; simp only [List.mem_cons, List.not_mem_nil, or_false] at hu; rcases hu with rfl | rfl <;> (first | exact P10.out.mono (by decide) (by decide) | exact P11.out.mono (by decide) (by decide))) rfl (by decide)
  have hb16 : Below w15.heap.size w15 w16 := by rw [← hw16]; exact (Below.refl _ _).alloc (Nat.le_refl _) _
  rw [hw16] at K3
  have K3 := Lib.hid (K3.later (Stay.refl b _) (fun us => Pat.later (Stay.of_below hb16)))
  have HW16 := Lib.hid hw16
  have R1 := Lib.hid (R1.out.later (Stay.of_below hb16))
  have R2 := Lib.hid (R2.out.later (Stay.of_below hb16))
  have R3 := Lib.hid (R3.out.later (Stay.of_below hb16))
  have PS1 := Lib.hid (PS1.out.later (Stay.of_below hb16))
  have PS2 := Lib.hid (PS2.out.later (Stay.of_below hb16))
  have P7 := Lib.hid (P7.out.later (Stay.of_below hb16))
  have P8 := Lib.hid (P8.out.later (Stay.of_below hb16))
  have P9 := Lib.hid (P9.out.later (Stay.of_below hb16))
  have P10 := Lib.hid (P10.out.later (Stay.of_below hb16))
  have P11 := Lib.hid (P11.out.later (Stay.of_below hb16))
  have HLOW := Lib.hid (HLOW.out.trans (hb16.mono HLOW.out.size))
  have hbv : b < w16.heap.size := by have := hb16.size; omega
  clear hw16 hb16
  go_wp2_with fail
  rw [HW16.out]
  clear HW16
  clear P10
  clear P11
  refine (seq_node b _ _ _ _ K3.out (by decide)).mono ?_
  rintro e w17 ⟨AS3, BS3, nS3, kS3, cS3, dS3, oS3, lS3, hS3, rfl, pS3, hb17⟩
  have PS3 := Lib.hid pS3
  have R1 := Lib.hid (R1.out.later (Stay.of_below hb17))
  have R2 := Lib.hid (R2.out.later (Stay.of_below hb17))
  have R3 := Lib.hid (R3.out.later (Stay.of_below hb17))
  have PS1 := Lib.hid (PS1.out.later (Stay.of_below hb17))
  have PS2 := Lib.hid (PS2.out.later (Stay.of_below hb17))
  have P7 := Lib.hid (P7.out.later (Stay.of_below hb17))
  have P8 := Lib.hid (P8.out.later (Stay.of_below hb17))
  have P9 := Lib.hid (P9.out.later (Stay.of_below hb17))
  have HLOW := Lib.hid (HLOW.out.trans (hb17.mono HLOW.out.size))
  have hbv : b < w17.heap.size := by have := hb17.size; omega
  clear pS3 hb17
  clear K3
  go_wp2_with fail
  refine (times_node b _ _ _ 2 2 _ R1.out hbv (by decide) (by decide) (by decide) (by decide)).mono ?_
  rintro e w18 ⟨A12, B12, n12, k12, c12, d12, o12, l12, h12, rfl, p12, hb18⟩
  have P12 := Lib.hid p12
  have R1 := Lib.hid (R1.out.later (Stay.of_below hb18))
  have R2 := Lib.hid (R2.out.later (Stay.of_below hb18))
  have R3 := Lib.hid (R3.out.later (Stay.of_below hb18))
  have PS1 := Lib.hid (PS1.out.later (Stay.of_below hb18))
  have PS2 := Lib.hid (PS2.out.later (Stay.of_below hb18))
  have P7 := Lib.hid (P7.out.later (Stay.of_below hb18))
  have P8 := Lib.hid (P8.out.later (Stay.of_below hb18))
  have P9 := Lib.hid (P9.out.later (Stay.of_below hb18))
  have PS3 := Lib.hid (PS3.out.later (Stay.of_below hb18))
  have HLOW := Lib.hid (HLOW.out.trans (hb18.mono HLOW.out.size))
  have hbv : b < w18.heap.size := by have := hb18.size; omega
  clear p12 hb18
  obtain ⟨w19, hw19⟩ : ∃ V, w18.alloc (Obj.cells #[Value.int IntKind.i64 o9, Value.slice A9 n9 c9, Value.slice B9 k9 d9, Value.int IntKind.i64 l9, Value.int IntKind.i64 h9, Value.int IntKind.i64 oS3, Value.slice AS3 nS3 cS3, Value.slice BS3 kS3 dS3, Value.int IntKind.i64 lS3, Value.int IntKind.i64 hS3, Value.int IntKind.i64 o12, Value.slice A12 n12 c12, Value.slice B12 k12 d12, Value.int IntKind.i64 l12, Value.int IntKind.i64 h12] 62) = V := ⟨_, rfl⟩
  have K4 := KdV.new (w := w18) (G := Pat b w18 3 18) (us := [[Value.int IntKind.i64 o9, Value.slice A9 n9 c9, Value.slice B9 k9 d9, Value.int IntKind.i64 l9, Value.int IntKind.i64 h9], [Value.int IntKind.i64 oS3, Value.slice AS3 nS3 cS3, Value.slice BS3 kS3 dS3, Value.int IntKind.i64 lS3, Value.int IntKind.i64 hS3], [Value.int IntKind.i64 o12, Value.slice A12 n12 c12, Value.slice B12 k12 d12, Value.int IntKind.i64 l12, Value.int IntKind.i64 h12]]) (cs := #[Value.int IntKind.i64 o9, Value.slice A9 n9 c9, Value.slice B9 k9 d9, Value.int IntKind.i64 l9, Value.int IntKind.i64 h9, Value.int IntKind.i64 oS3, Value.slice AS3 nS3 cS3, Value.slice BS3 kS3 dS3, Value.int IntKind.i64 lS3, Value.int IntKind.i64 hS3, Value.int IntKind.i64 o12, Value.slice A12 n12 c12, Value.slice B12 k12 d12, Value.int IntKind.i64 l12, Value.int IntKind.i64 h12]) (e := 62) (n := 3) (c := 3) hbv rfl (by intro u hu; simp only [List.mem_cons, List.not_mem_nil, or_false] at hu; rcases hu with rfl | rfl | rfl <;> rfl) (by intro u hu; simp only [List.mem_cons, List.not_mem_nil, or_false] at hu; rcases hu with rfl | rfl | rfl <;> (first | exact P9.out.mono (by decide) (by decide) | exact PS3.out.mono (by decide) (by decide) | exact P12.out.mono (by decide) (by decide))) rfl (by decide)
  have hb19 : Below w18.heap.size w18 w19 := by rw [← hw19]; exact (Below.refl _ _).alloc (Nat.le_refl _) _
  rw [hw19] at K4
  have K4 := Lib.hid (K4.later (Stay.refl b _) (fun us => Pat.later (Stay.of_below hb19)))
  have HW19 := Lib.hid hw19
  have R1 := Lib.hid (R1.out.later (Stay.of_below hb19))
  have R2 := Lib.hid (R2.out.later (Stay.of_below hb19))
  have R3 := Lib.hid (R3.out.later (Stay.of_below hb19))
  have PS1 := Lib.hid (PS1.out.later (Stay.of_below hb19))
  have PS2 := Lib.hid (PS2.out.later (Stay.of_below hb19))
  have P7 := Lib.hid (P7.out.later (Stay.of_below hb19))
  have P8 := Lib.hid (P8.out.later (Stay.of_below hb19))
  have P9 := Lib.hid (P9.out.later (Stay.of_below hb19))
  have PS3 := Lib.hid (PS3.out.later (Stay.of_below hb19))
  have P12 := Lib.hid (P12.out.later (Stay.of_below hb19))
  have HLOW := Lib.hid (HLOW.out.trans (hb19.mono HLOW.out.size))
  have hbv : b < w19.heap.size := by have := hb19.size; omega
  clear hw19 hb19
  go_wp2_with fail
  rw [HW19.out]
  clear HW19
  clear P9
  clear PS3
  clear P12
  have PCH := Lib.hid (show Pat b w19 4 18 [Value.int IntKind.i64 3, Value.slice none 0 0, Value.slice (some ⟨w18.heap.size, 0, none⟩) 3 3, Value.int IntKind.i64 0, Value.int IntKind.i64 0] from ⟨_, _, _, _, ⟨Sl.of _ _ _, Sl.of _ _ _⟩, .inr (.inr (.inl ⟨rfl, 3, K4.out, by decide⟩))⟩)
  clear K4
  refine (byte_node b 97 (by decide) (by decide) _ hbv).mono ?_
  rintro e w20 ⟨A13, B13, n13, k13, c13, d13, o13, l13, h13, rfl, p13, hb20⟩
  have P13 := Lib.hid p13
  have R1 := Lib.hid (R1.out.later (Stay.of_below hb20))
  have R2 := Lib.hid (R2.out.later (Stay.of_below hb20))
  have R3 := Lib.hid (R3.out.later (Stay.of_below hb20))
  have PS1 := Lib.hid (PS1.out.later (Stay.of_below hb20))
  have PS2 := Lib.hid (PS2.out.later (Stay.of_below hb20))
  have P7 := Lib.hid (P7.out.later (Stay.of_below hb20))
  have P8 := Lib.hid (P8.out.later (Stay.of_below hb20))
  have PCH := Lib.hid (PCH.out.later (Stay.of_below hb20))
  have HLOW := Lib.hid (HLOW.out.trans (hb20.mono HLOW.out.size))
  have hbv : b < w20.heap.size := by have := hb20.size; omega
  clear p13 hb20
  go_wp2_with fail
  refine (times_node b _ _ _ 0 3 _ R2.out hbv (by decide) (by decide) (by decide) (by decide)).mono ?_
  rintro e w21 ⟨A14, B14, n14, k14, c14, d14, o14, l14, h14, rfl, p14, hb21⟩
  have P14 := Lib.hid p14
  have R1 := Lib.hid (R1.out.later (Stay.of_below hb21))
  have R2 := Lib.hid (R2.out.later (Stay.of_below hb21))
  have R3 := Lib.hid (R3.out.later (Stay.of_below hb21))
  have PS1 := Lib.hid (PS1.out.later (Stay.of_below hb21))
  have PS2 := Lib.hid (PS2.out.later (Stay.of_below hb21))
  have P7 := Lib.hid (P7.out.later (Stay.of_below hb21))
  have P8 := Lib.hid (P8.out.later (Stay.of_below hb21))
  have PCH := Lib.hid (PCH.out.later (Stay.of_below hb21))
  have P13 := Lib.hid (P13.out.later (Stay.of_below hb21))
  have HLOW := Lib.hid (HLOW.out.trans (hb21.mono HLOW.out.size))
  have hbv : b < w21.heap.size := by have := hb21.size; omega
  clear p14 hb21
  go_wp2_with fail
  refine (byte_node b 98 (by decide) (by decide) _ hbv).mono ?_
  rintro e w22 ⟨A15, B15, n15, k15, c15, d15, o15, l15, h15, rfl, p15, hb22⟩
  have P15 := Lib.hid p15
  have R1 := Lib.hid (R1.out.later (Stay.of_below hb22))
  have R2 := Lib.hid (R2.out.later (Stay.of_below hb22))
  have R3 := Lib.hid (R3.out.later (Stay.of_below hb22))
  have PS1 := Lib.hid (PS1.out.later (Stay.of_below hb22))
  have PS2 := Lib.hid (PS2.out.later (Stay.of_below hb22))
  have P7 := Lib.hid (P7.out.later (Stay.of_below hb22))
  have P8 := Lib.hid (P8.out.later (Stay.of_below hb22))
  have PCH := Lib.hid (PCH.out.later (Stay.of_below hb22))
  have P13 := Lib.hid (P13.out.later (Stay.of_below hb22))
  have P14 := Lib.hid (P14.out.later (Stay.of_below hb22))
  have HLOW := Lib.hid (HLOW.out.trans (hb22.mono HLOW.out.size))
  have hbv : b < w22.heap.size := by have := hb22.size; omega
  clear p15 hb22
  obtain ⟨w23, hw23⟩ : ∃ V, w22.alloc (Obj.cells #[Value.int IntKind.i64 o13, Value.slice A13 n13 c13, Value.slice B13 k13 d13, Value.int IntKind.i64 l13, Value.int IntKind.i64 h13, Value.int IntKind.i64 o14, Value.slice A14 n14 c14, Value.slice B14 k14 d14, Value.int IntKind.i64 l14, Value.int IntKind.i64 h14, Value.int IntKind.i64 o15, Value.slice A15 n15 c15, Value.slice B15 k15 d15, Value.int IntKind.i64 l15, Value.int IntKind.i64 h15] 62) = V := ⟨_, rfl⟩
  have K5 := KdV.new (w := w22) (G := Pat b w22 2 6) (us := [[Value.int IntKind.i64 o13, Value.slice A13 n13 c13, Value.slice B13 k13 d13, Value.int IntKind.i64 l13, Value.int IntKind.i64 h13], [Value.int IntKind.i64 o14, Value.slice A14 n14 c14, Value.slice B14 k14 d14, Value.int IntKind.i64 l14, Value.int IntKind.i64 h14], [Value.int IntKind.i64 o15, Value.slice A15 n15 c15, Value.slice B15 k15 d15, Value.int IntKind.i64 l15, Value.int IntKind.i64 h15]]) (cs := #[Value.int IntKind.i64 o13, Value.slice A13 n13 c13, Value.slice B13 k13 d13, Value.int IntKind.i64 l13, Value.int IntKind.i64 h13, Value.int IntKind.i64 o14, Value.slice A14 n14 c14, Value.slice B14 k14 d14, Value.int IntKind.i64 l14, Value.int IntKind.i64 h14, Value.int IntKind.i64 o15, Value.slice A15 n15 c15, Value.slice B15 k15 d15, Value.int IntKind.i64 l15, Value.int IntKind.i64 h15]) (e := 62) (n := 3) (c := 3) hbv rfl (by intro u hu; simp only [List.mem_cons, List.not_mem_nil, or_false] at hu; rcases hu with rfl | rfl | rfl <;> rfl) (by intro u hu; simp only [List.mem_cons, List.not_mem_nil, or_false] at hu; rcases hu with rfl | rfl | rfl <;> (first | exact P13.out.mono (by decide) (by decide) | exact P14.out.mono (by decide) (by decide) | exact P15.out.mono (by decide) (by decide))) rfl (by decide)
  have hb23 : Below w22.heap.size w22 w23 := by rw [← hw23]; exact (Below.refl _ _).alloc (Nat.le_refl _) _
  rw [hw23] at K5
  have K5 := Lib.hid (K5.later (Stay.refl b _) (fun us => Pat.later (Stay.of_below hb23)))
  have HW23 := Lib.hid hw23
  have R1 := Lib.hid (R1.out.later (Stay.of_below hb23))
  have R2 := Lib.hid (R2.out.later (Stay.of_below hb23))
  have R3 := Lib.hid (R3.out.later (Stay.of_below hb23))
  have PS1 := Lib.hid (PS1.out.later (Stay.of_below hb23))
  have PS2 := Lib.hid (PS2.out.later (Stay.of_below hb23))
  have P7 := Lib.hid (P7.out.later (Stay.of_below hb23))
  have P8 := Lib.hid (P8.out.later (Stay.of_below hb23))
  have PCH := Lib.hid (PCH.out.later (Stay.of_below hb23))
  have P13 := Lib.hid (P13.out.later (Stay.of_below hb23))
  have P14 := Lib.hid (P14.out.later (Stay.of_below hb23))
  have P15 := Lib.hid (P15.out.later (Stay.of_below hb23))
  have HLOW := Lib.hid (HLOW.out.trans (hb23.mono HLOW.out.size))
  have hbv : b < w23.heap.size := by have := hb23.size; omega
  clear hw23 hb23
  go_wp2_with fail
  rw [HW23.out]
  clear HW23
  clear P13
  clear P14
  clear P15
  refine (seq_node b _ _ _ _ K5.out (by decide)).mono ?_
  rintro e w24 ⟨AS4, BS4, nS4, kS4, cS4, dS4, oS4, lS4, hS4, rfl, pS4, hb24⟩
  have PS4 := Lib.hid pS4
  have R1 := Lib.hid (R1.out.later (Stay.of_below hb24))
  have R2 := Lib.hid (R2.out.later (Stay.of_below hb24))
  have R3 := Lib.hid (R3.out.later (Stay.of_below hb24))
  have PS1 := Lib.hid (PS1.out.later (Stay.of_below hb24))
  have PS2 := Lib.hid (PS2.out.later (Stay.of_below hb24))
  have P7 := Lib.hid (P7.out.later (Stay.of_below hb24))
  have P8 := Lib.hid (P8.out.later (Stay.of_below hb24))
  have PCH := Lib.hid (PCH.out.later (Stay.of_below hb24))
  have HLOW := Lib.hid (HLOW.out.trans (hb24.mono HLOW.out.size))
  have hbv : b < w24.heap.size := by have := hb24.size; omega
  clear pS4 hb24
  clear K5
  obtain ⟨w25, hw25⟩ : ∃ V, w24.alloc (Obj.cells #[Value.int IntKind.i64 oS1, Value.slice AS1 nS1 cS1, Value.slice BS1 kS1 dS1, Value.int IntKind.i64 lS1, Value.int IntKind.i64 hS1, Value.int IntKind.i64 oS2, Value.slice AS2 nS2 cS2, Value.slice BS2 kS2 dS2, Value.int IntKind.i64 lS2, Value.int IntKind.i64 hS2, Value.int IntKind.i64 o7, Value.slice A7 n7 c7, Value.slice B7 k7 d7, Value.int IntKind.i64 l7, Value.int IntKind.i64 h7, Value.int IntKind.i64 o8, Value.slice A8 n8 c8, Value.slice B8 k8 d8, Value.int IntKind.i64 l8, Value.int IntKind.i64 h8, Value.int IntKind.i64 3, Value.slice none 0 0, Value.slice (some ⟨w18.heap.size, 0, none⟩) 3 3, Value.int IntKind.i64 0, Value.int IntKind.i64 0, Value.int IntKind.i64 oS4, Value.slice AS4 nS4 cS4, Value.slice BS4 kS4 dS4, Value.int IntKind.i64 lS4, Value.int IntKind.i64 hS4] 62) = V := ⟨_, rfl⟩
  have K6 := KdV.new (w := w24) (G := Pat b w24 4 18) (us := [[Value.int IntKind.i64 oS1, Value.slice AS1 nS1 cS1, Value.slice BS1 kS1 dS1, Value.int IntKind.i64 lS1, Value.int IntKind.i64 hS1], [Value.int IntKind.i64 oS2, Value.slice AS2 nS2 cS2, Value.slice BS2 kS2 dS2, Value.int IntKind.i64 lS2, Value.int IntKind.i64 hS2], [Value.int IntKind.i64 o7, Value.slice A7 n7 c7, Value.slice B7 k7 d7, Value.int IntKind.i64 l7, Value.int IntKind.i64 h7], [Value.int IntKind.i64 o8, Value.slice A8 n8 c8, Value.slice B8 k8 d8, Value.int IntKind.i64 l8, Value.int IntKind.i64 h8], [Value.int IntKind.i64 3, Value.slice none 0 0, Value.slice (some ⟨w18.heap.size, 0, none⟩) 3 3, Value.int IntKind.i64 0, Value.int IntKind.i64 0], [Value.int IntKind.i64 oS4, Value.slice AS4 nS4 cS4, Value.slice BS4 kS4 dS4, Value.int IntKind.i64 lS4, Value.int IntKind.i64 hS4]]) (cs := #[Value.int IntKind.i64 oS1, Value.slice AS1 nS1 cS1, Value.slice BS1 kS1 dS1, Value.int IntKind.i64 lS1, Value.int IntKind.i64 hS1, Value.int IntKind.i64 oS2, Value.slice AS2 nS2 cS2, Value.slice BS2 kS2 dS2, Value.int IntKind.i64 lS2, Value.int IntKind.i64 hS2, Value.int IntKind.i64 o7, Value.slice A7 n7 c7, Value.slice B7 k7 d7, Value.int IntKind.i64 l7, Value.int IntKind.i64 h7, Value.int IntKind.i64 o8, Value.slice A8 n8 c8, Value.slice B8 k8 d8, Value.int IntKind.i64 l8, Value.int IntKind.i64 h8, Value.int IntKind.i64 3, Value.slice none 0 0, Value.slice (some ⟨w18.heap.size, 0, none⟩) 3 3, Value.int IntKind.i64 0, Value.int IntKind.i64 0, Value.int IntKind.i64 oS4, Value.slice AS4 nS4 cS4, Value.slice BS4 kS4 dS4, Value.int IntKind.i64 lS4, Value.int IntKind.i64 hS4]) (e := 62) (n := 6) (c := 6) hbv rfl (by intro u hu; simp only [List.mem_cons, List.not_mem_nil, or_false] at hu; rcases hu with rfl | rfl | rfl | rfl | rfl | rfl <;> rfl) (by intro u hu; simp only [List.mem_cons, List.not_mem_nil, or_false] at hu; rcases hu with rfl | rfl | rfl | rfl | rfl | rfl <;> (first | exact PS1.out.mono (by decide) (by decide) | exact PS2.out.mono (by decide) (by decide) | exact P7.out.mono (by decide) (by decide) | exact P8.out.mono (by decide) (by decide) | exact PCH.out.mono (by decide) (by decide) | exact PS4.out.mono (by decide) (by decide))) rfl (by decide)
  have hb25 : Below w24.heap.size w24 w25 := by rw [← hw25]; exact (Below.refl _ _).alloc (Nat.le_refl _) _
  rw [hw25] at K6
  have K6 := Lib.hid (K6.later (Stay.refl b _) (fun us => Pat.later (Stay.of_below hb25)))
  have HW25 := Lib.hid hw25
  have R1 := Lib.hid (R1.out.later (Stay.of_below hb25))
  have R2 := Lib.hid (R2.out.later (Stay.of_below hb25))
  have R3 := Lib.hid (R3.out.later (Stay.of_below hb25))
  have PS1 := Lib.hid (PS1.out.later (Stay.of_below hb25))
  have PS2 := Lib.hid (PS2.out.later (Stay.of_below hb25))
  have P7 := Lib.hid (P7.out.later (Stay.of_below hb25))
  have P8 := Lib.hid (P8.out.later (Stay.of_below hb25))
  have PCH := Lib.hid (PCH.out.later (Stay.of_below hb25))
  have PS4 := Lib.hid (PS4.out.later (Stay.of_below hb25))
  have HLOW := Lib.hid (HLOW.out.trans (hb25.mono HLOW.out.size))
  have hbv : b < w25.heap.size := by have := hb25.size; omega
  clear hw25 hb25
  go_wp2_with fail
  rw [HW25.out]
  clear HW25
  go_ret
  exact ⟨_, rfl, K6.out, HLOW.out⟩
end Go.Proofs.YtklnakjmiljmhaaGreatDoor
namespace Go.Proofs.YtklnakjmiljmhaaGreatDoor
set_option linter.unusedVariables false
set_option linter.unusedSimpArgs false
set_option maxRecDepth 100000
open Go.RowKit
def cmpI (a b : Int) : Int := if a < b then -1 else if b < a then 1 else 0
theorem nan_any (a : Int) (w : World) : Calls Tryz.prog 76 #[.int .i64 a] w fun e w' => e = .returned (.bool false) ∧ w = w' := by
  go_enter Tryz.func76, Tryz.ntmps76
  go_wp2
  go_ret
  exact ⟨rfl, rfl⟩
theorem cmp_any (a b : Int) (w : World) : Calls Tryz.prog 42 #[.int .i64 a, .int .i64 b] w fun e w' => e = .returned (.int .i64 (cmpI a b)) ∧ w = w' := by
  unfold cmpI
  by_cases h1 : a < b
  · rw [if_pos h1]
    go_enter Tryz.func42, Tryz.ntmps42
    go_wp2_with (go_at_call 76; refine (nan_any _ _).mono ?_; rintro e w1 ⟨rfl, rfl⟩)
    go_ret
    exact ⟨rfl, rfl⟩
  · rw [if_neg h1]
    by_cases h2 : b < a
    · rw [if_pos h2]
      go_enter Tryz.func42, Tryz.ntmps42
      go_wp2_with (go_at_call 76; refine (nan_any _ _).mono ?_; rintro e w1 ⟨rfl, rfl⟩)
      go_ret
      exact ⟨rfl, rfl⟩
    · rw [if_neg h2]
      go_enter Tryz.func42, Tryz.ntmps42
      go_wp2_with (go_at_call 76; refine (nan_any _ _).mono ?_; rintro e w1 ⟨rfl, rfl⟩)
      go_ret
      exact ⟨rfl, rfl⟩
end Go.Proofs.YtklnakjmiljmhaaGreatDoor
