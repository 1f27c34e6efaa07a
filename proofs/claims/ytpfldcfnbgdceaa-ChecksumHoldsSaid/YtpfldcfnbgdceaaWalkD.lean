/- Walks of the reference's digits and check of digits; each contract says what the function returns. -/
import Derived.Test.YtpfldcfnbgdceaaWalkB
import Derived.Test.YtpfldcfnbgdceaaWalkC
import Derived.Test.YtpfldcfnbgdceaaInfo
namespace Go.Proofs.Ytpfldcfnbgdceaa
set_option linter.unusedVariables false
open Go.RowKit
set_option maxHeartbeats 400000 in
theorem hex_ref (x : Int) (w : World) (h0 : 0 ≤ x) (h1 : x < 4294967296) :
    Calls Try.prog 33 #[.int .u32 x] w fun e w' => e = .returned (.string (bs (hexR 8 x))) ∧ Below w.heap.size w w' := by
  obtain ⟨i0, hi, hz0, hz1, hz2⟩ := info_parts info_u8
  go_enter Try.func33, Try.ntmps33
  go_wp2
  go_loopw [3, 4] (fun v i wr => ∃ (m : Nat) (l : List UInt8), m ≤ 8 ∧ i = .int .i64 (4 * (m : Int) - 4) ∧ OB 5 w.heap.size v l wr ∧ l.length + m = 8 ∧ Below w.heap.size w wr ∧ l ++ hexR m x = hexR 8 x) (fun _ i _ => (intOf i + 4).toNat)
  case atStart => exact ⟨8, [], by omega, rfl, OB.nil_ _ _ _, rfl, Below.refl _ _, rfl⟩
  case round =>
    obtain ⟨m, l, hm, rfl, hown, hl, hbel, hrel⟩ := hrel
    have HR := Lib.hid hrel; clear hrel
    rcases m with _ | m
    · obtain ⟨A, n, c, rfl⟩ : ∃ A n c, u3 = .slice A n c := hown.form_
      have hcv := hown.conv Try.underlying28 Try.underlying5 Try.underlying9
      go_wp2
      go_ret
      exact ⟨ret_str (by rw [← HR.out]; simp [hexR]), hbel⟩
    · obtain ⟨y, hy⟩ : ∃ y, bits .and .u32 (x / 2 ^ (4 * (m + 1) - 4)) 15 = y := ⟨_, rfl⟩
      have hyb : y = x / 2 ^ (4 * m) % 16 := by rw [← hy, and15 (div_bd _ h0 h1).1 (div_bd _ h0 h1).2]; rfl
      have hy0 : 0 ≤ y := by omega
      have hy1 : y < 16 := by omega
      have HY := Lib.hid hyb; clear hyb
      have hix := idx_hex .u32 (Or.inl rfl) y hy0 hy1
      go_wp2_with (at_builtin; refine app_u8 Try.underlying28 hi hz0 hz1 hz2 _ _ _ _ _ (hexd y) _ rfl rfl rfl rfl hown rfl (by omega) hbel.size ?_; intro v1 w1 hown1 hb1 _ _)
      go_roundw
      case rel => exact ⟨m, l ++ [hexd y], by omega, by go_num, hown1, by simp; omega, hbel.trans (hb1.mono (Nat.le_refl _)), by rw [← HR.out, hexR, ← HY.out]; simp⟩
      case measure => simp [intOf]; omega

set_option maxHeartbeats 400000 in
theorem luhn_ref (s : ByteArray) (w : World) (hs : s.size ≤ 1000000) :
    Calls Try.prog 16 #[.string s] w fun e w' => e = .returned (.bool (luhnQ (bl s))) ∧ w = w' := by
  by_cases h2 : s.size < 2
  · go_enter Try.func16, Try.ntmps16
    go_wp2
    go_ret
    exact ⟨ret_bool (by unfold luhnQ; rw [decide_eq_false (by rw [size_list]; omega)]; rfl), rfl⟩
  · rcases hd : allF dig (bl s)
    · go_enter Try.func16, Try.ntmps16
      go_wp2_with (go_at_call 30; refine (digits_ref _ _ hs).mono ?_; rintro e w' ⟨rfl, rfl⟩)
      go_ret
      exact ⟨ret_bool (by unfold luhnQ; rw [hd]; simp), rfl⟩
    · go_enter Try.func16, Try.ntmps16
      go_wp2_with (go_at_call 30; refine (digits_ref _ _ hs).mono ?_; rintro e w' ⟨rfl, rfl⟩)
      have Hd := Lib.hid hd; clear hd
      go_loop [3, 4] (fun n i => ∃ (k : Nat) (N : Int), k ≤ s.size ∧ i = .int .i64 k ∧ n = .int .i64 N ∧ 0 ≤ N ∧ N ≤ 512 * k ∧ luhnR ((bl s).reverse.drop k) k N = luhnR (bl s).reverse 0 0) (fun _ i => s.size - (intOf i).toNat)
      case atStart => exact ⟨0, 0, Nat.zero_le _, rfl, rfl, by omega, by omega, rfl⟩
      case round =>
        obtain ⟨k, N, hk, rfl, rfl, hN0, hN1, hrel⟩ := hrel
        have HR := Lib.hid hrel; clear hrel
        by_cases hlt : k < s.size
        · have hdr := Lib.hid (drop_rev s k hlt)
          obtain ⟨u, c, hus, hcu, hc0, hc1, hix⟩ := idx_str Try.underlying9 s (s.size - 1 - k) (by omega) .i64 ((s.size : Int) - 1 - k) (by omega)
          by_cases hev : (k : Int) % 2 = 1
          · by_cases hd : 9 < (c - 48) % 256 * 2
            all_goals
              go_wp2
              go_round
              case rel => exact ⟨k + 1, _, by omega, by go_num, rfl, by omega, by omega, by rw [← HR.out, hdr.out, ← hus.out]; exact luhnR_step hcu.out (by rw [if_pos (by omega)]; unfold dbl val; split <;> omega)⟩
              case measure => simp [intOf]; omega
          · go_wp2
            go_round
            case rel => exact ⟨k + 1, _, by omega, by go_num, rfl, by omega, by omega, by rw [← HR.out, hdr.out, ← hus.out]; exact luhnR_step hcu.out (by rw [if_neg (by omega)]; unfold val; omega)⟩
            case measure => simp [intOf]; omega
        · obtain rfl : k = s.size := by omega
          have hN : N = luhnR (bl s).reverse 0 0 := by rw [← HR.out, List.drop_eq_nil_of_le (by rw [List.length_reverse, size_list]; exact Nat.le_refl _)]; rfl
          have HN := Lib.hid hN; clear hN
          go_wp2
          go_ret
          exact ⟨ret_bool (by unfold luhnQ; rw [Hd.out, ← HN.out, decide_eq_true (by rw [size_list]; omega)]; rfl), rfl⟩
theorem luhnP_any (s : ByteArray) (w : World) (hs : s.size ≤ 1000000) :
    Calls Try.prog 15 #[.string s] w fun e w' => e = .returned (.bool (luhnP (bl s))) ∧ Below w.heap.size w w' := by
  have hn := Lib.hid (luhnF_bd (bl s) 0 (by omega))
  by_cases h2 : s.size < 2
  · go_enter Try.func15, Try.ntmps15
    go_wp2
    go_ret
    exact ⟨ret_bool (by unfold luhnP; rw [decide_eq_false (by rw [size_list]; omega)]; rfl), Below.refl _ _⟩
  · rcases hd : allF dig (bl s)
    · go_enter Try.func15, Try.ntmps15
      go_wp2_with (go_at_call 35; refine (all_any _ _ (Or.inl rfl) (fun _ _ => digit_any _ _) _ _ hs).mono ?_; rintro e w1 ⟨rfl, hb1⟩)
      go_ret
      exact ⟨ret_bool (by unfold luhnP; rw [hd]; simp), hb1⟩
    · go_enter Try.func15, Try.ntmps15
      go_wp2_with (first | (go_at_call 35; refine (all_any _ _ (Or.inl rfl) (fun _ _ => digit_any _ _) _ _ hs).mono ?_; rintro e w1 ⟨rfl, hb1⟩) | (go_at_call 27; refine (luhn_any _ _ hs).mono ?_; rintro e w2 ⟨rfl, hb2⟩))
      go_ret
      have hn := hn.out
      exact ⟨ret_bool (by unfold luhnP; rw [hd, decide_eq_true (by rw [size_list]; omega), Int.tmod_eq_emod_of_nonneg hn]; rfl), hb1.trans (hb2.mono hb1.size)⟩
theorem mod97P_any (s : ByteArray) (w : World) (hs : s.size ≤ 1000000) :
    Calls Try.prog 14 #[.string s] w fun e w' => e = .returned (.bool (m97P (bl s))) ∧ Below w.heap.size w w' := by
  by_cases h2 : s.size < 3
  · go_enter Try.func14, Try.ntmps14
    go_wp2
    go_ret
    exact ⟨ret_bool (by unfold m97P; rw [decide_eq_false (by rw [size_list]; omega)]; rfl), Below.refl _ _⟩
  · rcases hd : allF sgn (bl s)
    · go_enter Try.func14, Try.ntmps14
      go_wp2_with (go_at_call 34; refine (signs_any _ _ hs).mono ?_; rintro e w1 ⟨rfl, hb1⟩)
      go_ret
      exact ⟨ret_bool (by unfold m97P; rw [hd]; simp), hb1⟩
    · have hsz : (s.extract (s.size - 2) s.size).size ≤ 1000000 := by rw [ByteArray.size_extract]; omega
      have H2 := Lib.hid (extract_last2 s)
      rcases hd2 : allF dig (bl (s.extract (s.size - 2) s.size))
      · go_enter Try.func14, Try.ntmps14
        go_wp2_with (first | (go_at_call 34; refine (signs_any _ _ hs).mono ?_; rintro e w1 ⟨rfl, hb1⟩) | (go_at_call 35; refine (all_any _ _ (Or.inl rfl) (fun _ _ => digit_any _ _) _ _ hsz).mono ?_; rw [hd2]; rintro e w2 ⟨rfl, hb2⟩))
        go_ret
        exact ⟨ret_bool (by unfold m97P; rw [hd, ← H2.out, hd2]; simp), hb1.trans (hb2.mono hb1.size)⟩
      · go_enter Try.func14, Try.ntmps14
        go_wp2_with (first | (go_at_call 34; refine (signs_any _ _ hs).mono ?_; rintro e w1 ⟨rfl, hb1⟩) | (go_at_call 35; refine (all_any _ _ (Or.inl rfl) (fun _ _ => digit_any _ _) _ _ hsz).mono ?_; rw [hd2]; rintro e w2 ⟨rfl, hb2⟩) | (go_at_call 28; refine (mod97_any _ _ hs).mono ?_; rintro e w3 ⟨rfl, hb3⟩))
        go_ret
        exact ⟨ret_bool (by unfold m97P; rw [hd, ← H2.out, hd2, decide_eq_true (by rw [size_list]; omega)]; rfl), (hb1.trans (hb2.mono hb1.size)).trans (hb3.mono (Nat.le_trans hb1.size hb2.size))⟩
theorem mod97Q_ref (s : ByteArray) (w : World) (hs : s.size ≤ 1000000) :
    Calls Try.prog 17 #[.string s] w fun e w' => e = .returned (.bool (m97Q (bl s))) ∧ w = w' := by
  by_cases h2 : s.size < 3
  · go_enter Try.func17, Try.ntmps17
    go_wp2
    go_ret
    exact ⟨ret_bool (by unfold m97Q; rw [decide_eq_false (by rw [size_list]; omega)]; rfl), rfl⟩
  · rcases hd : allF sgn (bl s)
    · go_enter Try.func17, Try.ntmps17
      go_wp2_with (go_at_call 31; refine (capitals_ref _ _ hs).mono ?_; rintro e w1 ⟨rfl, rfl⟩)
      go_ret
      exact ⟨ret_bool (by unfold m97Q; rw [hd]; simp), rfl⟩
    · have hsz : (s.extract (s.size - 2) s.size).size ≤ 1000000 := by rw [ByteArray.size_extract]; omega
      have H2 := Lib.hid (extract_last2 s)
      rcases hd2 : allF dig (bl (s.extract (s.size - 2) s.size))
      all_goals
        go_enter Try.func17, Try.ntmps17
        go_wp2_with (first | (go_at_call 31; refine (capitals_ref _ _ hs).mono ?_; rintro e w1 ⟨rfl, rfl⟩) | (go_at_call 30; refine (digits_ref _ _ hsz).mono ?_; rw [hd2]; rintro e w2 ⟨rfl, rfl⟩) | (go_at_call 32; refine (rest_ref _ _ hs).mono ?_; rintro e w3 ⟨rfl, rfl⟩))
        go_ret
        exact ⟨ret_bool (by unfold m97Q; rw [hd, ← H2.out, hd2]; first | (simp; done) | (rw [decide_eq_true (by rw [size_list]; omega)]; rfl)), rfl⟩
end Go.Proofs.Ytpfldcfnbgdceaa
