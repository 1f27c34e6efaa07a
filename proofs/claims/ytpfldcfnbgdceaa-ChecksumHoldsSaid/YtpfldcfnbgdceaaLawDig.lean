/- Digits and letters off a tape: a text of so many bytes, digits alone or digits and capital letters. -/
import Derived.Test.YtpfldcfnbgdceaaTape
namespace Go.Proofs.Ytpfldcfnbgdceaa
set_option linter.unusedVariables false
open Go.RowKit
def DigPost (p : Int → Bool) (b n : Nat) (w : World) (e : Ending) (w' : World) : Prop := ∃ l : List UInt8, e = .returned (.string (bs l)) ∧ l.length = n ∧ allF p l = true ∧ TapeOK b w' ∧ Fr b w w'
set_option maxHeartbeats 1000000 in
theorem ldigits_no (b n : Nat) (w : World) (hn : n ≤ 1000000) (ht : TapeOK b w) :
    Calls Try.prog 8 #[.pointer (some ⟨b, 0, none⟩), .int .i64 (n : Int), .bool false] w (DigPost dig b n w) := by
  obtain ⟨i0, hi, hz0, hz1, hz2⟩ := info_parts info_u8
  have hbs := ht.lt
  go_enter Try.func8, Try.ntmps8
  go_wp2
  go_loopw [7, 8] (fun v i wr => ∃ (k : Nat) (l : List UInt8), k ≤ n ∧ i = .int .i64 (k : Int) ∧ l.length = k ∧ allF dig l = true ∧ OB 5 w.heap.size v l wr ∧ TapeOK b wr ∧ Fr b w wr) (fun _ i _ => n - (intOf i).toNat)
  case atStart => exact ⟨0, [], by omega, rfl, rfl, rfl, OB.nil_ _ _ _, ht, Fr.refl _ _⟩
  case round =>
    obtain ⟨k, l, hk, rfl, hl, hall, hown, htr, hfr⟩ := hrel
    have HA := Lib.hid hall; clear hall
    by_cases hlt : k < n
    · go_wp2_with fail
      refine (next_any b _ _ (by omega) (by omega) htr).mono ?_
      rintro e w1 ⟨r, rfl, hr0, hr1, ht1, hf1⟩
      have hown1 := hown.fr hf1 hbs
      have hu := byte_nat (48 + r).toNat (by omega)
      rw [Int.toNat_of_nonneg (by omega)] at hu
      have hd := Lib.hid (show dig (UInt8.ofNat (48 + r).toNat).toNat = true by rw [← hu]; exact dig_mk (by omega) (by omega))
      have HU := Lib.hid hu; clear hu
      go_wp2_with (at_builtin; refine app_u8 Try.underlying28 hi hz0 hz1 hz2 _ _ _ _ _ (UInt8.ofNat (48 + r).toNat) _ rfl rfl rfl rfl hown1 HU.out (by omega) (Nat.le_trans hfr.size hf1.size) ?_; intro v1 w3 hown3 hb3 _ _)
      go_roundw
      case rel => exact ⟨k + 1, _, by omega, by go_num, by simp; omega, allF_snoc hd.out _ HA.out, hown3, ht1.below' hb3 hbs, (hfr.trans hf1).then hb3⟩
      case measure => simp [intOf]; omega
    · obtain rfl : k = n := by omega
      obtain ⟨A, m, c, rfl⟩ := hown.form_
      have hcv := hown.conv Try.underlying28 Try.underlying5 Try.underlying9
      go_wp2
      go_ret
      exact ⟨l, rfl, hl, HA.out, htr, hfr⟩
set_option maxHeartbeats 1000000 in
theorem ldigits_yes (b n : Nat) (w : World) (hn : n ≤ 1000000) (ht : TapeOK b w) :
    Calls Try.prog 8 #[.pointer (some ⟨b, 0, none⟩), .int .i64 (n : Int), .bool true] w (DigPost sgn b n w) := by
  obtain ⟨i0, hi, hz0, hz1, hz2⟩ := info_parts info_u8
  have hbs := ht.lt
  go_enter Try.func8, Try.ntmps8
  go_wp2
  go_loopw [7, 8] (fun v i wr => ∃ (k : Nat) (l : List UInt8), k ≤ n ∧ i = .int .i64 (k : Int) ∧ l.length = k ∧ allF sgn l = true ∧ OB 5 w.heap.size v l wr ∧ TapeOK b wr ∧ Fr b w wr) (fun _ i _ => n - (intOf i).toNat)
  case atStart => exact ⟨0, [], by omega, rfl, rfl, rfl, OB.nil_ _ _ _, ht, Fr.refl _ _⟩
  case round =>
    obtain ⟨k, l, hk, rfl, hl, hall, hown, htr, hfr⟩ := hrel
    have HA := Lib.hid hall; clear hall
    by_cases hlt : k < n
    · go_wp2_with fail
      refine (next_any b _ _ (by omega) (by omega) htr).mono ?_
      rintro e w1 ⟨r, rfl, hr0, hr1, ht1, hf1⟩
      have hown1 := hown.fr hf1 hbs
      go_wp2_with fail
      refine (next_any b _ _ (by omega) (by omega) ht1).mono ?_
      rintro e w2 ⟨q, rfl, hq0, hq1, ht2, hf2⟩
      have hown2 := hown1.fr hf2 hbs
      by_cases hq : q = 0
      · subst hq
        go_wp2_with fail
        refine (next_any b _ _ (by omega) (by omega) ht2).mono ?_
        rintro e w4 ⟨r4, rfl, hr40, hr41, ht4, hf4⟩
        have hown4 := hown2.fr hf4 hbs
        have hu := byte_nat (65 + r4).toNat (by omega)
        rw [Int.toNat_of_nonneg (by omega)] at hu
        have hd := Lib.hid (show sgn (UInt8.ofNat (65 + r4).toNat).toNat = true by rw [← hu]; exact sgn_mk (by omega))
        have HU := Lib.hid hu; clear hu
        go_wp2_with (at_builtin; refine app_u8 Try.underlying28 hi hz0 hz1 hz2 _ _ _ _ _ (UInt8.ofNat (65 + r4).toNat) _ rfl rfl rfl rfl hown4 HU.out (by omega) (Nat.le_trans hfr.size (Nat.le_trans hf1.size (Nat.le_trans hf2.size hf4.size))) ?_; intro v1 w3 hown3 hb3 _ _)
        go_roundw
        case rel => exact ⟨k + 1, _, by omega, by go_num, by simp; omega, allF_snoc hd.out _ HA.out, hown3, ht4.below' hb3 hbs, (((hfr.trans hf1).trans hf2).trans hf4).then hb3⟩
        case measure => simp [intOf]; omega
      · have hu := byte_nat (48 + r).toNat (by omega)
        rw [Int.toNat_of_nonneg (by omega)] at hu
        have hd := Lib.hid (show sgn (UInt8.ofNat (48 + r).toNat).toNat = true by rw [← hu]; exact sgn_mk (by omega))
        have HU := Lib.hid hu; clear hu
        go_wp2_with (at_builtin; refine app_u8 Try.underlying28 hi hz0 hz1 hz2 _ _ _ _ _ (UInt8.ofNat (48 + r).toNat) _ rfl rfl rfl rfl hown2 HU.out (by omega) (Nat.le_trans hfr.size (Nat.le_trans hf1.size hf2.size)) ?_; intro v1 w3 hown3 hb3 _ _)
        go_roundw
        case rel => exact ⟨k + 1, _, by omega, by go_num, by simp; omega, allF_snoc hd.out _ HA.out, hown3, ht2.below' hb3 hbs, ((hfr.trans hf1).trans hf2).then hb3⟩
        case measure => simp [intOf]; omega
    · obtain rfl : k = n := by omega
      obtain ⟨A, m, c, rfl⟩ := hown.form_
      have hcv := hown.conv Try.underlying28 Try.underlying5 Try.underlying9
      go_wp2
      go_ret
      exact ⟨l, rfl, hl, HA.out, htr, hfr⟩
theorem ldigits_no' (b n : Nat) (m : Int) (hm : m = n) (w : World) (hn : n ≤ 1000000) (ht : TapeOK b w) :
    Calls Try.prog 8 #[.pointer (some ⟨b, 0, none⟩), .int .i64 m, .bool false] w (DigPost dig b n w) := by subst hm; exact ldigits_no b n w hn ht
theorem ldigits_yes' (b n : Nat) (m : Int) (hm : m = n) (w : World) (hn : n ≤ 1000000) (ht : TapeOK b w) :
    Calls Try.prog 8 #[.pointer (some ⟨b, 0, none⟩), .int .i64 m, .bool true] w (DigPost sgn b n w) := by subst hm; exact ldigits_yes b n w hn ht
end Go.Proofs.Ytpfldcfnbgdceaa
