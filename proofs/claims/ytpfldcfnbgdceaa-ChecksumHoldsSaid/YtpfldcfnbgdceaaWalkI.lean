/- Walks of the reference's completion; each contract says what the function returns, for all texts of at most 1000000 bytes. -/
import Derived.Test.YtpfldcfnbgdceaaWalkG
namespace Go.Proofs.Ytpfldcfnbgdceaa
set_option linter.unusedVariables false
open Go.RowKit
theorem cmpR_yes {c : Int} {s : ByteArray} {r : ByteArray} (hv : vld c = true) (hs : s.size ≤ 65536) (hp : prm c (bl s) = true) (h : r = bs (bl s ++ addQ c (bl s))) :
    Ending.returned (.tuple #[.string r, .int .i64 0]) = .returned (.tuple #[.string (bs (cmpQ c (bl s)).1), .int .i64 (cmpQ c (bl s)).2]) := by
  unfold cmpQ
  rw [hv, hp, if_neg (by decide), if_neg (by rw [size_list]; omega), if_neg (by decide), h]
theorem cmpR_no {c : Int} {s : ByteArray} (hv : vld c = true) (hs : s.size ≤ 65536) (hp : prm c (bl s) = false) :
    Ending.returned (.tuple #[.string ⟨#[]⟩, .int .i64 4]) = .returned (.tuple #[.string (bs (cmpQ c (bl s)).1), .int .i64 (cmpQ c (bl s)).2]) := by
  unfold cmpQ
  rw [hv, hp, if_neg (by decide), if_neg (by rw [size_list]; omega), if_pos rfl]; rfl
set_option maxHeartbeats 1000000 in
theorem compR1 (s : ByteArray) (w : World) (hs : s.size ≤ 65536) (hz : ¬ s.size = 0) (hp : allF dig (bl s) = true) :
    Calls Try.prog 12 #[.int .i64 1, .string s] w fun e w' => e = .returned (.tuple #[.string (bs (cmpQ 1 (bl s)).1), .int .i64 (cmpQ 1 (bl s)).2]) ∧ Below w.heap.size w w' := by
  have hv : vld 1 = true := rfl
  have hpp := Lib.hid ((prm_at1 hz).trans hp)
  have hz0 : ((s.size : Int) == 0) = false := beq_eq_false_iff_ne.2 (by omega)
  go_enter Try.func12, Try.ntmps12
  go_wp2_with (first | (go_at_call 25; refine (valid_ref _ _).mono ?_; rintro e w' ⟨rfl, rfl⟩) | (go_at_call 30; refine (digits_ref _ _ (by omega)).mono ?_; rintro e w' ⟨rfl, rfl⟩))
  have HP := Lib.hid hp; clear hp
  go_loopw [6] (fun d wr => ∃ j : Nat, j ≤ 9 ∧ d = .int .u8 (48 + (j : Int)) ∧ Below w.heap.size w wr ∧ luhnSf (9 - j) (bl s) = luhnSf 9 (bl s)) (fun d _ => (57 - intOf d).toNat)
  case atStart => exact ⟨0, by omega, rfl, Below.refl _ _, rfl⟩
  case round =>
    obtain ⟨j, hj, rfl, hbel, hrel⟩ := hrel
    have HR := Lib.hid hrel; clear hrel
    by_cases hlt : j < 9
    · obtain ⟨u, hu⟩ : ∃ u, UInt8.ofNat (48 + j) = u := ⟨_, rfl⟩
      have hcv := fun w => conv_row (P := Try.prog) Try.underlying28 Try.underlying5 Try.underlying9 [u] [.int .u8 (48 + (j : Int))] (by rw [← hu]; simp only [List.map]; rw [← byte_nat (48 + j) (by omega)]; simp) 1 1 rfl w
      have hcv2 : ∀ (W : World) (o : Obj), _ := fun W o => conv_row2 (P := Try.prog) Try.underlying28 Try.underlying5 Try.underlying9 [u] [.int .u8 (48 + (j : Int))] (by rw [← hu]; simp only [List.map]; rw [← byte_nat (48 + j) (by omega)]; simp) 1 1 rfl W o
      have h56 : UInt8.ofNat (56 - (8 - j)) = u := by rw [← hu]; congr 1; omega
      have Hu := Lib.hid h56; clear hu h56
      have hs1 := size_bs1 u
      have hsz : (s ++ bs [u]).size ≤ 1000000 := by rw [ByteArray.size_append, hs1]; omega
      have hfuel := Lib.hid (show 9 - j = (8 - j) + 1 by omega)
      rcases hq : luhnQ (bl (s ++ bs [u]))
      · have hq' := Lib.hid (cat_bl s [u] ▸ hq)
        go_wp2_with (go_at_call 16; refine (luhn_ref _ _ hsz).mono ?_; rintro e w' ⟨rfl, rfl⟩)
        go_roundw
        case rel => exact ⟨j + 1, by omega, by go_num, hbel.alloc hbel.size _, by rw [← HR.out, hfuel.out, luhnSf_no (by rw [Hu.out]; exact hq'.out)]; congr 1; omega⟩
        case measure => simp [intOf]; omega
      · have hq' := Lib.hid (cat_bl s [u] ▸ hq)
        have hfin := Lib.hid (show s ++ bs [u] = bs (bl s ++ addQ 1 (bl s)) by rw [cat_bs]; unfold addQ; rw [if_pos rfl, ← HR.out, hfuel.out, luhnSf_yes (by rw [Hu.out]; exact hq'.out), Hu.out])
        go_wp2_with (go_at_call 16; refine (luhn_ref _ _ hsz).mono ?_; rintro e w' ⟨rfl, rfl⟩)
        go_ret2
        exact ⟨cmpR_yes hv hs hpp.out hfin.out, (hbel.alloc hbel.size _).alloc ((hbel.alloc hbel.size _).size) _⟩
    · obtain rfl : j = 9 := by omega
      have hfin := Lib.hid (show s ++ ⟨#[57]⟩ = bs (bl s ++ addQ 1 (bl s)) by rw [show (⟨#[57]⟩ : ByteArray) = bs [57] from rfl, cat_bs]; unfold addQ; rw [if_pos rfl, ← HR.out]; rfl)
      go_wp2
      go_ret2
      exact ⟨cmpR_yes hv hs hpp.out hfin.out, hbel⟩
set_option maxHeartbeats 1000000 in
theorem compR2 (s : ByteArray) (w : World) (hs : s.size ≤ 65536) (hz : ¬ s.size = 0) (hp : allF sgn (bl s) = true) :
    Calls Try.prog 12 #[.int .i64 2, .string s] w fun e w' => e = .returned (.tuple #[.string (bs (cmpQ 2 (bl s)).1), .int .i64 (cmpQ 2 (bl s)).2]) ∧ Below w.heap.size w w' := by
  have hv : vld 2 = true := rfl
  have hpp := Lib.hid ((prm_at2 hz).trans hp)
  have hz0 : ((s.size : Int) == 0) = false := beq_eq_false_iff_ne.2 (by omega)
  have hsz : (s ++ ⟨#[48, 48]⟩ : ByteArray).size ≤ 1000000 := by rw [ByteArray.size_append]; exact Nat.le_trans (Nat.add_le_add_right hs 2) (by decide)
  obtain ⟨hN0, hN1⟩ := mod97R_bd (bl (s ++ ⟨#[48, 48]⟩)) 0 (by omega) (by omega)
  obtain ⟨N, hN⟩ : ∃ N, mod97R (bl (s ++ ⟨#[48, 48]⟩)) 0 = N := ⟨_, rfl⟩
  rw [hN] at hN0 hN1
  have hcv := fun w => conv_row (P := Try.prog) Try.underlying28 Try.underlying5 Try.underlying9 [UInt8.ofNat (48 + (98 - N) / 10).toNat, UInt8.ofNat (48 + (98 - N) % 10).toNat] [.int .u8 (48 + (98 - N) / 10), .int .u8 (48 + (98 - N) % 10)] (by simp only [List.map]; rw [← byte_nat _ (by omega), ← byte_nat _ (by omega), Int.toNat_of_nonneg (by omega), Int.toNat_of_nonneg (by omega)]) 2 2 rfl w
  have hfin := Lib.hid (show s ++ bs [UInt8.ofNat (48 + (98 - N) / 10).toNat, UInt8.ofNat (48 + (98 - N) % 10).toNat] = bs (bl s ++ addQ 2 (bl s)) by rw [cat_bs]; unfold addQ twoD; rw [if_neg (by decide), if_pos rfl, show mod97R (bl s ++ [48, 48]) 0 = N from bl_lit s [48, 48] ▸ hN])
  have hs2 : (bs [UInt8.ofNat (48 + (98 - N) / 10).toNat, UInt8.ofNat (48 + (98 - N) % 10).toNat]).size = 2 := rfl
  generalize bs [UInt8.ofNat (48 + (98 - N) / 10).toNat, UInt8.ofNat (48 + (98 - N) % 10).toNat] = t at hcv hfin hs2
  go_enter Try.func12, Try.ntmps12
  go_wp2_with (first | (go_at_call 25; refine (valid_ref _ _).mono ?_; rintro e w' ⟨rfl, rfl⟩) | (go_at_call 31; refine (capitals_ref _ _ (by omega)).mono ?_; rintro e w' ⟨rfl, rfl⟩) | (go_at_call 32; refine (rest_ref _ _ hsz).mono ?_; rintro e w' ⟨rfl, rfl⟩))
  go_ret2
  exact ⟨cmpR_yes hv hs hpp.out hfin.out, (Below.refl _ w).alloc (Nat.le_refl _) _⟩
set_option maxHeartbeats 1000000 in
theorem compR3 (s : ByteArray) (w : World) (hs : s.size ≤ 65536) (hz : ¬ s.size = 0) :
    Calls Try.prog 12 #[.int .i64 3, .string s] w fun e w' => e = .returned (.tuple #[.string (bs (cmpQ 3 (bl s)).1), .int .i64 (cmpQ 3 (bl s)).2]) ∧ Below w.heap.size w w' := by
  have hv : vld 3 = true := rfl
  have hz0 : ((s.size : Int) == 0) = false := beq_eq_false_iff_ne.2 (by omega)
  have hcb := Lib.hid (crc_bd (bl s))
  have hs8 : (bs (hexR 8 (crc (bl s)))).size = 8 := by rw [size_bs, hexR_len]
  have hfin := Lib.hid (show s ++ bs (hexR 8 (crc (bl s))) = bs (bl s ++ addQ 3 (bl s)) by rw [cat_bs]; rfl)
  go_enter Try.func12, Try.ntmps12
  go_wp2_with (first | (go_at_call 25; refine (valid_ref _ _).mono ?_; rintro e w' ⟨rfl, rfl⟩) | (go_at_call 19; refine (crc_ref _ _ (by omega)).mono ?_; rintro e w' ⟨rfl, rfl⟩) | (go_at_call 33; refine (hex_ref _ _ hcb.out.1 hcb.out.2).mono ?_; rintro e w3 ⟨rfl, hb3⟩))
  go_ret2
  exact ⟨cmpR_yes hv hs (prm_at3 hz) hfin.out, hb3⟩
set_option maxHeartbeats 1000000 in
theorem compR4 (s : ByteArray) (w : World) (hs : s.size ≤ 65536) (hz : ¬ s.size = 0) :
    Calls Try.prog 12 #[.int .i64 4, .string s] w fun e w' => e = .returned (.tuple #[.string (bs (cmpQ 4 (bl s)).1), .int .i64 (cmpQ 4 (bl s)).2]) ∧ Below w.heap.size w w' := by
  have hv : vld 4 = true := rfl
  have hz0 : ((s.size : Int) == 0) = false := beq_eq_false_iff_ne.2 (by omega)
  obtain ⟨hN0, hN1⟩ := letF_bd (bl s) 0 0 (by omega) (by omega)
  have hfin : ∀ N, letF (bl s) 0 0 = N → s ++ bs [UInt8.ofNat (65 + N).toNat] = bs (bl s ++ addQ 4 (bl s)) := by rintro N rfl; rw [cat_bs]; rfl
  obtain ⟨N, hN⟩ : ∃ N, letF (bl s) 0 0 = N := ⟨_, rfl⟩
  rw [hN] at hN0 hN1
  have hfin := Lib.hid (hfin N hN)
  have hcv := fun w => conv_row (P := Try.prog) Try.underlying28 Try.underlying5 Try.underlying9 [UInt8.ofNat (65 + N).toNat] [.int .u8 (65 + N)] (by simp only [List.map]; rw [← byte_nat _ (by omega), Int.toNat_of_nonneg (by omega)]) 1 1 rfl w
  generalize UInt8.ofNat (65 + N).toNat = u at hcv hfin
  have hs1 := size_bs1 u
  go_enter Try.func12, Try.ntmps12
  go_wp2_with (first | (go_at_call 25; refine (valid_ref _ _).mono ?_; rintro e w' ⟨rfl, rfl⟩) | (go_at_call 21; refine (letter_ref _ _ (by omega)).mono ?_; rintro e w' ⟨rfl, rfl⟩))
  go_ret2
  exact ⟨cmpR_yes hv hs (prm_at4 hz) hfin.out, (Below.refl _ w).alloc (Nat.le_refl _) _⟩
set_option maxHeartbeats 400000 in
theorem complete_ref (c : Int) (s : ByteArray) (w : World) (hs : s.size ≤ 1000000) :
    Calls Try.prog 12 #[.int .i64 c, .string s] w fun e w' => e = .returned (.tuple #[.string (bs (cmpQ c (bl s)).1), .int .i64 (cmpQ c (bl s)).2]) ∧ Below w.heap.size w w' := by
  rcases hv : vld c
  · go_enter Try.func12, Try.ntmps12
    go_wp2_with (go_at_call 25; refine (valid_ref _ _).mono ?_; rintro e w' ⟨rfl, rfl⟩)
    go_ret2
    exact ⟨by unfold cmpQ; rw [hv]; rfl, Below.refl _ _⟩
  by_cases hl : 65536 < s.size
  · go_enter Try.func12, Try.ntmps12
    go_wp2_with (go_at_call 25; refine (valid_ref _ _).mono ?_; rintro e w' ⟨rfl, rfl⟩)
    go_ret2
    exact ⟨by unfold cmpQ; rw [hv, if_neg (by decide), if_pos (by rw [size_list]; exact hl)]; rfl, Below.refl _ _⟩
  have hc := vld_cases hv
  by_cases h0 : c = 0
  · subst h0
    have hfin := Lib.hid (show s = bs (bl s ++ addQ 0 (bl s)) by unfold addQ; simp; rfl)
    go_enter Try.func12, Try.ntmps12
    go_wp2_with (go_at_call 25; refine (valid_ref _ _).mono ?_; rintro e w' ⟨rfl, rfl⟩)
    go_ret2
    exact ⟨cmpR_yes hv (by omega) rfl hfin.out, Below.refl _ _⟩
  by_cases hz : s.size = 0
  · have hz0 : ((s.size : Int) == 0) = true := beq_iff_eq.2 (by omega)
    have hp := prm_nil hz h0
    have HZ := Lib.hid hz; clear hz
    go_enter Try.func12, Try.ntmps12
    go_wp2_with (go_at_call 25; refine (valid_ref _ _).mono ?_; rintro e w' ⟨rfl, rfl⟩)
    go_ret2
    exact ⟨cmpR_no hv (by omega) hp, Below.refl _ _⟩
  have hz0 : ((s.size : Int) == 0) = false := beq_eq_false_iff_ne.2 (by omega)
  rcases hc with rfl | rfl | rfl | rfl | rfl
  · exact absurd rfl h0
  · rcases hp : allF dig (bl s)
    · have hpp := (prm_at1 hz).trans hp
      go_enter Try.func12, Try.ntmps12
      go_wp2_with (first | (go_at_call 25; refine (valid_ref _ _).mono ?_; rintro e w' ⟨rfl, rfl⟩) | (go_at_call 30; refine (digits_ref _ _ (by omega)).mono ?_; rintro e w' ⟨rfl, rfl⟩))
      go_ret2
      exact ⟨cmpR_no hv (by omega) hpp, Below.refl _ _⟩
    · exact compR1 s w (by omega) hz hp
  · rcases hp : allF sgn (bl s)
    · have hpp := (prm_at2 hz).trans hp
      go_enter Try.func12, Try.ntmps12
      go_wp2_with (first | (go_at_call 25; refine (valid_ref _ _).mono ?_; rintro e w' ⟨rfl, rfl⟩) | (go_at_call 31; refine (capitals_ref _ _ (by omega)).mono ?_; rintro e w' ⟨rfl, rfl⟩))
      go_ret2
      exact ⟨cmpR_no hv (by omega) hpp, Below.refl _ _⟩
    · exact compR2 s w (by omega) hz hp
  · exact compR3 s w (by omega) hz
  · exact compR4 s w (by omega) hz
end Go.Proofs.Ytpfldcfnbgdceaa
