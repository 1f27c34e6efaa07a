/- Walks of the program's completion; each contract says what the function returns, for all texts of at most 1000000 bytes. -/
import Derived.Test.YtpfldcfnbgdceaaWalkG
namespace Go.Proofs.Ytpfldcfnbgdceaa
set_option linter.unusedVariables false
open Go.RowKit
theorem cmp_yes {c : Int} {s : ByteArray} {r : ByteArray} (hv : vld c = true) (hs : s.size ≤ 65536) (hp : prm c (bl s) = true) (h : r = bs (bl s ++ addP c (bl s))) :
    Ending.returned (.tuple #[.string r, .int .i64 0]) = .returned (.tuple #[.string (bs (cmpP c (bl s)).1), .int .i64 (cmpP c (bl s)).2]) := by
  unfold cmpP
  rw [hv, hp, if_neg (by decide), if_neg (by rw [size_list]; omega), if_neg (by decide), h]
set_option maxHeartbeats 400000 in
theorem comp1 (s : ByteArray) (w : World) (hs : s.size ≤ 65536) (hp : prm 1 (bl s) = true) :
    Calls Try.prog 11 #[.int .i64 1, .string s] w fun e w' => e = .returned (.tuple #[.string (bs (cmpP 1 (bl s)).1), .int .i64 (cmpP 1 (bl s)).2]) ∧ Below w.heap.size w w' := by
  have hv : vld 1 = true := rfl
  have hsz : (s ++ ⟨#[48]⟩ : ByteArray).size ≤ 1000000 := by rw [ByteArray.size_append]; exact Nat.le_trans (Nat.add_le_add_right hs 1) (by decide)
  have hN0 := luhnF_bd (bl (s ++ ⟨#[48]⟩)) 0 (by omega)
  obtain ⟨N, hN⟩ : ∃ N, luhnF (bl (s ++ ⟨#[48]⟩)) 0 = N := ⟨_, rfl⟩
  rw [hN] at hN0
  have HN := Lib.hid hN
  have henc := enc1 (x := 48 + -(N % 10) % 10) (by omega) (by omega)
  have hfin := Lib.hid (show s ++ bs [UInt8.ofNat (48 + -(N % 10) % 10).toNat] = bs (bl s ++ addP 1 (bl s)) by rw [cat_bs]; unfold addP luhnD; rw [if_pos rfl, show luhnF (bl s ++ [48]) 0 = N from bl_lit s [48] ▸ hN])
  generalize UInt8.ofNat (48 + -(N % 10) % 10).toNat = u at henc hfin
  have hs1 := size_bs1 u
  go_enter Try.func11, Try.ntmps11
  go_wp2_with (first | (go_at_call 24; refine (valid_any _ _).mono ?_; rintro e w' ⟨rfl, rfl⟩) | (go_at_call 26; refine (permitted_any _ _ _ (by omega)).mono ?_; rintro e w1 ⟨rfl, hb1⟩) | (go_at_call 27; refine (luhn_any _ _ hsz).mono ?_; rintro e w2 ⟨rfl, hb2⟩))
  go_ret2
  exact ⟨cmp_yes hv hs hp hfin.out, hb1.trans (hb2.mono hb1.size)⟩
set_option maxHeartbeats 400000 in
theorem comp2 (s : ByteArray) (w : World) (hs : s.size ≤ 65536) (hp : prm 2 (bl s) = true) :
    Calls Try.prog 11 #[.int .i64 2, .string s] w fun e w' => e = .returned (.tuple #[.string (bs (cmpP 2 (bl s)).1), .int .i64 (cmpP 2 (bl s)).2]) ∧ Below w.heap.size w w' := by
  have hv : vld 2 = true := rfl
  have hsz : (s ++ ⟨#[48, 48]⟩ : ByteArray).size ≤ 1000000 := by rw [ByteArray.size_append]; exact Nat.le_trans (Nat.add_le_add_right hs 2) (by decide)
  obtain ⟨hN0, hN1⟩ := mod97F_bd (bl (s ++ ⟨#[48, 48]⟩)) 0 (by omega) (by omega)
  obtain ⟨N, hN⟩ : ∃ N, mod97F (bl (s ++ ⟨#[48, 48]⟩)) 0 = N := ⟨_, rfl⟩
  rw [hN] at hN0 hN1
  have henc := enc1 (x := 48 + (98 - N) / 10) (by omega) (by omega)
  have henc2 := enc1 (x := 48 + (98 - N) % 10) (by omega) (by omega)
  have hfin := Lib.hid (show s ++ bs [UInt8.ofNat (48 + (98 - N) / 10).toNat] ++ bs [UInt8.ofNat (48 + (98 - N) % 10).toNat] = bs (bl s ++ addP 2 (bl s)) by rw [cat_bs, cat_bs, bl_bs]; unfold addP twoD; rw [if_neg (by decide), if_pos rfl, show mod97F (bl s ++ [48, 48]) 0 = N from bl_lit s [48, 48] ▸ hN]; simp)
  generalize UInt8.ofNat (48 + (98 - N) / 10).toNat = u at henc hfin
  generalize UInt8.ofNat (48 + (98 - N) % 10).toNat = u2 at henc2 hfin
  have hs1 := size_bs1 u
  have hs2 := size_bs1 u2
  go_enter Try.func11, Try.ntmps11
  go_wp2_with (first | (go_at_call 24; refine (valid_any _ _).mono ?_; rintro e w' ⟨rfl, rfl⟩) | (go_at_call 26; refine (permitted_any _ _ _ (by omega)).mono ?_; rintro e w1 ⟨rfl, hb1⟩) | (go_at_call 28; refine (mod97_any _ _ hsz).mono ?_; rintro e w2 ⟨rfl, hb2⟩))
  go_ret2
  exact ⟨cmp_yes hv hs hp hfin.out, hb1.trans (hb2.mono hb1.size)⟩
set_option maxHeartbeats 400000 in
theorem comp3 (s : ByteArray) (w : World) (hs : s.size ≤ 65536) (hp : prm 3 (bl s) = true) :
    Calls Try.prog 11 #[.int .i64 3, .string s] w fun e w' => e = .returned (.tuple #[.string (bs (cmpP 3 (bl s)).1), .int .i64 (cmpP 3 (bl s)).2]) ∧ Below w.heap.size w w' := by
  have hv : vld 3 = true := rfl
  have hcb := Lib.hid (crc_bd (bl s))
  have hs8 : (bs (hexR 8 (crc (bl s)))).size = 8 := by rw [size_bs, hexR_len]
  have hfin := Lib.hid (show s ++ bs (hexR 8 (crc (bl s))) = bs (bl s ++ addP 3 (bl s)) by rw [cat_bs]; rfl)
  go_enter Try.func11, Try.ntmps11
  go_wp2_with (first | (go_at_call 24; refine (valid_any _ _).mono ?_; rintro e w' ⟨rfl, rfl⟩) | (go_at_call 26; refine (permitted_any _ _ _ (by omega)).mono ?_; rintro e w1 ⟨rfl, hb1⟩) | (go_at_call 18; refine (crc_any _ _ (by omega)).mono ?_; rintro e w2 ⟨rfl, hb2⟩) | (go_at_call 29; refine (digits_any _ _ hcb.out.1 hcb.out.2).mono ?_; rintro e w3 ⟨rfl, hb3⟩))
  go_ret2
  exact ⟨cmp_yes hv hs hp hfin.out, (hb1.trans (hb2.mono hb1.size)).trans (hb3.mono (Nat.le_trans hb1.size hb2.size))⟩
set_option maxHeartbeats 400000 in
theorem comp4 (s : ByteArray) (w : World) (hs : s.size ≤ 65536) (hp : prm 4 (bl s) = true) :
    Calls Try.prog 11 #[.int .i64 4, .string s] w fun e w' => e = .returned (.tuple #[.string (bs (cmpP 4 (bl s)).1), .int .i64 (cmpP 4 (bl s)).2]) ∧ Below w.heap.size w w' := by
  have hv : vld 4 = true := rfl
  obtain ⟨hN0, hN1⟩ := letF_bd (bl s) 0 0 (by omega) (by omega)
  have hfin : ∀ N, letF (bl s) 0 0 = N → s ++ bs [UInt8.ofNat (65 + N).toNat] = bs (bl s ++ addP 4 (bl s)) := by rintro N rfl; rw [cat_bs]; rfl
  obtain ⟨N, hN⟩ : ∃ N, letF (bl s) 0 0 = N := ⟨_, rfl⟩
  rw [hN] at hN0 hN1
  have hfin := Lib.hid (hfin N hN)
  have henc := enc1 (x := 65 + N) (by omega) (by omega)
  generalize UInt8.ofNat (65 + N).toNat = u at henc hfin
  have hs1 := size_bs1 u
  go_enter Try.func11, Try.ntmps11
  go_wp2_with (first | (go_at_call 24; refine (valid_any _ _).mono ?_; rintro e w' ⟨rfl, rfl⟩) | (go_at_call 26; refine (permitted_any _ _ _ (by omega)).mono ?_; rintro e w1 ⟨rfl, hb1⟩) | (go_at_call 20; refine (letter_any _ _ (by omega)).mono ?_; rintro e w2 ⟨rfl, hb2⟩))
  go_ret2
  exact ⟨cmp_yes hv hs hp hfin.out, hb1.trans (hb2.mono hb1.size)⟩
set_option maxHeartbeats 400000 in
theorem complete_any (c : Int) (s : ByteArray) (w : World) (hs : s.size ≤ 1000000) :
    Calls Try.prog 11 #[.int .i64 c, .string s] w fun e w' => e = .returned (.tuple #[.string (bs (cmpP c (bl s)).1), .int .i64 (cmpP c (bl s)).2]) ∧ Below w.heap.size w w' := by
  rcases hv : vld c
  · go_enter Try.func11, Try.ntmps11
    go_wp2_with (go_at_call 24; refine (valid_any _ _).mono ?_; rintro e w' ⟨rfl, rfl⟩)
    go_ret2
    exact ⟨by unfold cmpP; rw [hv]; rfl, Below.refl _ _⟩
  by_cases hl : 65536 < s.size
  · go_enter Try.func11, Try.ntmps11
    go_wp2_with (go_at_call 24; refine (valid_any _ _).mono ?_; rintro e w' ⟨rfl, rfl⟩)
    go_ret2
    exact ⟨by unfold cmpP; rw [hv, if_neg (by decide), if_pos (by rw [size_list]; exact hl)]; rfl, Below.refl _ _⟩
  rcases hp : prm c (bl s)
  · go_enter Try.func11, Try.ntmps11
    go_wp2_with (first | (go_at_call 24; refine (valid_any _ _).mono ?_; rintro e w' ⟨rfl, rfl⟩) | (go_at_call 26; refine (permitted_any _ _ _ (by omega)).mono ?_; rintro e w1 ⟨rfl, hb1⟩))
    go_ret2
    exact ⟨by unfold cmpP; rw [hv, hp, if_neg (by decide), if_neg (by rw [size_list]; exact hl), if_pos rfl]; rfl, hb1⟩
  have hc := vld_cases hv
  rcases hc with rfl | rfl | rfl | rfl | rfl
  · have hfin := Lib.hid (show s = bs (bl s ++ addP 0 (bl s)) by unfold addP; simp; rfl)
    go_enter Try.func11, Try.ntmps11
    go_wp2_with (first | (go_at_call 24; refine (valid_any _ _).mono ?_; rintro e w' ⟨rfl, rfl⟩) | (go_at_call 26; refine (permitted_any _ _ _ (by omega)).mono ?_; rintro e w1 ⟨rfl, hb1⟩))
    go_ret2
    exact ⟨cmp_yes hv (by omega) hp hfin.out, hb1⟩
  · exact comp1 s w (by omega) hp
  · exact comp2 s w (by omega) hp
  · exact comp3 s w (by omega) hp
  · exact comp4 s w (by omega) hp
end Go.Proofs.Ytpfldcfnbgdceaa
