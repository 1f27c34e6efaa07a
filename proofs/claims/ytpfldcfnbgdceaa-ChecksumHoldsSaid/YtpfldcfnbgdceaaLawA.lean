/- The law ChecksumCompletes: the call returns true, for every tape, text and number. -/
import Derived.Test.YtpfldcfnbgdceaaAwake
import Derived.Test.YtpfldcfnbgdceaaTapeArg
import Derived.Test.YtpfldcfnbgdceaaWalkI
import Derived.Test.YtpfldcfnbgdceaaLawDig
import Derived.Test.YtpfldcfnbgdceaaPlain
namespace Go.Proofs.Ytpfldcfnbgdceaa
set_option linter.unusedVariables false
open Go.RowKit
theorem complete_two (c : Int) (s : ByteArray) (hs : s.size ≤ 1000000) : ∃ (X : ByteArray) (E : Int),
    (∀ w, Calls Try.prog 11 #[.int .i64 c, .string s] w fun e w' => e = .returned (.tuple #[.string X, .int .i64 E]) ∧ Below w.heap.size w w') ∧
    (∀ w, Calls Try.prog 12 #[.int .i64 c, .string s] w fun e w' => e = .returned (.tuple #[.string X, .int .i64 E]) ∧ Below w.heap.size w w') := by
  refine ⟨_, _, fun w => complete_any c s w hs, fun w => ?_⟩
  rw [cmpPQ]
  exact complete_ref c s w hs
theorem str4_cell {w : World} {s0 s1 s2 s3 : ByteArray} {T : TypeId} (k : Nat) (hk : k < 4) : ∃ t, (w.alloc (.cells #[.string s0, .string s1, .string s2, .string s3] T)).cell? ⟨w.heap.size, k, none⟩ = some (.string t) := by
  have h : k = 0 ∨ k = 1 ∨ k = 2 ∨ k = 3 := by omega
  rcases h with rfl | rfl | rfl | rfl <;> (rw [World.cell?_alloc_mark]; exact ⟨_, rfl⟩)
set_option maxRecDepth 100000 in
set_option maxHeartbeats 2000000 in
theorem completes_law (A : Option Addr) (n c : Nat) (s : ByteArray) (check : Int) (w : World) (ht : TapeArg A n w) :
    Calls Try.prog 3 #[.slice A n c, .string s, .int .i64 check] w fun e w' => e = .returned (.bool true) ∧ Below w.heap.size w w' := by
  have h0 := tape_new (c := c) ht
  have hb0 := (Below.refl w.heap.size w).alloc (Nat.le_refl _) (.cells #[.slice A n c, .int .i64 0] 25)
  generalize hw0 : w.alloc (.cells #[.slice A n c, .int .i64 0] 25) = w0 at h0 hb0
  have HW0 := Lib.hid hw0
  go_enter Try.func3, Try.ntmps3
  go_wp2_with fail
  clear hw0
  refine (next_any w.heap.size _ _ (by omega) (by omega) h0).mono ?_
  rintro e w1 ⟨r, rfl, hr0, hr1, ht1, hf1⟩
  obtain ⟨r, rfl⟩ := Int.eq_ofNat_of_zero_le hr0
  go_wp2_with fail
  refine (ldigits_no w.heap.size r _ (by omega) ht1).mono ?_
  rintro e w2 ⟨l1, rfl, hl1, -, ht2, hf2⟩
  go_wp2_with fail
  refine (next_any w.heap.size _ _ (by omega) (by omega) ht2).mono ?_
  rintro e w3 ⟨r2, rfl, hr20, hr21, ht3, hf3⟩
  obtain ⟨r2, rfl⟩ := Int.eq_ofNat_of_zero_le hr20
  go_wp2_with fail
  refine (ldigits_yes w.heap.size r2 _ (by omega) ht3).mono ?_
  rintro e w4 ⟨l2, rfl, hl2, -, ht4, hf4⟩
  go_wp2_with fail
  refine (next_any w.heap.size _ _ (by omega) (by omega) ht4).mono ?_
  rintro e w5 ⟨r3, rfl, hr30, hr31, ht5, hf5⟩
  obtain ⟨r3, rfl⟩ := Int.eq_ofNat_of_zero_le hr30
  go_wp2_with fail
  refine (bytes_any w.heap.size r3 _ (by omega) ht5).mono ?_
  rintro e w6 ⟨v, l3, rfl, hl3, hown, ht6, hf6⟩
  obtain ⟨A3, m3, c3, rfl⟩ := hown.form_
  have hcv := hown.conv Try.underlying28 Try.underlying5 Try.underlying9
  have hF : Below w.heap.size w w6 := hb0.trans (((((hf1.trans hf2).trans hf3).trans hf4).trans hf5).trans hf6 |>.below (Nat.le_refl _) hb0.size)
  clear hl1 hl2 hl3 hr0 hr1 hr20 hr21 hr30 hr31 ht1 ht2 ht3 ht4 ht5 ht6 hf1 hf2 hf3 hf4 hf5 hf6 hown h0 hb0 HW0
  have hS := fun k hk => str4_cell (w := w6) (s0 := s) (s1 := bs l1) (s2 := bs l2) (s3 := bs l3) (T := 9) k hk
  have hF2 := hF.alloc hF.size (.cells #[.string s, .string (bs l1), .string (bs l2), .string (bs l3)] 9)
  have hsz : (w6.alloc (.cells #[.string s, .string (bs l1), .string (bs l2), .string (bs l3)] 9)).heap.size = w6.heap.size + 1 := by simp
  have hlo := hF.size
  go_wp2_with fail
  clear hcv
  generalize w6.heap.size = g at *
  generalize w6.alloc (.cells #[.string s, .string (bs l1), .string (bs l2), .string (bs l3)] 9) = W at *
  have HS := Lib.hid hS
  clear hF hS
  go_loopw [9] (fun i wr => ∃ k : Nat, k ≤ 4 ∧ i = .int .i64 (k : Int) ∧ Below (g + 1) W wr) (fun i _ => 4 - (intOf i).toNat)
  case atStart => exact ⟨0, by omega, rfl, Below.refl _ _⟩
  case round =>
    obtain ⟨k, hk, rfl, hbr⟩ := hrel
    by_cases hlt : k < 4
    · obtain ⟨t, hct⟩ := HS.out k hlt
      have hcell : ∀ W', Below (g + 1) W W' → W'.cell? ⟨g, k, none⟩ = some (.string t) := fun W' hb => (hb.cell (p := ⟨g, k, none⟩) (by simp)).trans hct
      have HC := Lib.hid hcell
      have h1 := hcell _ hbr
      clear hcell hct
      by_cases hbig : 2000 < t.size
      · go_wp2
        go_roundw
        case rel => exact ⟨k + 1, by omega, by go_num, hbr⟩
        case measure => simp [intOf]; omega
      · have hd2 : decide ((k : Int) < 4) = true := decide_eq_true (by omega)
        have hd : decide ((2000 : Int) < (t.size : Int)) = false := decide_eq_false (by omega)
        go_wp2_with fail
        go_loopw [10] (fun i wi => ∃ j : Nat, j ≤ 7 ∧ i = .int .i64 ((j : Int) - 1) ∧ Below (g + 1) W wi) (fun i _ => (6 - intOf i).toNat)
        case atStart => exact ⟨0, by omega, rfl, hbr⟩
        case round =>
          obtain ⟨j, hj, rfl, hbi⟩ := hrel
          have h2 := HC.out _ hbi
          clear h1
          by_cases hlj : j < 7
          · obtain ⟨X, E, hP, hQ⟩ := complete_two ((j : Int) - 1) t (by omega)
            have HP := Lib.hid hP; have HQ := Lib.hid hQ; clear hP hQ
            go_wp2_with fail
            refine (HP.out _).mono ?_
            rintro e wa ⟨rfl, hba⟩
            have hbi2 := hbi.trans (hba.mono (Nat.le_trans (by omega) hbi.size))
            have h3 := HC.out _ hbi2
            go_wp2_with fail
            refine (HQ.out _).mono ?_
            rintro e wb ⟨rfl, hbb⟩
            have hbi3 := hbi2.trans (hbb.mono (Nat.le_trans (by omega) hbi2.size))
            go_wp2
            go_roundw
            case rel => exact ⟨j + 1, by omega, by go_num, hbi3⟩
            case measure => simp [intOf]; omega
          · obtain rfl : j = 7 := by omega
            obtain ⟨X, E, hP, hQ⟩ := complete_two check t (by omega)
            have HP := Lib.hid hP; have HQ := Lib.hid hQ; clear hP hQ
            go_wp2_with fail
            refine (HP.out _).mono ?_
            rintro e wa ⟨rfl, hba⟩
            have hbi2 := hbi.trans (hba.mono (Nat.le_trans (by omega) hbi.size))
            have h3 := HC.out _ hbi2
            go_wp2_with fail
            refine (HQ.out _).mono ?_
            rintro e wb ⟨rfl, hbb⟩
            have hbi3 := hbi2.trans (hbb.mono (Nat.le_trans (by omega) hbi2.size))
            go_wp2
            go_roundw
            case rel => exact ⟨k + 1, by omega, by go_num, hbi3⟩
            case measure => simp [intOf]; omega
    · obtain rfl : k = 4 := by omega
      go_wp2_with (go_at_call 13; refine (awake_any _).mono ?_; rintro e w' ⟨rfl, hb⟩)
      go_ret
      exact ⟨rfl, (hF2.trans (hbr.mono (by omega))).trans (hb.mono (Nat.le_trans hF2.size hbr.size))⟩
end Go.Proofs.Ytpfldcfnbgdceaa
