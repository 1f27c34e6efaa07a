/- Walks of what holds; each contract says what the function returns, for all texts of at most 1000000 bytes. -/
import Derived.Test.YtpfldcfnbgdceaaWalkF
namespace Go.Proofs.Ytpfldcfnbgdceaa
set_option linter.unusedVariables false
open Go.RowKit
set_option maxHeartbeats 400000 in
theorem holds_crc (s : ByteArray) (w : World) (hs : s.size ≤ 1000000) :
    Calls Try.prog 22 #[.int .i64 3, .string s] w fun e w' => e = .returned (.bool (crcH (bl s))) ∧ Below w.heap.size w w' := by
  by_cases h9 : s.size < 9
  · have hd : decide ((9 : Int) ≤ s.size) = false := decide_eq_false (by omega)
    go_enter Try.func22, Try.ntmps22
    go_wp2_with fail
    refine wp_region_below (Below.refl w.heap.size w) (by kernel_rfl) (by kernel_rfl) ?_
    repeat (go_big_quiet_step (fail))
    refine wpQuiet_nil ?_
    intro _ hw'
    obtain ⟨⟨w2, hw2⟩, rfl⟩ := hw'
    go_wp2
    go_ret
    exact ⟨ret_bool (crcH_no h9).symm, hw2⟩
  · have hd : decide ((9 : Int) ≤ s.size) = true := decide_eq_true (by omega)
    have hsz : (s.extract 0 (s.size - 8)).size ≤ 1000000 := by rw [ByteArray.size_extract]; omega
    have hcb := Lib.hid (crc_bd (bl (s.extract 0 (s.size - 8))))
    go_enter Try.func22, Try.ntmps22
    go_wp2_with fail
    refine wp_region_below (Below.refl w.heap.size w) (by kernel_rfl) (by kernel_rfl) ?_
    repeat (go_big_quiet_step (first | (go_at_call 18; exact Calls.below_of (Nat.le_refl _) (crc_any _ _ hsz)) | (go_at_call 29; exact Calls.below_of (Nat.le_refl _) (digits_any _ _ hcb.out.1 hcb.out.2))))
    refine wpQuiet_nil ?_
    intro _ hw'
    obtain ⟨⟨w2, hw2⟩, rfl⟩ := hw'
    go_wp2
    go_ret
    exact ⟨ret_bool (crcH_eq h9), hw2⟩
set_option maxHeartbeats 400000 in
theorem holds_crcR (s : ByteArray) (w : World) (hs : s.size ≤ 1000000) :
    Calls Try.prog 23 #[.int .i64 3, .string s] w fun e w' => e = .returned (.bool (crcH (bl s))) ∧ Below w.heap.size w w' := by
  by_cases h9 : s.size < 9
  · have hd : decide ((9 : Int) ≤ s.size) = false := decide_eq_false (by omega)
    go_enter Try.func23, Try.ntmps23
    go_wp2_with fail
    refine wp_region_below (Below.refl w.heap.size w) (by kernel_rfl) (by kernel_rfl) ?_
    repeat (go_big_quiet_step (fail))
    refine wpQuiet_nil ?_
    intro _ hw'
    obtain ⟨⟨w2, hw2⟩, rfl⟩ := hw'
    go_wp2
    go_ret
    exact ⟨ret_bool (crcH_no h9).symm, hw2⟩
  · have hd : decide ((9 : Int) ≤ s.size) = true := decide_eq_true (by omega)
    have hsz : (s.extract 0 (s.size - 8)).size ≤ 1000000 := by rw [ByteArray.size_extract]; omega
    have hcb := Lib.hid (crc_bd (bl (s.extract 0 (s.size - 8))))
    go_enter Try.func23, Try.ntmps23
    go_wp2_with fail
    refine wp_region_below (Below.refl w.heap.size w) (by kernel_rfl) (by kernel_rfl) ?_
    repeat (go_big_quiet_step (first | (go_at_call 19; exact Calls.below_same (crc_ref _ _ hsz)) | (go_at_call 33; exact Calls.below_of (Nat.le_refl _) (hex_ref _ _ hcb.out.1 hcb.out.2))))
    refine wpQuiet_nil ?_
    intro _ hw'
    obtain ⟨⟨w2, hw2⟩, rfl⟩ := hw'
    go_wp2
    go_ret
    exact ⟨ret_bool (crcH_eq h9), hw2⟩
set_option maxHeartbeats 400000 in
theorem holds_let (s : ByteArray) (w : World) (hs : s.size ≤ 1000000) :
    Calls Try.prog 22 #[.int .i64 4, .string s] w fun e w' => e = .returned (.bool (letH (bl s))) ∧ Below w.heap.size w w' := by
  by_cases h9 : s.size < 2
  · have hd : decide ((2 : Int) ≤ s.size) = false := decide_eq_false (by omega)
    go_enter Try.func22, Try.ntmps22
    go_wp2_with fail
    refine wp_region_below (Below.refl w.heap.size w) (by kernel_rfl) (by kernel_rfl) ?_
    repeat (go_big_quiet_step (fail))
    refine wpQuiet_nil ?_
    intro _ hw'
    obtain ⟨⟨w2, hw2⟩, rfl⟩ := hw'
    go_wp2
    go_ret
    exact ⟨ret_bool (letH_no h9).symm, hw2⟩
  · have hd : decide ((2 : Int) ≤ s.size) = true := decide_eq_true (by omega)
    have hsz : (s.extract 0 (s.size - 1)).size ≤ 1000000 := by rw [ByteArray.size_extract]; omega
    obtain ⟨u, c, hus, hcu, hc0, hc1, hix⟩ := idx_str Try.underlying9 s (s.size - 1) (by omega) .i64 ((s.size : Int) - 1) (by omega)
    go_enter Try.func22, Try.ntmps22
    go_wp2_with fail
    refine wp_region_below (Below.refl w.heap.size w) (by kernel_rfl) (by kernel_rfl) ?_
    repeat (go_big_quiet_step (first | (go_at_call 20; exact Calls.below_of (Nat.le_refl _) (letter_any _ _ hsz))))
    refine wpQuiet_nil ?_
    intro _ hw'
    obtain ⟨⟨w2, hw2⟩, rfl⟩ := hw'
    go_wp2
    go_ret
    exact ⟨ret_bool (letH_eq h9 u c hus.out hcu.out), hw2⟩
set_option maxHeartbeats 400000 in
theorem holds_letR (s : ByteArray) (w : World) (hs : s.size ≤ 1000000) :
    Calls Try.prog 23 #[.int .i64 4, .string s] w fun e w' => e = .returned (.bool (letH (bl s))) ∧ Below w.heap.size w w' := by
  by_cases h9 : s.size < 2
  · have hd : decide ((2 : Int) ≤ s.size) = false := decide_eq_false (by omega)
    go_enter Try.func23, Try.ntmps23
    go_wp2_with fail
    refine wp_region_below (Below.refl w.heap.size w) (by kernel_rfl) (by kernel_rfl) ?_
    repeat (go_big_quiet_step (fail))
    refine wpQuiet_nil ?_
    intro _ hw'
    obtain ⟨⟨w2, hw2⟩, rfl⟩ := hw'
    go_wp2
    go_ret
    exact ⟨ret_bool (letH_no h9).symm, hw2⟩
  · have hd : decide ((2 : Int) ≤ s.size) = true := decide_eq_true (by omega)
    have hsz : (s.extract 0 (s.size - 1)).size ≤ 1000000 := by rw [ByteArray.size_extract]; omega
    obtain ⟨u, c, hus, hcu, hc0, hc1, hix⟩ := idx_str Try.underlying9 s (s.size - 1) (by omega) .i64 ((s.size : Int) - 1) (by omega)
    go_enter Try.func23, Try.ntmps23
    go_wp2_with fail
    refine wp_region_below (Below.refl w.heap.size w) (by kernel_rfl) (by kernel_rfl) ?_
    repeat (go_big_quiet_step (first | (go_at_call 21; exact Calls.below_same (letter_ref _ _ hsz))))
    refine wpQuiet_nil ?_
    intro _ hw'
    obtain ⟨⟨w2, hw2⟩, rfl⟩ := hw'
    go_wp2
    go_ret
    exact ⟨ret_bool (letH_eq h9 u c hus.out hcu.out), hw2⟩
theorem holds_any (c : Int) (s : ByteArray) (w : World) (hs : s.size ≤ 1000000) :
    Calls Try.prog 22 #[.int .i64 c, .string s] w fun e w' => e = .returned (.bool (hldP c (bl s))) ∧ Below w.heap.size w w' := by
  by_cases h0 : c = 0
  · subst h0
    go_enter Try.func22, Try.ntmps22
    go_wp2
    go_ret
    exact ⟨rfl, Below.refl _ _⟩
  by_cases h1 : c = 1
  · subst h1
    go_enter Try.func22, Try.ntmps22
    go_wp2_with (go_at_call 15; refine (luhnP_any _ _ hs).mono ?_; rintro e w1 ⟨rfl, hb1⟩)
    go_ret
    exact ⟨rfl, hb1⟩
  by_cases h2 : c = 2
  · subst h2
    go_enter Try.func22, Try.ntmps22
    go_wp2_with (go_at_call 14; refine (mod97P_any _ _ hs).mono ?_; rintro e w1 ⟨rfl, hb1⟩)
    go_ret
    exact ⟨rfl, hb1⟩
  by_cases h3 : c = 3
  · subst h3
    exact holds_crc s w hs
  by_cases h4 : c = 4
  · subst h4
    exact holds_let s w hs
  · go_enter Try.func22, Try.ntmps22
    go_wp2
    go_ret
    exact ⟨ret_bool (by unfold hldP; simp only [h0, h1, h2, h3, h4, if_false]), Below.refl _ _⟩
theorem holds_ref (c : Int) (s : ByteArray) (w : World) (hs : s.size ≤ 1000000) :
    Calls Try.prog 23 #[.int .i64 c, .string s] w fun e w' => e = .returned (.bool (hldQ c (bl s))) ∧ Below w.heap.size w w' := by
  by_cases h0 : c = 0
  · subst h0
    go_enter Try.func23, Try.ntmps23
    go_wp2
    go_ret
    exact ⟨rfl, Below.refl _ _⟩
  by_cases h1 : c = 1
  · subst h1
    go_enter Try.func23, Try.ntmps23
    go_wp2_with (go_at_call 16; refine (luhn_ref _ _ hs).mono ?_; rintro e w1 ⟨rfl, rfl⟩)
    go_ret
    exact ⟨rfl, Below.refl _ _⟩
  by_cases h2 : c = 2
  · subst h2
    go_enter Try.func23, Try.ntmps23
    go_wp2_with (go_at_call 17; refine (mod97Q_ref _ _ hs).mono ?_; rintro e w1 ⟨rfl, rfl⟩)
    go_ret
    exact ⟨rfl, Below.refl _ _⟩
  by_cases h3 : c = 3
  · subst h3
    exact holds_crcR s w hs
  by_cases h4 : c = 4
  · subst h4
    exact holds_letR s w hs
  · go_enter Try.func23, Try.ntmps23
    go_wp2
    go_ret
    exact ⟨ret_bool (by unfold hldQ; simp only [h0, h1, h2, h3, h4, if_false]), Below.refl _ _⟩
end Go.Proofs.Ytpfldcfnbgdceaa
