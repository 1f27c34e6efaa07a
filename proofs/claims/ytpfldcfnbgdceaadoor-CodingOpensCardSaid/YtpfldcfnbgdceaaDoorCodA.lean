/- Walks of the leaves of the codings: each contract says what the function returns. -/
import Derived.Test.YtpfldcfnbgdceaaDoorProg
import Derived.Test.YtpfldcfnbgdceaaDoorBase
import Derived.Test.YtpfldcfnbgdceaaDoorInfo
import Derived.Test.YtpfldcfnbgdceaaDoorCod
namespace Go.Proofs.YtpfldcfnbgdceaaDoor
set_option linter.unusedVariables false
set_option linter.unusedSimpArgs false
set_option maxRecDepth 100000
open Go.RowKit
theorem cvalid_any (c : Int) (w : World) : Calls Tryd.prog 12 #[.int .i64 c] w fun e w' => e = .returned (.bool (vldC c)) ∧ w = w' := by
  by_cases h : 1 ≤ c
  all_goals
    go_enter Tryd.func12, Tryd.ntmps12
    go_wp2
    go_ret
    exact ⟨ret_bool (by unfold vldC; first | (simp [h]; done) | (rw [decide_eq_false (by omega)]; rfl)), rfl⟩
theorem cvalid_ref (c : Int) (w : World) : Calls Tryd.prog 13 #[.int .i64 c] w fun e w' => e = .returned (.bool (vldC c)) ∧ w = w' := by
  by_cases h : 1 ≤ c
  all_goals
    go_enter Tryd.func13, Tryd.ntmps13
    go_wp2
    go_ret
    exact ⟨ret_bool (by unfold vldC; first | (simp [h]; done) | (rw [decide_eq_false (by omega)]; rfl)), rfl⟩
theorem chex_any (c : Int) (w : World) (h0 : 0 ≤ c) (h1 : c < 256) : Calls Tryd.prog 38 #[.int .u8 c] w fun e w' => e = .returned (.int .i64 (hexv c)) ∧ w = w' := by
  rcases hexv_case c with ⟨a, b, h⟩ | ⟨a, b, h⟩ | ⟨a, b, h⟩ | ⟨a, b, d, h⟩
  · have H := Lib.hid h; clear h
    go_enter Tryd.func38, Tryd.ntmps38
    go_wp2
    go_ret
    exact ⟨ret_int H.out.symm, rfl⟩
  · have H := Lib.hid h; clear h
    go_enter Tryd.func38, Tryd.ntmps38
    go_wp2
    go_ret
    exact ⟨ret_int H.out.symm, rfl⟩
  · have H := Lib.hid h; clear h
    go_enter Tryd.func38, Tryd.ntmps38
    go_wp2
    go_ret
    exact ⟨ret_int H.out.symm, rfl⟩
  · have H := Lib.hid h; clear h
    by_cases c1 : 48 ≤ c <;> by_cases c2 : 97 ≤ c <;> by_cases c3 : 65 ≤ c
    all_goals first
      | (exfalso; omega)
      | (go_enter Tryd.func38, Tryd.ntmps38
         go_wp2
         go_ret
         exact ⟨ret_int H.out.symm, rfl⟩)
theorem cdigit_ref (c : Int) (w : World) (h0 : 0 ≤ c) (h1 : c < 256) : Calls Tryd.prog 73 #[.int .u8 c] w fun e w' => e = .returned (.int .i64 (hexv c)) ∧ w = w' := by
  rcases hexv_case c with ⟨a, b, h⟩ | ⟨a, b, h⟩ | ⟨a, b, h⟩ | ⟨a, b, d, h⟩
  · have H := Lib.hid h; clear h
    go_enter Tryd.func73, Tryd.ntmps73
    go_wp2
    go_ret
    exact ⟨ret_int H.out.symm, rfl⟩
  · have H := Lib.hid h; clear h
    go_enter Tryd.func73, Tryd.ntmps73
    go_wp2
    go_ret
    exact ⟨ret_int H.out.symm, rfl⟩
  · have H := Lib.hid h; clear h
    go_enter Tryd.func73, Tryd.ntmps73
    go_wp2
    go_ret
    exact ⟨ret_int H.out.symm, rfl⟩
  · have H := Lib.hid h; clear h
    by_cases c1 : 48 ≤ c <;> by_cases c2 : 97 ≤ c <;> by_cases c3 : 65 ≤ c
    all_goals first
      | (exfalso; omega)
      | (go_enter Tryd.func73, Tryd.ntmps73
         go_wp2
         go_ret
         exact ⟨ret_int H.out.symm, rfl⟩)

theorem letter_c (c : Int) (w : World) (h0 : 0 ≤ c) (h1 : c < 256) : Calls Tryd.prog 55 #[.int .u8 c] w fun e w' => e = .returned (.bool (ltr c)) ∧ w = w' := by
  have hp : c < 48 ∨ (48 ≤ c ∧ c ≤ 57) ∨ (58 ≤ c ∧ c ≤ 64) ∨ (65 ≤ c ∧ c ≤ 90) ∨ (91 ≤ c ∧ c ≤ 96) ∨ (97 ≤ c ∧ c ≤ 122) ∨ 122 < c := by omega
  rcases hp with h | ⟨h, h'⟩ | ⟨h, h'⟩ | ⟨h, h'⟩ | ⟨h, h'⟩ | ⟨h, h'⟩ | h
  all_goals
    go_enter Tryd.func55, Tryd.ntmps55
    go_wp2
    go_ret
    exact ⟨ret_bool (by (rw [Bool.eq_iff_iff]; simp only [ltr, pln, Bool.or_eq_true, Bool.and_eq_true, decide_eq_true_eq, Bool.not_eq_true', decide_eq_false_iff_not, beq_iff_eq, Bool.false_eq_true, true_iff, iff_true, false_iff, not_false_eq_true]; omega)), rfl⟩
theorem plain_ref (c : Int) (w : World) (h0 : 0 ≤ c) (h1 : c < 256) : Calls Tryd.prog 27 #[.int .u8 c] w fun e w' => e = .returned (.bool (pln c)) ∧ w = w' := by
  have hp : (48 ≤ c ∧ c ≤ 57) ∨ (97 ≤ c ∧ c ≤ 122) ∨ (65 ≤ c ∧ c ≤ 90) ∨ (c < 48) ∨ (58 ≤ c ∧ c ≤ 64) ∨ (91 ≤ c ∧ c ≤ 96) ∨ 122 < c := by omega
  rcases hp with ⟨h, h'⟩ | ⟨h, h'⟩ | ⟨h, h'⟩ | h | ⟨h, h'⟩ | ⟨h, h'⟩ | h
  all_goals
    go_enter Tryd.func27, Tryd.ntmps27
    go_wp2
    all_goals
      go_ret
      exact ⟨ret_bool (by first | rfl | (rw [Bool.eq_iff_iff]; simp only [ltr, pln, Bool.or_eq_true, Bool.and_eq_true, decide_eq_true_eq, Bool.not_eq_true', decide_eq_false_iff_not, beq_iff_eq, Bool.false_eq_true, true_iff, iff_true, false_iff, not_false_eq_true]; omega) | (rw [‹c = 45›]; rfl) | (rw [‹c = 46›]; rfl) | (rw [‹c = 95›]; rfl) | (rw [‹c = 126›]; rfl)), rfl⟩
end Go.Proofs.YtpfldcfnbgdceaaDoor
