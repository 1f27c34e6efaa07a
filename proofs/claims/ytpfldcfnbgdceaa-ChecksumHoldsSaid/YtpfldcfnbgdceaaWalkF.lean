/- Walks of what holds and what is permitted; each contract says what the function returns, for all texts of at most 1000000 bytes. -/
import Derived.Test.YtpfldcfnbgdceaaWalkE
namespace Go.Proofs.Ytpfldcfnbgdceaa
set_option linter.unusedVariables false
open Go.RowKit
theorem permitted_any (c : Int) (s : ByteArray) (w : World) (hs : s.size ≤ 1000000) :
    Calls Try.prog 26 #[.int .i64 c, .string s] w fun e w' => e = .returned (.bool (prm c (bl s))) ∧ Below w.heap.size w w' := by
  by_cases h0 : c = 0
  · subst h0
    go_enter Try.func26, Try.ntmps26
    go_wp2
    go_ret
    exact ⟨rfl, Below.refl _ _⟩
  · by_cases h1 : c = 1
    · subst h1
      by_cases hz : s.toList = []
      · go_enter Try.func26, Try.ntmps26
        go_wp2
        go_ret
        exact ⟨ret_bool (prm_1n hz), Below.refl _ _⟩
      · go_enter Try.func26, Try.ntmps26
        go_wp2_with (go_at_call 35; refine (all_any _ _ (Or.inl rfl) (fun _ _ => digit_any _ _) _ _ hs).mono ?_; rintro e w1 ⟨rfl, hb1⟩)
        go_ret
        exact ⟨ret_bool (prm_1 hz), hb1⟩
    · by_cases h2 : c = 2
      · subst h2
        by_cases hz : s.toList = []
        · go_enter Try.func26, Try.ntmps26
          go_wp2
          go_ret
          exact ⟨ret_bool (prm_2n hz), Below.refl _ _⟩
        · go_enter Try.func26, Try.ntmps26
          go_wp2_with (go_at_call 34; refine (signs_any _ _ hs).mono ?_; rintro e w1 ⟨rfl, hb1⟩)
          go_ret
          exact ⟨ret_bool (prm_2 hz), hb1⟩
      · go_enter Try.func26, Try.ntmps26
        go_wp2
        go_ret
        exact ⟨ret_bool (prm_3 h0 h1 h2), Below.refl _ _⟩
end Go.Proofs.Ytpfldcfnbgdceaa
