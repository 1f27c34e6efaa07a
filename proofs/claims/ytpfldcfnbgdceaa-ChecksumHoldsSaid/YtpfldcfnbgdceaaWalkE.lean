/- Walks of the program's digits, of what holds and what is permitted; each contract says what the function returns, for all texts of at most 1000000 bytes. -/
import Derived.Test.YtpfldcfnbgdceaaWalkD
import Derived.Test.YtpfldcfnbgdceaaBuilder
namespace Go.Proofs.Ytpfldcfnbgdceaa
set_option linter.unusedVariables false
open Go.RowKit
set_option maxHeartbeats 400000 in
theorem digits_any (x : Int) (w : World) (h0 : 0 ≤ x) (h1 : x < 4294967296) :
    Calls Try.prog 29 #[.int .u32 x] w fun e w' => e = .returned (.string (bs (hexR 8 x))) ∧ Below w.heap.size w w' := by
  go_enter Try.func29, Try.ntmps29
  go_wp2
  generalize hw0 : w.alloc (Obj.cells #[Value.pointer none, Value.slice none 0 0] 52) = w0
  have hb0 : Below w.heap.size w w0 := hw0 ▸ (Below.refl _ w).alloc (Nat.le_refl _) _
  have hi0 : IsB w.heap.size [] w0 := ⟨by rw [← hw0]; exact Lib.fresh_isBuilder _ _ w, hb0.size⟩
  clear hw0
  go_loopw [4] (fun i wr => ∃ (m : Nat) (l : List UInt8), m ≤ 8 ∧ i = .int .i64 (4 * (m : Int) - 4) ∧ IsB w.heap.size l wr ∧ l.length + m = 8 ∧ Below w.heap.size w wr ∧ l ++ hexR m x = hexR 8 x) (fun i _ => (intOf i + 4).toNat)
  case atStart => exact ⟨8, [], by omega, rfl, hi0, rfl, hb0, rfl⟩
  case round =>
    obtain ⟨m, l, hm, rfl, hown, hl, hbel, hrel⟩ := hrel
    have HR := Lib.hid hrel; clear hrel
    rcases m with _ | m
    · go_wp2_with (go_at_call 38; refine (builder_string _ _ l _ hown.1 hown.2).mono ?_; rintro e w1 ⟨rfl, hb1⟩)
      go_ret
      exact ⟨ret_str (by rw [← HR.out]; simp [hexR]), hbel.trans hb1⟩
    · obtain ⟨y, hy⟩ : ∃ y, bits .and .u32 (x / 2 ^ (4 * (m + 1) - 4)) 15 = y := ⟨_, rfl⟩
      have hyb : y = x / 2 ^ (4 * m) % 16 := by rw [← hy, and15 (div_bd _ h0 h1).1 (div_bd _ h0 h1).2]; rfl
      have hy0 : 0 ≤ y := by omega
      have hy1 : y < 16 := by omega
      have HY := Lib.hid hyb; clear hyb
      have hix := idx_hex .u32 (Or.inl rfl) y hy0 hy1
      go_wp2_with (go_at_call 37; refine (builder_byte _ l _ (hexd y) rfl _ hown (by omega)).mono ?_; rintro e w1 ⟨rfl, hown1, hb1⟩)
      go_roundw
      case rel => exact ⟨m, l ++ [hexd y], by omega, by go_num, hown1, by simp; omega, hbel.trans hb1, by rw [← HR.out, hexR, ← HY.out]; simp⟩
      case measure => simp [intOf]; omega
end Go.Proofs.Ytpfldcfnbgdceaa
