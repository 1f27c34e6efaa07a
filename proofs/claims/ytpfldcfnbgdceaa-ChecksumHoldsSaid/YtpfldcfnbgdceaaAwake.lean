/- The example of the chapter: the call returns true. -/
import Derived.Test.YtpfldcfnbgdceaaWalkH
namespace Go.Proofs.Ytpfldcfnbgdceaa
set_option linter.unusedVariables false
open Go.RowKit
def exA : ByteArray := ⟨#[55, 57, 57, 50, 55, 51, 57, 56, 55, 49]⟩
def exB : ByteArray := ⟨#[55, 57, 57, 50, 55, 51, 57, 56, 55, 49, 51]⟩
theorem exA_cmp : cmpP 1 (bl exA) = (bl exB, 0) := by decide +kernel
theorem exB_luhn : luhnP (bl exB) = true := by decide +kernel
theorem awake_any (w : World) : Calls Try.prog 13 #[] w fun e w' => e = .returned (.bool true) ∧ Below w.heap.size w w' := by
  have hc := complete_any 1 exA w (by decide)
  rw [exA_cmp] at hc
  have hl := fun w => luhnP_any exB w (by decide)
  rw [exB_luhn] at hl
  have HC := Lib.hid hc; have HL := Lib.hid hl; clear hc hl
  have hb : bs (bl exB) = exB := rfl
  have hEq : exB.toList = [55, 57, 57, 50, 55, 51, 57, 56, 55, 49, 51] := by rw [toList_bl]; rfl
  go_enter Try.func13, Try.ntmps13
  go_wp2_with fail
  refine HC.out.mono ?_
  rintro e w1 ⟨rfl, hb1⟩
  go_wp2_with (go_at_call 15; refine (HL.out _).mono ?_; rintro e w2 ⟨rfl, hb2⟩)
  go_ret
  exact ⟨rfl, hb1.trans (hb2.mono hb1.size)⟩
end Go.Proofs.Ytpfldcfnbgdceaa
