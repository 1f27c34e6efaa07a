/- The law ChecksumBack: the call returns true, for every tape and numbers. -/
import Derived.Test.YtpfldcfnbgdceaaTapeArg
import Derived.Test.YtpfldcfnbgdceaaAwake
import Derived.Test.YtpfldcfnbgdceaaLawDig
import Derived.Test.YtpfldcfnbgdceaaPlain2
namespace Go.Proofs.Ytpfldcfnbgdceaa
set_option linter.unusedVariables false
open Go.RowKit
set_option maxRecDepth 100000 in
set_option maxHeartbeats 2000000 in
theorem back_law (A : Option Addr) (n c : Nat) (N check : Int) (w : World) (ht : TapeArg A n w) :
    Calls Try.prog 6 #[.slice A n c, .int .i64 N, .int .i64 check] w fun e w' => e = .returned (.bool true) ∧ Below w.heap.size w w' := by
  have h0 := tape_new (c := c) ht
  have hb0 := (Below.refl w.heap.size w).alloc (Nat.le_refl _) (.cells #[.slice A n c, .int .i64 0] 25)
  generalize hw0 : w.alloc (.cells #[.slice A n c, .int .i64 0] 25) = w0 at h0 hb0
  have HW0 := Lib.hid hw0
  obtain ⟨y, hy⟩ : ∃ y, bits .and .i64 N 15 = y := ⟨_, rfl⟩
  obtain ⟨hy0, hy1⟩ := mask_bd N 15 (by decide) (by decide)
  rw [hy] at hy0 hy1
  obtain ⟨q, hq⟩ : ∃ q, bits .and .i64 check 3 = q := ⟨_, rfl⟩
  obtain ⟨hq0, hq1⟩ := mask_bd check 3 (by decide) (by decide)
  rw [hq] at hq0 hq1
  go_enter Try.func6, Try.ntmps6
  go_wp2_with fail
  clear hw0
  refine (ldigits_no' w.heap.size (1 + y).toNat _ (by omega) _ (by omega) h0).mono ?_
  rintro e w1 ⟨l, rfl, hl, hd, ht1, hf1⟩
  have hF : Below w.heap.size w w1 := hb0.trans (hf1.below (Nat.le_refl _) hb0.size)
  clear hy ht1 hf1 h0 hb0 HW0
  have hne : l ≠ [] := by rintro rfl; simp at hl; omega
  have hc := fun W => complete_any q (bs l) W (by rw [size_bs]; omega)
  rw [bl_bs, cmp_digits hq0 (by omega) hne hd (by omega)] at hc
  have hh := back_holds hq0 hq1 hne hd
  have hsz : (bs l).size ≤ (bs (l ++ addP q l)).size := by rw [size_bs, size_bs, List.length_append]; omega
  have heq : ((bs (l ++ addP q l)).extract 0 (bs l).size).toList = (bs l).toList := by
    rw [toList_bl, toList_bl, extract_take, bl_bs, bl_bs, size_bs, List.take_left]
  have hx : bl (bs (l ++ addP q l)) = l ++ addP q l := bl_bs _
  have hlim : (bs (l ++ addP q l)).size ≤ 1000000 := by rw [size_bs, List.length_append]; have := addP_len q l; omega
  rw [← hx] at hh
  have HC := Lib.hid hc; have HH := Lib.hid hh; have HL := Lib.hid hl; have HD := Lib.hid hd
  clear hc hh hx hl hd hne
  generalize bs (l ++ addP q l) = X at *
  generalize bs l = S at *
  go_wp2_with (first | (go_at_call 11; refine (HC.out _).mono ?_; rintro e w2 ⟨rfl, hb2⟩) | (go_at_call 22; refine (holds_any _ _ _ hlim).mono ?_; rw [HH.out]; rintro e w3 ⟨rfl, hb3⟩) | (go_at_call 13; refine (awake_any _).mono ?_; rintro e w4 ⟨rfl, hb4⟩))
  go_ret
  have hs1 := hF.size
  have hs2 := hb2.size
  have hs3 := hb3.size
  exact ⟨rfl, ((hF.trans (hb2.mono hs1)).trans (hb3.mono (by omega))).trans (hb4.mono (by omega))⟩
end Go.Proofs.Ytpfldcfnbgdceaa
