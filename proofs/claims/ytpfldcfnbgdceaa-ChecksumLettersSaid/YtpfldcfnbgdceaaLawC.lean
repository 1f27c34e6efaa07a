/- The law ChecksumLetters: the call returns true, for every tape and numbers. -/
import Derived.Test.YtpfldcfnbgdceaaTapeArg
import Derived.Test.YtpfldcfnbgdceaaAwake
import Derived.Test.YtpfldcfnbgdceaaLawDig
import Derived.Test.YtpfldcfnbgdceaaPlain2
namespace Go.Proofs.Ytpfldcfnbgdceaa
set_option linter.unusedVariables false
open Go.RowKit
set_option maxRecDepth 100000 in
set_option maxHeartbeats 2000000 in
theorem letters_law (A : Option Addr) (n c : Nat) (N at_ by_ : Int) (w : World) (ht : TapeArg A n w) :
    Calls Try.prog 4 #[.slice A n c, .int .i64 N, .int .i64 at_, .int .i64 by_] w fun e w' => e = .returned (.bool true) ∧ Below w.heap.size w w' := by
  have h0 := tape_new (c := c) ht
  have hb0 := (Below.refl w.heap.size w).alloc (Nat.le_refl _) (.cells #[.slice A n c, .int .i64 0] 25)
  generalize hw0 : w.alloc (.cells #[.slice A n c, .int .i64 0] 25) = w0 at h0 hb0
  have HW0 := Lib.hid hw0
  obtain ⟨y, hy⟩ : ∃ y, bits .and .i64 N 7 = y := ⟨_, rfl⟩
  obtain ⟨hy0, hy1⟩ := mask_bd N 7 (by decide) (by decide)
  rw [hy] at hy0 hy1
  obtain ⟨z, hz⟩ : ∃ z, bits .and .i64 by_ 255 = z := ⟨_, rfl⟩
  obtain ⟨hz0, hz1⟩ := mask_bd by_ 255 (by decide) (by decide)
  rw [hz] at hz0 hz1
  have hs0 : (⟨#[65]⟩ : ByteArray).size = 1 := rfl
  go_enter Try.func4, Try.ntmps4
  go_wp2_with fail
  clear hw0
  refine (ldigits_yes' w.heap.size y.toNat _ (by omega) _ (by omega) h0).mono ?_
  rintro e w1 ⟨l, rfl, hl, hd, ht1, hf1⟩
  have hF : Below w.heap.size w w1 := hb0.trans (hf1.below (Nat.le_refl _) hb0.size)
  clear hy ht1 hf1 h0 hb0 HW0
  obtain ⟨v, hv, hvc, hvn⟩ : ∃ v : UInt8, 65 + (1 + z % 25) = (v.toNat : Int) ∧ cap v.toNat = true ∧ v ≠ 65 := by
    refine ⟨UInt8.ofNat (65 + (1 + z % 25)).toNat, by rw [toNat_of (by omega)]; omega, ?_, ?_⟩
    · rw [toNat_of (by omega)]; exact cap_mk (by omega) (by omega)
    · intro h
      have := congrArg UInt8.toNat h
      rw [toNat_of (by omega)] at this
      have h65 : (65 : UInt8).toNat = 65 := rfl
      omega
  have hne : (65 : UInt8) :: l ≠ [] := by simp
  have hds : allF sgn (65 :: l) = true := by simp only [allF, hd]; decide
  obtain ⟨hh1, hh2⟩ := letters_tell hd hvc hvn
  have hS : (⟨#[65]⟩ : ByteArray) ++ bs l = bs (65 :: l) := by rw [cat_bs]; rfl
  have hc := fun W => complete_any 2 (bs (65 :: l)) W (by rw [size_bs]; simp; omega)
  rw [bl_bs, cmp_signs hne hds (by simp; omega)] at hc
  have hx : bl (bs ((65 :: l) ++ addP 2 (65 :: l))) = (65 :: l) ++ addP 2 (65 :: l) := bl_bs _
  have hlen : ((65 :: l) ++ addP 2 (65 :: l)).length = l.length + 3 := by simp [addP, twoD]
  have hsz : (bs ((65 :: l) ++ addP 2 (65 :: l))).size = (bs (65 :: l)).size + 2 := by rw [size_bs, size_bs, hlen]; simp
  have hsl : (bs l).size = l.length := size_bs l
  have hlim : (bs ((65 :: l) ++ addP 2 (65 :: l))).size ≤ 1000000 := by rw [size_bs, hlen]; omega
  have hlim2 : (bs (((65 :: l) ++ addP 2 (65 :: l)).set 0 v)).size ≤ 1000000 := by rw [size_bs, List.length_set, hlen]; omega
  have h0l : 0 < ((65 :: l) ++ addP 2 (65 :: l)).length := by rw [hlen]; omega
  rw [← bl_bs (((65 :: l) ++ addP 2 (65 :: l)).set 0 v)] at hh2
  have hsz0 : 0 < (bs ((65 :: l) ++ addP 2 (65 :: l))).size := by rw [size_bs]; exact h0l
  have hM := fun W => mod97P_any (bs ((65 :: l) ++ addP 2 (65 :: l))) W hlim
  rw [hx, hh1] at hM
  have hM2 := fun W => mod97P_any (bs (((65 :: l) ++ addP 2 (65 :: l)).set 0 v)) W hlim2
  rw [hh2] at hM2
  have HC := Lib.hid hc; have HM := Lib.hid hM; have HM2 := Lib.hid hM2; have HX := Lib.hid hx; have HLN := Lib.hid hlen; have H0 := Lib.hid h0l; have HV := Lib.hid hv
  clear hc hM hM2 hx hlen h0l hh1 hh2 hds hne hvc hvn hv hlim hlim2
  generalize hXL : (65 :: l) ++ addP 2 (65 :: l) = xl at *
  clear hXL
  have hSs : (bs (65 :: l)).size ≤ 8 := by rw [size_bs, List.length_cons]; omega
  generalize bs (65 :: l) = S at *
  generalize hX : bs xl = X at *
  have HXE := Lib.hid hX; clear hX
  have hsl7 : (bs l).size ≤ 7 := by omega
  have hbz : ((X.size : Int) != (S.size : Int) + 2) = false := by rw [hsz]; simp
  have HSZ := Lib.hid hsz; clear hsz
  clear hs0 hsl hl
  go_wp2_with fail
  refine (HC.out _).mono ?_
  rintro e w2 ⟨rfl, hb2⟩
  go_wp2_with fail
  refine (HM.out _).mono ?_
  rintro e w3 ⟨rfl, hb3⟩
  have hcv := fun w => Lib.run_convert_string_bytes (P := Try.prog) w 9 28 5 X Try.underlying9 Try.underlying28 Try.underlying5
  obtain ⟨W, C, B, hW, hC, hB, hrb, hbel, hWs⟩ := RB.names w3 5 X
  rw [HX.out] at hrb
  have hfz := hrb.free 0 H0.out
  obtain ⟨x0, hcl⟩ : ∃ x, W.cell? ⟨B, 0, none⟩ = some x := ⟨_, hrb.cell 0 H0.out⟩
  rw [hW, hB] at hfz hcl
  have hst := hrb.set 0 v _ HV.out
  have hsv := fun C => hst.conv (c := C) (n := X.size) Try.underlying28 Try.underlying5 Try.underlying9 (by rw [← HXE.out, size_bs, List.length_set])
  rw [hW, hB] at hsv
  have HRB := Lib.hid hrb; have HW := Lib.hid hW; have HB := Lib.hid hB; have HWS := Lib.hid hWs; clear hrb hst hW hC hB hWs
  go_wp2_with fail
  refine (HM2.out _).mono ?_
  rintro e w5 ⟨rfl, hb5⟩
  go_wp2_with (go_at_call 13; refine (awake_any _).mono ?_; rintro e w4 ⟨rfl, hb4⟩)
  go_ret
  have s1 := hF.size
  have s2 := hb2.size
  have s3 := hb3.size
  have hbs : Below w.heap.size w3 ((Lib.bytesWorld w3 5 X).setCell ⟨w3.heap.size, 0, none⟩ (.int .u8 (65 + (1 + z % 25)))) :=
    ((bw_below w3 5 X).mono (by omega)).setCell (p := ⟨w3.heap.size, 0, none⟩) (by show w.heap.size ≤ w3.heap.size; omega) _
  have s4 := hbs.size
  have s5 := hb5.size
  exact ⟨rfl, ((((hF.trans (hb2.mono s1)).trans (hb3.mono (by omega))).trans hbs).trans (hb5.mono (by omega))).trans (hb4.mono (by omega))⟩
end Go.Proofs.Ytpfldcfnbgdceaa
