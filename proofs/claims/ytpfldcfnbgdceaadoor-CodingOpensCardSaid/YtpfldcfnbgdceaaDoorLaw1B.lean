/- The law CodingBack: the call returns true, for every tape and number. -/
import Derived.Test.YtpfldcfnbgdceaaDoorPlain1
import Derived.Test.YtpfldcfnbgdceaaDoorAwk1
import Derived.Test.YtpfldcfnbgdceaaDoorLaw1A
namespace Go.Proofs.YtpfldcfnbgdceaaDoor
set_option linter.unusedVariables false
set_option linter.unusedSimpArgs false
set_option maxRecDepth 100000
open Go.RowKit
theorem OB.later {e : TypeId} {B : Nat} {v : Value} {l : List UInt8} {w w1 : World} (h : OB e B v l w) (hb : Below w.heap.size w w1) : OB e B v l w1 :=
  h.keep fun k hk => hb.block k (World.ownsRow.lt h k hk).2
theorem back_enc (c : Int) (l : List UInt8) (hc : vldC c = true) (hl : l.length ≤ 60000) : encErr c l = 0 ∧ decErr c (encOut c l) = 0 ∧ decOut c (encOut c l) = l ∧ (encOut c l).length ≤ 1000000 := by
  have h1 : ¬ vldC c = false := by rw [hc]; decide
  have hel := encd_len c l
  have e1 : encOut c l = encd c l := by unfold encOut; rw [if_neg h1, if_neg (by omega)]
  refine ⟨by unfold encErr; rw [if_neg h1, if_neg (by omega)], ?_, ?_, by rw [e1]; omega⟩
  · rw [e1]; unfold decErr; rw [if_neg h1, if_neg (by omega), back_all]
  · rw [e1]; unfold decOut; rw [if_neg h1, if_neg (by omega), back_all]; rfl
set_option maxRecDepth 100000 in
set_option maxHeartbeats 4000000 in
theorem back_law (A : Option Addr) (n c : Nat) (num : Int) (w : World) (ht : TapeArg A n w) :
    Calls Tryd.prog 5 #[.slice A n c, .int .i64 num] w fun e w' => e = .returned (.bool true) ∧ Below w.heap.size w w' := by
  have h0 := tape_new (c := c) ht
  have hb0 := (Below.refl w.heap.size w).alloc (Nat.le_refl _) (.cells #[.slice A n c, .int .i64 0] 26)
  generalize hw0 : w.alloc (.cells #[.slice A n c, .int .i64 0] 26) = w0 at h0 hb0
  have HW0 := Lib.hid hw0
  obtain ⟨p, hp⟩ : ∃ p, bits .and .i64 num 63 = p := ⟨_, rfl⟩
  obtain ⟨hp0, hp1⟩ := mask_bd num 63 (by decide) (by decide)
  rw [hp] at hp0 hp1
  obtain ⟨r, rfl⟩ := Int.eq_ofNat_of_zero_le hp0
  go_enter Tryd.func5, Tryd.ntmps5
  go_wp2_with fail
  clear hw0
  refine (bytes_any w.heap.size r _ (by omega) h0).mono ?_
  rintro e w2 ⟨v, l2, rfl, hl2, hown, ht2, hf2⟩
  obtain ⟨Av, nv, cv, rfl⟩ := hown.form_
  have hF : Below w.heap.size w w2 := hb0.trans (hf2.below (Nat.le_refl _) hb0.size)
  have hll : l2.length ≤ 63 := by omega
  clear ht2 hf2 h0 hb0 HW0 hl2 hp
  have HO := Lib.hid hown; clear hown
  have HLL := Lib.hid hll; clear hll
  obtain ⟨W2, rfl⟩ : ∃ W2 : World, W2 = w2 := ⟨_, rfl⟩
  go_wp2_with fail
  go_loopw [7] (fun i wr => ∃ k : Nat, k ≤ 4 ∧ i = .int .i64 ((k : Int) + 1) ∧ Below W2.heap.size W2 wr) (fun i _ => (5 - intOf i).toNat)
  case atStart => exact ⟨0, by omega, rfl, Below.refl _ _⟩
  case round =>
    obtain ⟨k, hk, rfl, hbr⟩ := hrel
    by_cases hlt : k < 4
    · have hd : decide ((k : Int) + 1 ≤ 4) = true := decide_eq_true (by omega)
      obtain ⟨e1, e2, e3, e4⟩ := back_enc ((k : Int) + 1) l2 (by unfold vldC; simp; omega) (by have := HLL.out; omega)
      have E := Encode_any ((k : Int) + 1) (.slice Av nv cv) l2 wr (by have := HLL.out; omega) (BIn.of_OB (HO.out.later hbr))
      have D := fun w => Decode_any ((k : Int) + 1) (bs (encOut ((k : Int) + 1) l2)) w (by rw [size_bs]; exact e4)
      unfold EePost at E
      unfold DdPost at D
      rw [bl_bs, e2, e3] at D
      rw [e1] at E
      have HE := Lib.hid E; have HD := Lib.hid D
      clear E D e1 e2 e3 e4
      generalize bs (encOut ((k : Int) + 1) l2) = S at *
      go_wp2_with fail
      refine HE.out.mono ?_
      rintro e w3 ⟨rfl, hb3⟩
      have hbr3 := hbr.trans (hb3.mono hbr.size)
      go_wp2_with fail
      refine (HD.out _).mono ?_
      rintro e w4 ⟨v4, rfl, hv4, hb4⟩
      have hbr4 := hbr3.trans (hb4.mono hbr3.size)
      obtain ⟨A4, n4, c4, rfl⟩ := hv4.form_
      have hcv1 := hv4.conv (P := Tryd.prog) (T := 23) (d := 9) Tryd.underlying23 Tryd.underlying5 Tryd.underlying9
      have hcv2 := (HO.out.later hbr4).conv (P := Tryd.prog) (T := 23) (d := 9) Tryd.underlying23 Tryd.underlying5 Tryd.underlying9
      go_wp2
      go_roundw
      case rel => exact ⟨k + 1, by omega, by go_num, hbr4⟩
      case measure => simp [intOf]; omega
    · obtain rfl : k = 4 := by omega
      go_wp2_with (go_at_call 14; refine (awake1_any _).mono ?_; rintro e w' ⟨rfl, hb⟩)
      go_ret
      exact ⟨rfl, (hF.trans (hbr.mono hF.size)).trans (hb.mono (Nat.le_trans hF.size hbr.size))⟩
end Go.Proofs.YtpfldcfnbgdceaaDoor
