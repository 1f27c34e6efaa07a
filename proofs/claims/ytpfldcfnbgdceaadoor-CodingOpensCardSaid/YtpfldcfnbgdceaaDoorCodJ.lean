/- Walks of the code's Decode. -/
import Derived.Test.YtpfldcfnbgdceaaDoorCodI
namespace Go.Proofs.YtpfldcfnbgdceaaDoor
set_option linter.unusedVariables false
set_option linter.unusedSimpArgs false
set_option maxRecDepth 100000
open Go.RowKit
def decd (c : Int) (l : List UInt8) : Option (List UInt8) := if c = 1 then decHex l [] else if c = 2 then decB64 l [] else if c = 3 then decPct l [] else decEsc l []
def decErr (c : Int) (l : List UInt8) : Int := if vldC c = false then 1 else if 262144 < l.length then 3 else match decd c l with | none => 5 | some _ => 0
def decOut (c : Int) (l : List UInt8) : List UInt8 := if vldC c = false then [] else if 262144 < l.length then [] else (decd c l).getD []
def DdPost (c : Int) (l : List UInt8) (w : World) (e : Ending) (w' : World) : Prop := ∃ v, e = .returned (.tuple #[v, .int .i64 (decErr c l)]) ∧ OB 5 w.heap.size v (decOut c l) w' ∧ Below w.heap.size w w'
theorem DdPost.bad {c : Int} {l : List UInt8} {w : World} (h : vldC c = false) : DdPost c l w (.returned (.tuple #[.slice none 0 0, .int .i64 1])) w := by
  refine ⟨_, by unfold decErr; rw [if_pos h], ?_, Below.refl _ _⟩
  unfold decOut; rw [if_pos h]; exact OB.nil_ _ _ _
theorem DdPost.long {c : Int} {l : List UInt8} {w : World} (h : vldC c = true) (h2 : 262144 < l.length) : DdPost c l w (.returned (.tuple #[.slice none 0 0, .int .i64 3])) w := by
  refine ⟨_, by unfold decErr; rw [if_neg (by rw [h]; decide), if_pos h2], ?_, Below.refl _ _⟩
  unfold decOut; rw [if_neg (by rw [h]; decide), if_pos h2]; exact OB.nil_ _ _ _
theorem DdPost.non {c : Int} {l : List UInt8} {w w' : World} (h : vldC c = true) (h2 : ¬ 262144 < l.length) (h3 : decd c l = none) (hb : Below w.heap.size w w') : DdPost c l w (.returned (.tuple #[.slice none 0 0, .int .i64 5])) w' := by
  refine ⟨_, by unfold decErr; rw [if_neg (by rw [h]; decide), if_neg h2, h3], ?_, hb⟩
  unfold decOut; rw [if_neg (by rw [h]; decide), if_neg h2, h3]; exact OB.nil_ _ _ _
theorem DdPost.som {c : Int} {l x : List UInt8} {v : Value} {w w' : World} (h : vldC c = true) (h2 : ¬ 262144 < l.length) (h3 : decd c l = some x) (hv : OB 5 w.heap.size v x w') (hb : Below w.heap.size w w') : DdPost c l w (.returned (.tuple #[v, .int .i64 0])) w' := by
  refine ⟨_, by unfold decErr; rw [if_neg (by rw [h]; decide), if_neg h2, h3], ?_, hb⟩
  unfold decOut; rw [if_neg (by rw [h]; decide), if_neg h2, h3]; exact hv
set_option maxHeartbeats 1000000 in
theorem Decode_any (c : Int) (s : ByteArray) (w : World) (hs : s.size ≤ 1000000) : Calls Tryd.prog 16 #[.int .i64 c, .string s] w (DdPost c (bl s) w) := by
  have V := fun w => cvalid_any c w
  cases h : vldC c with
  | false =>
    rw [h] at V
    have HV := Lib.hid h; clear h
    go_enter Tryd.func16, Tryd.ntmps16
    go_wp2_with (go_at_call 12; refine (V _).mono ?_; rintro e w1 ⟨rfl, rfl⟩)
    go_ret2
    exact DdPost.bad HV.out
  | true =>
    rw [h] at V
    have HV := Lib.hid h
    have hc : c = 1 ∨ c = 2 ∨ c = 3 ∨ c = 4 := by unfold vldC at h; simp at h; omega
    clear h
    by_cases hl : 262144 < s.size
    · have HL := Lib.hid (show 262144 < (bl s).length by rw [size_list]; exact hl)
      go_enter Tryd.func16, Tryd.ntmps16
      go_wp2_with (go_at_call 12; refine (V _).mono ?_; rintro e w1 ⟨rfl, rfl⟩)
      go_ret2
      exact DdPost.long HV.out HL.out
    · have HL := Lib.hid (show ¬ 262144 < (bl s).length by rw [size_list]; exact hl)
      have D1 := fun w => decodeHex_any s w hs
      have D2 := fun w => decodeBase64_any s w hs
      have D3 := fun w => decodePercent_any s w hs
      have D4 := fun w => decodeEscape_any s w hs
      rcases hc with rfl | rfl | rfl | rfl
      · cases hx : decHex (bl s) [] with
        | none =>
          rw [hx] at D1
          have HX := Lib.hid hx; clear hx
          go_enter Tryd.func16, Tryd.ntmps16
          go_wp2_with (first | (go_at_call 12; refine (V _).mono ?_; rintro e w1 ⟨rfl, rfl⟩) | (go_at_call 29; refine (D1 _).mono ?_; rintro e w1 ⟨v, rfl, hv, hb⟩; simp only [Option.isSome]))
          go_ret2
          exact DdPost.non HV.out HL.out HX.out hb
        | some x =>
          rw [hx] at D1
          have HX := Lib.hid hx; clear hx
          go_enter Tryd.func16, Tryd.ntmps16
          go_wp2_with (first | (go_at_call 12; refine (V _).mono ?_; rintro e w1 ⟨rfl, rfl⟩) | (go_at_call 29; refine (D1 _).mono ?_; rintro e w1 ⟨v, rfl, hv, hb⟩; simp only [Option.isSome]))
          go_ret2
          exact DdPost.som HV.out HL.out HX.out hv hb
      · cases hx : decB64 (bl s) [] with
        | none =>
          rw [hx] at D2
          have HX := Lib.hid hx; clear hx
          go_enter Tryd.func16, Tryd.ntmps16
          go_wp2_with (first | (go_at_call 12; refine (V _).mono ?_; rintro e w1 ⟨rfl, rfl⟩) | (go_at_call 30; refine (D2 _).mono ?_; rintro e w1 ⟨v, rfl, hv, hb⟩; simp only [Option.isSome]))
          go_ret2
          exact DdPost.non HV.out HL.out HX.out hb
        | some x =>
          rw [hx] at D2
          have HX := Lib.hid hx; clear hx
          go_enter Tryd.func16, Tryd.ntmps16
          go_wp2_with (first | (go_at_call 12; refine (V _).mono ?_; rintro e w1 ⟨rfl, rfl⟩) | (go_at_call 30; refine (D2 _).mono ?_; rintro e w1 ⟨v, rfl, hv, hb⟩; simp only [Option.isSome]))
          go_ret2
          exact DdPost.som HV.out HL.out HX.out hv hb
      · cases hx : decPct (bl s) [] with
        | none =>
          rw [hx] at D3
          have HX := Lib.hid hx; clear hx
          go_enter Tryd.func16, Tryd.ntmps16
          go_wp2_with (first | (go_at_call 12; refine (V _).mono ?_; rintro e w1 ⟨rfl, rfl⟩) | (go_at_call 31; refine (D3 _).mono ?_; rintro e w1 ⟨v, rfl, hv, hb⟩; simp only [Option.isSome]))
          go_ret2
          exact DdPost.non HV.out HL.out HX.out hb
        | some x =>
          rw [hx] at D3
          have HX := Lib.hid hx; clear hx
          go_enter Tryd.func16, Tryd.ntmps16
          go_wp2_with (first | (go_at_call 12; refine (V _).mono ?_; rintro e w1 ⟨rfl, rfl⟩) | (go_at_call 31; refine (D3 _).mono ?_; rintro e w1 ⟨v, rfl, hv, hb⟩; simp only [Option.isSome]))
          go_ret2
          exact DdPost.som HV.out HL.out HX.out hv hb
      · cases hx : decEsc (bl s) [] with
        | none =>
          rw [hx] at D4
          have HX := Lib.hid hx; clear hx
          go_enter Tryd.func16, Tryd.ntmps16
          go_wp2_with (first | (go_at_call 12; refine (V _).mono ?_; rintro e w1 ⟨rfl, rfl⟩) | (go_at_call 32; refine (D4 _).mono ?_; rintro e w1 ⟨v, rfl, hv, hb⟩; simp only [Option.isSome]))
          go_ret2
          exact DdPost.non HV.out HL.out HX.out hb
        | some x =>
          rw [hx] at D4
          have HX := Lib.hid hx; clear hx
          go_enter Tryd.func16, Tryd.ntmps16
          go_wp2_with (first | (go_at_call 12; refine (V _).mono ?_; rintro e w1 ⟨rfl, rfl⟩) | (go_at_call 32; refine (D4 _).mono ?_; rintro e w1 ⟨v, rfl, hv, hb⟩; simp only [Option.isSome]))
          go_ret2
          exact DdPost.som HV.out HL.out HX.out hv hb
end Go.Proofs.YtpfldcfnbgdceaaDoor
