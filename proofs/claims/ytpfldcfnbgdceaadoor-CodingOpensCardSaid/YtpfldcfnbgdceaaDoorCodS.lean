/- Walks of both Encodes. -/
import Derived.Test.YtpfldcfnbgdceaaDoorCodR
import Derived.Test.YtpfldcfnbgdceaaDoorCodN
import Derived.Test.YtpfldcfnbgdceaaDoorCodP
import Derived.Test.YtpfldcfnbgdceaaDoorCodK
namespace Go.Proofs.YtpfldcfnbgdceaaDoor
set_option linter.unusedVariables false
set_option linter.unusedSimpArgs false
set_option maxRecDepth 100000
open Go.RowKit
def encErr (c : Int) (l : List UInt8) : Int := if vldC c = false then 1 else if 65536 < l.length then 3 else 0
def encOut (c : Int) (l : List UInt8) : List UInt8 := if vldC c = false then [] else if 65536 < l.length then [] else encd c l
def EePost (c : Int) (l : List UInt8) (w : World) (e : Ending) (w' : World) : Prop := e = .returned (.tuple #[.string (bs (encOut c l)), .int .i64 (encErr c l)]) ∧ Below w.heap.size w w'
theorem EePost.bad {c : Int} {l : List UInt8} {w : World} (h : vldC c = false) : EePost c l w (.returned (.tuple #[.string ⟨#[]⟩, .int .i64 1])) w := by
  refine ⟨?_, Below.refl _ _⟩
  unfold encErr encOut; rw [if_pos h, if_pos h]; rfl
theorem EePost.long {c : Int} {l : List UInt8} {w : World} (h : vldC c = true) (h2 : 65536 < l.length) : EePost c l w (.returned (.tuple #[.string ⟨#[]⟩, .int .i64 3])) w := by
  refine ⟨?_, Below.refl _ _⟩
  unfold encErr encOut; rw [if_neg (by rw [h]; decide), if_pos h2, if_neg (by rw [h]; decide), if_pos h2]; rfl
theorem EePost.ok {c : Int} {l x : List UInt8} {w w' : World} (h : vldC c = true) (h2 : ¬ 65536 < l.length) (hx : x = encd c l) (hb : Below w.heap.size w w') : EePost c l w (.returned (.tuple #[.string (bs x), .int .i64 0])) w' := by
  refine ⟨?_, hb⟩
  unfold encErr encOut; rw [if_neg (by rw [h]; decide), if_neg h2, if_neg (by rw [h]; decide), if_neg h2, hx]
set_option maxHeartbeats 1000000 in
theorem Encode_any (c : Int) (v : Value) (l : List UInt8) (w : World) (hl : l.length ≤ 100000000) (hv : BIn w.heap.size w v l) : Calls Tryd.prog 10 #[.int .i64 c, v] w (EePost c l w) := by
  have V := fun w => cvalid_any c w
  have hv0 := hv
  obtain ⟨A, n, cc, rfl, rfl, -, -⟩ := hv0
  cases h : vldC c with
  | false =>
    rw [h] at V
    have HV := Lib.hid h; clear h
    go_enter Tryd.func10, Tryd.ntmps10
    go_wp2_with (go_at_call 12; refine (V _).mono ?_; rintro e w1 ⟨rfl, rfl⟩)
    go_ret2
    exact EePost.bad HV.out
  | true =>
    rw [h] at V
    have HV := Lib.hid h
    have hc : c = 1 ∨ c = 2 ∨ c = 3 ∨ c = 4 := by unfold vldC at h; simp at h; omega
    clear h
    by_cases hL : 65536 < l.length
    · have HL := Lib.hid hL
      go_enter Tryd.func10, Tryd.ntmps10
      go_wp2_with (go_at_call 12; refine (V _).mono ?_; rintro e w1 ⟨rfl, rfl⟩)
      go_ret2
      exact EePost.long HV.out HL.out
    · have HL := Lib.hid hL
      have D1 := encodeHex_any _ l w (by omega) hv
      have D2 := encodeBase64_any _ l w (by omega) hv
      have D3 := encodePercent_any _ l w (by omega) hv
      have D4 := encodeEscape_any _ l w (by omega) hv
      have HV2 := Lib.hid hv
      clear hv
      rcases hc with rfl | rfl | rfl | rfl
      · go_enter Tryd.func10, Tryd.ntmps10
        go_wp2_with (first | (go_at_call 12; refine (V _).mono ?_; rintro e w1 ⟨rfl, rfl⟩) | (go_at_call 22; refine D1.mono ?_; rintro e w1 ⟨rfl, hb⟩))
        go_ret2
        exact EePost.ok HV.out HL.out rfl hb
      · go_enter Tryd.func10, Tryd.ntmps10
        go_wp2_with (first | (go_at_call 12; refine (V _).mono ?_; rintro e w1 ⟨rfl, rfl⟩) | (go_at_call 23; refine D2.mono ?_; rintro e w1 ⟨rfl, hb⟩))
        go_ret2
        exact EePost.ok HV.out HL.out rfl hb
      · go_enter Tryd.func10, Tryd.ntmps10
        go_wp2_with (first | (go_at_call 12; refine (V _).mono ?_; rintro e w1 ⟨rfl, rfl⟩) | (go_at_call 24; refine D3.mono ?_; rintro e w1 ⟨rfl, hb⟩))
        go_ret2
        exact EePost.ok HV.out HL.out rfl hb
      · go_enter Tryd.func10, Tryd.ntmps10
        go_wp2_with (first | (go_at_call 12; refine (V _).mono ?_; rintro e w1 ⟨rfl, rfl⟩) | (go_at_call 25; refine D4.mono ?_; rintro e w1 ⟨rfl, hb⟩))
        go_ret2
        exact EePost.ok HV.out HL.out rfl hb
set_option maxHeartbeats 1000000 in
theorem Encode_ref (c : Int) (v : Value) (l : List UInt8) (w : World) (hl : l.length ≤ 100000000) (hv : BIn w.heap.size w v l) : Calls Tryd.prog 11 #[.int .i64 c, v] w (EePost c l w) := by
  have V := fun w => cvalid_ref c w
  have hv0 := hv
  obtain ⟨A, n, cc, rfl, rfl, -, -⟩ := hv0
  cases h : vldC c with
  | false =>
    rw [h] at V
    have HV := Lib.hid h; clear h
    go_enter Tryd.func11, Tryd.ntmps11
    go_wp2_with (go_at_call 13; refine (V _).mono ?_; rintro e w1 ⟨rfl, rfl⟩)
    go_ret2
    exact EePost.bad HV.out
  | true =>
    rw [h] at V
    have HV := Lib.hid h
    clear h
    by_cases hL : 65536 < l.length
    · have HL := Lib.hid hL
      go_enter Tryd.func11, Tryd.ntmps11
      go_wp2_with (go_at_call 13; refine (V _).mono ?_; rintro e w1 ⟨rfl, rfl⟩)
      go_ret2
      exact EePost.long HV.out HL.out
    · have HL := Lib.hid hL
      have D := fun w' (hb : BIn w'.heap.size w' (.slice A l.length cc) l) => Encoded_ref c HV.out _ l w' (by omega) hb
      have HD := Lib.hid D; clear D
      have hv2 := Lib.hid hv; clear hv
      go_enter Tryd.func11, Tryd.ntmps11
      go_wp2_with (go_at_call 13; refine (V _).mono ?_; rintro e w1 ⟨rfl, rfl⟩)
      refine (HD.out _ hv2.out).mono ?_
      rintro e w1 ⟨v, rfl, hv, hb⟩
      obtain ⟨A', n', c', rfl⟩ := hv.form_
      have hcv := hv.conv (P := Tryd.prog) (T := 23) (d := 9) Tryd.underlying23 Tryd.underlying5 Tryd.underlying9
      go_wp2
      go_ret2
      exact EePost.ok HV.out HL.out rfl hb
end Go.Proofs.YtpfldcfnbgdceaaDoor
