/- Walks of the reference's Decoded and Decode. -/
import Derived.Test.YtpfldcfnbgdceaaDoorCodJ
namespace Go.Proofs.YtpfldcfnbgdceaaDoor
set_option linter.unusedVariables false
set_option linter.unusedSimpArgs false
set_option maxRecDepth 100000
open Go.RowKit
set_option maxHeartbeats 1000000 in
theorem Decoded_ref (c : Int) (hc : vldC c = true) (ad : Addr) (cc : Nat) (s : ByteArray) (w : World) (hs : s.size ≤ 1000000) (hrb : BI ad s w) : Calls Tryd.prog 33 #[.int .i64 c, .slice (some ad) s.size cc] w (DecPost (decd c (bl s)) w) := by
  have D1 := hex_ref ad cc s w hs hrb
  have D2 := unbase64_ref ad cc s w hs hrb
  have D3 := percent_ref ad cc s w hs hrb
  have D4 := unescape_ref ad cc s w hs hrb
  have hc : c = 1 ∨ c = 2 ∨ c = 3 ∨ c = 4 := by unfold vldC at hc; simp at hc; omega
  rcases hc with rfl | rfl | rfl | rfl
  · go_enter Tryd.func33, Tryd.ntmps33
    go_wp2_with (go_at_call 59; refine D1.mono ?_; rintro e w1 ⟨v, rfl, hv, hb⟩)
    go_ret2
    exact ⟨v, rfl, hv, hb⟩
  · go_enter Tryd.func33, Tryd.ntmps33
    go_wp2_with (go_at_call 60; refine D2.mono ?_; rintro e w1 ⟨v, rfl, hv, hb⟩)
    go_ret2
    exact ⟨v, rfl, hv, hb⟩
  · go_enter Tryd.func33, Tryd.ntmps33
    go_wp2_with (go_at_call 61; refine D3.mono ?_; rintro e w1 ⟨v, rfl, hv, hb⟩)
    go_ret2
    exact ⟨v, rfl, hv, hb⟩
  · go_enter Tryd.func33, Tryd.ntmps33
    go_wp2_with (go_at_call 62; refine D4.mono ?_; rintro e w1 ⟨v, rfl, hv, hb⟩)
    go_ret2
    exact ⟨v, rfl, hv, hb⟩
theorem OB.mono {e : TypeId} {B B' : Nat} {v : Value} {l : List UInt8} {w : World} (h : OB e B v l w) (hB : B' ≤ B) : OB e B' v l w := by
  refine ⟨h.1, ?_⟩
  rcases h.2 with h1 | ⟨g, cap, cur, h1, h2, rest⟩
  · exact .inl h1
  · exact .inr ⟨g, cap, cur, h1, Nat.le_trans hB h2, rest⟩
set_option maxHeartbeats 1000000 in
theorem Decode_ref (c : Int) (s : ByteArray) (w : World) (hs : s.size ≤ 1000000) : Calls Tryd.prog 17 #[.int .i64 c, .string s] w (DdPost c (bl s) w) := by
  have V := fun w => cvalid_ref c w
  cases h : vldC c with
  | false =>
    rw [h] at V
    have HV := Lib.hid h; clear h
    go_enter Tryd.func17, Tryd.ntmps17
    go_wp2_with (go_at_call 13; refine (V _).mono ?_; rintro e w1 ⟨rfl, rfl⟩)
    go_ret2
    exact DdPost.bad HV.out
  | true =>
    rw [h] at V
    have HV := Lib.hid h
    by_cases hl : 262144 < s.size
    · have HL := Lib.hid (show 262144 < (bl s).length by rw [size_list]; exact hl)
      clear h
      go_enter Tryd.func17, Tryd.ntmps17
      go_wp2_with (go_at_call 13; refine (V _).mono ?_; rintro e w1 ⟨rfl, rfl⟩)
      go_ret2
      exact DdPost.long HV.out HL.out
    · have HL := Lib.hid (show ¬ 262144 < (bl s).length by rw [size_list]; exact hl)
      clear h
      obtain ⟨W, C, B, hW, hC, hB, hrb, hbel, hWs⟩ := RB.names w 5 s
      have hcv := fun w => Lib.run_convert_string_bytes (P := Tryd.prog) w 9 23 5 s Tryd.underlying9 Tryd.underlying23 Tryd.underlying5
      have D := Decoded_ref c HV.out ⟨B, 0, none⟩ C s W hs hrb.bi
      rw [hC, hB] at D
      have DD := Lib.hid D; clear D
      have HRB := Lib.hid hrb; clear hrb
      have HWs := Lib.hid hWs; clear hWs
      have HB := Lib.hid hB
      cases hx : decd c (bl s) with
      | none =>
        have HX := Lib.hid hx; clear hx
        go_enter Tryd.func17, Tryd.ntmps17
        go_wp2_with (first | (go_at_call 13; refine (V _).mono ?_; rintro e w1 ⟨rfl, rfl⟩) | (go_at_call 33; rw [← hW]; refine DD.out.mono ?_; rintro e w1 ⟨v, rfl, hv, hb⟩; rw [HX.out]; simp only [Option.isSome]))
        go_ret2
        exact DdPost.non HV.out HL.out HX.out ((HB.out ▸ hbel).trans (hb.mono hbel.size))
      | some x =>
        have HX := Lib.hid hx; clear hx
        go_enter Tryd.func17, Tryd.ntmps17
        go_wp2_with (first | (go_at_call 13; refine (V _).mono ?_; rintro e w1 ⟨rfl, rfl⟩) | (go_at_call 33; rw [← hW]; refine DD.out.mono ?_; rintro e w1 ⟨v, rfl, hv, hb⟩; rw [HX.out] at hv ⊢; simp only [Option.isSome]))
        go_ret2
        exact DdPost.som HV.out HL.out HX.out (OB.mono hv (HWs.out ▸ HB.out ▸ Nat.le_succ _)) ((HB.out ▸ hbel).trans (hb.mono hbel.size))
end Go.Proofs.YtpfldcfnbgdceaaDoor
