/- Walks of the code's Decode. · Walks of the reference's Decoded and Decode. -/
import Derived.Test.YtklnakjmiljmhaaGreatDoorY16
namespace Go.Proofs.YtklnakjmiljmhaaGreatDoor
set_option linter.unusedVariables false
set_option linter.unusedSimpArgs false
set_option maxRecDepth 100000
open Go.RowKit
def decd (c : Int) (l : List UInt8) : Option (List UInt8) := if c = 1 then decHex l [] else if c = 2 then decB64 l [] else if c = 3 then decPct l [] else decEsc l []
def decErr (c : Int) (l : List UInt8) : Int := if vldC c = false then 1 else if 262144 < l.length then 3 else match decd c l with | none => 5 | some _ => 0
def decOut (c : Int) (l : List UInt8) : List UInt8 := if vldC c = false then [] else if 262144 < l.length then [] else (decd c l).getD []
def DdPost (c : Int) (l : List UInt8) (w : World) (e : Ending) (w' : World) : Prop := ∃ v, e = .returned (.tuple #[v, .int .i64 (decErr c l)]) ∧ OB 5 w.heap.size v (decOut c l) w' ∧ Below w.heap.size w w'
theorem DdPost.bad {c : Int} {l : List UInt8} {w : World} (h : vldC c = false) : DdPost c l w (.returned (.tuple #[.slice none 0 0, .int .i64 1])) w := by
  refine ⟨_, by unfold decErr; rw [if_pos h], ?_, Below.refl _ _⟩
  unfold decOut; rw [if_pos h]; exact OB.nil_ _ _ _
theorem DdPost.long {c : Int} {l : List UInt8} {w : World} (h : vldC c = true) (h2 : 262144 < l.length) : DdPost c l w (.returned (.tuple #[.slice none 0 0, .int .i64 3])) w := by
  refine ⟨_, by unfold decErr; rw [if_neg (by rw [h]; decide), if_pos h2], ?_, Below.refl _ _⟩
  unfold decOut; rw [if_neg (by rw [h]; decide), if_pos h2]; exact OB.nil_ _ _ _
theorem DdPost.non {c : Int} {l : List UInt8} {w w' : World} (h : vldC c = true) (h2 : ¬ 262144 < l.length) (h3 : decd c l = none) (hb : Below w.heap.size w w') : DdPost c l w (.returned (.tuple #[.slice none 0 0, .int .i64 5])) w' := by
  refine ⟨_, by unfold decErr; rw [if_neg (by rw [h]; decide), if_neg h2, h3], ?_, hb⟩
  unfold decOut; rw [if_neg (by rw [h]; decide), if_neg h2, h3]; exact OB.nil_ _ _ _
theorem DdPost.som {c : Int} {l x : List UInt8} {v : Value} {w w' : World} (h : vldC c = true) (h2 : ¬ 262144 < l.length) (h3 : decd c l = some x) (hv : OB 5 w.heap.size v x w') (hb : Below w.heap.size w w') : DdPost c l w (.returned (.tuple #[v, .int .i64 0])) w' := by
  refine ⟨_, by unfold decErr; rw [if_neg (by rw [h]; decide), if_neg h2, h3], ?_, hb⟩
  unfold decOut; rw [if_neg (by rw [h]; decide), if_neg h2, h3]; exact hv
set_option maxHeartbeats 1000000 in
theorem Decode_any (c : Int) (s : ByteArray) (w : World) (hs : s.size ≤ 1000000) : Calls Tryz.prog 64 #[.int .i64 c, .string s] w (DdPost c (bl s) w) := by
  have V := fun w => cvalid_any c w
  cases h : vldC c with
  | false =>
    rw [h] at V
    have HV := Lib.hid h; clear h
    go_enter Tryz.func64, Tryz.ntmps64
    go_wp2_with (go_at_call 93; refine (V _).mono ?_; rintro e w1 ⟨rfl, rfl⟩)
    go_ret2
    exact DdPost.bad HV.out
  | true =>
    rw [h] at V
    have HV := Lib.hid h
    have hc : c = 1 ∨ c = 2 ∨ c = 3 ∨ c = 4 := by unfold vldC at h; simp at h; omega
    clear h
    by_cases hl : 262144 < s.size
    · have HL := Lib.hid (show 262144 < (bl s).length by rw [size_list]; exact hl)
      go_enter Tryz.func64, Tryz.ntmps64
      go_wp2_with (go_at_call 93; refine (V _).mono ?_; rintro e w1 ⟨rfl, rfl⟩)
      go_ret2
      exact DdPost.long HV.out HL.out
    · have HL := Lib.hid (show ¬ 262144 < (bl s).length by rw [size_list]; exact hl)
      have D1 := fun w => decodeHex_any s w hs
      have D2 := fun w => decodeBase64_any s w hs
      have D3 := fun w => decodePercent_any s w hs
      have D4 := fun w => decodeEscape_any s w hs
      rcases hc with rfl | rfl | rfl | rfl
      · cases hx : decHex (bl s) [] with
        | none =>
          rw [hx] at D1
          have HX := Lib.hid hx; clear hx
          go_enter Tryz.func64, Tryz.ntmps64
          go_wp2_with (first | (go_at_call 93; refine (V _).mono ?_; rintro e w1 ⟨rfl, rfl⟩) | (go_at_call 94; refine (D1 _).mono ?_; rintro e w1 ⟨v, rfl, hv, hb⟩; simp only [Option.isSome]))
          go_ret2
          exact DdPost.non HV.out HL.out HX.out hb
        | some x =>
          rw [hx] at D1
          have HX := Lib.hid hx; clear hx
          go_enter Tryz.func64, Tryz.ntmps64
          go_wp2_with (first | (go_at_call 93; refine (V _).mono ?_; rintro e w1 ⟨rfl, rfl⟩) | (go_at_call 94; refine (D1 _).mono ?_; rintro e w1 ⟨v, rfl, hv, hb⟩; simp only [Option.isSome]))
          go_ret2
          exact DdPost.som HV.out HL.out HX.out hv hb
      · cases hx : decB64 (bl s) [] with
        | none =>
          rw [hx] at D2
          have HX := Lib.hid hx; clear hx
          go_enter Tryz.func64, Tryz.ntmps64
          go_wp2_with (first | (go_at_call 93; refine (V _).mono ?_; rintro e w1 ⟨rfl, rfl⟩) | (go_at_call 95; refine (D2 _).mono ?_; rintro e w1 ⟨v, rfl, hv, hb⟩; simp only [Option.isSome]))
          go_ret2
          exact DdPost.non HV.out HL.out HX.out hb
        | some x =>
          rw [hx] at D2
          have HX := Lib.hid hx; clear hx
          go_enter Tryz.func64, Tryz.ntmps64
          go_wp2_with (first | (go_at_call 93; refine (V _).mono ?_; rintro e w1 ⟨rfl, rfl⟩) | (go_at_call 95; refine (D2 _).mono ?_; rintro e w1 ⟨v, rfl, hv, hb⟩; simp only [Option.isSome]))
          go_ret2
          exact DdPost.som HV.out HL.out HX.out hv hb
      · cases hx : decPct (bl s) [] with
        | none =>
          rw [hx] at D3
          have HX := Lib.hid hx; clear hx
          go_enter Tryz.func64, Tryz.ntmps64
          go_wp2_with (first | (go_at_call 93; refine (V _).mono ?_; rintro e w1 ⟨rfl, rfl⟩) | (go_at_call 96; refine (D3 _).mono ?_; rintro e w1 ⟨v, rfl, hv, hb⟩; simp only [Option.isSome]))
          go_ret2
          exact DdPost.non HV.out HL.out HX.out hb
        | some x =>
          rw [hx] at D3
          have HX := Lib.hid hx; clear hx
          go_enter Tryz.func64, Tryz.ntmps64
          go_wp2_with (first | (go_at_call 93; refine (V _).mono ?_; rintro e w1 ⟨rfl, rfl⟩) | (go_at_call 96; refine (D3 _).mono ?_; rintro e w1 ⟨v, rfl, hv, hb⟩; simp only [Option.isSome]))
          go_ret2
          exact DdPost.som HV.out HL.out HX.out hv hb
      · cases hx : decEsc (bl s) [] with
        | none =>
          rw [hx] at D4
          have HX := Lib.hid hx; clear hx
          go_enter Tryz.func64, Tryz.ntmps64
          go_wp2_with (first | (go_at_call 93; refine (V _).mono ?_; rintro e w1 ⟨rfl, rfl⟩) | (go_at_call 97; refine (D4 _).mono ?_; rintro e w1 ⟨v, rfl, hv, hb⟩; simp only [Option.isSome]))
          go_ret2
          exact DdPost.non HV.out HL.out HX.out hb
        | some x =>
          rw [hx] at D4
          have HX := Lib.hid hx; clear hx
          go_enter Tryz.func64, Tryz.ntmps64
          go_wp2_with (first | (go_at_call 93; refine (V _).mono ?_; rintro e w1 ⟨rfl, rfl⟩) | (go_at_call 97; refine (D4 _).mono ?_; rintro e w1 ⟨v, rfl, hv, hb⟩; simp only [Option.isSome]))
          go_ret2
          exact DdPost.som HV.out HL.out HX.out hv hb
end Go.Proofs.YtklnakjmiljmhaaGreatDoor
namespace Go.Proofs.YtklnakjmiljmhaaGreatDoor
set_option linter.unusedVariables false
set_option linter.unusedSimpArgs false
set_option maxRecDepth 100000
open Go.RowKit
set_option maxHeartbeats 1000000 in
theorem Decoded_ref (c : Int) (hc : vldC c = true) (ad : Addr) (cc : Nat) (s : ByteArray) (w : World) (hs : s.size ≤ 1000000) (hrb : BI ad s w) : Calls Tryz.prog 71 #[.int .i64 c, .slice (some ad) s.size cc] w (DecPost (decd c (bl s)) w) := by
  have D1 := hex_ref ad cc s w hs hrb
  have D2 := unbase64_ref ad cc s w hs hrb
  have D3 := percent_ref ad cc s w hs hrb
  have D4 := unescape_ref ad cc s w hs hrb
  have hc : c = 1 ∨ c = 2 ∨ c = 3 ∨ c = 4 := by unfold vldC at hc; simp at hc; omega
  rcases hc with rfl | rfl | rfl | rfl
  · go_enter Tryz.func71, Tryz.ntmps71
    go_wp2_with (go_at_call 108; refine D1.mono ?_; rintro e w1 ⟨v, rfl, hv, hb⟩)
    go_ret2
    exact ⟨v, rfl, hv, hb⟩
  · go_enter Tryz.func71, Tryz.ntmps71
    go_wp2_with (go_at_call 109; refine D2.mono ?_; rintro e w1 ⟨v, rfl, hv, hb⟩)
    go_ret2
    exact ⟨v, rfl, hv, hb⟩
  · go_enter Tryz.func71, Tryz.ntmps71
    go_wp2_with (go_at_call 110; refine D3.mono ?_; rintro e w1 ⟨v, rfl, hv, hb⟩)
    go_ret2
    exact ⟨v, rfl, hv, hb⟩
  · go_enter Tryz.func71, Tryz.ntmps71
    go_wp2_with (go_at_call 111; refine D4.mono ?_; rintro e w1 ⟨v, rfl, hv, hb⟩)
    go_ret2
    exact ⟨v, rfl, hv, hb⟩
theorem OB.mono {e : TypeId} {B B' : Nat} {v : Value} {l : List UInt8} {w : World} (h : OB e B v l w) (hB : B' ≤ B) : OB e B' v l w := by
  refine ⟨h.1, ?_⟩
  rcases h.2 with h1 | ⟨g, cap, cur, h1, h2, rest⟩
  · exact .inl h1
  · exact .inr ⟨g, cap, cur, h1, Nat.le_trans hB h2, rest⟩
end Go.Proofs.YtklnakjmiljmhaaGreatDoor
