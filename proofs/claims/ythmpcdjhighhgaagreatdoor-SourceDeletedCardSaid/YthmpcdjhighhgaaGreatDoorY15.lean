/- Walks of the reference's decoders of the first, the third and the fourth coding. · Walk of the reference's decoder of the fourth coding. · Walk of the reference's decoder of the second coding. · Walks of the code's Decode. · Walks of the reference's Decoded and Decode. -/
import Derived.Deep.RegionHeld3
import Derived.Deep.AppendLies
import Derived.Test.YthmpcdjhighhgaaGreatDoorY10
namespace Go.Proofs.YthmpcdjhighhgaaGreatDoor
set_option linter.unusedVariables false
set_option linter.unusedSimpArgs false
set_option maxRecDepth 100000
open Go.RowKit
/-- 'out = append(out, c)' of one byte at a step of a region that draws its order. -/
theorem step_app_u8 {P : Program} {T e : TypeId} {i0 : TypeInfo} (ht : P.underlying T = some (.slice e)) (hi : P.info? e = some i0) (hz0 : i0.zero = some (.int .u8 0)) (hz1 : i0.size = 1) (hz2 : i0.bytes = 1)
    {w : World} {ops : Array Oper} {o : Oper} {a : Act} {K : Act → World → Prop} {Q : Exit → Act → World → Prop} {E : Prop} (s x : Operand) (v : Value) (l : List UInt8) (c : Int) (u : UInt8) (B : Nat)
    (hgd : o.guard = none) (ho : o.op = .call { callee := .builtin .append, args := #[s, x], argTypes := #[T, T] })
    (hs : a.eval s = v) (hx : a.eval x = .slice (some ⟨w.heap.size, 0, none⟩) 1 1) (hown : OB e B v l w) (hu : c = u.toNat) (hl : l.length < 1000000000) (hB : B ≤ w.heap.size)
    (h : ∀ g cap w1, OB e B (.slice (some ⟨g, 0, none⟩) (l.length + 1) cap) (l ++ [u]) w1 → Below B w w1 → K (a.put o.dst (.slice (some ⟨g, 0, none⟩) (l.length + 1) cap)) w1) :
    if Region.wanted o (yielded ops a.tmps) = true then Oper.wp P o a (w.alloc (.cells #[.int .u8 c] e)) K Q else E := by
  subst hu
  refine step_append_lies _ hgd s x T ho B e i0 (.int .u8 0) 1 1 ht hi hz0 hz1 hz2 rfl (by decide) v l.length _ hs (World.ownsRow.alloc hown _) ⟨w.heap.size, 0, none⟩ 1 1 [.int .u8 u.toNat] hx rfl ?_ ?_ (by omega) ?_ ?_ ?_ (w.heap.size + 1) (by simp) ?_
  · intro j x hj
    match j, hj with
    | 0, hj => simp at hj; subst hj; simp [Addr.add]
  · intro x hx; simp at hx; subst hx; rfl
  · unfold maxLen; omega
  · omega
  · simp; omega
  · intro g cap w1 hown1 hg _ _
    exact h g cap w1 (by simpa [OB] using hown1) (below_of_grown hown hB hg)
/-- A slice of bytes that lies anywhere. -/
def BI (ad : Addr) (s : ByteArray) (w : World) : Prop := ad.block < w.heap.size ∧ ∀ k (h : k < s.size), w.cell? (ad.add k) = some (.int .u8 s[k].toNat)
theorem RB.bi {e : TypeId} {g : Nat} {s : ByteArray} {w : World} (h : RB e g (bl s) w) : BI ⟨g, 0, none⟩ s w :=
  ⟨h.lt, fun k hk => by rw [Addr.add_lit, Nat.zero_add]; exact h.cell k (by rw [size_list]; exact hk)⟩
theorem BI.later {ad : Addr} {s : ByteArray} {w w1 : World} (h : BI ad s w) (hb : Below w.heap.size w w1) : BI ad s w1 :=
  ⟨Nat.lt_of_lt_of_le h.1 hb.size, fun k hk => (World.cell?_of_block (by rw [Reads_block]; exact hb.block _ h.1)).trans (h.2 k hk)⟩
theorem BI.byte {ad : Addr} {s : ByteArray} {w : World} (h : BI ad s w) (k : Nat) (hk : k < s.size) :
    ∃ (u : UInt8) (c : Int), Hid (u = s[k]) ∧ Hid (c = u.toNat) ∧ 0 ≤ c ∧ c < 256 ∧ w.cell? (ad.add k) = some (.int .u8 c) :=
  ⟨s[k], s[k].toNat, rfl, rfl, by omega, byte_lt _, h.2 k hk⟩
theorem BI.byteS {ad : Addr} {s : ByteArray} {w : World} (h : BI ad s w) (k : Nat) (hk : k + 1 < s.size) :
    ∃ (u : UInt8) (c : Int), Hid (u = s[k + 1]) ∧ Hid (c = u.toNat) ∧ 0 ≤ c ∧ c < 256 ∧ w.cell? { block := ad.block, off := ad.off + (k + 1) } = some (.int .u8 c) :=
  ⟨s[k + 1], s[k + 1].toNat, rfl, rfl, by omega, byte_lt _, h.2 (k + 1) hk⟩
theorem BI.drew {ad : Addr} {s : ByteArray} {w : World} (h : BI ad s w) (m : Nat) : BI ad s (w.drewN m) := h
theorem twoB_none1 (a b : UInt8) (c x : Int) (hc : Hid (c = a.toNat)) (hx : Hid (hexv c = x)) (h : x < 0) : twoB a b = none := by
  unfold twoB; rw [← hc.out, hx.out, if_neg (by omega)]
theorem twoB_none2 (a b : UInt8) (c x : Int) (hc : Hid (c = b.toNat)) (hx : Hid (hexv c = x)) (h : x < 0) : twoB a b = none := by
  unfold twoB; rw [← hc.out, hx.out, if_neg (by omega)]
theorem twoB_some (a b : UInt8) (c d x y r : Int) (hc : Hid (c = a.toNat)) (hd : Hid (d = b.toNat)) (hx : Hid (hexv c = x)) (hy : Hid (hexv d = y)) (h1 : 0 ≤ x) (h2 : 0 ≤ y) (h3 : x ≤ 15) (h4 : y ≤ 15) (hr : r = bits .or .i64 (x * 16) y % 256) :
    ∃ u : UInt8, Hid (r = u.toNat) ∧ twoB a b = some u := by
  refine ⟨UInt8.ofNat (x * 16 + y).toNat, ?_, ?_⟩
  · show r = _
    rw [hr, or16 x y h1 h3 h2 h4, UInt8.toNat_ofNat']; omega
  · unfold twoB; rw [← hc.out, ← hd.out, hx.out, hy.out, if_pos ⟨h1, h2⟩]
end Go.Proofs.YthmpcdjhighhgaaGreatDoor
namespace Go.Proofs.YthmpcdjhighhgaaGreatDoor
set_option linter.unusedVariables false
set_option linter.unusedSimpArgs false
set_option maxRecDepth 100000
open Go.RowKit
end Go.Proofs.YthmpcdjhighhgaaGreatDoor
namespace Go.Proofs.YthmpcdjhighhgaaGreatDoor
set_option linter.unusedVariables false
set_option linter.unusedSimpArgs false
set_option maxRecDepth 100000
open Go.RowKit
end Go.Proofs.YthmpcdjhighhgaaGreatDoor
namespace Go.Proofs.YthmpcdjhighhgaaGreatDoor
set_option linter.unusedVariables false
set_option linter.unusedSimpArgs false
set_option maxRecDepth 100000
open Go.RowKit
def decd (c : Int) (l : List UInt8) : Option (List UInt8) := if c = 1 then decHex l [] else if c = 2 then decB64 l [] else if c = 3 then decPct l [] else decEsc l []
def decErr (c : Int) (l : List UInt8) : Int := if vldC c = false then 1 else if 262144 < l.length then 3 else match decd c l with | none => 5 | some _ => 0
def decOut (c : Int) (l : List UInt8) : List UInt8 := if vldC c = false then [] else if 262144 < l.length then [] else (decd c l).getD []
def DdPost (c : Int) (l : List UInt8) (w : World) (e : Ending) (w' : World) : Prop := ∃ v, e = .returned (.tuple #[v, .int .i64 (decErr c l)]) ∧ OB 5 w.heap.size v (decOut c l) w' ∧ Below w.heap.size w w'
theorem DdPost.bad {c : Int} {l : List UInt8} {w : World} (h : vldC c = false) : DdPost c l w (.returned (.tuple #[.slice none 0 0, .int .i64 1])) w := by
  refine ⟨_, by unfold decErr; rw [if_pos h], ?_, Below.refl _ _⟩
  unfold decOut; rw [if_pos h]; exact OB.nil_ _ _ _
theorem DdPost.long {c : Int} {l : List UInt8} {w : World} (h : vldC c = true) (h2 : 262144 < l.length) : DdPost c l w (.returned (.tuple #[.slice none 0 0, .int .i64 3])) w := by
  refine ⟨_, by unfold decErr; rw [if_neg (by rw [h]; decide), if_pos h2], ?_, Below.refl _ _⟩
  unfold decOut; rw [if_neg (by rw [h]; decide), if_pos h2]; exact OB.nil_ _ _ _
theorem DdPost.non {c : Int} {l : List UInt8} {w w' : World} (h : vldC c = true) (h2 : ¬ 262144 < l.length) (h3 : decd c l = none) (hb : Below w.heap.size w w') : DdPost c l w (.returned (.tuple #[.slice none 0 0, .int .i64 5])) w' := by
  refine ⟨_, by unfold decErr; rw [if_neg (by rw [h]; decide), if_neg h2, h3], ?_, hb⟩
  unfold decOut; rw [if_neg (by rw [h]; decide), if_neg h2, h3]; exact OB.nil_ _ _ _
theorem DdPost.som {c : Int} {l x : List UInt8} {v : Value} {w w' : World} (h : vldC c = true) (h2 : ¬ 262144 < l.length) (h3 : decd c l = some x) (hv : OB 5 w.heap.size v x w') (hb : Below w.heap.size w w') : DdPost c l w (.returned (.tuple #[v, .int .i64 0])) w' := by
  refine ⟨_, by unfold decErr; rw [if_neg (by rw [h]; decide), if_neg h2, h3], ?_, hb⟩
  unfold decOut; rw [if_neg (by rw [h]; decide), if_neg h2, h3]; exact hv
set_option maxHeartbeats 1000000 in
theorem Decode_any (c : Int) (s : ByteArray) (w : World) (hs : s.size ≤ 1000000) : Calls Tryz.prog 82 #[.int .i64 c, .string s] w (DdPost c (bl s) w) := by
  have V := fun w => cvalid_any c w
  cases h : vldC c with
  | false =>
    rw [h] at V
    have HV := Lib.hid h; clear h
    go_enter Tryz.func82, Tryz.ntmps82
    go_wp2_with (go_at_call 141; refine (V _).mono ?_; rintro e w1 ⟨rfl, rfl⟩)
    go_ret2
    exact DdPost.bad HV.out
  | true =>
    rw [h] at V
    have HV := Lib.hid h
    have hc : c = 1 ∨ c = 2 ∨ c = 3 ∨ c = 4 := by unfold vldC at h; simp at h; omega
    clear h
    by_cases hl : 262144 < s.size
    · have HL := Lib.hid (show 262144 < (bl s).length by rw [size_list]; exact hl)
      go_enter Tryz.func82, Tryz.ntmps82
      go_wp2_with (go_at_call 141; refine (V _).mono ?_; rintro e w1 ⟨rfl, rfl⟩)
      go_ret2
      exact DdPost.long HV.out HL.out
    · have HL := Lib.hid (show ¬ 262144 < (bl s).length by rw [size_list]; exact hl)
      have D1 := fun w => decodeHex_any s w hs
      have D2 := fun w => decodeBase64_any s w hs
      have D3 := fun w => decodePercent_any s w hs
      have D4 := fun w => decodeEscape_any s w hs
      rcases hc with rfl | rfl | rfl | rfl
      · cases hx : decHex (bl s) [] with
        | none =>
          rw [hx] at D1
          have HX := Lib.hid hx; clear hx
          go_enter Tryz.func82, Tryz.ntmps82
          go_wp2_with (first | (go_at_call 141; refine (V _).mono ?_; rintro e w1 ⟨rfl, rfl⟩) | (go_at_call 142; refine (D1 _).mono ?_; rintro e w1 ⟨v, rfl, hv, hb⟩; simp only [Option.isSome]))
          go_ret2
          exact DdPost.non HV.out HL.out HX.out hb
        | some x =>
          rw [hx] at D1
          have HX := Lib.hid hx; clear hx
          go_enter Tryz.func82, Tryz.ntmps82
          go_wp2_with (first | (go_at_call 141; refine (V _).mono ?_; rintro e w1 ⟨rfl, rfl⟩) | (go_at_call 142; refine (D1 _).mono ?_; rintro e w1 ⟨v, rfl, hv, hb⟩; simp only [Option.isSome]))
          go_ret2
          exact DdPost.som HV.out HL.out HX.out hv hb
      · cases hx : decB64 (bl s) [] with
        | none =>
          rw [hx] at D2
          have HX := Lib.hid hx; clear hx
          go_enter Tryz.func82, Tryz.ntmps82
          go_wp2_with (first | (go_at_call 141; refine (V _).mono ?_; rintro e w1 ⟨rfl, rfl⟩) | (go_at_call 143; refine (D2 _).mono ?_; rintro e w1 ⟨v, rfl, hv, hb⟩; simp only [Option.isSome]))
          go_ret2
          exact DdPost.non HV.out HL.out HX.out hb
        | some x =>
          rw [hx] at D2
          have HX := Lib.hid hx; clear hx
          go_enter Tryz.func82, Tryz.ntmps82
          go_wp2_with (first | (go_at_call 141; refine (V _).mono ?_; rintro e w1 ⟨rfl, rfl⟩) | (go_at_call 143; refine (D2 _).mono ?_; rintro e w1 ⟨v, rfl, hv, hb⟩; simp only [Option.isSome]))
          go_ret2
          exact DdPost.som HV.out HL.out HX.out hv hb
      · cases hx : decPct (bl s) [] with
        | none =>
          rw [hx] at D3
          have HX := Lib.hid hx; clear hx
          go_enter Tryz.func82, Tryz.ntmps82
          go_wp2_with (first | (go_at_call 141; refine (V _).mono ?_; rintro e w1 ⟨rfl, rfl⟩) | (go_at_call 144; refine (D3 _).mono ?_; rintro e w1 ⟨v, rfl, hv, hb⟩; simp only [Option.isSome]))
          go_ret2
          exact DdPost.non HV.out HL.out HX.out hb
        | some x =>
          rw [hx] at D3
          have HX := Lib.hid hx; clear hx
          go_enter Tryz.func82, Tryz.ntmps82
          go_wp2_with (first | (go_at_call 141; refine (V _).mono ?_; rintro e w1 ⟨rfl, rfl⟩) | (go_at_call 144; refine (D3 _).mono ?_; rintro e w1 ⟨v, rfl, hv, hb⟩; simp only [Option.isSome]))
          go_ret2
          exact DdPost.som HV.out HL.out HX.out hv hb
      · cases hx : decEsc (bl s) [] with
        | none =>
          rw [hx] at D4
          have HX := Lib.hid hx; clear hx
          go_enter Tryz.func82, Tryz.ntmps82
          go_wp2_with (first | (go_at_call 141; refine (V _).mono ?_; rintro e w1 ⟨rfl, rfl⟩) | (go_at_call 145; refine (D4 _).mono ?_; rintro e w1 ⟨v, rfl, hv, hb⟩; simp only [Option.isSome]))
          go_ret2
          exact DdPost.non HV.out HL.out HX.out hb
        | some x =>
          rw [hx] at D4
          have HX := Lib.hid hx; clear hx
          go_enter Tryz.func82, Tryz.ntmps82
          go_wp2_with (first | (go_at_call 141; refine (V _).mono ?_; rintro e w1 ⟨rfl, rfl⟩) | (go_at_call 145; refine (D4 _).mono ?_; rintro e w1 ⟨v, rfl, hv, hb⟩; simp only [Option.isSome]))
          go_ret2
          exact DdPost.som HV.out HL.out HX.out hv hb
end Go.Proofs.YthmpcdjhighhgaaGreatDoor
namespace Go.Proofs.YthmpcdjhighhgaaGreatDoor
set_option linter.unusedVariables false
set_option linter.unusedSimpArgs false
set_option maxRecDepth 100000
open Go.RowKit
theorem OB.mono {e : TypeId} {B B' : Nat} {v : Value} {l : List UInt8} {w : World} (h : OB e B v l w) (hB : B' ≤ B) : OB e B' v l w := by
  refine ⟨h.1, ?_⟩
  rcases h.2 with h1 | ⟨g, cap, cur, h1, h2, rest⟩
  · exact .inl h1
  · exact .inr ⟨g, cap, cur, h1, Nat.le_trans hB h2, rest⟩
end Go.Proofs.YthmpcdjhighhgaaGreatDoor
