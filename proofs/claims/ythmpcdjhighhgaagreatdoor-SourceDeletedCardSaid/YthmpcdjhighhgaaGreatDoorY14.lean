/- Walks of the reference's encoder of the second coding and of its escape. -/
import Derived.Deep.RegionHeld3
import Derived.StillTailTactics
import Derived.Test.YthmpcdjhighhgaaGreatDoorY11
import Derived.Test.YthmpcdjhighhgaaGreatDoorY13
namespace Go.Proofs.YthmpcdjhighhgaaGreatDoor
set_option linter.unusedVariables false
set_option linter.unusedSimpArgs false
set_option maxRecDepth 100000
open Go.RowKit
def EncPost (l : List UInt8) (w : World) (e : Ending) (w' : World) : Prop := ∃ v, e = .returned v ∧ OB 5 w.heap.size v l w' ∧ Below w.heap.size w w'
theorem OB.drewA {e : TypeId} {B : Nat} {v : Value} {l : List UInt8} {w : World} (h : OB e B v l w) : OB e B v l w.drew := h
/-- 'out = append(out, ..)' of bytes in a new block. -/
theorem app_bytes {P : Program} {T e : TypeId} {i0 : TypeInfo} (ht : P.underlying T = some (.slice e)) (hi : P.info? e = some i0) (hz0 : i0.zero = some (.int .u8 0)) (hz1 : i0.size = 1) (hz2 : i0.bytes = 1)
    {w : World} {ops : Array Oper} {rest : List Oper} {o : Oper} {a : Act} {Q : Exit → Act → World → Prop} (s x : Operand) (v : Value) (m c : Nat) (l us : List UInt8) (news : List Value) (B : Nat)
    (hgd : o.guard = none) (ho : o.op = .call { callee := .builtin .append, args := #[s, x], argTypes := #[T, T] })
    (hs : a.eval s = v) (hx : a.eval x = .slice (some ⟨w.heap.size, 0, none⟩) m c) (hm : m = us.length) (hnews : news = us.map fun c => Value.int .u8 c.toNat) (hown : OB e B v l w) (hl : l.length < 500000000) (hl2 : us.length < 1000000) (hB : B ≤ w.heap.size)
    (h : ∀ v' w1, OB e B v' (l ++ us) w1 → Below B w w1 → wpList P ops Q rest (a.put o.dst v') w1) :
    wpList P ops Q (o :: rest) a (w.alloc (.cells news.toArray e)) := by
  subst hnews hm
  refine app_new ht hi hz0 hz1 hz2 rfl s x v l.length _ c _ _ B hgd ho hs hx (by simp) hown (oneCell_bytes us) (by omega) (by omega) hB ?_
  intro v' w1 h1 h2 _
  exact h v' w1 (by simpa [OB] using h1) h2
theorem b64_full (l o R : List UInt8) (k : Nat) (h : 3 * k + 2 < l.length) (HR : Hid (o ++ b64E (l.drop (3 * k)) = R)) (X : Int) (hX : X = (l[3 * k]'(by omega)).toNat * 65536 + (l[3 * k + 1]'(by omega)).toNat * 256 + (l[3 * k + 2]).toNat) :
    Hid ((o ++ [sgnB (X / 262144), sgnB (X / 4096 % 64), sgnB (X / 64 % 64), sgnB (X % 64)]) ++ b64E (l.drop (3 * (k + 1))) = R) := by
  show _ = _
  rw [← HR.out, List.drop_eq_getElem_cons (show 3 * k < l.length by omega), List.drop_eq_getElem_cons (show 3 * k + 1 < l.length by omega), List.drop_eq_getElem_cons (show 3 * k + 1 + 1 < l.length by omega), b64E]
  have h0 := (l[3 * k]'(by omega)).toNat_lt
  have h1 := (l[3 * k + 1]'(by omega)).toNat_lt
  have h2 := (l[3 * k + 2]).toNat_lt
  rw [show (l[3 * k + 1 + 1]'(by omega)) = l[3 * k + 2] from rfl]
  subst hX
  rw [List.append_assoc]
  congr 1
  simp only [List.cons_append, List.nil_append, List.cons.injEq]
  refine ⟨?_, ?_, ?_, ?_, by congr 1⟩ <;> (congr 1; omega)
theorem b64_two (l o R : List UInt8) (k : Nat) (h : 3 * k + 2 = l.length) (HR : Hid (o ++ b64E (l.drop (3 * k)) = R)) (X : Int) (hX : X = (l[3 * k]'(by omega)).toNat * 65536 + (l[3 * k + 1]'(by omega)).toNat * 256) :
    Hid ((o ++ [sgnB (X / 262144), sgnB (X / 4096 % 64), sgnB (X / 64 % 64), 61]) ++ b64E (l.drop (3 * (k + 1))) = R) := by
  show _ = _
  rw [← HR.out, List.drop_eq_getElem_cons (show 3 * k < l.length by omega), List.drop_eq_getElem_cons (show 3 * k + 1 < l.length by omega), List.drop_eq_nil_of_le (show l.length ≤ 3 * k + 1 + 1 by omega), List.drop_eq_nil_of_le (show l.length ≤ 3 * (k + 1) by omega), b64E]
  have h0 := (l[3 * k]'(by omega)).toNat_lt
  have h1 := (l[3 * k + 1]'(by omega)).toNat_lt
  subst hX
  rw [List.append_assoc]
  congr 1
  simp only [b64E, List.append_nil, List.cons.injEq]
  refine ⟨?_, ?_, ?_, trivial⟩ <;> (congr 1; omega)
theorem b64_one (l o R : List UInt8) (k : Nat) (h : 3 * k + 1 = l.length) (HR : Hid (o ++ b64E (l.drop (3 * k)) = R)) (X : Int) (hX : X = (l[3 * k]'(by omega)).toNat * 65536) :
    Hid ((o ++ [sgnB (X / 262144), sgnB (X / 4096 % 64), 61, 61]) ++ b64E (l.drop (3 * (k + 1))) = R) := by
  show _ = _
  rw [← HR.out, List.drop_eq_getElem_cons (show 3 * k < l.length by omega), List.drop_eq_nil_of_le (show l.length ≤ 3 * k + 1 by omega), List.drop_eq_nil_of_le (show l.length ≤ 3 * (k + 1) by omega), b64E]
  have h0 := (l[3 * k]'(by omega)).toNat_lt
  subst hX
  rw [List.append_assoc]
  congr 1
  simp only [b64E, List.append_nil, List.cons.injEq]
  refine ⟨?_, ?_, trivial⟩ <;> (congr 1; omega)
theorem and63 (x : Int) (h0 : 0 ≤ x) (h1 : x < 16777216) : bits .and .i64 x 63 = x % 64 := and_rem x 63 64 6 (by decide) (by decide) (by decide) h0 (by omega)
set_option maxRecDepth 100000 in
set_option maxHeartbeats 4000000 in
theorem base64_ref (v : Value) (l : List UInt8) (w : World) (hl : l.length ≤ 100000) (hv : BIn w.heap.size w v l) :
    Calls Tryz.prog 16 #[v] w (EncPost (b64E l) w) := by
  obtain ⟨i0, hi, hz0, hz1, hz2⟩ := info_parts info_u8
  obtain ⟨A, n, c, rfl, rfl, -, hcell⟩ := hv
  go_enter Tryz.func16, Tryz.ntmps16
  go_wp2
  go_loopw [3, 4] (fun v i wr => ∃ (k : Nat) (o : List UInt8), 3 * k < l.length + 3 ∧ i = .int .i64 (3 * (k : Int)) ∧ OB 5 w.heap.size v o wr ∧ o.length ≤ 4 * k ∧ Below w.heap.size w wr ∧ Hid (o ++ b64E (l.drop (3 * k)) = b64E l)) (fun _ i _ => l.length - (intOf i).toNat)
  case atStart => exact ⟨0, [], by omega, rfl, OB.nil_ _ _ _, by simp, Below.refl _ _, rfl⟩
  case round =>
    obtain ⟨k, o, hk, rfl, hown, ho, hbel, HR⟩ := hrel
    by_cases hlt : 3 * k < l.length
    · have hd : decide (3 * (k : Int) < l.length) = true := decide_eq_true (by omega)
      obtain ⟨ad, rfl, hadb, hcs⟩ := hcell.resolve_left (by omega)
      have hcw : ∀ j (h : j < l.length), wr.cell? (ad.add j) = some (.int .u8 l[j].toNat) := fun j h => (World.cell?_of_block (by rw [Reads_block]; exact hbel.block ad.block hadb)).trans (hcs j h)
      have hownd := hown.drewA
      have hbeld := hbel.drew
      have hzd := hbeld.size
      clear hcs hcell
      have hn1 : (3 * (k : Int) + 1).toNat = 3 * k + 1 := by omega
      have hn2 : (3 * (k : Int) + 2).toNat = 3 * k + 2 := by omega
      by_cases h2 : 3 * k + 2 < l.length
      · have HB := b64_full l o _ k h2 HR
        have hc0 := hcw (3 * k) (by omega)
        have hc1 := hcw (3 * k + 1) (by omega)
        have hc2 := hcw (3 * k + 2) (by omega)
        clear hcw HR
        obtain ⟨a, ha', ha0, ha1⟩ := (⟨_, rfl, by omega, byte_lt _⟩ : ∃ c : Int, ((l[3 * k]'(by omega)).toNat : Int) = c ∧ 0 ≤ c ∧ c < 256)
        rw [ha'] at hc0 HB
        obtain ⟨b, hb', hb0, hb1⟩ := (⟨_, rfl, by omega, byte_lt _⟩ : ∃ c : Int, ((l[3 * k + 1]'(by omega)).toNat : Int) = c ∧ 0 ≤ c ∧ c < 256)
        rw [hb'] at hc1 HB
        obtain ⟨d, hd', hd0, hd1⟩ := (⟨_, rfl, by omega, byte_lt _⟩ : ∃ c : Int, ((l[3 * k + 2]'(by omega)).toNat : Int) = c ∧ 0 ≤ c ∧ c < 256)
        rw [hd'] at hc2 HB
        clear ha' hb' hd'
        have hc1' : wr.cell? { block := ad.block, off := ad.off + (3 * k + 1) } = some (Value.int IntKind.u8 b) := hc1
        clear hc1
        have hc2' : wr.cell? { block := ad.block, off := ad.off + (3 * k + 2) } = some (Value.int IntKind.u8 d) := hc2
        clear hc2
        obtain ⟨X, hX⟩ : ∃ X, X = a * 65536 + b * 256 + d := ⟨_, rfl⟩
        have HB := HB X hX
        have or1 : bits .or .i64 (a * 65536) (b * 256) = a * 65536 + b * 256 := or_sum a (b * 256) 65536 16 (by decide) ha0 (by omega) (by omega) (by omega)
        have or2 : bits .or .i64 (a * 65536 + b * 256) d = X := by
          have h := or_sum (a * 256 + b) d 256 8 (by decide) (by omega) hd0 (by omega) (by omega)
          rw [show (a * 256 + b) * 256 = a * 65536 + b * 256 by omega] at h
          rw [h, hX]
        have hX0 : 0 ≤ X := by omega
        have hX1 : X < 16777216 := by omega
        clear hX
        have ix0 := idx_sgnB .i64 (X / 262144) (by omega) (by omega)
        have ix1 := idx_sgnB .i64 (X / 4096 % 64) (by omega) (by omega)
        have ix2 := idx_sgnB .i64 (X / 64 % 64) (by omega) (by omega)
        have ix3 := idx_sgnB .i64 (X % 64) (by omega) (by omega)
        unfold signs at ix0 ix1 ix2 ix3
        have an1 := and63 (X / 4096) (by omega) (by omega)
        have an2 := and63 (X / 64) (by omega) (by omega)
        have an3 := and63 X (by omega) (by omega)
        obtain ⟨y0, hy0⟩ : ∃ y, X / 262144 = y := ⟨_, rfl⟩
        rw [hy0] at ix0 HB
        generalize X / 4096 % 64 = y1 at *
        generalize X / 64 % 64 = y2 at *
        generalize X % 64 = y3 at *
        generalize sgnB y0 = z0 at *
        generalize sgnB y1 = z1 at *
        generalize sgnB y2 = z2 at *
        generalize sgnB y3 = z3 at *
        have hd1 : decide (3 * (k : Int) + 1 < l.length) = true := decide_eq_true (by omega)
        have hd2 : decide (3 * (k : Int) + 2 < l.length) = true := decide_eq_true (by omega)
        have hd3 : decide ((l.length : Int) ≤ 3 * (k : Int) + 1) = false := decide_eq_false (by omega)
        have hd4 : decide ((l.length : Int) ≤ 3 * (k : Int) + 2) = false := decide_eq_false (by omega)
        go_wp2_with fail
        go_still_tail 14, (by kernel_rfl)
        go_wp2_with (at_builtin; refine app_bytes Tryz.underlying30 hi hz0 hz1 hz2 _ _ _ _ _ o [z0, z1, z2, z3] _ _ rfl rfl rfl rfl rfl rfl hownd (by omega) (by simp) hzd ?_; intro v1 w3 hown3 hb3)
        go_roundw
        case rel => exact ⟨k + 1, _, by omega, by go_num, hown3, by simp; omega, hbeld.trans hb3, HB⟩
        case measure => simp [intOf]; omega
      by_cases h3 : 3 * k + 2 = l.length
      · have HB := b64_two l o _ k h3 HR
        have H3 := Lib.hid h3; clear h2
        have hq : 3 * k + 1 < l.length := by omega
        have hc0 := hcw (3 * k) (by omega)
        have hc1 := hcw (3 * k + 1) (by omega)
        clear hcw HR
        obtain ⟨a, ha', ha0, ha1⟩ := (⟨_, rfl, by omega, byte_lt _⟩ : ∃ c : Int, ((l[3 * k]'(by omega)).toNat : Int) = c ∧ 0 ≤ c ∧ c < 256)
        rw [ha'] at hc0 HB
        obtain ⟨b, hb', hb0, hb1⟩ := (⟨_, rfl, by omega, byte_lt _⟩ : ∃ c : Int, ((l[3 * k + 1]'(by omega)).toNat : Int) = c ∧ 0 ≤ c ∧ c < 256)
        rw [hb'] at hc1 HB
        clear ha' hb'
        have hc1' : wr.cell? { block := ad.block, off := ad.off + (3 * k + 1) } = some (Value.int IntKind.u8 b) := hc1
        clear hc1
        obtain ⟨X, hX⟩ : ∃ X, X = a * 65536 + b * 256 := ⟨_, rfl⟩
        have HB := HB X hX
        have or1 : bits .or .i64 (a * 65536) (b * 256) = X := hX.symm ▸ or_sum a (b * 256) 65536 16 (by decide) ha0 (by omega) (by omega) (by omega)
        have hX0 : 0 ≤ X := by omega
        have hX1 : X < 16777216 := by omega
        clear hX
        have ix0 := idx_sgnB .i64 (X / 262144) (by omega) (by omega)
        have ix1 := idx_sgnB .i64 (X / 4096 % 64) (by omega) (by omega)
        have ix2 := idx_sgnB .i64 (X / 64 % 64) (by omega) (by omega)
        have ix3 := idx_sgnB .i64 (X % 64) (by omega) (by omega)
        unfold signs at ix0 ix1 ix2 ix3
        have an1 := and63 (X / 4096) (by omega) (by omega)
        have an2 := and63 (X / 64) (by omega) (by omega)
        have an3 := and63 X (by omega) (by omega)
        obtain ⟨y0, hy0⟩ : ∃ y, X / 262144 = y := ⟨_, rfl⟩
        rw [hy0] at ix0 HB
        generalize X / 4096 % 64 = y1 at *
        generalize X / 64 % 64 = y2 at *
        generalize X % 64 = y3 at *
        generalize sgnB y0 = z0 at *
        generalize sgnB y1 = z1 at *
        generalize sgnB y2 = z2 at *
        generalize sgnB y3 = z3 at *
        have hd1 : decide (3 * (k : Int) + 1 < l.length) = true := decide_eq_true (by omega)
        have hd2 : decide (3 * (k : Int) + 2 < l.length) = false := decide_eq_false (by omega)
        have hd3 : decide ((l.length : Int) ≤ 3 * (k : Int) + 1) = false := decide_eq_false (by omega)
        have hd4 : decide ((l.length : Int) ≤ 3 * (k : Int) + 2) = true := decide_eq_true (by omega)
        clear h3
        have hq2 : 3 * (k : Int) + 1 < l.length := by omega
        go_wp2_with fail
        go_still_tail 14, (by kernel_rfl)
        go_wp2_with (at_builtin; refine app_bytes Tryz.underlying30 hi hz0 hz1 hz2 _ _ _ _ _ o [z0, z1, z2, 61] _ _ rfl rfl rfl rfl rfl rfl hownd (by omega) (by simp) hzd ?_; intro v1 w3 hown3 hb3)
        go_roundw
        case rel => exact ⟨k + 1, _, by have := H3.out; omega, by go_num, hown3, by simp; omega, hbeld.trans hb3, HB⟩
        case measure => simp [intOf]; omega
      · have h4 : 3 * k + 1 = l.length := by omega
        have HB := b64_one l o _ k h4 HR
        have H3 := Lib.hid h4; clear h2 h3
        have hc0 := hcw (3 * k) (by omega)
        clear hcw HR
        obtain ⟨a, ha', ha0, ha1⟩ := (⟨_, rfl, by omega, byte_lt _⟩ : ∃ c : Int, ((l[3 * k]'(by omega)).toNat : Int) = c ∧ 0 ≤ c ∧ c < 256)
        rw [ha'] at hc0 HB
        clear ha'
        obtain ⟨X, hX⟩ : ∃ X, X = a * 65536 := ⟨_, rfl⟩
        have HB := HB X hX
        have hX0 : 0 ≤ X := by omega
        have hX1 : X < 16777216 := by omega
        have hXX := hX.symm
        clear hX
        have ix0 := idx_sgnB .i64 (X / 262144) (by omega) (by omega)
        have ix1 := idx_sgnB .i64 (X / 4096 % 64) (by omega) (by omega)
        have ix2 := idx_sgnB .i64 (X / 64 % 64) (by omega) (by omega)
        have ix3 := idx_sgnB .i64 (X % 64) (by omega) (by omega)
        unfold signs at ix0 ix1 ix2 ix3
        have an1 := and63 (X / 4096) (by omega) (by omega)
        have an2 := and63 (X / 64) (by omega) (by omega)
        have an3 := and63 X (by omega) (by omega)
        obtain ⟨y0, hy0⟩ : ∃ y, X / 262144 = y := ⟨_, rfl⟩
        rw [hy0] at ix0 HB
        generalize X / 4096 % 64 = y1 at *
        generalize X / 64 % 64 = y2 at *
        generalize X % 64 = y3 at *
        generalize sgnB y0 = z0 at *
        generalize sgnB y1 = z1 at *
        generalize sgnB y2 = z2 at *
        generalize sgnB y3 = z3 at *
        have hd1 : decide (3 * (k : Int) + 1 < l.length) = false := decide_eq_false (by omega)
        have hd2 : decide (3 * (k : Int) + 2 < l.length) = false := decide_eq_false (by omega)
        have hd3 : decide ((l.length : Int) ≤ 3 * (k : Int) + 1) = true := decide_eq_true (by omega)
        have hd4 : decide ((l.length : Int) ≤ 3 * (k : Int) + 2) = true := decide_eq_true (by omega)
        clear h4
        go_wp2_with fail
        go_still_tail 14, (by kernel_rfl)
        go_wp2_with (at_builtin; refine app_bytes Tryz.underlying30 hi hz0 hz1 hz2 _ _ _ _ _ o [z0, z1, 61, 61] _ _ rfl rfl rfl rfl rfl rfl hownd (by omega) (by simp) hzd ?_; intro v1 w3 hown3 hb3)
        go_roundw
        case rel => exact ⟨k + 1, _, by have := H3.out; omega, by go_num, hown3, by simp; omega, hbeld.trans hb3, HB⟩
        case measure => simp [intOf]; omega
    · have hd : decide (3 * (k : Int) < l.length) = false := decide_eq_false (by omega)
      have hfin : o = b64E l := by rw [← HR.out, List.drop_eq_nil_of_le (by omega)]; simp [b64E]
      have HF := Lib.hid hfin; clear hfin
      go_wp2
      go_ret
      exact ⟨_, rfl, HF.out ▸ hown, hbel⟩
theorem escape_ref (c : Int) (u : UInt8) (hu : Hid (c = u.toNat)) (h0 : 0 ≤ c) (h1 : c < 256) (w : World) :
    Calls Tryz.prog 18 #[.int .u8 c] w fun e w' => ∃ m cap, e = .returned (.slice (some ⟨w.heap.size, 0, none⟩) (escE u).length cap) ∧ w' = (w.drewN m).alloc (.cells ((escE u).map fun c => Value.int .u8 c.toNat).toArray 5) := by
  rcases (show c = 10 ∨ c = 13 ∨ c = 9 ∨ c = 92 ∨ (c ≠ 10 ∧ c ≠ 13 ∧ c ≠ 9 ∧ c ≠ 92) by omega) with hq | hq | hq | hq | ⟨q1, q2, q3, q4⟩
  · have HS := Lib.hid (show escE u = [92, 110] by rw [u8_of (n := 10) hu (by decide) hq]; rfl)
    clear hu
    subst hq
    go_enter Tryz.func18, Tryz.ntmps18
    go_wp2
    go_ret
    rw [HS.out]; exact ⟨0, _, rfl, rfl⟩
  · have HS := Lib.hid (show escE u = [92, 114] by rw [u8_of (n := 13) hu (by decide) hq]; rfl)
    clear hu
    subst hq
    go_enter Tryz.func18, Tryz.ntmps18
    go_wp2
    go_ret
    rw [HS.out]; exact ⟨0, _, rfl, rfl⟩
  · have HS := Lib.hid (show escE u = [92, 116] by rw [u8_of (n := 9) hu (by decide) hq]; rfl)
    clear hu
    subst hq
    go_enter Tryz.func18, Tryz.ntmps18
    go_wp2
    go_ret
    rw [HS.out]; exact ⟨0, _, rfl, rfl⟩
  · have HS := Lib.hid (show escE u = [92, 92] by rw [u8_of (n := 92) hu (by decide) hq]; rfl)
    clear hu
    subst hq
    go_enter Tryz.func18, Tryz.ntmps18
    go_wp2
    go_ret
    rw [HS.out]; exact ⟨0, _, rfl, rfl⟩
  · by_cases hp : c < 32 ∨ 126 < c
    · have HS := Lib.hid (esc_hex hu q1 q2 q3 q4 hp)
      obtain ⟨y, hy⟩ : ∃ y, bits .and .u8 c 15 = y := ⟨_, rfl⟩
      have hyb : c % 16 = y := by rw [← hy]; exact (and15_u8 c h0 h1).symm
      rw [hyb] at HS
      have hy0 : 0 ≤ y := by omega
      have hy1 : y < 16 := by omega
      have hix := idx_hex .u8 (c / 16) (by omega) (by omega)
      have hix2 := idx_hex .u8 y hy0 hy1
      clear hyb
      generalize hexd (c / 16) = a at *
      generalize hexd y = b at *
      clear hu
      have q1' : (c == 10) = false := beq_eq_false_iff_ne.2 q1
      have q2' : (c == 13) = false := beq_eq_false_iff_ne.2 q2
      have q3' : (c == 9) = false := beq_eq_false_iff_ne.2 q3
      have q4' : (c == 92) = false := beq_eq_false_iff_ne.2 q4
      by_cases hp1 : c < 32
      · have hp1' : decide (c < 32) = true := decide_eq_true hp1
        clear hp q1 q2 q3 q4
        go_enter Tryz.func18, Tryz.ntmps18
        go_wp2_with fail
        go_still_tail 6, (by kernel_rfl)
        go_wp2
        go_ret
        rw [HS.out]; exact ⟨1, _, rfl, rfl⟩
      · have hp1' : decide (c < 32) = false := decide_eq_false hp1
        have hp2' : decide (127 ≤ c) = true := decide_eq_true (by omega)
        clear hp q1 q2 q3 q4
        go_enter Tryz.func18, Tryz.ntmps18
        go_wp2_with fail
        go_still_tail 6, (by kernel_rfl)
        go_wp2
        go_ret
        rw [HS.out]; exact ⟨1, _, rfl, rfl⟩
    · have HS := Lib.hid (esc_own1 hu q1 q2 q3 q4 (by omega) (by omega))
      have q1' : (c == 10) = false := beq_eq_false_iff_ne.2 q1
      have q2' : (c == 13) = false := beq_eq_false_iff_ne.2 q2
      have q3' : (c == 9) = false := beq_eq_false_iff_ne.2 q3
      have q4' : (c == 92) = false := beq_eq_false_iff_ne.2 q4
      have hp1' : decide (c < 32) = false := decide_eq_false (by omega)
      have hp2' : decide (127 ≤ c) = false := decide_eq_false (by omega)
      clear hp q1 q2 q3 q4
      go_enter Tryz.func18, Tryz.ntmps18
      go_wp2
      go_ret
      rw [HS.out]; exact ⟨0, _, rfl, by rw [hu.out]; rfl⟩
end Go.Proofs.YthmpcdjhighhgaaGreatDoor
