/- Closed facts on the element types of this program's slices. · The tape of numbers: what Next returns lies from 0 on and before its bound, whatever the tape holds; nothing but the tape's own block is written. Condition: the bound is positive. · What the program's table says of edges. -/
import Derived.Test.YtoaibhacognbjaaGreatDoorProg
import Derived.Test.YtoaibhacognbjaaGreatDoorY02
import Derived.Test.YtoaibhacognbjaaGreatDoorY01
namespace Go.Proofs.YtoaibhacognbjaaGreatDoor
set_option linter.unusedVariables false
set_option linter.unusedSimpArgs false
set_option maxRecDepth 100000
theorem info_u8 : (Tryz.prog.info? 5).map (fun i => (i.zero, i.size, i.bytes)) = some (some (.int .u8 0), 1, 1) := by kernel_rfl
theorem info_str : (Tryz.prog.info? 9).map (fun i => (i.zero, i.size, i.bytes)) = some (some (.string ByteArray.empty), 1, 16) := by kernel_rfl
theorem info_int : (Tryz.prog.info? 3).map (fun i => (i.zero, i.size, i.bytes)) = some (some (.int .i64 0), 1, 8) := by kernel_rfl
theorem nat16 {n : Nat} (h : n < 16) : n = 0 ∨ n = 1 ∨ n = 2 ∨ n = 3 ∨ n = 4 ∨ n = 5 ∨ n = 6 ∨ n = 7 ∨ n = 8 ∨ n = 9 ∨ n = 10 ∨ n = 11 ∨ n = 12 ∨ n = 13 ∨ n = 14 ∨ n = 15 := by omega
theorem hex_at {n : Nat} (h : n < 16) : (⟨#[48, 49, 50, 51, 52, 53, 54, 55, 56, 57, 97, 98, 99, 100, 101, 102]⟩ : ByteArray)[n]'(by exact h) = hexd n := by
  rcases nat16 h with h | h | h | h | h | h | h | h | h | h | h | h | h | h | h | h <;> (subst h; rfl)
theorem idx_hex (k : IntKind) (y : Int) (h0 : 0 ≤ y) (h1 : y < 16) (w : World) : (Instr.index 9 (.string ⟨#[48, 49, 50, 51, 52, 53, 54, 55, 56, 57, 97, 98, 99, 100, 101, 102]⟩) (.int k y)).run Tryz.prog w = .ok (.int .u8 (hexd y).toNat) w := by
  obtain ⟨n, rfl⟩ := Int.eq_ofNat_of_zero_le h0
  have hn : n < 16 := by omega
  have h := run_idx_str (P := Tryz.prog) Tryz.underlying9 (⟨#[48, 49, 50, 51, 52, 53, 54, 55, 56, 57, 97, 98, 99, 100, 101, 102]⟩ : ByteArray) n hn k (n : Int) rfl w
  rw [hex_at hn] at h
  exact h
end Go.Proofs.YtoaibhacognbjaaGreatDoor
namespace Go.Proofs.YtoaibhacognbjaaGreatDoor
set_option linter.unusedVariables false
set_option linter.unusedSimpArgs false
set_option maxRecDepth 100000
open Go.RowKit
def TapeOK (b : Nat) (w : World) : Prop := ∃ (a : Option Addr) (n c k : Nat), w.heap[b]? = some (.cells #[.slice a n c, .int .i64 (k : Int)] 25 (0, 0)) ∧ k ≤ n ∧ n ≤ maxLen ∧
  ∀ j, j < n → ∃ ad x, a = some ad ∧ ad.block < b ∧ w.cell? (ad.add j) = some (.int .i64 x)
/-- Nothing but block b and new blocks. -/
def Fr (b : Nat) (w w' : World) : Prop := w.grownBy w' (some b)
theorem Fr.refl (b : Nat) (w : World) : Fr b w w := ⟨rfl, rfl, rfl, Nat.le_refl _, fun _ _ _ => rfl⟩
theorem Fr.trans {b : Nat} {w w1 w2 : World} (h : Fr b w w1) (h' : Fr b w1 w2) : Fr b w w2 :=
  ⟨h'.os.trans h.os, h'.tape.trans h.tape, h'.output.trans h.output, Nat.le_trans h.size h'.size, fun k hk hne => (h'.block k (Nat.lt_of_lt_of_le hk h.size) hne).trans (h.block k hk hne)⟩
theorem Fr.of_below {b : Nat} {w w1 : World} (h : Below w.heap.size w w1) : Fr b w w1 := ⟨h.os, h.tape, h.output, h.size, fun k hk _ => h.block k hk⟩
theorem Fr.below {b B : Nat} {w w1 : World} (h : Fr b w w1) (hB : B ≤ b) (hb : B ≤ w.heap.size) : Below B w w1 :=
  ⟨h.os, h.tape, h.output, h.size, fun k hk => h.block k (by omega) (by intro e; injection e; omega)⟩
theorem Fr.then {b : Nat} {w w1 w2 : World} (h : Fr b w w1) (h' : Below w.heap.size w1 w2) : Fr b w w2 :=
  ⟨h'.os.trans h.os, h'.tape.trans h.tape, h'.output.trans h.output, Nat.le_trans h.size h'.size, fun k hk hne => (h'.block k hk).trans (h.block k hk hne)⟩
theorem TapeOK.lt {b : Nat} {w : World} (h : TapeOK b w) : b < w.heap.size := by
  obtain ⟨a, n, c, k, hb, -⟩ := h
  exact (Array.getElem?_eq_some_iff.1 hb).1
theorem TapeOK.keep {b : Nat} {w w1 : World} (h : TapeOK b w) (hk : ∀ k, k ≤ b → w1.heap[k]? = w.heap[k]?) : TapeOK b w1 := by
  obtain ⟨a, n, c, k, hb, h1, h2, h3⟩ := h
  refine ⟨a, n, c, k, (hk b (Nat.le_refl _)).trans hb, h1, h2, fun j hj => ?_⟩
  obtain ⟨ad, x, ha, hlt, hc⟩ := h3 j hj
  exact ⟨ad, x, ha, hlt, (World.cell?_of_block (by rw [Reads_block]; exact hk _ (Nat.le_of_lt hlt))).trans hc⟩
theorem TapeOK.below {b : Nat} {w w1 : World} (h : TapeOK b w) (hb : Below w.heap.size w w1) : TapeOK b w1 :=
  h.keep fun k hk => hb.block k (Nat.lt_of_le_of_lt hk h.lt)
theorem TapeOK.below' {b B : Nat} {w w1 : World} (h : TapeOK b w) (hb : Below B w w1) (hB : b < B) : TapeOK b w1 :=
  h.keep fun k hk => hb.block k (Nat.lt_of_le_of_lt hk hB)
theorem and_mask (x : Int) : 0 ≤ bits .and .i64 x 65535 ∧ bits .and .i64 x 65535 ≤ 65535 := by
  have hle : (BitVec.ofInt 64 x &&& BitVec.ofInt 64 65535).toNat ≤ 65535 := by
    rw [BitVec.toNat_and]
    exact Nat.le_trans Nat.and_le_right (by decide)
  have e : bits .and .i64 x 65535 = ((BitVec.ofInt 64 x &&& BitVec.ofInt 64 65535).toNat : Int) := by
    unfold bits
    show IntKind.i64.wrap (((BitVec.ofInt 64 x &&& BitVec.ofInt 64 65535).toNat : Nat) : Int) = _
    rw [IntWalk.i64_in _ (by omega)]
  rw [e]; omega
theorem tape_step {b : Nat} {w W : World} (a : Option Addr) (n c k : Nat) (hb : w.heap[b]? = some (.cells #[.slice a n c, .int .i64 (k : Int)] 25 (0, 0))) (hk : k < n) (hn : n ≤ maxLen)
    (hc : ∀ j, j < n → ∃ ad x, a = some ad ∧ ad.block < b ∧ w.cell? (ad.add j) = some (.int .i64 x))
    (h : W.heap = (w.setCell ⟨b, 1, none⟩ (.int .i64 ((k : Int) + 1))).heap) (h1 : W.os = w.os) (h2 : W.tape = w.tape) (h3 : W.output = w.output) : TapeOK b W ∧ Fr b w W := by
  have hne : ∀ i, i ≠ b → W.heap[i]? = w.heap[i]? := fun i hi => by rw [h]; exact Below.heap_setCell _ _ _ _ hi
  have hbb : W.heap[b]? = some (.cells #[.slice a n c, .int .i64 ((k + 1 : Nat) : Int)] 25 (0, 0)) := by
    rw [h]; simp [World.setCell, Array.getElem?_modify, hb]
  refine ⟨⟨a, n, c, k + 1, hbb, by omega, hn, fun j hj => ?_⟩, h1, h2, h3, by rw [h]; simp [World.setCell], fun i _ hi => hne i (fun e => hi (by rw [e]))⟩
  obtain ⟨ad, x, ha, hlt, hcx⟩ := hc j hj
  exact ⟨ad, x, ha, hlt, (World.cell?_of_block (hne _ (by rw [Reads_block]; omega))).trans hcx⟩
def NextPost (b : Nat) (n : Int) (w : World) (e : Ending) (w' : World) : Prop := ∃ r : Int, e = .returned (.int .i64 r) ∧ 0 ≤ r ∧ r < n ∧ TapeOK b w' ∧ Fr b w w'
theorem next_any (b : Nat) (n : Int) (w : World) (hn : 0 < n) (hn2 : n ≤ 65536) (ht : TapeOK b w) :
    Calls Tryz.prog 12 #[.pointer (some ⟨b, 0, none⟩), .int .i64 n] w (NextPost b n w) := by
  have ht0 := Lib.hid ht
  obtain ⟨a, m, c, k, hb, hk, hm, hcell⟩ := ht
  unfold maxLen at hm
  have c0 : w.cell? ⟨b, 0, none⟩ = some (.slice a m c) := by rw [cell_of_row w b 0 _ _ _ hb]; rfl
  have c1 : w.cell? ⟨b, 1, none⟩ = some (.int .i64 (k : Int)) := by rw [cell_of_row w b 1 _ _ _ hb]; rfl
  have f1 : w.frozen? ⟨b, 1, none⟩ = false := by simp [World.frozen?, hb]
  by_cases hlt : k < m
  · obtain ⟨ad, x, rfl, hadb, hcx⟩ := hcell k hlt
    have HB := Lib.hid hb; have HC := Lib.hid hcell; clear hb hcell
    obtain ⟨y, hy⟩ : ∃ y, bits .and .i64 x 65535 = y := ⟨_, rfl⟩
    have hyb := and_mask x
    rw [hy] at hyb
    go_enter Tryz.func12, Tryz.ntmps12
    go_wp2_with fail
    go_quiet (fail)
    go_wp2_with fail
    go_quiet (fail)
    go_wp2
    go_ret
    refine ⟨y % n, rfl, Int.emod_nonneg _ (by omega), Int.emod_lt_of_pos _ hn, ?_⟩
    exact tape_step (some ad) m c k HB.out hlt (by unfold maxLen; omega) HC.out rfl rfl rfl rfl
  · obtain rfl : k = m := by omega
    go_enter Tryz.func12, Tryz.ntmps12
    go_wp2_with fail
    go_quiet (fail)
    go_wp2
    go_ret
    exact ⟨0, rfl, by omega, by omega, ht0.out, ⟨rfl, rfl, rfl, Nat.le_refl _, fun _ _ _ => rfl⟩⟩

/-- Bytes off a tape: a new row of n bytes, whatever they are. -/
def BytesPost (b : Nat) (n : Nat) (w : World) (e : Ending) (w' : World) : Prop := ∃ (v : Value) (l : List UInt8), e = .returned v ∧ l.length = n ∧ OB 5 w.heap.size v l w' ∧ TapeOK b w' ∧ Fr b w w'
theorem OB.keep {e : TypeId} {B : Nat} {v : Value} {l : List UInt8} {w w1 : World} (h : OB e B v l w) (hk : ∀ k, v.ownBlock = some k → w1.heap[k]? = w.heap[k]?) : OB e B v l w1 := by
  refine ⟨h.1, ?_⟩
  rcases h.2 with h1 | ⟨g, cap, cur, rfl, hb, hg, rest⟩
  · exact .inl h1
  · exact .inr ⟨g, cap, cur, rfl, hb, (hk g rfl).trans hg, rest⟩
theorem OB.fr {e : TypeId} {B b : Nat} {v : Value} {l : List UInt8} {w w1 : World} (h : OB e B v l w) (hf : Fr b w w1) (hB : b < B) : OB e B v l w1 :=
  h.keep fun k hk => by
    have h1 := World.ownsRow.lt h k hk
    exact hf.block k h1.2 (by intro e; injection e; omega)
set_option maxHeartbeats 1000000 in
theorem bytes_any (b n : Nat) (w : World) (hn : n ≤ 1000000) (ht : TapeOK b w) :
    Calls Tryz.prog 45 #[.pointer (some ⟨b, 0, none⟩), .int .i64 (n : Int)] w (BytesPost b n w) := by
  obtain ⟨i0, hi, hz0, hz1, hz2⟩ := info_parts info_u8
  have hbs := ht.lt
  go_enter Tryz.func45, Tryz.ntmps45
  go_wp2
  go_loopw [5, 6] (fun v i wr => ∃ (k : Nat) (l : List UInt8), k ≤ n ∧ i = .int .i64 (k : Int) ∧ l.length = k ∧ OB 5 w.heap.size v l wr ∧ TapeOK b wr ∧ Fr b w wr) (fun _ i _ => n - (intOf i).toNat)
  case atStart => exact ⟨0, [], by omega, rfl, rfl, OB.nil_ _ _ _, ht, Fr.refl _ _⟩
  case round =>
    obtain ⟨k, l, hk, rfl, hl, hown, htr, hfr⟩ := hrel
    by_cases hlt : k < n
    · go_wp2_with fail
      refine (next_any b _ _ (by omega) (by omega) htr).mono ?_
      rintro e w1 ⟨r, rfl, hr0, hr1, ht1, hf1⟩
      have hown1 := hown.fr hf1 hbs
      by_cases e0 : r = 0
      · subst e0
        go_wp2_with fail
        refine (next_any b _ _ (by omega) (by omega) ht1).mono ?_
        rintro e w2 ⟨q, rfl, hq0, hq1, ht2, hf2⟩
        have hown2 := hown1.fr hf2 hbs
        obtain ⟨u, c, -, hcu, hc0, hc1, hix⟩ := idx_str Tryz.underlying9 ⟨#[32, 10, 61, 37, 43, 47, 45, 46]⟩ q.toNat (show q.toNat < 8 by omega) .i64 q (by omega)
        go_wp2_with (at_builtin; refine app_u8 Tryz.underlying41 hi hz0 hz1 hz2 _ _ _ _ _ u _ rfl rfl rfl rfl hown2 hcu.out (by omega) (Nat.le_trans hfr.size (Nat.le_trans hf1.size hf2.size)) ?_; intro v1 w3 hown3 hb3 _ _)
        go_roundw
        case rel => exact ⟨k + 1, _, by omega, by go_num, by simp; omega, hown3, ht2.below' hb3 hbs, ((hfr.trans hf1).trans hf2).then hb3⟩
        case measure => simp [intOf]; omega
      by_cases e1 : r = 1
      · subst e1
        go_wp2_with fail
        refine (next_any b _ _ (by omega) (by omega) ht1).mono ?_
        rintro e w2 ⟨q, rfl, hq0, hq1, ht2, hf2⟩
        have hown2 := hown1.fr hf2 hbs
        have hu := byte_nat q.toNat (by omega)
        rw [Int.toNat_of_nonneg hq0] at hu
        have HU := Lib.hid hu; clear hu
        go_wp2_with (at_builtin; refine app_u8 Tryz.underlying41 hi hz0 hz1 hz2 _ _ _ _ _ (UInt8.ofNat q.toNat) _ rfl rfl rfl rfl hown2 HU.out (by omega) (Nat.le_trans hfr.size (Nat.le_trans hf1.size hf2.size)) ?_; intro v1 w3 hown3 hb3 _ _)
        go_roundw
        case rel => exact ⟨k + 1, _, by omega, by go_num, by simp; omega, hown3, ht2.below' hb3 hbs, ((hfr.trans hf1).trans hf2).then hb3⟩
        case measure => simp [intOf]; omega
      by_cases e2 : r = 2 ∨ r = 3
      · rcases e2 with rfl | rfl
        all_goals
          skip
          go_wp2_with fail
          refine (next_any b _ _ (by omega) (by omega) ht1).mono ?_
          rintro e w2 ⟨q, rfl, hq0, hq1, ht2, hf2⟩
          have hown2 := hown1.fr hf2 hbs
          have hu := byte_nat (48 + q).toNat (by omega)
          rw [Int.toNat_of_nonneg (by omega)] at hu
          have HU := Lib.hid hu; clear hu
          go_wp2_with (at_builtin; refine app_u8 Tryz.underlying41 hi hz0 hz1 hz2 _ _ _ _ _ (UInt8.ofNat (48 + q).toNat) _ rfl rfl rfl rfl hown2 HU.out (by omega) (Nat.le_trans hfr.size (Nat.le_trans hf1.size hf2.size)) ?_; intro v1 w3 hown3 hb3 _ _)
          go_roundw
          case rel => exact ⟨k + 1, _, by omega, by go_num, by simp; omega, hown3, ht2.below' hb3 hbs, ((hfr.trans hf1).trans hf2).then hb3⟩
          case measure => simp [intOf]; omega
      have e2' : ¬ r = 2 := fun h => e2 (.inl h)
      have e3' : ¬ r = 3 := fun h => e2 (.inr h)
      clear e2
      · skip
        go_wp2_with fail
        refine (next_any b _ _ (by omega) (by omega) ht1).mono ?_
        rintro e w2 ⟨q, rfl, hq0, hq1, ht2, hf2⟩
        have hown2 := hown1.fr hf2 hbs
        obtain ⟨u, c, -, hcu, hc0, hc1, hix⟩ := idx_str Tryz.underlying9 ⟨#[97, 98, 99, 100, 101, 102, 116, 107]⟩ q.toNat (show q.toNat < 8 by omega) .i64 q (by omega)
        go_wp2_with (at_builtin; refine app_u8 Tryz.underlying41 hi hz0 hz1 hz2 _ _ _ _ _ u _ rfl rfl rfl rfl hown2 hcu.out (by omega) (Nat.le_trans hfr.size (Nat.le_trans hf1.size hf2.size)) ?_; intro v1 w3 hown3 hb3 _ _)
        go_roundw
        case rel => exact ⟨k + 1, _, by omega, by go_num, by simp; omega, hown3, ht2.below' hb3 hbs, ((hfr.trans hf1).trans hf2).then hb3⟩
        case measure => simp [intOf]; omega
    · obtain rfl : k = n := by omega
      go_wp2
      go_ret
      exact ⟨_, l, rfl, hl, hown, htr, hfr⟩
end Go.Proofs.YtoaibhacognbjaaGreatDoor
namespace Go.Proofs.YtoaibhacognbjaaGreatDoor
set_option linter.unusedVariables false
set_option linter.unusedSimpArgs false
set_option maxRecDepth 100000
open Go.RowKit
theorem info_ed : (Tryz.prog.info? 169).map (fun i => (i.zero, i.size, i.bytes)) = some (some (.agg #[.int .u8 0, .int .u8 0, .int .i64 0]), 3, 16) := by kernel_rfl
end Go.Proofs.YtoaibhacognbjaaGreatDoor
