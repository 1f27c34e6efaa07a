/- Closed facts on the element types of this program's slices. · The tape of numbers: what Next returns lies from 0 on and before its bound, whatever the tape holds; nothing but the tape's own block is written. Condition: the bound is positive. · Walks of the leaves of the codings: each contract says what the function returns. · Walks of 'two' and of the decoders of hexadecimal digits. · The library comparison of ints. · What a call of a law is handed as its tape, and the tape that it makes of it. -/
import Derived.Test.YthmpcdjhighhgaaGreatDoorProg
import Derived.Test.YthmpcdjhighhgaaGreatDoorY02
import Derived.Test.YthmpcdjhighhgaaGreatDoorY01
namespace Go.Proofs.YthmpcdjhighhgaaGreatDoor
set_option linter.unusedVariables false
set_option linter.unusedSimpArgs false
set_option maxRecDepth 100000
theorem info_u8 : (Tryz.prog.info? 5).map (fun i => (i.zero, i.size, i.bytes)) = some (some (.int .u8 0), 1, 1) := by kernel_rfl
theorem info_str : (Tryz.prog.info? 9).map (fun i => (i.zero, i.size, i.bytes)) = some (some (.string ByteArray.empty), 1, 16) := by kernel_rfl
theorem info_int : (Tryz.prog.info? 3).map (fun i => (i.zero, i.size, i.bytes)) = some (some (.int .i64 0), 1, 8) := by kernel_rfl
theorem nat16 {n : Nat} (h : n < 16) : n = 0 ∨ n = 1 ∨ n = 2 ∨ n = 3 ∨ n = 4 ∨ n = 5 ∨ n = 6 ∨ n = 7 ∨ n = 8 ∨ n = 9 ∨ n = 10 ∨ n = 11 ∨ n = 12 ∨ n = 13 ∨ n = 14 ∨ n = 15 := by omega
theorem hex_at {n : Nat} (h : n < 16) : (⟨#[48, 49, 50, 51, 52, 53, 54, 55, 56, 57, 97, 98, 99, 100, 101, 102]⟩ : ByteArray)[n]'(by exact h) = hexd n := by
  rcases nat16 h with h | h | h | h | h | h | h | h | h | h | h | h | h | h | h | h <;> (subst h; rfl)
theorem idx_hex (k : IntKind) (y : Int) (h0 : 0 ≤ y) (h1 : y < 16) (w : World) : (Instr.index 9 (.string ⟨#[48, 49, 50, 51, 52, 53, 54, 55, 56, 57, 97, 98, 99, 100, 101, 102]⟩) (.int k y)).run Tryz.prog w = .ok (.int .u8 (hexd y).toNat) w := by
  obtain ⟨n, rfl⟩ := Int.eq_ofNat_of_zero_le h0
  have hn : n < 16 := by omega
  have h := run_idx_str (P := Tryz.prog) Tryz.underlying9 (⟨#[48, 49, 50, 51, 52, 53, 54, 55, 56, 57, 97, 98, 99, 100, 101, 102]⟩ : ByteArray) n hn k (n : Int) rfl w
  rw [hex_at hn] at h
  exact h
end Go.Proofs.YthmpcdjhighhgaaGreatDoor
namespace Go.Proofs.YthmpcdjhighhgaaGreatDoor
set_option linter.unusedVariables false
set_option linter.unusedSimpArgs false
set_option maxRecDepth 100000
open Go.RowKit
def TapeOK (b : Nat) (w : World) : Prop := ∃ (a : Option Addr) (n c k : Nat), w.heap[b]? = some (.cells #[.slice a n c, .int .i64 (k : Int)] 25 (0, 0)) ∧ k ≤ n ∧ n ≤ maxLen ∧
  ∀ j, j < n → ∃ ad x, a = some ad ∧ ad.block < b ∧ w.cell? (ad.add j) = some (.int .i64 x)
/-- Nothing but block b and new blocks. -/
def Fr (b : Nat) (w w' : World) : Prop := w.grownBy w' (some b)
theorem Fr.refl (b : Nat) (w : World) : Fr b w w := ⟨rfl, rfl, rfl, Nat.le_refl _, fun _ _ _ => rfl⟩
theorem Fr.trans {b : Nat} {w w1 w2 : World} (h : Fr b w w1) (h' : Fr b w1 w2) : Fr b w w2 :=
  ⟨h'.os.trans h.os, h'.tape.trans h.tape, h'.output.trans h.output, Nat.le_trans h.size h'.size, fun k hk hne => (h'.block k (Nat.lt_of_lt_of_le hk h.size) hne).trans (h.block k hk hne)⟩
theorem Fr.of_below {b : Nat} {w w1 : World} (h : Below w.heap.size w w1) : Fr b w w1 := ⟨h.os, h.tape, h.output, h.size, fun k hk _ => h.block k hk⟩
theorem Fr.below {b B : Nat} {w w1 : World} (h : Fr b w w1) (hB : B ≤ b) (hb : B ≤ w.heap.size) : Below B w w1 :=
  ⟨h.os, h.tape, h.output, h.size, fun k hk => h.block k (by omega) (by intro e; injection e; omega)⟩
theorem Fr.then {b : Nat} {w w1 w2 : World} (h : Fr b w w1) (h' : Below w.heap.size w1 w2) : Fr b w w2 :=
  ⟨h'.os.trans h.os, h'.tape.trans h.tape, h'.output.trans h.output, Nat.le_trans h.size h'.size, fun k hk hne => (h'.block k hk).trans (h.block k hk hne)⟩
theorem TapeOK.lt {b : Nat} {w : World} (h : TapeOK b w) : b < w.heap.size := by
  obtain ⟨a, n, c, k, hb, -⟩ := h
  exact (Array.getElem?_eq_some_iff.1 hb).1
theorem TapeOK.keep {b : Nat} {w w1 : World} (h : TapeOK b w) (hk : ∀ k, k ≤ b → w1.heap[k]? = w.heap[k]?) : TapeOK b w1 := by
  obtain ⟨a, n, c, k, hb, h1, h2, h3⟩ := h
  refine ⟨a, n, c, k, (hk b (Nat.le_refl _)).trans hb, h1, h2, fun j hj => ?_⟩
  obtain ⟨ad, x, ha, hlt, hc⟩ := h3 j hj
  exact ⟨ad, x, ha, hlt, (World.cell?_of_block (by rw [Reads_block]; exact hk _ (Nat.le_of_lt hlt))).trans hc⟩
theorem TapeOK.below {b : Nat} {w w1 : World} (h : TapeOK b w) (hb : Below w.heap.size w w1) : TapeOK b w1 :=
  h.keep fun k hk => hb.block k (Nat.lt_of_le_of_lt hk h.lt)
theorem TapeOK.below' {b B : Nat} {w w1 : World} (h : TapeOK b w) (hb : Below B w w1) (hB : b < B) : TapeOK b w1 :=
  h.keep fun k hk => hb.block k (Nat.lt_of_le_of_lt hk hB)
theorem and_mask (x : Int) : 0 ≤ bits .and .i64 x 65535 ∧ bits .and .i64 x 65535 ≤ 65535 := by
  have hle : (BitVec.ofInt 64 x &&& BitVec.ofInt 64 65535).toNat ≤ 65535 := by
    rw [BitVec.toNat_and]
    exact Nat.le_trans Nat.and_le_right (by decide)
  have e : bits .and .i64 x 65535 = ((BitVec.ofInt 64 x &&& BitVec.ofInt 64 65535).toNat : Int) := by
    unfold bits
    show IntKind.i64.wrap (((BitVec.ofInt 64 x &&& BitVec.ofInt 64 65535).toNat : Nat) : Int) = _
    rw [IntWalk.i64_in _ (by omega)]
  rw [e]; omega
theorem tape_step {b : Nat} {w W : World} (a : Option Addr) (n c k : Nat) (hb : w.heap[b]? = some (.cells #[.slice a n c, .int .i64 (k : Int)] 25 (0, 0))) (hk : k < n) (hn : n ≤ maxLen)
    (hc : ∀ j, j < n → ∃ ad x, a = some ad ∧ ad.block < b ∧ w.cell? (ad.add j) = some (.int .i64 x))
    (h : W.heap = (w.setCell ⟨b, 1, none⟩ (.int .i64 ((k : Int) + 1))).heap) (h1 : W.os = w.os) (h2 : W.tape = w.tape) (h3 : W.output = w.output) : TapeOK b W ∧ Fr b w W := by
  have hne : ∀ i, i ≠ b → W.heap[i]? = w.heap[i]? := fun i hi => by rw [h]; exact Below.heap_setCell _ _ _ _ hi
  have hbb : W.heap[b]? = some (.cells #[.slice a n c, .int .i64 ((k + 1 : Nat) : Int)] 25 (0, 0)) := by
    rw [h]; simp [World.setCell, Array.getElem?_modify, hb]
  refine ⟨⟨a, n, c, k + 1, hbb, by omega, hn, fun j hj => ?_⟩, h1, h2, h3, by rw [h]; simp [World.setCell], fun i _ hi => hne i (fun e => hi (by rw [e]))⟩
  obtain ⟨ad, x, ha, hlt, hcx⟩ := hc j hj
  exact ⟨ad, x, ha, hlt, (World.cell?_of_block (hne _ (by rw [Reads_block]; omega))).trans hcx⟩
def NextPost (b : Nat) (n : Int) (w : World) (e : Ending) (w' : World) : Prop := ∃ r : Int, e = .returned (.int .i64 r) ∧ 0 ≤ r ∧ r < n ∧ TapeOK b w' ∧ Fr b w w'
theorem next_any (b : Nat) (n : Int) (w : World) (hn : 0 < n) (hn2 : n ≤ 65536) (ht : TapeOK b w) :
    Calls Tryz.prog 4 #[.pointer (some ⟨b, 0, none⟩), .int .i64 n] w (NextPost b n w) := by
  have ht0 := Lib.hid ht
  obtain ⟨a, m, c, k, hb, hk, hm, hcell⟩ := ht
  unfold maxLen at hm
  have c0 : w.cell? ⟨b, 0, none⟩ = some (.slice a m c) := by rw [cell_of_row w b 0 _ _ _ hb]; rfl
  have c1 : w.cell? ⟨b, 1, none⟩ = some (.int .i64 (k : Int)) := by rw [cell_of_row w b 1 _ _ _ hb]; rfl
  have f1 : w.frozen? ⟨b, 1, none⟩ = false := by simp [World.frozen?, hb]
  by_cases hlt : k < m
  · obtain ⟨ad, x, rfl, hadb, hcx⟩ := hcell k hlt
    have HB := Lib.hid hb; have HC := Lib.hid hcell; clear hb hcell
    obtain ⟨y, hy⟩ : ∃ y, bits .and .i64 x 65535 = y := ⟨_, rfl⟩
    have hyb := and_mask x
    rw [hy] at hyb
    go_enter Tryz.func4, Tryz.ntmps4
    go_wp2_with fail
    go_quiet (fail)
    go_wp2_with fail
    go_quiet (fail)
    go_wp2
    go_ret
    refine ⟨y % n, rfl, Int.emod_nonneg _ (by omega), Int.emod_lt_of_pos _ hn, ?_⟩
    exact tape_step (some ad) m c k HB.out hlt (by unfold maxLen; omega) HC.out rfl rfl rfl rfl
  · obtain rfl : k = m := by omega
    go_enter Tryz.func4, Tryz.ntmps4
    go_wp2_with fail
    go_quiet (fail)
    go_wp2
    go_ret
    exact ⟨0, rfl, by omega, by omega, ht0.out, ⟨rfl, rfl, rfl, Nat.le_refl _, fun _ _ _ => rfl⟩⟩

/-- Bytes off a tape: a new row of n bytes, whatever they are. -/
def BytesPost (b : Nat) (n : Nat) (w : World) (e : Ending) (w' : World) : Prop := ∃ (v : Value) (l : List UInt8), e = .returned v ∧ l.length = n ∧ OB 5 w.heap.size v l w' ∧ TapeOK b w' ∧ Fr b w w'
theorem OB.keep {e : TypeId} {B : Nat} {v : Value} {l : List UInt8} {w w1 : World} (h : OB e B v l w) (hk : ∀ k, v.ownBlock = some k → w1.heap[k]? = w.heap[k]?) : OB e B v l w1 := by
  refine ⟨h.1, ?_⟩
  rcases h.2 with h1 | ⟨g, cap, cur, rfl, hb, hg, rest⟩
  · exact .inl h1
  · exact .inr ⟨g, cap, cur, rfl, hb, (hk g rfl).trans hg, rest⟩
theorem OB.fr {e : TypeId} {B b : Nat} {v : Value} {l : List UInt8} {w w1 : World} (h : OB e B v l w) (hf : Fr b w w1) (hB : b < B) : OB e B v l w1 :=
  h.keep fun k hk => by
    have h1 := World.ownsRow.lt h k hk
    exact hf.block k h1.2 (by intro e; injection e; omega)
end Go.Proofs.YthmpcdjhighhgaaGreatDoor
namespace Go.Proofs.YthmpcdjhighhgaaGreatDoor
set_option linter.unusedVariables false
set_option linter.unusedSimpArgs false
set_option maxRecDepth 100000
open Go.RowKit
theorem cvalid_any (c : Int) (w : World) : Calls Tryz.prog 141 #[.int .i64 c] w fun e w' => e = .returned (.bool (vldC c)) ∧ w = w' := by
  by_cases h : 1 ≤ c
  all_goals
    go_enter Tryz.func141, Tryz.ntmps141
    go_wp2
    go_ret
    exact ⟨ret_bool (by unfold vldC; first | (simp [h]; done) | (rw [decide_eq_false (by omega)]; rfl)), rfl⟩
theorem chex_any (c : Int) (w : World) (h0 : 0 ≤ c) (h1 : c < 256) : Calls Tryz.prog 231 #[.int .u8 c] w fun e w' => e = .returned (.int .i64 (hexv c)) ∧ w = w' := by
  rcases hexv_case c with ⟨a, b, h⟩ | ⟨a, b, h⟩ | ⟨a, b, h⟩ | ⟨a, b, d, h⟩
  · have H := Lib.hid h; clear h
    go_enter Tryz.func231, Tryz.ntmps231
    go_wp2
    go_ret
    exact ⟨ret_int H.out.symm, rfl⟩
  · have H := Lib.hid h; clear h
    go_enter Tryz.func231, Tryz.ntmps231
    go_wp2
    go_ret
    exact ⟨ret_int H.out.symm, rfl⟩
  · have H := Lib.hid h; clear h
    go_enter Tryz.func231, Tryz.ntmps231
    go_wp2
    go_ret
    exact ⟨ret_int H.out.symm, rfl⟩
  · have H := Lib.hid h; clear h
    by_cases c1 : 48 ≤ c <;> by_cases c2 : 97 ≤ c <;> by_cases c3 : 65 ≤ c
    all_goals first
      | (exfalso; omega)
      | (go_enter Tryz.func231, Tryz.ntmps231
         go_wp2
         go_ret
         exact ⟨ret_int H.out.symm, rfl⟩)
theorem letter_c (c : Int) (w : World) (h0 : 0 ≤ c) (h1 : c < 256) : Calls Tryz.prog 195 #[.int .u8 c] w fun e w' => e = .returned (.bool (ltr c)) ∧ w = w' := by
  have hp : c < 48 ∨ (48 ≤ c ∧ c ≤ 57) ∨ (58 ≤ c ∧ c ≤ 64) ∨ (65 ≤ c ∧ c ≤ 90) ∨ (91 ≤ c ∧ c ≤ 96) ∨ (97 ≤ c ∧ c ≤ 122) ∨ 122 < c := by omega
  rcases hp with h | ⟨h, h'⟩ | ⟨h, h'⟩ | ⟨h, h'⟩ | ⟨h, h'⟩ | ⟨h, h'⟩ | h
  all_goals
    go_enter Tryz.func195, Tryz.ntmps195
    go_wp2
    go_ret
    exact ⟨ret_bool (by (rw [Bool.eq_iff_iff]; simp only [ltr, pln, Bool.or_eq_true, Bool.and_eq_true, decide_eq_true_eq, Bool.not_eq_true', decide_eq_false_iff_not, beq_iff_eq, Bool.false_eq_true, true_iff, iff_true, false_iff, not_false_eq_true]; omega)), rfl⟩
theorem plain_ref (c : Int) (w : World) (h0 : 0 ≤ c) (h1 : c < 256) : Calls Tryz.prog 17 #[.int .u8 c] w fun e w' => e = .returned (.bool (pln c)) ∧ w = w' := by
  have hp : (48 ≤ c ∧ c ≤ 57) ∨ (97 ≤ c ∧ c ≤ 122) ∨ (65 ≤ c ∧ c ≤ 90) ∨ (c < 48) ∨ (58 ≤ c ∧ c ≤ 64) ∨ (91 ≤ c ∧ c ≤ 96) ∨ 122 < c := by omega
  rcases hp with ⟨h, h'⟩ | ⟨h, h'⟩ | ⟨h, h'⟩ | h | ⟨h, h'⟩ | ⟨h, h'⟩ | h
  all_goals
    go_enter Tryz.func17, Tryz.ntmps17
    go_wp2
    all_goals
      go_ret
      exact ⟨ret_bool (by first | rfl | (rw [Bool.eq_iff_iff]; simp only [ltr, pln, Bool.or_eq_true, Bool.and_eq_true, decide_eq_true_eq, Bool.not_eq_true', decide_eq_false_iff_not, beq_iff_eq, Bool.false_eq_true, true_iff, iff_true, false_iff, not_false_eq_true]; omega) | (rw [‹c = 45›]; rfl) | (rw [‹c = 46›]; rfl) | (rw [‹c = 95›]; rfl) | (rw [‹c = 126›]; rfl)), rfl⟩
end Go.Proofs.YthmpcdjhighhgaaGreatDoor
namespace Go.Proofs.YthmpcdjhighhgaaGreatDoor
set_option linter.unusedVariables false
set_option linter.unusedSimpArgs false
set_option maxRecDepth 100000
open Go.RowKit
theorem quiet_sym {P : Program} {f : FuncId} {args : Array Value} {w : World} {n : Nat} {v : Value}
    (h : Calls P f args (w.drewN n) fun e w' => e = .returned v ∧ w.drewN n = w') : Calls P f args (w.drewN n) fun e w'' => e = .returned v ∧ ∃ m, w'' = w.drewN m :=
  h.mono fun _ _ ⟨he, hm⟩ => ⟨he, n, hm.symm⟩
def twoAt : List UInt8 → Option UInt8
  | a :: b :: _ => twoB a b
  | _ => none
def TwoPost (l : List UInt8) (w : World) (e : Ending) (w' : World) : Prop := ∃ (u : UInt8) (r : Int), e = .returned (.tuple #[.int .u8 r, .bool (twoAt l).isSome]) ∧ Hid (r = u.toNat) ∧ Hid (∀ x, twoAt l = some x → u = x) ∧ ∃ m, w' = w.drewN m
theorem drew0 (w : World) : w = w.drewN 0 := rfl
theorem or16_fin : ∀ a b : Fin 16, bits .or .i64 ((a.val : Int) * 16) (b.val : Int) = (a.val : Int) * 16 + b.val := by decide +kernel
theorem or16 (a b : Int) (ha : 0 ≤ a) (ha2 : a ≤ 15) (hb : 0 ≤ b) (hb2 : b ≤ 15) : bits .or .i64 (a * 16) b = a * 16 + b := by
  have h := or16_fin ⟨a.toNat, by omega⟩ ⟨b.toNat, by omega⟩
  simp only [Int.toNat_of_nonneg ha, Int.toNat_of_nonneg hb] at h
  exact h
theorem two_drop (s : ByteArray) (k : Nat) (h : k + 2 ≤ s.size) : twoAt ((bl s).drop k) = twoB s[k] s[k + 1] := by
  rw [drop_byte s k (by omega), drop_byte s (k + 1) (by omega)]; rfl
theorem two_close (s : ByteArray) (k : Nat) (h : k + 2 ≤ s.size) (u u2 : UInt8) (c c2 x1 x2 r : Int) (b : Bool) (hu : Hid (u = s[k])) (hu2 : Hid (u2 = s[k + 1])) (hc : Hid (c = u.toNat)) (hc2 : Hid (c2 = u2.toNat))
    (h1 : Hid (hexv c = x1)) (h2 : Hid (hexv c2 = x2)) (hr : r = bits .or .i64 (x1 * 16) x2 % 256) (hb : b = (decide (0 ≤ x1) && decide (0 ≤ x2))) (w : World) (m : Nat) :
    TwoPost ((bl s).drop k) w (.returned (.tuple #[.int .u8 r, .bool b])) (w.drewN m) := by
  have hu := hu.out; have hu2 := hu2.out; have hc := hc.out; have hc2 := hc2.out; have h1 := h1.out; have h2 := h2.out
  have hb1 := hexv_bd c; have hb2 := hexv_bd c2
  have hr0 : 0 ≤ r ∧ r < 256 := by rw [hr]; omega
  have e : twoAt ((bl s).drop k) = if 0 ≤ x1 ∧ 0 ≤ x2 then some (UInt8.ofNat (x1 * 16 + x2).toNat) else none := by
    rw [two_drop s k h, ← hu, ← hu2]; unfold twoB; rw [← hc, ← hc2, h1, h2]
  have hru : r = (UInt8.ofNat r.toNat).toNat := by
    rw [UInt8.toNat_ofNat']; omega
  refine ⟨UInt8.ofNat r.toNat, r, ?_, hru, ?_, m, rfl⟩
  · rw [e, hb]
    by_cases q1 : 0 ≤ x1 <;> by_cases q2 : 0 ≤ x2 <;> simp [q1, q2]
  · intro x hx
    rw [e] at hx
    split at hx
    · rename_i q
      injection hx with hx
      rw [← hx, hr, or16 x1 x2 (by omega) (by omega) (by omega) (by omega)]
      congr 1
      omega
    · simp at hx
theorem twoAt_short (s : ByteArray) (k : Nat) (h : ¬ k + 2 ≤ s.size) : twoAt ((bl s).drop k) = none := by
  have h1 : ((bl s).drop k).length < 2 := by rw [List.length_drop, size_list]; omega
  match hh : (bl s).drop k, h1 with
  | [], _ => rfl
  | [_], _ => rfl
  | _ :: _ :: _, h1 => simp at h1; omega
theorem two_any (s : ByteArray) (at_ : Int) (k : Nat) (hk : at_ = k) (w : World) (hs : s.size ≤ 1000000) (hk2 : k ≤ 1000000) :
    Calls Tryz.prog 192 #[.string s, .int .i64 at_] w (TwoPost ((bl s).drop k) w) := by
  subst hk
  by_cases hlt : k + 2 ≤ s.size
  · obtain ⟨u, c, hus, hcu, hc0, hc1, hix⟩ := idx_str Tryz.underlying9 s k (by omega) .i64 (k : Int) rfl
    obtain ⟨u2, c2, hus2, hcu2, hc20, hc21, hix2⟩ := idx_str Tryz.underlying9 s (k + 1) (by omega) .i64 ((k : Int) + 1) (by omega)
    have hb1 := hexv_bd c
    have hb2 := hexv_bd c2
    obtain ⟨x1, hx1⟩ : ∃ x, hexv c = x := ⟨_, rfl⟩
    obtain ⟨x2, hx2⟩ : ∃ x, hexv c2 = x := ⟨_, rfl⟩
    have A1 := fun w => chex_any c w hc0 hc1
    have A2 := fun w => chex_any c2 w hc20 hc21
    rw [hx1] at hb1 A1
    rw [hx2] at hb2 A2
    have X1 := Lib.hid hx1; have X2 := Lib.hid hx2; clear hx1 hx2
    go_enter Tryz.func192, Tryz.ntmps192
    go_wp2_with fail
    go_quiet ((go_at_call 231; first | (with_reducible show Calls _ _ #[Value.int IntKind.u8 c] _ _; exact quiet_sym (A1 _)) | (with_reducible show Calls _ _ #[Value.int IntKind.u8 c2] _ _; exact quiet_sym (A2 _))))
    go_wp2
    all_goals
      go_ret2
      refine two_close s k hlt u u2 c c2 x1 x2 _ _ hus hus2 hcu hcu2 X1 X2 rfl ?_ w _
    · rw [decide_eq_true (show 0 ≤ x1 by omega)]; rfl
    · rw [decide_eq_false (show ¬ 0 ≤ x1 by omega)]; rfl
  · go_enter Tryz.func192, Tryz.ntmps192
    go_wp2
    go_ret2
    refine ⟨0, 0, ?_, rfl, ?_, 0, drew0 w⟩
    · rw [twoAt_short s k hlt]; rfl
    · intro x hx; rw [twoAt_short s k hlt] at hx; simp at hx
def DecPost (r : Option (List UInt8)) (w : World) (e : Ending) (w' : World) : Prop := ∃ v, e = .returned (.tuple #[v, .bool r.isSome]) ∧ OB 5 w.heap.size v (r.getD []) w' ∧ Below w.heap.size w w'
theorem DecPost.none_ {w w' : World} {r : Option (List UInt8)} (h : r = none) (hb : Below w.heap.size w w') : DecPost r w (.returned (.tuple #[.slice none 0 0, .bool false])) w' := by
  subst h; exact ⟨_, rfl, OB.nil_ _ _ _, hb⟩
theorem DecPost.some_ {w w' : World} {r : Option (List UInt8)} {o : List UInt8} {v : Value} (h : r = some o) (hv : OB 5 w.heap.size v o w') (hb : Below w.heap.size w w') : DecPost r w (.returned (.tuple #[v, .bool true])) w' := by
  subst h; exact ⟨_, rfl, hv, hb⟩
theorem decHex_two (l o : List UInt8) (a b : UInt8) (r : List UInt8) (h : l = a :: b :: r) : decHex l o = match twoAt l with | none => none | some c => decHex r (o ++ [c]) := by
  subst h; rfl
theorem Below.drewN' {B : Nat} {a w : World} (h : Below B a w) (m : Nat) : Below B a (w.drewN m) := ⟨h.os, h.tape, h.output, h.size, h.block⟩
theorem OB.drew {e : TypeId} {B : Nat} {v : Value} {l : List UInt8} {w : World} (h : OB e B v l w) (m : Nat) : OB e B v l (w.drewN m) := h
theorem decHex_odd (l : List UInt8) : ∀ (o : List UInt8), l.length % 2 = 1 → decHex l o = none := by
  intro o h
  match l, h with
  | [], h => simp at h
  | [_], _ => rfl
  | a :: b :: r, h =>
    show (match twoB a b with | none => none | some c => decHex r (o ++ [c])) = none
    split
    · rfl
    · exact decHex_odd r _ (by simp at h; omega)
theorem drop_two (s : ByteArray) (k : Nat) (h : k + 2 ≤ s.size) : ∃ a b, (bl s).drop k = a :: b :: (bl s).drop (k + 2) :=
  ⟨s[k], s[k + 1], by rw [drop_byte s k (by omega), drop_byte s (k + 1) (by omega)]⟩
set_option maxHeartbeats 1000000 in
theorem decodeHex_any (s : ByteArray) (w : World) (hs : s.size ≤ 1000000) : Calls Tryz.prog 142 #[.string s] w (DecPost (decHex (bl s) []) w) := by
  obtain ⟨i0, hi, hz0, hz1, hz2⟩ := info_parts info_u8
  by_cases hodd : s.size % 2 = 1
  · have hn := decHex_odd (bl s) [] (by rw [size_list]; exact hodd)
    have hr : (s.size : Int).tmod 2 = 1 := by rw [Int.tmod_eq_emod_of_nonneg (by omega)]; omega
    have HO := Lib.hid hodd; clear hodd
    go_enter Tryz.func142, Tryz.ntmps142
    go_wp2
    go_ret2
    exact DecPost.none_ hn (Below.refl _ _)
  · obtain ⟨n, hn⟩ : ∃ n, s.size = 2 * n := ⟨s.size / 2, by omega⟩
    have hr : (s.size : Int).tmod 2 = 0 := by rw [Int.tmod_eq_emod_of_nonneg (by omega)]; omega
    have HN := Lib.hid hn; clear hodd hn
    go_enter Tryz.func142, Tryz.ntmps142
    go_wp2
    go_loopw [4, 5] (fun v i wr => ∃ (m : Nat) (l : List UInt8), m ≤ n ∧ i = .int .i64 (2 * (m : Int)) ∧ l.length ≤ m ∧ OB 5 w.heap.size v l wr ∧ Below w.heap.size w wr ∧ decHex ((bl s).drop (2 * m)) l = decHex (bl s) []) (fun _ i _ => s.size - (intOf i).toNat)
    case atStart => exact ⟨0, [], by omega, rfl, by simp, OB.nil_ _ _ _, Below.refl _ _, rfl⟩
    case round =>
      obtain ⟨m, l, hm, rfl, hl, hown, hbel, hrel⟩ := hrel
      have HR := Lib.hid hrel; clear hrel
      by_cases hlt : m < n
      · have h2 : 2 * m + 2 ≤ s.size := by have := HN.out; omega
        have hd : decide (2 * (m : Int) < s.size) = true := decide_eq_true (by omega)
        obtain ⟨a, b, hab⟩ := drop_two s (2 * m) h2
        have hst := decHex_two _ l a b _ hab
        rw [HR.out] at hst
        have HS := Lib.hid hst; clear hst
        have HAB := Lib.hid hab; clear hab
        cases hx : twoAt ((bl s).drop (2 * m)) with
        | none =>
          have T := two_any s (2 * (m : Int)) (2 * m) (by omega) wr hs (by omega)
          have HX := Lib.hid hx
          go_wp2_with (go_at_call 192; refine T.mono ?_; rintro e w1 ⟨u, r, rfl, -, -, q, rfl⟩; rw [HX.out]; simp only [Option.isSome])
          go_ret2
          have hs2 := HS.out
          rw [HX.out] at hs2
          exact DecPost.none_ hs2 (Below.drewN' hbel q)
        | some x =>
          have T := two_any s (2 * (m : Int)) (2 * m) (by omega) wr hs (by omega)
          have HX := Lib.hid hx
          go_wp2_with fail
          refine T.mono ?_
          rintro e w1 ⟨u, r, rfl, hu, hxx, q, rfl⟩
          rw [HX.out]; simp only [Option.isSome]
          obtain rfl := hxx.out x HX.out
          have hown1 := OB.drew hown q
          have hbel1 := Below.drewN' hbel q
          go_wp2_with (at_builtin; refine app_u8 Tryz.underlying30 hi hz0 hz1 hz2 _ _ _ _ _ u _ rfl rfl rfl rfl hown1 hu.out (by omega) hbel1.size ?_; intro v1 w3 hown3 hb3 _ _)
          go_roundw
          case rel =>
            have hs2 := HS.out
            rw [HX.out] at hs2
            exact ⟨m + 1, _, by omega, by go_num, by simp; omega, hown3, hbel1.trans hb3, hs2.symm⟩
          case measure => simp [intOf]; omega
      · obtain rfl : m = n := by omega
        have h2 : s.size ≤ 2 * m := by have := HN.out; omega
        have hd : decide (2 * (m : Int) < s.size) = false := decide_eq_false (by omega)
        have hz : (bl s).drop (2 * m) = [] := List.drop_eq_nil_of_le (by rw [size_list]; exact h2)
        have hfin : decHex (bl s) [] = some l := by rw [← HR.out, hz]; rfl
        go_wp2
        go_ret2
        exact DecPost.some_ hfin hown hbel
end Go.Proofs.YthmpcdjhighhgaaGreatDoor
namespace Go.Proofs.YthmpcdjhighhgaaGreatDoor
set_option linter.unusedVariables false
set_option linter.unusedSimpArgs false
set_option maxRecDepth 100000
open Go.RowKit
def cmpI (a b : Int) : Int := if a < b then -1 else if b < a then 1 else 0
theorem nan_any (a : Int) (w : World) : Calls Tryz.prog 130 #[.int .i64 a] w fun e w' => e = .returned (.bool false) ∧ w = w' := by
  go_enter Tryz.func130, Tryz.ntmps130
  go_wp2
  go_ret
  exact ⟨rfl, rfl⟩
theorem cmp_any (a b : Int) (w : World) : Calls Tryz.prog 73 #[.int .i64 a, .int .i64 b] w fun e w' => e = .returned (.int .i64 (cmpI a b)) ∧ w = w' := by
  unfold cmpI
  by_cases h1 : a < b
  · rw [if_pos h1]
    go_enter Tryz.func73, Tryz.ntmps73
    go_wp2_with (go_at_call 130; refine (nan_any _ _).mono ?_; rintro e w1 ⟨rfl, rfl⟩)
    go_ret
    exact ⟨rfl, rfl⟩
  · rw [if_neg h1]
    by_cases h2 : b < a
    · rw [if_pos h2]
      go_enter Tryz.func73, Tryz.ntmps73
      go_wp2_with (go_at_call 130; refine (nan_any _ _).mono ?_; rintro e w1 ⟨rfl, rfl⟩)
      go_ret
      exact ⟨rfl, rfl⟩
    · rw [if_neg h2]
      go_enter Tryz.func73, Tryz.ntmps73
      go_wp2_with (go_at_call 130; refine (nan_any _ _).mono ?_; rintro e w1 ⟨rfl, rfl⟩)
      go_ret
      exact ⟨rfl, rfl⟩
end Go.Proofs.YthmpcdjhighhgaaGreatDoor
namespace Go.Proofs.YthmpcdjhighhgaaGreatDoor
set_option linter.unusedVariables false
set_option linter.unusedSimpArgs false
set_option maxRecDepth 100000
open Go.RowKit
/-- What a call of a law is handed as its tape. -/
def TapeArg (A : Option Addr) (n : Nat) (w : World) : Prop := n ≤ maxLen ∧ ∀ j, j < n → ∃ ad x, A = some ad ∧ ad.block < w.heap.size ∧ w.cell? (ad.add j) = some (.int .i64 x)
theorem tape_new {A : Option Addr} {n c : Nat} {w : World} (h : TapeArg A n w) : TapeOK w.heap.size (w.alloc (.cells #[.slice A n c, .int .i64 0] 25)) := by
  refine ⟨A, n, c, 0, heap_alloc_new w _, Nat.zero_le _, h.1, fun j hj => ?_⟩
  obtain ⟨ad, x, ha, hlt, hc⟩ := h.2 j hj
  exact ⟨ad, x, ha, hlt, (World.cell?_alloc_lt w _ _ (by rw [Reads_block]; exact hlt)).trans hc⟩
end Go.Proofs.YthmpcdjhighhgaaGreatDoor
