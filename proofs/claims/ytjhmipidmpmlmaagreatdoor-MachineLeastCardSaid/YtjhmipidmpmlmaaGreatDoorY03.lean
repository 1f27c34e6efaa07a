/- Closed facts on the element types of this program's slices. · What the program's table says of edges. · The tape of numbers: what Next returns lies from 0 on and before its bound, whatever the tape holds; nothing but the tape's own block is written. Condition: the bound is positive. · What a call of a law is handed as its tape, and the tape that it makes of it. · What the shell of a law's proof tells of its tape is what the walks ask of it. -/
import Derived.Test.YtjhmipidmpmlmaaGreatDoorProg
import Derived.Test.YtjhmipidmpmlmaaGreatDoorY02
import Derived.Test.YtjhmipidmpmlmaaGreatDoorY01
namespace Go.Proofs.YtjhmipidmpmlmaaGreatDoor
set_option linter.unusedVariables false
set_option linter.unusedSimpArgs false
set_option maxRecDepth 100000
theorem info_u8 : (Tryz.prog.info? 5).map (fun i => (i.zero, i.size, i.bytes)) = some (some (.int .u8 0), 1, 1) := by kernel_rfl
theorem info_int : (Tryz.prog.info? 3).map (fun i => (i.zero, i.size, i.bytes)) = some (some (.int .i64 0), 1, 8) := by kernel_rfl
end Go.Proofs.YtjhmipidmpmlmaaGreatDoor
namespace Go.Proofs.YtjhmipidmpmlmaaGreatDoor
set_option linter.unusedVariables false
set_option linter.unusedSimpArgs false
set_option maxRecDepth 100000
open Go.RowKit
theorem info_ed : (Tryz.prog.info? 58).map (fun i => (i.zero, i.size, i.bytes)) = some (some (.agg #[.int .u8 0, .int .u8 0, .int .i64 0]), 3, 16) := by kernel_rfl
def TapeOK (b : Nat) (w : World) : Prop := ∃ (a : Option Addr) (n c k : Nat), w.heap[b]? = some (.cells #[.slice a n c, .int .i64 (k : Int)] 25 (0, 0)) ∧ k ≤ n ∧ n ≤ maxLen ∧
 ∀ j, j < n → ∃ ad x, a = some ad ∧ ad.block < b ∧ w.cell? (ad.add j) = some (.int .i64 x)
def Fr (b : Nat) (w w' : World) : Prop := w.grownBy w' (some b)
theorem Fr.refl (b : Nat) (w : World) : Fr b w w := ⟨rfl, rfl, rfl, Nat.le_refl _, fun _ _ _ => rfl⟩
theorem Fr.trans {b : Nat} {w w1 w2 : World} (h : Fr b w w1) (h' : Fr b w1 w2) : Fr b w w2 :=
 ⟨h'.os.trans h.os, h'.tape.trans h.tape, h'.output.trans h.output, Nat.le_trans h.size h'.size, fun k hk hne => (h'.block k (Nat.lt_of_lt_of_le hk h.size) hne).trans (h.block k hk hne)⟩
theorem Fr.of_below {b : Nat} {w w1 : World} (h : Below w.heap.size w w1) : Fr b w w1 := ⟨h.os, h.tape, h.output, h.size, fun k hk _ => h.block k hk⟩
theorem Fr.below {b B : Nat} {w w1 : World} (h : Fr b w w1) (hB : B ≤ b) (hb : B ≤ w.heap.size) : Below B w w1 :=
 ⟨h.os, h.tape, h.output, h.size, fun k hk => h.block k (by omega) (by intro e; injection e; omega)⟩
theorem TapeOK.lt {b : Nat} {w : World} (h : TapeOK b w) : b < w.heap.size := by
 obtain ⟨a, n, c, k, hb, -⟩ := h;exact (Array.getElem?_eq_some_iff.1 hb).1
theorem TapeOK.keep {b : Nat} {w w1 : World} (h : TapeOK b w) (hk : ∀ k, k ≤ b → w1.heap[k]? = w.heap[k]?) : TapeOK b w1 := by
 obtain ⟨a, n, c, k, hb, h1, h2, h3⟩ := h;refine ⟨a, n, c, k, (hk b (Nat.le_refl _)).trans hb, h1, h2, fun j hj => ?_⟩;obtain ⟨ad, x, ha, hlt, hc⟩ := h3 j hj;exact ⟨ad, x, ha, hlt, (World.cell?_of_block (by rw [Reads_block]; exact hk _ (Nat.le_of_lt hlt))).trans hc⟩
theorem TapeOK.below {b : Nat} {w w1 : World} (h : TapeOK b w) (hb : Below w.heap.size w w1) : TapeOK b w1 :=
 h.keep fun k hk => hb.block k (Nat.lt_of_le_of_lt hk h.lt)
theorem TapeOK.below' {b B : Nat} {w w1 : World} (h : TapeOK b w) (hb : Below B w w1) (hB : b < B) : TapeOK b w1 :=
 h.keep fun k hk => hb.block k (Nat.lt_of_le_of_lt hk hB)
theorem and_mask (x : Int) : 0 ≤ bits .and .i64 x 65535 ∧ bits .and .i64 x 65535 ≤ 65535 := by
 have hle : (BitVec.ofInt 64 x &&& BitVec.ofInt 64 65535).toNat ≤ 65535 := by
  rw [BitVec.toNat_and];exact Nat.le_trans Nat.and_le_right (by decide)
 have e : bits .and .i64 x 65535 = ((BitVec.ofInt 64 x &&& BitVec.ofInt 64 65535).toNat : Int) := by
  unfold bits;show IntKind.i64.wrap (((BitVec.ofInt 64 x &&& BitVec.ofInt 64 65535).toNat : Nat) : Int) = _;rw [IntWalk.i64_in _ (by omega)]
 rw [e]; omega
theorem tape_step {b : Nat} {w W : World} (a : Option Addr) (n c k : Nat) (hb : w.heap[b]? = some (.cells #[.slice a n c, .int .i64 (k : Int)] 25 (0, 0))) (hk : k < n) (hn : n ≤ maxLen)
  (hc : ∀ j, j < n → ∃ ad x, a = some ad ∧ ad.block < b ∧ w.cell? (ad.add j) = some (.int .i64 x))
  (h : W.heap = (w.setCell ⟨b, 1, none⟩ (.int .i64 ((k : Int) + 1))).heap) (h1 : W.os = w.os) (h2 : W.tape = w.tape) (h3 : W.output = w.output) : TapeOK b W ∧ Fr b w W := by
 have hne : ∀ i, i ≠ b → W.heap[i]? = w.heap[i]? := fun i hi => by rw [h]; exact Below.heap_setCell _ _ _ _ hi
 have hbb : W.heap[b]? = some (.cells #[.slice a n c, .int .i64 ((k + 1 : Nat) : Int)] 25 (0, 0)) := by
  rw [h]; simp [World.setCell, Array.getElem?_modify, hb]
 refine ⟨⟨a, n, c, k + 1, hbb, by omega, hn, fun j hj => ?_⟩, h1, h2, h3, by rw [h]; simp [World.setCell], fun i _ hi => hne i (fun e => hi (by rw [e]))⟩
 obtain ⟨ad, x, ha, hlt, hcx⟩ := hc j hj;exact ⟨ad, x, ha, hlt, (World.cell?_of_block (hne _ (by rw [Reads_block]; omega))).trans hcx⟩
def NextPost (b : Nat) (n : Int) (w : World) (e : Ending) (w' : World) : Prop := ∃ r : Int, e = .returned (.int .i64 r) ∧ 0 ≤ r ∧ r < n ∧ TapeOK b w' ∧ Fr b w w'
theorem next_any (b : Nat) (n : Int) (w : World) (hn : 0 < n) (hn2 : n ≤ 65536) (ht : TapeOK b w) :
  Calls Tryz.prog 24 #[.pointer (some ⟨b, 0, none⟩), .int .i64 n] w (NextPost b n w) := by
 have ht0 := Lib.hid ht;obtain ⟨a, m, c, k, hb, hk, hm, hcell⟩ := ht;unfold maxLen at hm;have c0 : w.cell? ⟨b, 0, none⟩ = some (.slice a m c) := by rw [cell_of_row w b 0 _ _ _ hb]; rfl
 have c1 : w.cell? ⟨b, 1, none⟩ = some (.int .i64 (k : Int)) := by rw [cell_of_row w b 1 _ _ _ hb]; rfl
 have f1 : w.frozen? ⟨b, 1, none⟩ = false := by simp [World.frozen?, hb]
 by_cases hlt : k < m
 ·obtain ⟨ad, x, rfl, hadb, hcx⟩ := hcell k hlt;have HB := Lib.hid hb; have HC := Lib.hid hcell; clear hb hcell;obtain ⟨y, hy⟩ : ∃ y, bits .and .i64 x 65535 = y := ⟨_, rfl⟩;have hyb := and_mask x;rw [hy] at hyb
  go_enter Tryz.func24, Tryz.ntmps24
  go_wp2_with fail
  go_quiet (fail)
  go_wp2_with fail
  go_quiet (fail)
  go_wp2
  go_ret;refine ⟨y % n, rfl, Int.emod_nonneg _ (by omega), Int.emod_lt_of_pos _ hn, ?_⟩
  exact tape_step (some ad) m c k HB.out hlt (by unfold maxLen; omega) HC.out rfl rfl rfl rfl
 ·obtain rfl : k = m := by omega
  go_enter Tryz.func24, Tryz.ntmps24
  go_wp2_with fail
  go_quiet (fail)
  go_wp2
  go_ret;exact ⟨0, rfl, by omega, by omega, ht0.out, ⟨rfl, rfl, rfl, Nat.le_refl _, fun _ _ _ => rfl⟩⟩
def BytesPost (b : Nat) (n : Nat) (w : World) (e : Ending) (w' : World) : Prop := ∃ (v : Value) (l : List UInt8), e = .returned v ∧ l.length = n ∧ OB 5 w.heap.size v l w' ∧ TapeOK b w' ∧ Fr b w w'
def TapeArg (A : Option Addr) (n : Nat) (w : World) : Prop := n ≤ maxLen ∧ ∀ j, j < n → ∃ ad x, A = some ad ∧ ad.block < w.heap.size ∧ w.cell? (ad.add j) = some (.int .i64 x)
theorem tape_new {A : Option Addr} {n c : Nat} {w : World} (h : TapeArg A n w) : TapeOK w.heap.size (w.alloc (.cells #[.slice A n c, .int .i64 0] 25)) := by
 refine ⟨A, n, c, 0, heap_alloc_new w _, Nat.zero_le _, h.1, fun j hj => ?_⟩;obtain ⟨ad, x, ha, hlt, hc⟩ := h.2 j hj;exact ⟨ad, x, ha, hlt, (World.cell?_alloc_lt w _ _ (by rw [Reads_block]; exact hlt)).trans hc⟩
theorem tapeArg_of {w : World} {a : Option Addr} {len cap : Nat} {zs : List Int}
  (h : (a = none ∧ len = 0 ∧ cap = 0 ∧ zs = []) ∨ ∃ x, a = some x ∧ len ≤ cap ∧ cap ≤ maxLen ∧ zs.length = cap ∧ (∀ i, i < zs.length → w.cell? (x.add i) = some (.int .i64 (zs.getD i 0))) ∧ ∀ n ∈ zs, (Lit.int .i64 n).wf = true) : TapeArg a len w := by
 rcases h with ⟨rfl, rfl, rfl, rfl⟩ | ⟨x, rfl, hl, hm, hz, hc, -⟩
 ·exact ⟨Nat.zero_le _, fun j hj => absurd hj (Nat.not_lt_zero _)⟩
 ·refine ⟨Nat.le_trans hl hm, fun j hj => ⟨x, _, rfl, ?_, hc j (by omega)⟩⟩
  have := World.block_lt_of_cell? w _ (hc j (by omega))
  rwa [Reads_block] at this
end Go.Proofs.YtjhmipidmpmlmaaGreatDoor
