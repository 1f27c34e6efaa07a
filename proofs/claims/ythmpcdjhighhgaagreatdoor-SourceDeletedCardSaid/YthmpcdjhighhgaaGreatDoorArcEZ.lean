/- Archives: reading. -/
import Derived.Test.YthmpcdjhighhgaaGreatDoorArcDZ
import Derived.Laws.MakeOwn
namespace Go.Proofs.YthmpcdjhighhgaaGreatDoor
set_option linter.unusedVariables false
set_option linter.unusedSimpArgs false
set_option maxRecDepth 100000
open Go.RowKit
/-- A reader: what is left, and whether it went wrong. -/
def RdS (p : Nat) (A : Option Addr) (m c : Nat) (x : Bool) (W : World) : Prop := W.heap[p]? = some (.cells #[.slice A m c, .bool x] 205 (0, 0))
theorem RdS.cells {p : Nat} {A : Option Addr} {m c : Nat} {x : Bool} {W : World} (h : RdS p A m c x W) : (W.cell? ⟨p, 0, none⟩ = some (.slice A m c) ∧ W.cell? ⟨p, 1, none⟩ = some (.bool x)) ∧ W.frozen? ⟨p, 0, none⟩ = false ∧ W.frozen? ⟨p, 1, none⟩ = false := by
  refine ⟨⟨?_, ?_⟩, ?_, ?_⟩
  · rw [cell_of_row _ _ _ _ _ _ h]; rfl
  · rw [cell_of_row _ _ _ _ _ _ h]; rfl
  · unfold RdS at h; simp [World.frozen?, h]
  · unfold RdS at h; simp [World.frozen?, h]
set_option maxHeartbeats 2000000 in
theorem take_ok (B p : Nat) (ad : Addr) (m c n : Nat) (w : World) (hB : B ≤ p) (hp : RdS p (some ad) m c false w) (hn : n ≤ m) (hm : m ≤ c) (hl : m ≤ 1000000000) : Calls Tryz.prog 131 #[.pointer (some ⟨p, 0, none⟩), .int .i64 (n : Int)] w fun e w' =>
    e = .returned (.slice (some ad) n c) ∧ (∃ A' c', RdS p A' (m - n) c' false w' ∧ (n < m → A' = some (ad.add n)) ∧ m - n ≤ c') ∧ Below B w w' := by
  obtain ⟨⟨q0, q1⟩, f0, f1⟩ := hp.cells
  have HP := Lib.hid hp
  clear hp
  have d1 : decide ((m : Int) < (n : Int)) = false := decide_eq_false (by omega)
  have d2 : decide (m < n) = false := decide_eq_false (by omega)
  go_enter Tryz.func131, Tryz.ntmps131
  have hE : ∀ A' c', Below B w (w.setCell ⟨p, 0, none⟩ (.slice A' (m - n) c')) ∧ RdS p A' (m - n) c' false (w.setCell ⟨p, 0, none⟩ (.slice A' (m - n) c')) := fun A' c' => ⟨(Below.refl B w).setCell (p := ⟨p, 0, none⟩) hB _, set_rowS HP.out 0 _⟩
  have HE := Lib.hid hE
  clear hE
  go_wp2_with fail
  · go_ret
    exact ⟨rfl, ⟨_, _, (HE.out _ _).2, fun h => by omega, by omega⟩, (HE.out _ _).1⟩
  · go_ret
    exact ⟨rfl, ⟨_, _, (HE.out _ _).2, fun _ => rfl, by omega⟩, (HE.out _ _).1⟩
/-- There is too little: zeros. -/
theorem take4_bad (B p : Nat) (ad : Addr) (c : Nat) (w : World) (hB : B ≤ p) (hp : RdS p (some ad) 1 c false w) : Calls Tryz.prog 131 #[.pointer (some ⟨p, 0, none⟩), .int .i64 4] w fun e w' =>
    (∃ g, e = .returned (.slice (some ⟨g, 0, none⟩) 4 4) ∧ w'.heap[g]? = some (.cells #[.int .u8 0, .int .u8 0, .int .u8 0, .int .u8 0] 5 (0, 0))) ∧ Below B w w' := by
  obtain ⟨⟨q0, q1⟩, f0, f1⟩ := hp.cells
  have HP := Lib.hid hp
  clear hp
  obtain ⟨i0, hi, hz0, hz1, hz2⟩ := info_parts info_u8
  have hmk : ∀ w, (Instr.makeSlice 30 (.int .i64 4) (.int .i64 4)).run Tryz.prog w = .ok (.slice (some ⟨w.heap.size, 0, none⟩) 4 4) (w.alloc (.cells #[.int .u8 0, .int .u8 0, .int .u8 0, .int .u8 0] 5)) := fun w => by
    have h := run_makeSlice (P := Tryz.prog) (w := w) 30 5 i0 (.int .u8 0) Tryz.underlying30 hi hz0 .i64 .i64 4 4 (by decide) (by decide) (by rw [hz1]; decide) (by rw [hz2]; decide) (by decide)
    rw [hz1] at h
    rw [show madeCells (Value.int IntKind.u8 0).cells (Int.toNat 4 * 1) = #[.int .u8 0, .int .u8 0, .int .u8 0, .int .u8 0] from Array.toList_inj.1 (by simp [madeCells, Value.cells, List.range_succ])] at h
    exact h
  have hE := (Below.refl B w).setCell (p := ⟨p, 1, none⟩) hB (.bool true)
  have hB2 : B ≤ (w.setCell ⟨p, 1, none⟩ (.bool true)).heap.size := by
    have := (Array.getElem?_eq_some_iff.1 HP.out).1
    simp [World.setCell]; omega
  have HE := Lib.hid hE
  have HB2 := Lib.hid hB2
  clear hE hB2
  go_enter Tryz.func131, Tryz.ntmps131
  go_wp2_with fail
  go_ret
  exact ⟨⟨_, rfl, by have := heap_alloc_new (w.setCell ⟨p, 1, none⟩ (.bool true)) (.cells #[.int .u8 0, .int .u8 0, .int .u8 0, .int .u8 0] 5); rwa [show (w.setCell ⟨p, 1, none⟩ (.bool true)).heap.size = w.heap.size by simp [World.setCell]] at this⟩, HE.out.alloc HB2.out _⟩
theorem number1_any (ad : Addr) (c : Nat) (w : World) (h0 : w.cell? ad = some (.int .u8 0)) (h1 : w.cell? (ad.add 1) = some (.int .u8 0)) (h2 : w.cell? (ad.add 2) = some (.int .u8 1)) : Calls Tryz.prog 178 #[.slice (some ad) 3 c] w fun e w' => e = .returned (.int .i64 1) ∧ Below w.heap.size w w' := by
  go_enter Tryz.func178, Tryz.ntmps178
  go_wp2_with fail
  have h1' : w.cell? ⟨ad.block, ad.off + 1, none⟩ = some (.int .u8 0) := h1
  have h2' : w.cell? ⟨ad.block, ad.off + 2, none⟩ = some (.int .u8 1) := h2
  go_quiet (fail)
  go_wp2
  go_ret
  exact ⟨ret_int (by decide), below_drewN (Below.refl _ _) _⟩
set_option maxHeartbeats 2000000 in
theorem data1_any (B p : Nat) (ad : Addr) (c : Nat) (w : World) (hB : B ≤ p) (hBw : B ≤ w.heap.size) (hp : RdS p (some ad) 5 c false w) (hc : 5 ≤ c) (hb : ∀ W, Below B w W → ∀ j (h : j < [(0 : UInt8), 0, 1, 0, 120].length), W.cell? (ad.add j) = some (.int .u8 ([(0 : UInt8), 0, 1, 0, 120])[j].toNat)) (hlt : ad.block < B) :
    Calls Tryz.prog 132 #[.pointer (some ⟨p, 0, none⟩), .int .i64 65536] w fun e w' => ∃ u, e = .returned u ∧ OB 5 B u [120] w' ∧ (∃ A' c', RdS p A' 0 c' false w') ∧ Below B w w' := by
  have HBB := Lib.hid hb
  clear hb
  go_enter Tryz.func132, Tryz.ntmps132
  go_wp2_with fail
  refine (take_ok B p ad 5 c 3 w hB hp (by omega) hc (by omega)).mono ?_
  rintro e w1 ⟨rfl, ⟨A1, c1, hr1, hA1, hc1⟩, hb1⟩
  obtain rfl := hA1 (by omega)
  have n0 := HBB.out w1 hb1 0 (by decide)
  have n1 := HBB.out w1 hb1 1 (by decide)
  have n2 := HBB.out w1 hb1 2 (by decide)
  have n0' : w1.cell? ad = some (.int .u8 0) := (congrArg _ (show ad = ad.add 0 by cases ad with | mk x y z => cases z <;> simp [Addr.add])).trans n0
  go_wp2_with fail
  refine (number1_any ad c w1 n0' n1 n2).mono ?_
  rintro e w2 ⟨rfl, hb2⟩
  have hb12 := hb1.trans (hb2.mono (Nat.le_trans hBw hb1.size))
  have hr2 : RdS p (some (ad.add 3)) (5 - 3) c1 false w2 := (hb2.block p (Array.getElem?_eq_some_iff.1 hr1).1).trans hr1
  have HB12 := Lib.hid hb12
  clear hb1 hb2 hr1 n0 n1 n2 n0' hb12
  go_wp2_with fail
  refine (take_ok B p (ad.add 3) 2 c1 1 w2 hB hr2 (by omega) hc1 (by omega)).mono ?_
  rintro e w3 ⟨rfl, ⟨A3, c3, hr3, hA3, hc3⟩, hb3⟩
  obtain rfl := hA3 (by omega)
  have hb13 := HB12.out.trans hb3
  have n3 := HBB.out w3 hb13 3 (by decide)
  have n3' : w3.cell? ⟨ad.block, ad.off + 3, none⟩ = some (.int .u8 0) := n3
  have r31 := hr3.cells.1.2
  have HB13 := Lib.hid hb13
  have HR3 := Lib.hid hr3
  clear n3 hb3 hb13 hr2 HB12
  clear hr3
  go_wp2_with fail
  refine (take_ok B p ((ad.add 3).add 1) 1 c3 1 w3 hB HR3.out (by omega) hc3 (by omega)).mono ?_
  rintro e w4 ⟨rfl, ⟨A4, c4, hr4, hA4, hc4⟩, hb4⟩
  have hb14 := HB13.out.trans hb4
  have hz4 := hb14.size
  have hbi : BIn w4.heap.size w4 (.slice (some ((ad.add 3).add 1)) 1 c3) [120] := ⟨_, 1, c3, rfl, rfl, hc3, .inr ⟨_, rfl, by rw [Reads_block, Reads_block]; omega, fun j hj => by
    obtain rfl : j = 0 := by simp at hj; omega
    have := HBB.out w4 hb14 4 (by decide)
    rw [Addr.add_add, Addr.add_add]
    exact this⟩⟩
  have HB14 := Lib.hid hb14
  have HR4 := Lib.hid hr4
  clear hb4 hb14 hr4 HB13 HR3 r31 n3'
  go_wp2_with fail
  refine (cloneB_any _ _ w4 hbi (by simp)).mono ?_
  rintro e w5 ⟨u, rfl, hu, hb5⟩
  have hr5 := (hb5.block p (Array.getElem?_eq_some_iff.1 HR4.out).1).trans HR4.out
  have HE := Lib.hid (show OB 5 B u [120] w5 ∧ (∃ A' c', RdS p A' 0 c' false w5) ∧ Below B w w5 from ⟨obMono hu (Nat.le_trans hBw hz4), ⟨_, _, hr5⟩, HB14.out.trans (hb5.mono (Nat.le_trans hBw hz4))⟩)
  clear hu hb5 hr5 hbi HB14 HR4
  go_wp2_with fail
  go_ret
  exact ⟨_, rfl, HE.out.1, HE.out.2.1, HE.out.2.2⟩
end Go.Proofs.YthmpcdjhighhgaaGreatDoor
