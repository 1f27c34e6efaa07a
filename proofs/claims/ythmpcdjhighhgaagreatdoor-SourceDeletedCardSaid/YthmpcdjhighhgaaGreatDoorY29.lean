/- Rows of bytes in which one byte is changed; five cells. -/
import Derived.StillTailTactics
import Derived.Deep.RegionHeld3
import Derived.RangeFuncRecord
import Derived.Test.YthmpcdjhighhgaaGreatDoorY27
import Derived.Test.YthmpcdjhighhgaaGreatDoorY22
namespace Go.Proofs.YthmpcdjhighhgaaGreatDoor
set_option linter.unusedVariables false
set_option linter.unusedSimpArgs false
set_option maxRecDepth 100000
open Go.RowKit
theorem OB.empty (e : TypeId) (w : World) : OB e w.heap.size (.slice (some ⟨w.heap.size, 0, none⟩) 0 0) [] (w.alloc (.cells #[] e)) :=
  ⟨rfl, .inr ⟨w.heap.size, 0, #[], rfl, Nat.le_refl _, World.alloc_heap_new w _, Nat.le_refl _, Nat.zero_le _, rfl, rfl⟩⟩
theorem OB.after {e : TypeId} {B : Nat} {v : Value} {l : List UInt8} {w w1 : World} (h : OB e B v l w) (hb : Below w.heap.size w w1) : OB e B v l w1 :=
  h.keep fun k hk => hb.block k (World.ownsRow.lt h k hk).2
theorem OB.form2 {e : TypeId} {B : Nat} {v : Value} {l : List UInt8} {w : World} (h : OB e B v l w) : ∃ A c, v = .slice A l.length c ∧ (0 < l.length → ∃ g, A = some ⟨g, 0, none⟩ ∧ B ≤ g ∧ g < w.heap.size ∧ (∀ j (h : j < l.length), w.cell? ⟨g, j, none⟩ = some (.int .u8 l[j].toNat) ∧ w.frozen? ⟨g, j, none⟩ = false)) := by
  have h' := h
  rcases h.2 with ⟨h1, h0⟩ | ⟨g, cap, cur, rfl, hb, hg, -⟩
  · exact ⟨none, 0, by rw [h1, h0], fun h => by omega⟩
  · refine ⟨_, _, rfl, fun _ => ⟨g, rfl, hb, (Array.getElem?_eq_some_iff.1 hg).1, fun j hj => ⟨?_, by simp [World.frozen?, hg]⟩⟩⟩
    have := World.ownsRow.cellAt h' j (by simpa using hj)
    rw [this]; simp [hj]
theorem OB.set {e : TypeId} {B : Nat} {g n c : Nat} {l : List UInt8} {w : World} (h : OB e B (.slice (some ⟨g, 0, none⟩) n c) l w) (j : Nat) (u : UInt8) (x : Int) (hx : x = u.toNat) : OB e B (.slice (some ⟨g, 0, none⟩) n c) (l.set j u) (w.setCell ⟨g, j, none⟩ (.int .u8 x)) := by
  subst hx
  rcases h.2 with ⟨h1, -⟩ | ⟨g', cap, cur, h1, hb, hg, h4, h5, h6, h7⟩
  · cases h1
  · injection h1 with h8 h9 h10
    injection h8 with h8
    injection h8 with h8
    subst h8 h9 h10
    refine ⟨by simp, .inr ⟨g, c, cur.setIfInBounds j (.int .u8 u.toNat), by simp, hb, by simp [World.setCell, Array.getElem?_modify, hg], by simpa using h4, h5, by simpa using h6, ?_⟩⟩
    rw [List.length_set, Array.toList_setIfInBounds, List.take_set, h7, List.map_set]
theorem and7_u8_fin : ∀ n : Fin 256, 0 ≤ bits .and .u8 (n.val : Int) 7 ∧ bits .and .u8 (n.val : Int) 7 < 8 := by decide +kernel
theorem and7_u8 (c : Int) (h0 : 0 ≤ c) (h1 : c < 256) : 0 ≤ bits .and .u8 c 7 ∧ bits .and .u8 c 7 < 8 := by
  have h := and7_u8_fin ⟨c.toNat, by omega⟩
  simp only [Int.toNat_of_nonneg h0] at h
  exact h
theorem five_cells (w : World) (T : TypeId) (a b c d e : Value) (P : Value → Prop) (h : P a ∧ P b ∧ P c ∧ P d ∧ P e) (k : Nat) (hk : k < 5) : ∃ x, P x ∧ (w.alloc (.cells #[a, b, c, d, e] T)).cell? ⟨w.heap.size, k, none⟩ = some x := by
  obtain ⟨h1, h2, h3, h4, h5⟩ := h
  rcases (show k = 0 ∨ k = 1 ∨ k = 2 ∨ k = 3 ∨ k = 4 by omega) with rfl | rfl | rfl | rfl | rfl <;> (rw [World.cell?_alloc_mark]; exact ⟨_, by assumption, rfl⟩)
theorem four_cells (w : World) (T : TypeId) (a b c d : Value) (P : Value → Prop) (h : P a ∧ P b ∧ P c ∧ P d) (k : Nat) (hk : k < 4) : ∃ x, P x ∧ (w.alloc (.cells #[a, b, c, d] T)).cell? ⟨w.heap.size, k, none⟩ = some x := by
  obtain ⟨h1, h2, h3, h4⟩ := h
  rcases (show k = 0 ∨ k = 1 ∨ k = 2 ∨ k = 3 by omega) with rfl | rfl | rfl | rfl <;> (rw [World.cell?_alloc_mark]; exact ⟨_, by assumption, rfl⟩)
end Go.Proofs.YthmpcdjhighhgaaGreatDoor
