/- The rest of a row of structs is cleared: 'clear(s[i:])'. No program in sight. -/
import Derived.Laws.IdiomCopy
import Derived.Lib.LazyBuf
import Derived.Laws.OwnMore
import Derived.Test.YthmpcdjhighhgaaGreatDoorY18
namespace Go.Proofs.YthmpcdjhighhgaaGreatDoor
set_option linter.unusedVariables false
set_option linter.unusedSimpArgs false
set_option maxRecDepth 100000
open Go.RowKit
theorem setCells_at (g : Nat) (e : TypeId) (m : Nat × Nat) : ∀ (L : List Value) (o : Nat) (w : World) (cur : Array Value), w.heap[g]? = some (.cells cur e m) →
    ∃ cur', (w.setCells g o L).heap[g]? = some (.cells cur' e m) ∧ cur'.size = cur.size ∧ ∀ k, k ≤ o → cur'.toList.take k = cur.toList.take k
  | [], o, w, cur, h => ⟨cur, h, rfl, fun _ _ => rfl⟩
  | v :: r, o, w, cur, h => by
    have h1 : (w.setCell ⟨g, o, none⟩ v).heap[g]? = some (.cells (cur.setIfInBounds o v) e m) := by simp [World.setCell, Array.getElem?_modify, h]
    obtain ⟨cur', h2, h3, h4⟩ := setCells_at g e m r (o + 1) _ _ h1
    refine ⟨cur', h2, by rw [h3]; simp, fun k hk => ?_⟩
    rw [h4 k (by omega), Array.toList_setIfInBounds, List.take_set_of_le hk]
theorem below_cells {B b : Nat} {a : World} (hb : B ≤ b) : ∀ (vs : List Value) (o : Nat) (w : World), Below B a w → Below B a (w.setCells b o vs)
  | [], _, _, h => h
  | v :: r, o, w, h => below_cells hb r (o + 1) _ (h.setCell (p := ⟨b, o, none⟩) hb v)
theorem zeroCells_len (z : Array Value) (n : Nat) : (Builtin.zeroCells z n).toList.length = n * z.size := by simp [Builtin.zeroCells]
theorem zeroCells_one {z : Array Value} (h : ∀ u ∈ z.toList, u.oneCell' = true) (n : Nat) : ∀ u ∈ (Builtin.zeroCells z n).toList, u.oneCell' = true := by
  intro u hu
  simp only [Builtin.zeroCells, Array.toList_map, Array.toList_range, List.mem_map, List.mem_range] at hu
  obtain ⟨i, hi, rfl⟩ := hu
  have hz : 0 < z.size := by
    rcases Nat.eq_zero_or_pos z.size with h0 | h0
    · rw [h0, Nat.mul_zero] at hi; omega
    · exact h0
  have hm := Nat.mod_lt i hz
  rw [getElem!_pos z (i % z.size) hm]
  exact h _ (by simp)
section
variable {α : Type} {enc : α → List Value} {n : Nat}
/-- The rest of an owned row is cleared; what stands ahead is owned still. -/
theorem OR.clear (E : EncS enc n) {P : Program} {T e : TypeId} {B g c : Nat} {r : List α} {w : World} (h : OR e n enc B (.slice (some ⟨g, 0, none⟩) r.length c) r w) (i : Nat) (hi : i < r.length) (c' : Nat) (z : Value) (ht : P.underlying T = some (.slice e)) (hv : ∀ w, (zeroValue e).run P w = .ok z w) (hz : z.cells.size = n) (h1 : ∀ u ∈ z.cells.toList, u.oneCell' = true) :
    ∃ w', (∀ ty, (Builtin.clear_ #[T] ty #[.slice (some ⟨g, i * n, none⟩) (r.length - i) c']).run P w = .ok (.tuple #[]) w') ∧ OR e n enc B (.slice (some ⟨g, 0, none⟩) i c) (r.take i) w' ∧ Below B w w' := by
  have hh := h
  rcases h.2 with ⟨h2, -⟩ | ⟨g', cap, cur, h2, hB, hg, hle, hcap, hcur, htk⟩
  · cases h2
  · injection h2 with e1 e2 e3
    injection e1 with e1
    injection e1 with e1
    subst e1 e3
    have hcs : c * n ≤ cur.size := by omega
    have hmul : (r.length - i) * n + i * n = r.length * n := by rw [← Nat.add_mul]; congr 1; omega
    have hmul2 : r.length * n ≤ c * n := Nat.mul_le_mul_right n hle
    obtain ⟨k, hk⟩ : ∃ k, r.length - i = k + 1 := ⟨r.length - i - 1, by omega⟩
    have hlen : (Builtin.zeroCells z.cells (r.length - i)).toList.length = (r.length - i) * n := by rw [zeroCells_len, hz]
    have hst := run_storeCells_cells (P := P) g (i * n) (Builtin.zeroCells z.cells (r.length - i)).toList 0 w
      (fun j hj => by rw [cell_of_row w g _ _ _ _ hg, Array.getElem?_eq_getElem (by omega)]; rfl)
      (fun j hj => by simp [World.frozen?, hg]) (zeroCells_one h1 _)
    simp only [Nat.add_zero] at hst
    obtain ⟨cur', g1, g2, g3⟩ := setCells_at g e (0, 0) (Builtin.zeroCells z.cells (r.length - i)).toList (i * n) w cur hg
    refine ⟨w.setCells g (i * n) (Builtin.zeroCells z.cells (r.length - i)).toList, ?_, ?_, below_cells hB _ _ _ (Below.refl _ _)⟩
    · intro ty
      rw [hk] at hst ⊢
      simp [Builtin.clear_, run_underlying ht, hv, hst]
    · show World.ownsRow _ _ _ _ _ (r.take i).length _
      have hl : (r.take i).length = i := by rw [List.length_take]; omega
      rw [hl]
      refine ⟨by rw [rowF_len E, hl], .inr ⟨g, c, cur', rfl, hB, g1, by omega, hcap, by rw [g2, hcur], ?_⟩⟩
      rw [g3 _ (Nat.le_refl _)]
      have hsp : rowF enc r = rowF enc (r.take i) ++ rowF enc (r.drop i) := by rw [← rowF_app, List.take_append_drop]
      have hl2 : (rowF enc (r.take i)).length = i * n := by rw [rowF_len E, hl]
      have : cur.toList.take (i * n) = (cur.toList.take (r.length * n)).take (i * n) := by rw [List.take_take, Nat.min_eq_left (by omega)]
      rw [this, htk, hsp, List.take_append_of_le_length (by omega), List.take_of_length_le (by omega)]
end
end Go.Proofs.YthmpcdjhighhgaaGreatDoor
