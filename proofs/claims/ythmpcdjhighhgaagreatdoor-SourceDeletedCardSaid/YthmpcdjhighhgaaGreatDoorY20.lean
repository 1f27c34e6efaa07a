/- Walks: all texts, by the reference. · Walks: all texts, by the code. -/
import Derived.Test.YthmpcdjhighhgaaGreatDoorY18
import Derived.Test.YthmpcdjhighhgaaGreatDoorY19
namespace Go.Proofs.YthmpcdjhighhgaaGreatDoor
set_option linter.unusedVariables false
set_option linter.unusedSimpArgs false
set_option maxRecDepth 100000
open Go.RowKit
theorem encM_E : EncS encM 5 := ⟨by decide, fun x => rfl, fun x u hu => by
  simp [encM] at hu; rcases hu with rfl | rfl | rfl | rfl | rfl <;> rfl⟩
abbrev OM (B : Nat) (v : Value) (o : List Ms) (w : World) : Prop := OR 28 5 encM B v o w
theorem MC.of_own {B : Nat} {v : Value} {o : List Ms} {w : World} (h : OM B v o w) : MC v o w := by
  obtain ⟨A, c, rfl, hc, h⟩ := OR.cells encM_E h
  refine ⟨A, c, rfl, hc, h.imp id ?_⟩
  rintro ⟨g, rfl, -, hg, hcell⟩
  refine ⟨g, 0, rfl, hg, fun i hi => ?_⟩
  have q := fun j hj => (hcell i hi j hj).1
  refine ⟨?_, ?_, ?_, ?_, ?_⟩
  · rw [Nat.zero_add]; exact q 0 (by decide)
  · rw [Nat.zero_add]; exact q 1 (by decide)
  · rw [Nat.zero_add]; exact q 2 (by decide)
  · rw [Nat.zero_add]; exact q 3 (by decide)
  · rw [Nat.zero_add]; exact q 4 (by decide)
theorem info_msg : (Tryz.prog.info? 28).map (fun i => (i.zero, i.size, i.bytes)) = some (some (.agg #[.int .i64 0, .int .i64 0, .string ⟨#[]⟩, .int .i64 0, .string ⟨#[]⟩]), 5, 56) := by kernel_rfl
theorem keepM_drop {l : List Ms} {k : Nat} (h : k < l.length) : keepM (l.drop k) = (if (l[k]).kind = 3 then [] else [l[k]]) ++ keepM (l.drop (k + 1)) := by
  rw [List.drop_eq_getElem_cons h]
  unfold keepM
  rw [List.filter_cons]
  by_cases h3 : (l[k]).kind = 3
  · rw [if_neg (by simp [h3]), if_pos h3]; rfl
  · rw [if_pos (by simpa using h3), if_neg h3]; rfl
/-- What hands back a list of messages. -/
def MsPost (o : List Ms) (w : World) (e : Ending) (w' : World) : Prop := ∃ v, e = .returned v ∧ OM w.heap.size v o w' ∧ Below w.heap.size w w'
end Go.Proofs.YthmpcdjhighhgaaGreatDoor
namespace Go.Proofs.YthmpcdjhighhgaaGreatDoor
set_option linter.unusedVariables false
set_option linter.unusedSimpArgs false
set_option maxRecDepth 100000
open Go.RowKit
theorem encM_get (m : Ms) (w : World) (g f : Nat) (h : MCell w g f m) : ∀ j < 5, w.cell? ⟨g, f + j, none⟩ = (encM m)[j]? := by
  obtain ⟨h0, h1, h2, h3, h4⟩ := h
  intro j hj
  have : j = 0 ∨ j = 1 ∨ j = 2 ∨ j = 3 ∨ j = 4 := by omega
  rcases this with rfl | rfl | rfl | rfl | rfl
  · exact h0
  · exact h1
  · exact h2
  · exact h3
  · exact h4
set_option maxHeartbeats 1000000 in
theorem clone_any (v : Value) (l : List Ms) (w : World) (h : MC v l w) (hl : l.length ≤ 100000) : Calls Tryz.prog 48 #[v] w (MsPost l w) := by
  obtain ⟨i0, hi, hz0, hz1, hz2⟩ := info_parts info_msg
  obtain ⟨A, c, rfl, hc, hcell⟩ := h
  have hnil := fun w => Lib.run_eql_slice_nil (P := Tryz.prog) w 29 28 A l.length c 0 0 Tryz.underlying29
  cases A with
  | none =>
    obtain rfl : l = [] := by
      rcases hcell with h | ⟨g, f, h, -⟩
      · exact h
      · cases h
    simp only [List.length_nil] at hnil
    go_enter Tryz.func48, Tryz.ntmps48
    go_wp2_with fail
    go_ret
    exact ⟨_, rfl, OR.nil_ _ _ _, Below.refl _ _⟩
  | some ad =>
    have HC := Lib.hid (show ∀ w1, Below w.heap.size w w1 → ∀ i (h : i < l.length), ∀ j < 5, w1.cell? (ad.add (i * 5 + j)) = (encM l[i])[j]? from fun w1 hb i hi j hj => by
      rcases hcell with h | ⟨g, f, h, hg, hm⟩
      · rw [h] at hi; simp at hi
      · injection h with h; subst h
        rw [Addr.add_lit, ← Nat.add_assoc]
        exact encM_get _ _ _ _ ((hm i hi).later (hb.block g hg)) j hj)
    clear hcell
    have h0 := OR.empty (enc := encM) (n := 5) 28 w
    have hb0 := (Below.refl w.heap.size w).alloc (Nat.le_refl _) (.cells #[] 28)
    go_enter Tryz.func48, Tryz.ntmps48
    go_wp2_with (at_builtin; refine app_at encM_E Tryz.underlying29 hi hz0 hz1 hz2 rfl (by decide) _ _ _ ad _ [] l w.heap.size rfl rfl rfl rfl h0 (HC.out _ hb0) (by simp) (by omega) (by simp) ?_; intro v1 w1 hown1 hb1)
    go_ret
    exact ⟨_, rfl, by simpa using hown1, hb0.trans hb1⟩
/-- 'is it a deletion'. -/
theorem dels_any (m : Ms) (w : World) : Calls Tryz.prog 49 #[.agg (encM m).toArray] w fun e w' => e = .returned (.bool (m.kind == 3)) ∧ Below w.heap.size w w' := by
  obtain ⟨kd, id, who, tm, tx⟩ := m
  unfold encM
  dsimp only
  go_enter Tryz.func49, Tryz.ntmps49
  go_wp2
  go_ret
  exact ⟨rfl, (Below.refl _ _).alloc (Nat.le_refl _) _⟩
end Go.Proofs.YthmpcdjhighhgaaGreatDoor
