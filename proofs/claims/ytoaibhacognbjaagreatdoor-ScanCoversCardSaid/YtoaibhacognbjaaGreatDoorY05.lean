/- Patterns in memory. -/
import Derived.Test.YtoaibhacognbjaaGreatDoorY02
import Derived.Test.YtoaibhacognbjaaGreatDoorY03
import Derived.Test.YtoaibhacognbjaaGreatDoorY04
namespace Go.Proofs.YtoaibhacognbjaaGreatDoor
set_option linter.unusedVariables false
set_option linter.unusedSimpArgs false
set_option maxRecDepth 100000
open Go.RowKit
/-- A slice value that reads as ranges. -/
def RgIn (w : World) (v : Value) (rs : List (Nat × Nat)) : Prop := ∃ A c, v = .slice A rs.length c ∧ (rs.length ≤ c ∧ c ≤ 9223372036854775807) ∧ (rs = [] ∨ ∃ g f, A = some ⟨g, f, none⟩ ∧ g < w.heap.size ∧
  ∀ i (h : i < rs.length), (w.cell? ⟨g, f + i * 2, none⟩ = some (.int .u8 (rs[i].1 : Int)) ∧ w.cell? ⟨g, f + i * 2 + 1, none⟩ = some (.int .u8 (rs[i].2 : Int))) ∧ rs[i].1 < 256 ∧ rs[i].2 < 256)
mutual
def NdIn (w : World) : Nd → List Value → Prop
  | .mk op rs kids mn mx => fun vs => ∃ v1 v2, vs = [.int .i64 op, v1, v2, .int .i64 mn, .int .i64 mx] ∧ RgIn w v1 rs ∧ ∃ A c, v2 = .slice A kids.length c ∧ (kids.length ≤ c ∧ c ≤ 9223372036854775807) ∧ (kids = [] ∨ ∃ g f, A = some ⟨g, f, none⟩ ∧ g < w.heap.size ∧ KdsIn w kids g f)
def KdsIn (w : World) : List Nd → Nat → Nat → Prop
  | [] => fun _ _ => True
  | k :: r => fun g f => (∃ vs : List Value, (∀ j, j < 5 → w.cell? ⟨g, f + j, none⟩ = vs[j]?) ∧ NdIn w k vs) ∧ KdsIn w r g (f + 5)
end
theorem RgIn.later {w w' : World} {v : Value} {rs : List (Nat × Nat)} (h : RgIn w v rs) (hb : Below w.heap.size w w') : RgIn w' v rs := by
  obtain ⟨A, c, e, hc, h⟩ := h
  refine ⟨A, c, e, hc, h.imp id ?_⟩
  rintro ⟨g, f, h1, h2, h3⟩
  refine ⟨g, f, h1, Nat.lt_of_lt_of_le h2 hb.size, fun i hi => ?_⟩
  obtain ⟨⟨q1, q2⟩, q3⟩ := h3 i hi
  exact ⟨⟨(hb.cell (p := ⟨g, f + i * 2, none⟩) h2).trans q1, (hb.cell (p := ⟨g, f + i * 2 + 1, none⟩) h2).trans q2⟩, q3⟩
theorem nodesT_kid : ∀ {l : List Nd} {k : Nd}, k ∈ l → nodesT k ≤ nodesTs l
  | a :: r, k, h => by
    rw [nodesTs]
    rcases List.mem_cons.1 h with rfl | h
    · omega
    · have := nodesT_kid h; omega
theorem KdsIn.at {w : World} : ∀ {l : List Nd} {g f : Nat}, KdsIn w l g f → ∀ i (h : i < l.length), ∃ vs : List Value, (∀ j, j < 5 → w.cell? ⟨g, f + i * 5 + j, none⟩ = vs[j]?) ∧ NdIn w l[i] vs
  | [], _, _, _, i, h => by cases h
  | k :: r, g, f, hk, i, h => by
    cases i with
    | zero =>
      obtain ⟨vs, h1, h2⟩ := hk.1
      exact ⟨vs, fun j hj => by rw [Nat.zero_mul, Nat.add_zero]; exact h1 j hj, h2⟩
    | succ i =>
      obtain ⟨vs, h1, h2⟩ := KdsIn.at hk.2 i (by simpa using h)
      refine ⟨vs, fun j hj => ?_, h2⟩
      have := h1 j hj
      rw [show f + 5 + i * 5 + j = f + (i + 1) * 5 + j by omega] at this
      exact this
theorem NdIn_later {w w' : World} (hb : Below w.heap.size w w') : ∀ (m : Nat), (∀ (n : Nd) (vs : List Value), nodesT n ≤ m → NdIn w n vs → NdIn w' n vs) ∧ (∀ (l : List Nd) (g f : Nat), nodesTs l ≤ m → g < w.heap.size → KdsIn w l g f → KdsIn w' l g f) := by
  intro m
  induction m with
  | zero =>
    refine ⟨fun n vs h => ?_, fun l g f h hg hk => ?_⟩
    · cases n; rw [nodesT] at h; omega
    · cases l with
      | nil => trivial
      | cons k r => cases k; rw [nodesTs, nodesT] at h; omega
  | succ m ih =>
    have h1 : ∀ (n : Nd) (vs : List Value), nodesT n ≤ m + 1 → NdIn w n vs → NdIn w' n vs := by
      rintro ⟨op, rs, kids, mn, mx⟩ vs h ⟨v1, v2, e, hr, A, c, e2, hc, hk⟩
      rw [nodesT] at h
      refine ⟨v1, v2, e, hr.later hb, A, c, e2, hc, hk.imp id ?_⟩
      rintro ⟨g, f, h1, h2, h3⟩
      exact ⟨g, f, h1, Nat.lt_of_lt_of_le h2 hb.size, ih.2 kids g f (by omega) h2 h3⟩
    refine ⟨h1, fun l => ?_⟩
    induction l with
    | nil => intro _ _ _ _ _; trivial
    | cons k r ihl =>
      rintro g f h hg ⟨⟨vs, h2, h3⟩, h4⟩
      rw [nodesTs] at h
      exact ⟨⟨vs, fun j hj => (hb.cell (p := ⟨g, f + j, none⟩) hg).trans (h2 j hj), h1 k vs (by omega) h3⟩, ihl g (f + 5) (by omega) hg h4⟩
theorem NdIn.later {w w' : World} {n : Nd} {vs : List Value} (h : NdIn w n vs) (hb : Below w.heap.size w w') : NdIn w' n vs := (NdIn_later hb _).1 n vs (Nat.le_refl _) h
/-- The node's five cells. -/
theorem NdIn.form {w : World} {n : Nd} {vs : List Value} (h : NdIn w n vs) : ∃ A1 c1 A2 c2, vs = [.int .i64 n.op, .slice A1 n.rs.length c1, .slice A2 n.kids.length c2, .int .i64 n.mn, .int .i64 n.mx] ∧ RgIn w (.slice A1 n.rs.length c1) n.rs ∧ (n.kids.length ≤ c2 ∧ c2 ≤ 9223372036854775807) ∧ (n.kids = [] ∨ ∃ g f, A2 = some ⟨g, f, none⟩ ∧ g < w.heap.size ∧ KdsIn w n.kids g f) := by
  obtain ⟨op, rs, kids, mn, mx⟩ := n
  obtain ⟨v1, v2, e, hr, A, c, rfl, hc, hk⟩ := h
  obtain ⟨A1, c1, rfl, h1, h2⟩ := hr
  exact ⟨A1, c1, A, c, e, ⟨A1, c1, rfl, h1, h2⟩, hc, hk⟩
end Go.Proofs.YtoaibhacognbjaaGreatDoor
