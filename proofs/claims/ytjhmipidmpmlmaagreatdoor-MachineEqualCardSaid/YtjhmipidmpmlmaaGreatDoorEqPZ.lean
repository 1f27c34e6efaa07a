/- Plain: what Compile answers at patterns with few positions; the three patterns of MachineEqual. -/
import Derived.Test.YtjhmipidmpmlmaaGreatDoorY23
import Derived.Test.YtjhmipidmpmlmaaGreatDoorY15
namespace Go.Proofs.YtjhmipidmpmlmaaGreatDoor
set_option linter.unusedVariables false
set_option linter.unusedSimpArgs false
set_option maxRecDepth 100000
open Go.RowKit
/-- What Compile answers at a pattern that is right and has few positions. -/
theorem cm_few {nd : Nd} {w w' : World} {e : Ending} (h : CmPost nd w e w') (hv : validF nd = 0) (hp : posF nd ≤ 10) : Below w.heap.size w w' ∧ ∃ rv m' m0, e = .returned (.tuple #[rv, .int .i64 0]) ∧ McUp w.heap.size w' rv m' ∧ LeOK m0 m' ∧ m0.ed.length ≤ 2000 ∧ ∀ u, acF m0 u 0 = true ↔ langN nd u := by
  obtain ⟨hb, h⟩ := h
  refine ⟨hb, ?_⟩
  rcases h with ⟨h1, -⟩ | ⟨-, h1, -⟩ | ⟨-, -, b, x, gs, rows, acs, i, hw, hf, hs, hc, h⟩
  · exact absurd hv h1
  · omega
  · have hct := hc.count
    rw [hw.len, hf] at hct
    have h2 : 2 ^ posF nd ≤ 2 ^ 10 := Nat.pow_le_pow_right (by decide) hp
    rcases h with ⟨h1, -⟩ | ⟨rfl, -, rv, m', rfl, hup, hle⟩
    · omega
    · have hd := hc.done hs
      refine ⟨rv, m', ⟨rows, acs⟩, rfl, hup, hle, ?_, fun u => by rw [hd.2.2, hw.lang]⟩
      show rows.length ≤ 2000
      have := hc.rl
      omega
/-- Least machines of machines that accept the same are equal. -/
theorem least_eq {m1 m2 n1 n2 : Mc} (h1 : LeOK m1 n1) (h2 : LeOK m2 n2) (h : ∀ u, acF m1 u 0 = acF m2 u 0) : n1 = n2 := by
  have hl : LiveS m1 0 ↔ LiveS m2 0 := by
    unfold LiveS
    constructor
    · rintro ⟨w, hw⟩; exact ⟨w, by rw [← h]; exact hw⟩
    · rintro ⟨w, hw⟩; exact ⟨w, by rw [h]; exact hw⟩
  rcases h1.1 with ⟨l1, c1, e1⟩ | ⟨l1, rfl⟩
  · rcases h2.1 with ⟨l2, c2, e2⟩ | ⟨l2, -⟩
    · exact Canon.unique c1 c2 fun w => by rw [e1, e2, h]
    · exact absurd (hl.1 l1) l2
  · rcases h2.1 with ⟨l2, -⟩ | ⟨-, rfl⟩
    · exact absurd (hl.2 l2) l1
    · rfl
def eqSetsF : List (List (Nat × Nat)) := [[(97, 98)], [(48, 57)], [(97, 97)], [(98, 98)], [(48, 57), (97, 102)], [(107, 107)], [(45, 45)], [(0, 9), (250, 255)]]
def eqSetN (rs : List (Nat × Nat)) : Nd := .mk 1 rs [] 0 0
def eqPairN (x y : Nd) : Nd := .mk 2 [] [x, y] 0 0
def eqQuadN (x y : Nd) : Nd := .mk 2 [] [x, y, x, y] 0 0
def eqRepN (x y : Nd) : Nd := .mk 4 [] [eqPairN x y] 1 2
def eqChoN (x y : Nd) : Nd := .mk 3 [] [eqPairN x y, eqQuadN x y] 0 0
def eqChoM (x y : Nd) : Nd := .mk 3 [] [eqQuadN x y, eqPairN x y] 0 0
theorem few_ok : ∀ rs ∈ eqSetsF, ∀ qs ∈ eqSetsF, (validF (eqRepN (eqSetN rs) (eqSetN qs)) = 0 ∧ posF (eqRepN (eqSetN rs) (eqSetN qs)) ≤ 10) ∧ (validF (eqChoN (eqSetN rs) (eqSetN qs)) = 0 ∧ posF (eqChoN (eqSetN rs) (eqSetN qs)) ≤ 10) ∧ (validF (eqChoM (eqSetN rs) (eqSetN qs)) = 0 ∧ posF (eqChoM (eqSetN rs) (eqSetN qs)) ≤ 10) := by decide
theorem cho_swap (x y : Nd) (w : List Nat) : langN (eqChoN x y) w ↔ langN (eqChoM x y) w := by
  have e1 : langN (eqChoN x y) w ↔ langN (eqPairN x y) w ∨ langN (eqQuadN x y) w ∨ False := by unfold eqChoN; rw [langN]; exact Iff.rfl
  have e2 : langN (eqChoM x y) w ↔ langN (eqQuadN x y) w ∨ langN (eqPairN x y) w ∨ False := by unfold eqChoM; rw [langN]; exact Iff.rfl
  rw [e1, e2]
  simp only [or_false]
  exact Or.comm
theorem pair_lang (x y : Nd) (w : List Nat) : langN (eqPairN x y) w ↔ ∃ u v, w = u ++ v ∧ langN x u ∧ langN y v := by
  have e1 : langN (eqPairN x y) w ↔ ∃ u v, w = u ++ v ∧ langN x u ∧ ∃ u1 v1, v = u1 ++ v1 ∧ langN y u1 ∧ v1 = [] := by unfold eqPairN; rw [langN]; exact Iff.rfl
  rw [e1]
  constructor
  · rintro ⟨u, v, rfl, h1, u1, v1, rfl, h2, rfl⟩
    exact ⟨u, u1, by simp, h1, h2⟩
  · rintro ⟨u, v, rfl, h1, h2⟩
    exact ⟨u, v, rfl, h1, v, [], by simp, h2, rfl⟩
theorem quad_lang (x y : Nd) (w : List Nat) : langN (eqQuadN x y) w ↔ ∃ u v, w = u ++ v ∧ langN (eqPairN x y) u ∧ langN (eqPairN x y) v := by
  have e1 : langN (eqQuadN x y) w ↔ ∃ u v, w = u ++ v ∧ langN x u ∧ ∃ u1 v1, v = u1 ++ v1 ∧ langN y u1 ∧ ∃ u2 v2, v1 = u2 ++ v2 ∧ langN x u2 ∧ ∃ u3 v3, v2 = u3 ++ v3 ∧ langN y u3 ∧ v3 = [] := by unfold eqQuadN; rw [langN]; exact Iff.rfl
  rw [e1]
  constructor
  · rintro ⟨u, v, rfl, h1, u1, v1, rfl, h2, u2, v2, rfl, h3, u3, v3, rfl, h4, rfl⟩
    exact ⟨u ++ u1, u2 ++ u3, by simp, (pair_lang x y _).2 ⟨u, u1, rfl, h1, h2⟩, (pair_lang x y _).2 ⟨u2, u3, rfl, h3, h4⟩⟩
  · rintro ⟨a, b, rfl, h1, h2⟩
    obtain ⟨u, u1, rfl, q1, q2⟩ := (pair_lang x y _).1 h1
    obtain ⟨u2, u3, rfl, q3, q4⟩ := (pair_lang x y _).1 h2
    exact ⟨u, u1 ++ (u2 ++ u3), by simp, q1, u1, u2 ++ u3, rfl, q2, u2, u3, rfl, q3, u3, [], by simp, q4, rfl⟩
theorem rep_cho (x y : Nd) (w : List Nat) : langN (eqRepN x y) w ↔ langN (eqChoN x y) w := by
  have e1 : langN (eqChoN x y) w ↔ langN (eqPairN x y) w ∨ langN (eqQuadN x y) w ∨ False := by unfold eqChoN; rw [langN]; exact Iff.rfl
  have e2 : langN (eqRepN x y) w ↔ ∃ j : Nat, (1 : Int) ≤ (j : Int) ∧ (j : Int) ≤ 2 ∧ powL (langN (eqPairN x y)) j w := by unfold eqRepN; rw [langN]; exact Iff.rfl
  have p1 : ∀ w, powL (langN (eqPairN x y)) 1 w ↔ langN (eqPairN x y) w := fun w => by
    constructor
    · rintro ⟨u, v, rfl, h3, h4⟩
      have h3 : u = [] := h3
      subst h3
      exact h4
    · intro h
      exact ⟨[], w, rfl, rfl, h⟩
  rw [e1, e2, quad_lang]
  constructor
  · rintro ⟨j, h1, h2, h⟩
    rcases (show j = 1 ∨ j = 2 by omega) with rfl | rfl
    · exact .inl ((p1 _).1 h)
    · obtain ⟨u, v, rfl, h3, h4⟩ := h
      exact .inr (.inl ⟨u, v, rfl, (p1 _).1 h3, h4⟩)
  · rintro (h | ⟨u, v, rfl, h1, h2⟩ | h)
    · exact ⟨1, by decide, by decide, (p1 _).2 h⟩
    · exact ⟨2, by decide, by decide, u, v, rfl, (p1 _).2 h1, h2⟩
    · exact h.elim
end Go.Proofs.YtjhmipidmpmlmaaGreatDoor
