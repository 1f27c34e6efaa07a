/- The plain law of the runs: what is sorted is what is merged. -/
import Derived.Test.YtpfldcfnbgdceaaDoorRunF
import Derived.Test.YtpfldcfnbgdceaaDoorRunJ
namespace Go.Proofs.YtpfldcfnbgdceaaDoor
set_option linter.unusedVariables false
set_option linter.unusedSimpArgs false
set_option maxRecDepth 100000
open Go.RowKit
theorem foldP_app (h : Nat → Nat → List Rn) : ∀ (xs : List (Nat × Nat)) (o : List Rn), foldP (fun o f t => o ++ h f t) xs o = o ++ xs.flatMap (fun p => h p.1 p.2)
  | [], o => by simp [foldP]
  | (f, t) :: r, o => by rw [foldP, foldP_app h r]; simp [List.flatMap_cons, List.append_assoc]
def secR (c : Nat) (l : List UInt8) : List Rn := (scanP (belP c) l 0 0).flatMap (fun p => addR l c p.1 (cutR c l p.1 p.2))
theorem ofR_eq (c : Nat) (l : List UInt8) : ofR c l = secR c l := by
  show foldP (fun o f t => o ++ addR l c f (cutR c l f t)) _ _ = _
  rw [foldP_app (fun f t => addR l c f (cutR c l f t))]; rfl
theorem flat_two (h g : Nat × Nat → List Rn) : ∀ xs : List (Nat × Nat), (xs.flatMap (fun p => h p ++ g p)).Perm (xs.flatMap h ++ xs.flatMap g)
  | [] => by simp
  | a :: r => by
    simp only [List.flatMap_cons]
    refine ((List.Perm.append_left (h a ++ g a) (flat_two h g r))).trans ?_
    rw [List.append_assoc, List.append_assoc]
    refine List.Perm.append_left _ ?_
    rw [← List.append_assoc, ← List.append_assoc]
    exact List.Perm.append_right _ List.perm_append_comm
theorem U3_perm (l : List UInt8) : (U3 l).Perm (((secR 1 l ++ secR 2 l) ++ secR 3 l) ++ secR 4 l) := by
  have e1 : U1 l = secR 1 l := by
    unfold U1; rw [foldP_app (fun f t => addR l 1 f (cut1 f t))]; rfl
  have e2 : U2 l = secR 1 l ++ secR 2 l := by
    unfold U2; rw [foldP_app (fun f t => addR l 2 f (cut2 l f t)), e1]; rfl
  unfold U3
  rw [foldP_app (fun f t => addR l 3 f t ++ addR l 4 f t), e2]
  have h := List.Perm.append_left (secR 1 l ++ secR 2 l) (flat_two (fun p => addR l 3 p.1 p.2) (fun p => addR l 4 p.1 p.2) (scanP visP l 0 0))
  rw [← List.append_assoc] at h
  exact h
theorem scanP_asc (p : Int → Bool) : ∀ (r : List UInt8) (i f : Nat), f ≤ i → (∀ x ∈ scanP p r i f, f ≤ x.1) ∧ (scanP p r i f).Pairwise (fun a b => a.1 < b.1)
  | [], i, f, h => by
    rw [scanP]; split <;> simp
  | c :: r, i, f, h => by
    rw [scanP]
    split
    · exact scanP_asc p r (i + 1) f (by omega)
    · obtain ⟨h1, h2⟩ := scanP_asc p r (i + 1) (i + 1) (Nat.le_refl _)
      split
      · refine ⟨fun x hx => ?_, List.pairwise_cons.2 ⟨fun x hx => ?_, h2⟩⟩
        · rcases List.mem_cons.1 hx with rfl | hx
          · exact Nat.le_refl _
          · have := h1 x hx; omega
        · have := h1 x hx; show f < x.1; omega
      · exact ⟨fun x hx => by have := h1 x hx; omega, h2⟩
theorem addR_mem {l : List UInt8} {c f t : Nat} {x : Rn} (h : x ∈ addR l c f t) : x = (c, f, t) := by
  unfold addR at h
  split at h
  · simp at h
  · split at h
    · simpa using h
    · simp at h
theorem addR_pw (l : List UInt8) (c f t : Nat) (R : Rn → Rn → Prop) : (addR l c f t).Pairwise R := by
  unfold addR
  split
  · simp
  · split <;> simp
theorem flat_asc (h : Nat × Nat → List Rn) (h1 : ∀ p x, x ∈ h p → x.2.1 = p.1) (h2 : ∀ p, (h p).Pairwise (fun a b => a.2.1 < b.2.1)) : ∀ xs : List (Nat × Nat), xs.Pairwise (fun a b => a.1 < b.1) → (xs.flatMap h).Pairwise (fun a b => a.2.1 < b.2.1)
  | [], _ => by simp
  | a :: r, hx => by
    obtain ⟨ha, hr⟩ := List.pairwise_cons.1 hx
    rw [List.flatMap_cons]
    refine List.pairwise_append.2 ⟨h2 a, flat_asc h h1 h2 r hr, fun x hx y hy => ?_⟩
    obtain ⟨b, hb, hy⟩ := List.mem_flatMap.1 hy
    rw [h1 a x hx, h1 b y hy]
    exact ha b hb
theorem secR_asc (c : Nat) (l : List UInt8) : (secR c l).Pairwise (fun a b => a.2.1 < b.2.1) :=
  flat_asc _ (fun _ _ hx => by rw [addR_mem hx]) (fun _ => addR_pw _ _ _ _ _) _ (scanP_asc _ _ _ _ (Nat.le_refl _)).2
theorem secR_mem {c : Nat} {l : List UInt8} {x : Rn} (h : x ∈ secR c l) : x.1 = c := by
  obtain ⟨p, _, hp⟩ := List.mem_flatMap.1 h
  rw [addR_mem hp]
theorem pw_eq {R : List Rn} (h : R.Pairwise (fun a b => a.2.1 < b.2.1)) : ∀ x ∈ R, ∀ y ∈ R, x.2.1 = y.2.1 → x = y := by
  induction R with
  | nil => intro x hx; simp at hx
  | cons a r ih =>
    obtain ⟨ha, hr⟩ := List.pairwise_cons.1 h
    intro x hx y hy e
    rcases List.mem_cons.1 hx with h1 | h1 <;> rcases List.mem_cons.1 hy with h2 | h2
    · rw [h1, h2]
    · have := ha y h2; rw [h1] at e; omega
    · have := ha x h1; rw [h2] at e; omega
    · exact ih hr x h1 y h2 e
theorem mergeR_perm : ∀ (a b : List Rn), (mergeR a b).Perm (a ++ b)
  | [], b => by rw [mergeR]; exact List.Perm.refl _
  | a :: p, [] => by rw [mergeR]; simp
  | a :: p, b :: q => by
    rw [mergeR]
    split
    · exact List.Perm.cons _ (mergeR_perm p (b :: q))
    · exact (List.Perm.cons _ (mergeR_perm (a :: p) q)).trans List.perm_middle.symm
termination_by a b => a.length + b.length
def leR (a b : Rn) : Prop := ltR b a = false
theorem leR_def {a b : Rn} : leR a b ↔ a.2.1 < b.2.1 ∨ (a.2.1 = b.2.1 ∧ a.1 ≤ b.1) := by
  unfold leR ltR
  rw [Bool.or_eq_false_iff, Bool.and_eq_false_iff]
  simp only [decide_eq_false_iff_not]
  omega
theorem ltR_def {a b : Rn} : ltR a b = true ↔ a.2.1 < b.2.1 ∨ (a.2.1 = b.2.1 ∧ a.1 < b.1) := by
  unfold ltR; simp
theorem mergeR_sorted : ∀ (a b : List Rn), a.Pairwise leR → b.Pairwise leR → (mergeR a b).Pairwise leR
  | [], b, _, hb => by rw [mergeR]; exact hb
  | a :: p, [], ha, _ => by rw [mergeR]; exact ha
  | a :: p, b :: q, ha, hb => by
    obtain ⟨h1, h2⟩ := List.pairwise_cons.1 ha
    obtain ⟨h3, h4⟩ := List.pairwise_cons.1 hb
    rw [mergeR]
    split
    · rename_i hlt
      refine List.pairwise_cons.2 ⟨fun x hx => ?_, mergeR_sorted p (b :: q) h2 hb⟩
      have hx := (mergeR_perm p (b :: q)).mem_iff.1 hx
      rcases List.mem_append.1 hx with hx | hx
      · exact h1 x hx
      · rw [ltR_def] at hlt
        rcases List.mem_cons.1 hx with rfl | hx
        · rw [leR_def]; omega
        · have := h3 x hx; rw [leR_def] at *; omega
    · rename_i hlt
      have hba : leR b a := by unfold leR; simpa using hlt
      refine List.pairwise_cons.2 ⟨fun x hx => ?_, mergeR_sorted (a :: p) q ha h4⟩
      have hx := (mergeR_perm (a :: p) q).mem_iff.1 hx
      rcases List.mem_append.1 hx with hx | hx
      · rcases List.mem_cons.1 hx with rfl | hx
        · exact hba
        · have := h1 x hx; rw [leR_def] at *; omega
      · exact h3 x hx
termination_by a b => a.length + b.length
theorem secR_sorted (c : Nat) (l : List UInt8) : (secR c l).Pairwise leR := (secR_asc c l).imp (fun h => by rw [leR_def]; exact .inl h)
theorem mUp_sorted (l : List UInt8) : ∀ n, (mUp l n).Pairwise leR
  | 0 => by simp [mUp]
  | n + 1 => by rw [mUp, ofR_eq]; exact mergeR_sorted _ _ (mUp_sorted l n) (secR_sorted _ _)
theorem mUp_perm (l : List UInt8) : (mUp l 4).Perm (((secR 1 l ++ secR 2 l) ++ secR 3 l) ++ secR 4 l) := by
  have h : ∀ n, (mUp l (n + 1)).Perm (mUp l n ++ secR (n + 1) l) := fun n => by rw [mUp, ofR_eq]; exact mergeR_perm _ _
  refine (h 3).trans (List.Perm.append_right _ ((h 2).trans (List.Perm.append_right _ ((h 1).trans (List.Perm.append_right _ ?_)))))
  exact (h 0)
theorem runs_law (l : List UInt8) (o : List Rn) (hp : o.Perm (U3 l)) (hs : o.Pairwise (fun a b => ltR b a = false)) : o = mUp l 4 := by
  have hpm : o.Perm (mUp l 4) := (hp.trans (U3_perm l)).trans (mUp_perm l).symm
  refine List.Perm.eq_of_pairwise (le := leR) ?_ hs (mUp_sorted l 4) hpm
  intro x y hx hy h1 h2
  rw [leR_def] at h1 h2
  have hx := (hp.trans (U3_perm l)).mem_iff.1 hx
  have hy := (mUp_perm l).mem_iff.1 hy
  simp only [List.mem_append] at hx hy
  have key : ∀ z : Rn, ((z ∈ secR 1 l ∨ z ∈ secR 2 l) ∨ z ∈ secR 3 l) ∨ z ∈ secR 4 l → z ∈ secR z.1 l := by
    intro z hz
    rcases hz with ((hz | hz) | hz) | hz <;> (rw [secR_mem hz]; exact hz)
  have kx := key x hx
  have ky := key y hy
  have e1 : x.1 = y.1 := by omega
  rw [← e1] at ky
  exact pw_eq (secR_asc x.1 l) x kx y ky (by omega)
end Go.Proofs.YtpfldcfnbgdceaaDoor
