/- The plain law of CodingOpens: what each run of a text is; and that an encoding between spaces is a run. -/
import Derived.Test.YtpfldcfnbgdceaaDoorRunM
import Derived.Test.YtpfldcfnbgdceaaDoorPlain1
namespace Go.Proofs.YtpfldcfnbgdceaaDoor
set_option linter.unusedVariables false
set_option linter.unusedSimpArgs false
set_option maxRecDepth 100000
open Go
/-- A greatest part of bytes of a kind. -/
def MaxP (p : Int → Bool) (l : List UInt8) (f t : Nat) : Prop :=
  f < t ∧ t ≤ l.length ∧ (∀ j, f ≤ j → j < t → p (l.getD j 0).toNat = true) ∧ (t = l.length ∨ p (l.getD t 0).toNat = false) ∧ (f = 0 ∨ p (l.getD (f - 1) 0).toNat = false)
theorem scanP_iff (p : Int → Bool) (l : List UInt8) : ∀ (r : List UInt8) (i f0 : Nat), l.drop i = r → i ≤ l.length → f0 ≤ i → (∀ j, f0 ≤ j → j < i → p (l.getD j 0).toNat = true) → (f0 = 0 ∨ p (l.getD (f0 - 1) 0).toNat = false) →
    ∀ f t, (f, t) ∈ scanP p r i f0 ↔ f0 ≤ f ∧ MaxP p l f t
  | [], i, f0, hd, hi, hf, hall, hl, f, t => by
    have hi2 : i = l.length := by have := congrArg List.length hd; simp at this; omega
    subst hi2
    have key : f0 ≤ f ∧ MaxP p l f t → f = f0 ∧ t = l.length := by
      rintro ⟨h0, h1, h2, h3, h4, h5⟩
      have e1 : f = f0 := by
        rcases Nat.lt_or_ge f0 f with h | h
        · have := hall (f - 1) (by omega) (by omega)
          rcases h5 with h5 | h5
          · omega
          · rw [this] at h5; cases h5
        · omega
      refine ⟨e1, ?_⟩
      rcases h4 with h4 | h4
      · exact h4
      · rcases Nat.lt_or_ge t l.length with h | h
        · have := hall t (by omega) h; rw [this] at h4; cases h4
        · omega
    rw [scanP]
    split
    · rename_i hlt
      refine ⟨fun h => ?_, fun h => ?_⟩
      · simp at h; obtain ⟨rfl, rfl⟩ := h
        exact ⟨Nat.le_refl _, hlt, Nat.le_refl _, hall, .inl rfl, hl⟩
      · obtain ⟨rfl, rfl⟩ := key h; simp
    · rename_i hlt
      refine ⟨fun h => by simp at h, fun h => ?_⟩
      obtain ⟨rfl, rfl⟩ := key h
      exact absurd h.2.1 hlt
  | c :: r, i, f0, hd, hi, hf, hall, hl, f, t => by
    have hlt : i < l.length := by have := congrArg List.length hd; simp at this; omega
    have hd1 : l.drop (i + 1) = r := by rw [← List.drop_drop, hd]; rfl
    have hc : l.getD i 0 = c := by
      rw [List.getD_eq_getElem?_getD, List.getElem?_eq_getElem hlt]
      rw [List.drop_eq_getElem_cons hlt] at hd
      injection hd
    rw [scanP]
    by_cases hp : p c.toNat = true
    · rw [if_pos hp]
      refine scanP_iff p l r (i + 1) f0 hd1 (by omega) (by omega) (fun j h1 h2 => ?_) hl f t
      by_cases e : j = i
      · subst e; rw [hc]; exact hp
      · exact hall j h1 (by omega)
    · rw [if_neg hp]
      have hpf : p (l.getD i 0).toNat = false := by rw [hc]; simpa using hp
      have IH := scanP_iff p l r (i + 1) (i + 1) hd1 (by omega) (Nat.le_refl _) (fun j h1 h2 => by omega) (.inr (by simpa using hpf)) f t
      have key : f0 ≤ f ∧ MaxP p l f t → (f = f0 ∧ t = i ∧ f0 < i) ∨ (i + 1 ≤ f ∧ MaxP p l f t) := by
        rintro ⟨h0, h1, h2, h3, h4, h5⟩
        rcases Nat.lt_or_ge i f with h | h
        · exact .inr ⟨h, h1, h2, h3, h4, h5⟩
        · left
          have hti : t ≤ i := by
            rcases Nat.lt_or_ge i t with h' | h'
            · have := h3 i h h'; rw [this] at hpf; cases hpf
            · exact h'
          have e1 : f = f0 := by
            rcases Nat.lt_or_ge f0 f with h6 | h6
            · have := hall (f - 1) (by omega) (by omega)
              rcases h5 with h5 | h5
              · omega
              · rw [this] at h5; cases h5
            · omega
          refine ⟨e1, ?_, by omega⟩
          rcases h4 with h4 | h4
          · omega
          · rcases Nat.lt_or_ge t i with h' | h'
            · have := hall t (by omega) h'; rw [this] at h4; cases h4
            · omega
      split
      · rename_i hfi
        rw [List.mem_cons, IH]
        refine ⟨fun h => ?_, fun h => ?_⟩
        · rcases h with h | h
          · injection h with h1 h2; subst h1 h2
            exact ⟨Nat.le_refl _, hfi, hi, hall, .inr hpf, hl⟩
          · exact ⟨by omega, h.2⟩
        · rcases key h with ⟨h1, h2, _⟩ | h
          · subst h1 h2; exact .inl rfl
          · exact .inr h
      · rename_i hfi
        rw [IH]
        refine ⟨fun h => ⟨by omega, h.2⟩, fun h => ?_⟩
        rcases key h with ⟨_, _, h3⟩ | h
        · exact absurd h3 hfi
        · exact h
theorem scanP_mem (p : Int → Bool) (l : List UInt8) (f t : Nat) : (f, t) ∈ scanP p l 0 0 ↔ MaxP p l f t := by
  have := scanP_iff p l l 0 0 rfl (Nat.zero_le _) (Nat.le_refl _) (fun j h1 h2 => by omega) (.inl rfl) f t
  rw [this]; exact ⟨fun h => h.2, fun h => ⟨Nat.zero_le _, h⟩⟩
theorem MaxP.apart {p : Int → Bool} {l : List UInt8} {f t f' t' : Nat} (h : MaxP p l f t) (h' : MaxP p l f' t') (hlt : f < f') : t < f' := by
  obtain ⟨h1, h2, h3, h4, h5⟩ := h
  obtain ⟨k1, k2, k3, k4, k5⟩ := h'
  rcases Nat.lt_or_ge t f' with h | h
  · exact h
  · rcases k5 with k5 | k5
    · omega
    · have := h3 (f' - 1) (by omega) (by omega); rw [this] at k5; cases k5
theorem getD_take {l : List UInt8} {t n j : Nat} {x : List UInt8} (h : (l.drop t).take n = x) (hj : j < x.length) : l.getD (t + j) 0 = x.getD j 0 := by
  subst h
  rw [List.length_take, List.length_drop] at hj
  rw [List.getD_eq_getElem?_getD, List.getD_eq_getElem?_getD, List.getElem?_take_of_lt (by omega), List.getElem?_drop]
theorem sec_mem (c : Nat) (l : List UInt8) (r : Rn) : r ∈ secR c l ↔ ∃ f t, MaxP (belP c) l f t ∧ r = (c, f, cutR c l f t) ∧ f + 8 ≤ cutR c l f t ∧ keepR c (sub l f (cutR c l f t)) = true := by
  unfold secR
  rw [List.mem_flatMap]
  constructor
  · rintro ⟨⟨f, t⟩, hp, hr⟩
    refine ⟨f, t, (scanP_mem _ _ _ _).1 hp, ?_⟩
    have e := addR_mem hr
    dsimp only at hr e
    unfold addR at hr
    split at hr
    · simp at hr
    · rename_i h8
      split at hr
      · rename_i hk; exact ⟨e, by omega, hk⟩
      · simp at hr
  · rintro ⟨f, t, hp, rfl, h8, hk⟩
    refine ⟨(f, t), (scanP_mem _ _ _ _).2 hp, ?_⟩
    dsimp only
    rw [addR_yes (by omega) hk]; simp
theorem cut2_le {l : List UInt8} {f t : Nat} (ht : t ≤ l.length) : cut2 l f t ≤ l.length ∧ (∀ j, t ≤ j → j < cut2 l f t → l.getD j 0 = 61) := by
  unfold cut2
  split
  · rename_i h
    have hl : ((l.drop t).take 2).length = 2 := by rw [h.2]; rfl
    rw [List.length_take, List.length_drop] at hl
    refine ⟨by omega, fun j h1 h2 => ?_⟩
    obtain ⟨d, rfl⟩ : ∃ d, j = t + d := ⟨j - t, by omega⟩
    rw [getD_take h.2 (by simp; omega)]
    have : d = 0 ∨ d = 1 := by omega
    rcases this with rfl | rfl <;> rfl
  · split
    · rename_i h
      have hl : ((l.drop t).take 1).length = 1 := by rw [h.2]; rfl
      rw [List.length_take, List.length_drop] at hl
      refine ⟨by omega, fun j h1 h2 => ?_⟩
      obtain rfl : j = t := by omega
      have := getD_take (j := 0) h.2 (by simp)
      simpa using this
    · exact ⟨by omega, fun j h1 h2 => by omega⟩
theorem sgnP_61 : sgnP ((61 : UInt8).toNat : Int) = false := by decide
theorem sec_law (c : Nat) (l : List UInt8) (x y : Rn) (hx : x ∈ secR c l) (hy : y ∈ secR c l) :
    (x.2.2 ≤ l.length ∧ x.2.1 + 8 ≤ x.2.2 ∧ ∃ z, decd c (sub l x.2.1 x.2.2) = some z) ∧ (x.2.1 < y.2.1 → x.2.2 ≤ y.2.1) := by
  obtain ⟨f, t, hp, rfl, h8, hk⟩ := (sec_mem c l x).1 hx
  obtain ⟨f', t', hp', rfl, -, -⟩ := (sec_mem c l y).1 hy
  dsimp only
  have hle : cutR c l f t ≤ l.length := by
    unfold cutR
    have h2 := hp.2.1
    split
    · unfold cut1; omega
    · split
      · exact (cut2_le h2).1
      · exact h2
  refine ⟨⟨hle, h8, ?_⟩, fun hlt => ?_⟩
  · unfold keepR at hk
    cases hd : decd (c : Int) (sub l f (cutR c l f t)) with
    | none => rw [hd] at hk; cases hk
    | some z => exact ⟨z, rfl⟩
  · have hap := hp.apart hp' hlt
    unfold cutR
    split
    · unfold cut1; omega
    · split
      · rename_i hc1 hc2
        rcases Nat.lt_or_ge f' (cut2 l f t) with h | h
        · have h61 := (cut2_le (f := f) hp.2.1).2 f' (by omega) h
          have := hp'.2.2.1 f' (Nat.le_refl _) hp'.1
          rw [h61] at this
          unfold belP at this
          rw [if_neg hc1, if_pos hc2, sgnP_61] at this
          cases this
        · exact h
      · omega
/-- What is said of the runs of a text: each by itself, and any two. -/
def GoodR (l : List UInt8) (o : List Rn) : Prop :=
  (∀ x ∈ o, vldC (x.1 : Int) = true ∧ x.2.2 ≤ l.length ∧ x.2.1 + 8 ≤ x.2.2 ∧ ∃ z, decd x.1 (sub l x.2.1 x.2.2) = some z) ∧
  o.Pairwise (fun a b => (a.2.1 < b.2.1 ∨ (a.2.1 = b.2.1 ∧ a.1 < b.1)) ∧ (a.1 = b.1 → a.2.2 ≤ b.2.1))
theorem mUp_mem (l : List UInt8) (x : Rn) : x ∈ mUp l 4 ↔ (x ∈ secR 1 l ∨ x ∈ secR 2 l ∨ x ∈ secR 3 l ∨ x ∈ secR 4 l) := by
  rw [(mUp_perm l).mem_iff]
  simp only [List.mem_append]
  constructor
  · rintro (((h | h) | h) | h) <;> simp [h]
  · rintro (h | h | h | h) <;> simp [h]
theorem mUp_sec (l : List UInt8) (x : Rn) (h : x ∈ mUp l 4) : x ∈ secR x.1 l ∧ vldC (x.1 : Int) = true := by
  rcases (mUp_mem l x).1 h with h | h | h | h <;> (rw [secR_mem h]; exact ⟨h, by decide⟩)
theorem secR_nodup (c : Nat) (l : List UInt8) : (secR c l).Nodup := (secR_asc c l).imp fun h e => by rw [e] at h; omega
theorem mUp_nodup (l : List UInt8) : (mUp l 4).Nodup := by
  rw [(mUp_perm l).nodup_iff]
  have d : ∀ a b : Nat, a ≠ b → ∀ x ∈ secR a l, ∀ y ∈ secR b l, x ≠ y := fun a b hab x hx y hy e => hab (by rw [← secR_mem hx, ← secR_mem hy, e])
  refine List.nodup_append.2 ⟨List.nodup_append.2 ⟨List.nodup_append.2 ⟨secR_nodup _ _, secR_nodup _ _, d 1 2 (by decide)⟩, secR_nodup _ _, ?_⟩, secR_nodup _ _, ?_⟩
  · intro x hx y hy
    rcases List.mem_append.1 hx with hx | hx
    · exact d 1 3 (by decide) x hx y hy
    · exact d 2 3 (by decide) x hx y hy
  · intro x hx y hy
    rcases List.mem_append.1 hx with hx | hx
    · rcases List.mem_append.1 hx with hx | hx
      · exact d 1 4 (by decide) x hx y hy
      · exact d 2 4 (by decide) x hx y hy
    · exact d 3 4 (by decide) x hx y hy
theorem pw_and {α : Type} {R S : α → α → Prop} {l : List α} (h1 : l.Pairwise R) (h2 : l.Pairwise S) : l.Pairwise (fun a b => R a b ∧ S a b) := by
  induction l with
  | nil => exact .nil
  | cons a r ih =>
    obtain ⟨a1, r1⟩ := List.pairwise_cons.1 h1
    obtain ⟨a2, r2⟩ := List.pairwise_cons.1 h2
    exact List.pairwise_cons.2 ⟨fun x hx => ⟨a1 x hx, a2 x hx⟩, ih r1 r2⟩
theorem good_mUp (l : List UInt8) : GoodR l (mUp l 4) := by
  refine ⟨fun x hx => ?_, ?_⟩
  · obtain ⟨h1, h2⟩ := mUp_sec l x hx
    obtain ⟨⟨h3, h4, h5⟩, -⟩ := sec_law x.1 l x x h1 h1
    exact ⟨h2, h3, h4, h5⟩
  · refine (pw_and (mUp_sorted l 4) (mUp_nodup l)).imp_of_mem ?_
    rintro a b ha hb ⟨h1, h2⟩
    obtain ⟨a1, -⟩ := mUp_sec l a ha
    obtain ⟨b1, -⟩ := mUp_sec l b hb
    rw [leR_def] at h1
    have hs : a.2.1 < b.2.1 ∨ (a.2.1 = b.2.1 ∧ a.1 < b.1) := by
      rcases h1 with h1 | ⟨h1, h3⟩
      · exact .inl h1
      · rcases Nat.lt_or_ge a.1 b.1 with h | h
        · exact .inr ⟨h1, h⟩
        · have e : a.1 = b.1 := by omega
          rw [← e] at b1
          exact absurd (pw_eq (secR_asc a.1 l) a a1 b b1 h1) h2
    refine ⟨hs, fun e => ?_⟩
    rw [← e] at b1
    exact (sec_law a.1 l a b a1 b1).2 (by omega)
/-- The text of the statement: an encoding between spaces. -/
def textO (s : List UInt8) : List UInt8 := [97, 32] ++ s ++ [32, 98]
theorem textO_at (s : List UInt8) (j : Nat) (h : j < s.length) : (textO s).getD (2 + j) 0 = s.getD j 0 := by
  unfold textO
  rw [List.getD_eq_getElem?_getD, List.getD_eq_getElem?_getD, List.append_assoc, List.getElem?_append_right (by simp)]
  rw [show 2 + j - ([97, 32] : List UInt8).length = j by simp, List.getElem?_append_left h]
theorem textO_end (s : List UInt8) : (textO s).getD (2 + s.length) 0 = 32 := by
  unfold textO
  rw [List.getD_eq_getElem?_getD, List.append_assoc, List.getElem?_append_right (by simp), List.getElem?_append_right (by simp)]
  simp
theorem textO_len (s : List UInt8) : (textO s).length = s.length + 4 := by simp [textO]
theorem textO_sub (s : List UInt8) : sub (textO s) 2 (2 + s.length) = s := by
  unfold sub textO
  rw [List.append_assoc, List.drop_append_of_le_length (by simp)]
  simp
theorem getD_mem {s : List UInt8} {j : Nat} (h : j < s.length) : s.getD j 0 ∈ s := by
  rw [List.getD_eq_getElem?_getD, List.getElem?_eq_getElem h]; exact List.getElem_mem h
/-- A part of a kind that fills the encoding's first n bytes. -/
theorem part_O (p : Int → Bool) (s : List UInt8) (n : Nat) (hn : n ≤ s.length) (h0 : 0 < n) (hp : ∀ j, j < n → p (s.getD j 0).toNat = true) (h32 : p 32 = false) (he : n = s.length ∨ p (s.getD n 0).toNat = false) : MaxP p (textO s) 2 (2 + n) := by
  refine ⟨by omega, by rw [textO_len]; omega, fun j h1 h2 => ?_, .inr ?_, .inr ?_⟩
  · obtain ⟨d, rfl⟩ : ∃ d, j = 2 + d := ⟨j - 2, by omega⟩
    rw [textO_at s d (by omega)]; exact hp d (by omega)
  · rcases Nat.lt_or_ge n s.length with h | h
    · rw [textO_at s n h]; rcases he with he | he
      · omega
      · exact he
    · obtain rfl : n = s.length := by omega
      rw [textO_end]; exact h32
  · show p ((textO s).getD 1 0).toNat = false
    exact h32
theorem hexd_hexP0 : ∀ n : Fin 16, hexP ((hexd (n.val : Int)).toNat : Int) = true := by decide +kernel
theorem hexd_hexP (n : Int) (h0 : 0 ≤ n) (h1 : n < 16) : hexP ((hexd n).toNat : Int) = true := by
  have h := hexd_hexP0 ⟨n.toNat, by omega⟩
  simp only [Int.toNat_of_nonneg h0] at h
  exact h
theorem encF_mem {f : UInt8 → List UInt8} {x : UInt8} : ∀ {l : List UInt8}, x ∈ encF f l → ∃ c ∈ l, x ∈ f c
  | [], h => by simp [encF] at h
  | c :: r, h => by
    rw [encF, List.mem_append] at h
    rcases h with h | h
    · exact ⟨c, by simp, h⟩
    · obtain ⟨d, h1, h2⟩ := encF_mem h
      exact ⟨d, by simp [h1], h2⟩
theorem hex_all (b : List UInt8) (x : UInt8) (h : x ∈ encF hexE b) : hexP x.toNat = true := by
  obtain ⟨c, -, hc⟩ := encF_mem h
  have := c.toNat_lt
  unfold hexE at hc
  simp only [List.mem_cons, List.mem_nil_iff, or_false] at hc
  rcases hc with rfl | rfl
  · exact hexd_hexP _ (by omega) (by omega)
  · exact hexd_hexP _ (by omega) (by omega)
theorem hex_len (b : List UInt8) : (encF hexE b).length = 2 * b.length := by
  induction b with
  | nil => rfl
  | cons c r ih => rw [encF, List.length_append, ih]; simp [hexE]; omega
theorem sgnB_sgnP (n : Int) (h0 : 0 ≤ n) (h1 : n < 64) : sgnP ((sgnB n).toNat : Int) = true := by
  unfold sgnP; rw [(sgnV_B n h0 h1).1]; exact decide_eq_true h0
/-- The signs of the second coding: the first ones are signs, then up to two '='. -/
theorem b64_shape : ∀ b : List UInt8, ∃ x q, b64E b = x ++ List.replicate q 61 ∧ (∀ u ∈ x, sgnP u.toNat = true) ∧ q ≤ 2 ∧ (x.length + q) % 4 = 0 ∧ b.length ≤ x.length
  | [] => ⟨[], 0, by simp [b64E]⟩
  | [a] => ⟨[sgnB ((a.toNat : Int) / 4), sgnB ((a.toNat : Int) % 4 * 16)], 2, rfl, by
      have ha := a.toNat_lt
      intro u hu
      simp only [List.mem_cons, List.mem_nil_iff, or_false] at hu
      rcases hu with rfl | rfl <;> exact sgnB_sgnP _ (by omega) (by omega), by omega, by simp, by simp⟩
  | [a, b] => ⟨[sgnB ((a.toNat : Int) / 4), sgnB ((a.toNat : Int) % 4 * 16 + (b.toNat : Int) / 16), sgnB ((b.toNat : Int) % 16 * 4)], 1, rfl, by
      have ha := a.toNat_lt
      have hb := b.toNat_lt
      intro u hu
      simp only [List.mem_cons, List.mem_nil_iff, or_false] at hu
      rcases hu with rfl | rfl | rfl <;> exact sgnB_sgnP _ (by omega) (by omega), by omega, by simp, by simp⟩
  | a :: b :: c :: r => by
    obtain ⟨x, q, h1, h2, h3, h4, h5⟩ := b64_shape r
    have ha := a.toNat_lt
    have hb := b.toNat_lt
    have hc := c.toNat_lt
    refine ⟨sgnB ((a.toNat : Int) / 4) :: sgnB ((a.toNat : Int) % 4 * 16 + (b.toNat : Int) / 16) :: sgnB ((b.toNat : Int) % 16 * 4 + (c.toNat : Int) / 64) :: sgnB ((c.toNat : Int) % 64) :: x, q, by rw [b64E, h1]; rfl, ?_, h3, by simp; omega, by simp; omega⟩
    intro u hu
    simp only [List.mem_cons] at hu
    rcases hu with rfl | rfl | rfl | rfl | hu
    · exact sgnB_sgnP _ (by omega) (by omega)
    · exact sgnB_sgnP _ (by omega) (by omega)
    · exact sgnB_sgnP _ (by omega) (by omega)
    · exact sgnB_sgnP _ (by omega) (by omega)
    · exact h2 u hu
theorem textO_drop (x y : List UInt8) (n : Nat) (h : n ≤ y.length) : ((textO (x ++ y)).drop (2 + x.length)).take n = y.take n := by
  unfold textO
  rw [show [97, 32] ++ (x ++ y) ++ [32, 98] = ([97, 32] ++ x) ++ (y ++ [32, 98]) by simp]
  rw [List.drop_append_of_le_length (by simp; omega), List.drop_eq_nil_of_le (by simp; omega), List.nil_append, List.take_append_of_le_length h]
theorem found_O (k : Nat) (hk : vldC (k : Int) = true) (b : List UInt8) (hb : 9 ≤ b.length) (h10 : (10 : UInt8) ∈ b) (hp : ∀ x ∈ encd k b, visP x.toNat = true) :
    (k, 2, 2 + (encd k b).length) ∈ mUp (textO (encd k b)) 4 := by
  have hback := back_all k b
  have keep : ∀ s, encd k b = s → (k = 1 ∨ k = 2 ∨ s ≠ b) → keepR k (sub (textO s) 2 (2 + s.length)) = true := by
    intro s hs h
    rw [textO_sub]
    unfold keepR
    rw [← hs, hback, hs]
    rcases h with rfl | rfl | h
    · rfl
    · rfl
    · simp [show ¬ b = s from fun e => h e.symm]
  have hne : encd k b ≠ b := fun e => by
    rw [e] at hp
    have := hp 10 h10
    revert this; decide
  rw [mUp_mem]
  obtain ⟨hk1, hk4⟩ : 1 ≤ k ∧ k ≤ 4 := by unfold vldC at hk; simp at hk; omega
  have hk : k = 1 ∨ k = 2 ∨ k = 3 ∨ k = 4 := by omega
  rcases hk with rfl | rfl | rfl | rfl
  · left
    rw [sec_mem]
    have e : encd ((1 : Nat) : Int) b = encF hexE b := rfl
    have hl := hex_len b
    rw [e] at keep ⊢
    refine ⟨2, 2 + (encF hexE b).length, part_O _ _ _ (Nat.le_refl _) (by omega) (fun j hj => hex_all b _ (getD_mem hj)) (by decide) (.inl rfl), ?_, ?_, ?_⟩
    · show _ = (1, 2, cut1 _ _); unfold cut1; rw [show (2 + (encF hexE b).length - 2) % 2 = 0 by omega]; rfl
    · show _ ≤ cut1 _ _; unfold cut1; omega
    · show keepR 1 (sub _ 2 (cut1 _ _)) = true
      unfold cut1; rw [show (2 + (encF hexE b).length - 2) % 2 = 0 by omega]
      exact keep _ rfl (.inl rfl)
  · right; left
    rw [sec_mem]
    have e : encd ((2 : Nat) : Int) b = b64E b := rfl
    rw [e] at keep ⊢
    obtain ⟨x, q, h1, h2, h3, h4, h5⟩ := b64_shape b
    rw [h1] at keep ⊢
    have hlen : (x ++ List.replicate q (61 : UInt8)).length = x.length + q := by simp
    have hcut : cutR 2 (textO (x ++ List.replicate q 61)) 2 (2 + x.length) = 2 + (x ++ List.replicate q (61 : UInt8)).length := by
      rw [hlen]
      show cut2 _ _ _ = _
      unfold cut2
      have hq : q = 0 ∨ q = 1 ∨ q = 2 := by omega
      rcases hq with rfl | rfl | rfl
      · rw [if_neg (by omega), if_neg (by omega)]; omega
      · rw [if_neg (by omega), if_pos ⟨by omega, by rw [textO_drop _ _ _ (by simp)]; rfl⟩]; omega
      · rw [if_pos ⟨by omega, by rw [textO_drop _ _ _ (by simp)]; rfl⟩]; omega
    refine ⟨2, 2 + x.length, part_O _ _ _ (by rw [hlen]; omega) (by omega) (fun j hj => ?_) (by decide) ?_, by rw [hcut], by rw [hcut, hlen]; omega, ?_⟩
    · rw [List.getD_eq_getElem?_getD, List.getElem?_append_left hj, List.getElem?_eq_getElem hj]
      exact h2 _ (List.getElem_mem hj)
    · by_cases hq : q = 0
      · left; rw [hlen]; omega
      · right
        rw [List.getD_eq_getElem?_getD, List.getElem?_append_right (Nat.le_refl _), Nat.sub_self, List.getElem?_replicate_of_lt (by omega)]
        decide
    · rw [hcut]; exact keep _ rfl (.inr (.inl rfl))
  · right; right; left
    rw [sec_mem]
    have hl : b.length ≤ (encd ((3 : Nat) : Int) b).length := by
      show _ ≤ (encF pctE b).length
      clear keep hne hp hback h10 hb
      induction b with
      | nil => simp
      | cons c r ih => rw [encF, List.length_append, List.length_cons]; have : 1 ≤ (pctE c).length := by unfold pctE; split <;> simp
                       omega
    exact ⟨2, 2 + (encd ((3 : Nat) : Int) b).length, part_O _ _ _ (Nat.le_refl _) (by omega) (fun j hj => hp _ (getD_mem hj)) (by decide) (.inl rfl), rfl, by show _ ≤ 2 + _; omega, keep _ rfl (.inr (.inr hne))⟩
  · right; right; right
    rw [sec_mem]
    have hl : b.length ≤ (encd ((4 : Nat) : Int) b).length := by
      show _ ≤ (encF escE b).length
      clear keep hne hp hback h10 hb
      induction b with
      | nil => simp
      | cons c r ih => rw [encF, List.length_append, List.length_cons]; have : 1 ≤ (escE c).length := by unfold escE; split <;> (try split) <;> (try split) <;> (try split) <;> (try split) <;> simp
                       omega
    exact ⟨2, 2 + (encd ((4 : Nat) : Int) b).length, part_O _ _ _ (Nat.le_refl _) (by omega) (fun j hj => hp _ (getD_mem hj)) (by decide) (.inl rfl), rfl, by show _ ≤ 2 + _; omega, keep _ rfl (.inr (.inr hne))⟩
end Go.Proofs.YtpfldcfnbgdceaaDoor
