/- The tape's Between. -/
import Derived.Test.YtpfldcfnbgdceaaDoorRunL
import Derived.Test.YtpfldcfnbgdceaaDoorLaw1A
namespace Go.Proofs.YtpfldcfnbgdceaaDoor
set_option linter.unusedVariables false
set_option linter.unusedSimpArgs false
set_option maxRecDepth 100000
open Go.RowKit
theorem between_any (b : Nat) (x y : Int) (w : World) (hx : 0 ≤ x) (hxy : x ≤ y) (hy : y < 60000) (ht : TapeOK b w) :
    Calls Tryd.prog 18 #[.pointer (some ⟨b, 0, none⟩), .int .i64 x, .int .i64 y] w fun e w' => ∃ r : Int, e = .returned (.int .i64 r) ∧ x ≤ r ∧ r ≤ y ∧ TapeOK b w' ∧ Fr b w w' := by
  obtain ⟨n, hn⟩ : ∃ n, y - x + 1 = n := ⟨_, rfl⟩
  go_enter Tryd.func18, Tryd.ntmps18
  go_wp2_with fail
  refine (next_any b n w (by omega) (by omega) ht).mono ?_
  rintro e w1 ⟨r, rfl, hr0, hr1, ht1, hf1⟩
  go_wp2
  go_ret
  exact ⟨x + r, rfl, by omega, by omega, ht1, hf1⟩
theorem scanP_len (p : Int → Bool) : ∀ (r : List UInt8) (i f : Nat), (scanP p r i f).length ≤ r.length + 1
  | [], i, f => by rw [scanP]; split <;> simp
  | c :: r, i, f => by
    rw [scanP]
    have h1 := scanP_len p r (i + 1) f
    have h2 := scanP_len p r (i + 1) (i + 1)
    split
    · simp only [List.length_cons]; omega
    · split <;> simp only [List.length_cons] <;> omega
theorem addR_len1 (l : List UInt8) (c f t : Nat) : (addR l c f t).length ≤ 1 := by
  unfold addR
  split
  · simp
  · split <;> simp
theorem flat_len (h : Nat × Nat → List Rn) (h1 : ∀ p, (h p).length ≤ 1) : ∀ xs : List (Nat × Nat), (xs.flatMap h).length ≤ xs.length
  | [] => by simp
  | a :: r => by
    have := flat_len h h1 r
    have := h1 a
    rw [List.flatMap_cons, List.length_append, List.length_cons]; omega
theorem mUp_len (l : List UInt8) : ∀ n, (mUp l n).length ≤ n * (l.length + 1)
  | 0 => by simp [mUp]
  | n + 1 => by
    rw [mUp, mergeR_len, ofR_eq]
    have h1 := mUp_len l n
    have h2 : (secR (n + 1) l).length ≤ _ := flat_len _ (fun p => addR_len1 l (n + 1) p.1 (cutR (n + 1) l p.1 p.2)) (scanP (belP (n + 1)) l 0 0)
    have h3 := scanP_len (belP (n + 1)) l 0 0
    rw [Nat.succ_mul]; omega
/-- The two Runs answer alike at one text. -/
theorem two_runs (l : List UInt8) (hl : l.length ≤ maxLen) : ∃ o : List Rn, o.length ≤ 300000 ∧ ∀ (A : Option Addr) (cc : Nat),
    (∀ w, BA A l cc w → Calls Tryd.prog 20 #[.slice A l.length cc] w (RunsPost o w)) ∧ (∀ w, BA A l cc w → Calls Tryd.prog 21 #[.slice A l.length cc] w (RunsPost o w)) := by
  refine ⟨if 65536 < l.length then [] else mUp l 4, ?_, fun A cc => ⟨fun w h => ?_, fun w h => ?_⟩⟩
  · split
    · simp
    · have := mUp_len l 4; omega
  · refine (Runs_any A l cc w h hl).mono ?_
    rintro e w1 ⟨o, ho, v, rfl, hv, hb⟩
    refine ⟨v, rfl, ?_, hb⟩
    have e : (if 65536 < l.length then [] else mUp l 4) = o := by
      by_cases h1 : 65536 < l.length
      · rw [if_pos h1] at ho ⊢; exact ho.symm
      · rw [if_neg h1] at ho ⊢; exact (runs_law l o ho.1 ho.2).symm
    rw [e]; exact hv
  · refine (RefRuns_any A l cc w h hl).mono ?_
    rintro e w1 ⟨v, rfl, hv, hb⟩
    exact ⟨v, rfl, hv, hb⟩
end Go.Proofs.YtpfldcfnbgdceaaDoor
