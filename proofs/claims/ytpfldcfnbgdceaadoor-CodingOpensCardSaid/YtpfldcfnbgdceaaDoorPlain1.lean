/- Decoding an encoding gives the bytes: plain lists, no program. -/
import Derived.Test.YtpfldcfnbgdceaaDoorCodS
namespace Go.Proofs.YtpfldcfnbgdceaaDoor
set_option linter.unusedVariables false
set_option linter.unusedSimpArgs false
set_option maxRecDepth 100000
open Go
theorem two_hex0 : ∀ n : Fin 256, twoB (hexd ((UInt8.ofNat n.val).toNat / 16 : Int)) (hexd ((UInt8.ofNat n.val).toNat % 16 : Int)) = some (UInt8.ofNat n.val) := by decide +kernel
theorem two_hex (v : UInt8) : twoB (hexd ((v.toNat : Int) / 16)) (hexd ((v.toNat : Int) % 16)) = some v := all_u8 (p := fun v => twoB (hexd ((v.toNat : Int) / 16)) (hexd ((v.toNat : Int) % 16)) = some v) two_hex0 v
theorem two_Hex0 : ∀ n : Fin 256, twoB (Hexd ((UInt8.ofNat n.val).toNat / 16 : Int)) (Hexd ((UInt8.ofNat n.val).toNat % 16 : Int)) = some (UInt8.ofNat n.val) := by decide +kernel
theorem two_Hex (v : UInt8) : twoB (Hexd ((v.toNat : Int) / 16)) (Hexd ((v.toNat : Int) % 16)) = some v := all_u8 (p := fun v => twoB (Hexd ((v.toNat : Int) / 16)) (Hexd ((v.toNat : Int) % 16)) = some v) two_Hex0 v
theorem back_hex : ∀ (l o : List UInt8), decHex (encF hexE l) o = some (o ++ l)
  | [], o => by simp [encF, decHex]
  | c :: r, o => by
    rw [encF, hexE]
    show (match twoB (hexd ((c.toNat : Int) / 16)) (hexd ((c.toNat : Int) % 16)) with | none => none | some c => decHex (encF hexE r) (o ++ [c])) = _
    rw [two_hex]
    show decHex (encF hexE r) (o ++ [c]) = _
    rw [back_hex r, List.append_assoc]; rfl
theorem pln_not37 (c : UInt8) (h : pln c.toNat = true) : c ≠ 37 := by
  rintro rfl; revert h; decide
theorem back_pct : ∀ (l o : List UInt8), decPct (encF pctE l) o = some (o ++ l)
  | [], o => by simp [encF, decPct]
  | c :: r, o => by
    rw [encF]
    by_cases h : pln c.toNat = true
    · rw [pctE, if_pos h]
      show decPct (c :: encF pctE r) o = _
      rw [decPct_own _ _ _ (pln_not37 c h), back_pct r, List.append_assoc]; rfl
    · rw [pctE, if_neg h]
      show decPct (37 :: Hexd ((c.toNat : Int) / 16) :: Hexd ((c.toNat : Int) % 16) :: encF pctE r) o = _
      rw [decPct_two]
      show (match twoB (Hexd ((c.toNat : Int) / 16)) (Hexd ((c.toNat : Int) % 16)) with | none => none | some x => decPct (encF pctE r) (o ++ [x])) = _
      rw [two_Hex]
      show decPct (encF pctE r) (o ++ [c]) = _
      rw [back_pct r, List.append_assoc]; rfl
theorem back_esc : ∀ (l o : List UInt8), decEsc (encF escE l) o = some (o ++ l)
  | [], o => by simp [encF, decEsc]
  | c :: r, o => by
    rw [encF]
    have fin : ∀ x : UInt8, x = c → decEsc (encF escE r) (o ++ [x]) = some (o ++ c :: r) := fun x hx => by rw [back_esc r, hx, List.append_assoc]; rfl
    unfold escE
    by_cases h1 : c = 10
    · rw [if_pos h1]
      show decEsc (92 :: 110 :: encF escE r) o = _
      rw [decEsc_esc]; unfold escO; rw [if_pos rfl]; exact fin _ h1.symm
    rw [if_neg h1]
    by_cases h2 : c = 13
    · rw [if_pos h2]
      show decEsc (92 :: 114 :: encF escE r) o = _
      rw [decEsc_esc]; unfold escO; rw [if_neg (by decide), if_pos rfl]; exact fin _ h2.symm
    rw [if_neg h2]
    by_cases h3 : c = 9
    · rw [if_pos h3]
      show decEsc (92 :: 116 :: encF escE r) o = _
      rw [decEsc_esc]; unfold escO; rw [if_neg (by decide), if_neg (by decide), if_pos rfl]; exact fin _ h3.symm
    rw [if_neg h3]
    by_cases h4 : c = 92
    · rw [if_pos h4]
      show decEsc (92 :: 92 :: encF escE r) o = _
      rw [decEsc_esc]; unfold escO; rw [if_neg (by decide), if_neg (by decide), if_neg (by decide), if_pos rfl]; exact fin _ h4.symm
    rw [if_neg h4]
    by_cases h5 : c.toNat < 32 ∨ 126 < c.toNat
    · rw [if_pos h5]
      show decEsc (92 :: 120 :: hexd ((c.toNat : Int) / 16) :: hexd ((c.toNat : Int) % 16) :: encF escE r) o = _
      rw [decEsc_esc]; unfold escO; rw [if_neg (by decide), if_neg (by decide), if_neg (by decide), if_neg (by decide), if_pos rfl]
      show (match twoB (hexd ((c.toNat : Int) / 16)) (hexd ((c.toNat : Int) % 16)) with | none => none | some x => decEsc (encF escE r) (o ++ [x])) = _
      rw [two_hex]; exact fin _ rfl
    · rw [if_neg h5]
      show decEsc (c :: encF escE r) o = _
      rw [decEsc_own _ _ _ h4]; exact fin _ rfl
theorem sgnV_B0 : ∀ n : Fin 64, sgnV ((sgnB (n.val : Int)).toNat : Int) = (n.val : Int) ∧ sgnB (n.val : Int) ≠ 61 := by decide +kernel
theorem sgnV_B (n : Int) (h0 : 0 ≤ n) (h1 : n < 64) : sgnV ((sgnB n).toNat : Int) = n ∧ sgnB n ≠ 61 := by
  have h := sgnV_B0 ⟨n.toNat, by omega⟩
  simp only [Int.toNat_of_nonneg h0] at h
  exact h
theorem grpF_dig (p : Nat) (n : Int) (r : List UInt8) (k : Nat) (B : Int) (h0 : 0 ≤ n) (h1 : n < 64) (hk : ¬ 4 - p ≤ k) : grpF p (sgnB n :: r) k B = grpF p r (k + 1) (B * 64 + n) := by
  rw [grpF, if_neg hk, (sgnV_B n h0 h1).1, if_neg (by omega)]
theorem grpF_61 (p : Nat) (r : List UInt8) (k : Nat) (B : Int) (hk : 4 - p ≤ k) : grpF p (61 :: r) k B = grpF p r (k + 1) (B * 64) := by rw [grpF, if_pos hk]
theorem u8_back (v : UInt8) (x : Int) (h : x = v.toNat) : UInt8.ofNat x.toNat = v := by subst h; simp
theorem back_b64 : ∀ (l o : List UInt8), decB64 (b64E l) o = some (o ++ l)
  | [], o => by simp [b64E, decB64]
  | [a], o => by
    have ha := a.toNat_lt
    rw [b64E, decB64_four _ _ _ _ _ _ [] rfl]
    have : grp true [sgnB ((a.toNat : Int) / 4), sgnB ((a.toNat : Int) % 4 * 16), 61, 61] = some [a] := by
      show grpF (padsOf 61 61 true) _ 0 0 = _
      rw [show padsOf 61 61 true = 2 from rfl, grpF_dig _ _ _ _ _ (by omega) (by omega) (by decide), grpF_dig _ _ _ _ _ (by omega) (by omega) (by decide), grpF_61 _ _ _ _ (by decide), grpF_61 _ _ _ _ (by decide), grpF, fin64]
      rw [if_pos (by simp only [Int.reducePow]; omega)]
      simp only [List.take, Nat.reduceSub]
      rw [u8_back a _ (by omega)]
    show (match grp true [sgnB ((a.toNat : Int) / 4), sgnB ((a.toNat : Int) % 4 * 16), 61, 61] with | none => none | some x => decB64 [] (o ++ x)) = _
    rw [this]; rfl
  | [a, b], o => by
    have ha := a.toNat_lt
    have hb := b.toNat_lt
    rw [b64E, decB64_four _ _ _ _ _ _ [] rfl]
    have hne := (sgnV_B ((b.toNat : Int) % 16 * 4) (by omega) (by omega)).2
    have : grp true [sgnB ((a.toNat : Int) / 4), sgnB ((a.toNat : Int) % 4 * 16 + (b.toNat : Int) / 16), sgnB ((b.toNat : Int) % 16 * 4), 61] = some [a, b] := by
      show grpF (padsOf _ 61 true) _ 0 0 = _
      rw [show padsOf (sgnB ((b.toNat : Int) % 16 * 4)) 61 true = 1 by simp [padsOf, hne], grpF_dig _ _ _ _ _ (by omega) (by omega) (by decide), grpF_dig _ _ _ _ _ (by omega) (by omega) (by decide), grpF_dig _ _ _ _ _ (by omega) (by omega) (by decide), grpF_61 _ _ _ _ (by decide), grpF, fin64]
      rw [if_pos (by simp only [Int.reducePow]; omega)]
      simp only [List.take, Nat.reduceSub]
      rw [u8_back a _ (by omega), u8_back b _ (by omega)]
    show (match grp true [sgnB ((a.toNat : Int) / 4), sgnB ((a.toNat : Int) % 4 * 16 + (b.toNat : Int) / 16), sgnB ((b.toNat : Int) % 16 * 4), 61] with | none => none | some x => decB64 [] (o ++ x)) = _
    rw [this]; rfl
  | a :: b :: c :: r, o => by
    have ha := a.toNat_lt
    have hb := b.toNat_lt
    have hc := c.toNat_lt
    rw [b64E, decB64_four _ _ _ _ _ _ (b64E r) rfl]
    have hne := (sgnV_B ((c.toNat : Int) % 64) (by omega) (by omega)).2
    have : ∀ last, grp last [sgnB ((a.toNat : Int) / 4), sgnB ((a.toNat : Int) % 4 * 16 + (b.toNat : Int) / 16), sgnB ((b.toNat : Int) % 16 * 4 + (c.toNat : Int) / 64), sgnB ((c.toNat : Int) % 64)] = some [a, b, c] := by
      intro last
      show grpF (padsOf _ _ last) _ 0 0 = _
      rw [show padsOf (sgnB ((b.toNat : Int) % 16 * 4 + (c.toNat : Int) / 64)) (sgnB ((c.toNat : Int) % 64)) last = 0 by simp [padsOf, hne], grpF_dig _ _ _ _ _ (by omega) (by omega) (by decide), grpF_dig _ _ _ _ _ (by omega) (by omega) (by decide), grpF_dig _ _ _ _ _ (by omega) (by omega) (by decide), grpF_dig _ _ _ _ _ (by omega) (by omega) (by decide), grpF, fin64]
      rw [if_pos (by simp only [Int.reducePow]; omega)]
      simp only [List.take, Nat.reduceSub]
      rw [u8_back a _ (by omega), u8_back b _ (by omega), u8_back c _ (by omega)]
    rw [this]
    show decB64 (b64E r) (o ++ [a, b, c]) = _
    rw [back_b64 r, List.append_assoc]; rfl
theorem back_all (c : Int) (l : List UInt8) : decd c (encd c l) = some l := by
  unfold decd encd
  by_cases h1 : c = 1
  · rw [if_pos h1, if_pos h1, back_hex]; rfl
  rw [if_neg h1, if_neg h1]
  by_cases h2 : c = 2
  · rw [if_pos h2, if_pos h2, back_b64]; rfl
  rw [if_neg h2, if_neg h2]
  by_cases h3 : c = 3
  · rw [if_pos h3, if_pos h3, back_pct]; rfl
  rw [if_neg h3, if_neg h3, back_esc]; rfl
theorem encF_len (f : UInt8 → List UInt8) (m : Nat) (hf : ∀ c, (f c).length ≤ m) : ∀ l, (encF f l).length ≤ m * l.length
  | [] => by simp [encF]
  | c :: r => by
    have := encF_len f m hf r
    have := hf c
    rw [encF, List.length_append, List.length_cons, Nat.mul_succ]; omega
theorem b64E_len : ∀ l, (b64E l).length ≤ 4 * l.length
  | [] => by simp [b64E]
  | [_] => by simp [b64E]
  | [_, _] => by simp [b64E]
  | a :: b :: c :: r => by
    have := b64E_len r
    simp only [b64E, List.length_cons]; omega
theorem encd_len (c : Int) (l : List UInt8) : (encd c l).length ≤ 4 * l.length := by
  unfold encd
  have h1 := encF_len hexE 2 (fun c => by simp [hexE]) l
  have h3 := encF_len pctE 3 (fun c => by unfold pctE; split <;> simp) l
  have h4 := encF_len escE 4 escE_len l
  have h2 := b64E_len l
  split
  · omega
  · split
    · exact h2
    · split <;> omega
end Go.Proofs.YtpfldcfnbgdceaaDoor
