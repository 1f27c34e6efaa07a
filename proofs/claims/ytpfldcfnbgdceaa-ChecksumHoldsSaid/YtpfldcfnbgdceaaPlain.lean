/- The plain law of check sums: what the program computes is what the reference computes; what is completed holds; one wrong digit, letter or byte is noticed. Lists of bytes and numbers; no program in sight. -/
import Derived.Test.YtpfldcfnbgdceaaSum
namespace Go.Proofs.Ytpfldcfnbgdceaa
set_option linter.unusedVariables false
open Go

theorem luhnR_snoc (c : UInt8) : ∀ (a : List UInt8) (i : Nat) (n : Int), luhnR (a ++ [c]) i n = luhnR a i n + if (i + a.length) % 2 = 1 then dbl (val c.toNat 48) else val c.toNat 48
  | [], i, n => by simp [luhnR]
  | d :: r, i, n => by
    rw [List.cons_append, luhnR, luhnR_snoc c r (i + 1), luhnR, List.length_cons, show i + 1 + r.length = i + (r.length + 1) by omega]
theorem luhnF_add : ∀ (l : List UInt8) (n : Int), luhnF l n = n + luhnF l 0
  | [], n => by simp [luhnF]
  | c :: r, n => by
    rw [luhnF, luhnF, luhnF_add r, luhnF_add r (0 + _)]; omega
theorem luhn_eq : ∀ l : List UInt8, luhnF l 0 = luhnR l.reverse 0 0
  | [] => rfl
  | c :: r => by
    rw [luhnF, luhnF_add, List.reverse_cons, luhnR_snoc, luhn_eq r, List.length_reverse]
    by_cases h : (r.length + 1) % 2 = 0
    · rw [if_pos h, if_pos (by omega)]; omega
    · rw [if_neg h, if_neg (by omega)]; omega
theorem luhnPQ (l : List UInt8) : luhnP l = luhnQ l := by unfold luhnP luhnQ; rw [luhn_eq]
theorem mod97_eq : ∀ (l : List UInt8) (n : Int), allF sgn l = true → mod97F l n = mod97R l n
  | [], _, _ => rfl
  | c :: r, n, h => by
    simp only [allF, Bool.and_eq_true] at h
    rw [mod97F, mod97R, mod97_eq r _ h.2]
    congr 1
    unfold m97
    rcases hd : dig c.toNat
    · have h1 := h.1
      have := dig_no hd
      simp only [sgn, hd, Bool.false_or, cap, Bool.and_eq_true, decide_eq_true_eq] at h1
      rw [if_neg (by decide), if_neg (by omega)]
    · have := dig_yes hd
      rw [if_pos rfl, if_pos (by omega)]
theorem m97PQ (l : List UInt8) : m97P l = m97Q l := by
  unfold m97P m97Q
  rcases h : allF sgn l
  · simp
  · rw [mod97_eq _ _ h]
theorem hldPQ (c : Int) (l : List UInt8) : hldP c l = hldQ c l := by unfold hldP hldQ; rw [luhnPQ, m97PQ]

theorem allF_app {p : Int → Bool} : ∀ (a b : List UInt8), allF p (a ++ b) = (allF p a && allF p b)
  | [], b => by simp [allF]
  | c :: r, b => by simp only [List.cons_append, allF]; rw [allF_app r b, Bool.and_assoc]
theorem luhnF_last (u : UInt8) : ∀ (l : List UInt8) (n : Int), luhnF (l ++ [u]) n = luhnF (l ++ [48]) n + val u.toNat 48
  | [], n => by simp [luhnF, val]
  | c :: r, n => by
    simp only [List.cons_append, luhnF, List.length_append, List.length_cons, List.length_nil]
    rw [luhnF_last u r]
theorem toNat_of {n : Nat} (h : n < 256) : (UInt8.ofNat n).toNat = n := by rw [UInt8.toNat_ofNat', Nat.mod_eq_of_lt h]
theorem luhnP_digit {l : List UInt8} (hl : l ≠ []) (hd : allF dig l = true) (d : Nat) (h : d < 10) : luhnP (l ++ [UInt8.ofNat (48 + d)]) = ((luhnF (l ++ [48]) 0 + d) % 10 == 0) := by
  have hlen : 1 ≤ l.length := by cases l with
    | nil => exact absurd rfl hl
    | cons a b => simp
  unfold luhnP
  rw [allF_app, hd, decide_eq_true (by simp; omega), luhnF_last]
  have h48 : ((UInt8.ofNat (48 + d)).toNat : Int) = 48 + d := by rw [toNat_of (by omega)]; omega
  have : allF dig [UInt8.ofNat (48 + d)] = true := by simp only [allF]; rw [h48, dig_mk (by omega) (by omega)]; rfl
  rw [this, h48]
  have : val (48 + (d : Int)) 48 = d := by unfold val; omega
  rw [this]; simp
theorem luhnSf_eq {l : List UInt8} (hl : l ≠ []) (hd : allF dig l = true) (t : Nat) (ht : (t : Int) = -(luhnF (l ++ [48]) 0 % 10) % 10) : ∀ n, n ≤ 9 → 9 - n ≤ t → luhnSf n l = UInt8.ofNat (48 + t)
  | 0, _, h => by
    have : t = 9 := by omega
    subst this; rfl
  | n + 1, h, h' => by
    have h9 : 56 - n = 48 + (8 - n) := by omega
    rcases hq : luhnQ (l ++ [UInt8.ofNat (56 - n)])
    · rw [luhnSf_no hq]
      refine luhnSf_eq hl hd t ht n (by omega) ?_
      rw [← luhnPQ, h9, luhnP_digit hl hd _ (by omega)] at hq
      have hne : ¬ (luhnF (l ++ [48]) 0 + ((8 - n : Nat) : Int)) % 10 = 0 := by simpa using hq
      omega
    · rw [luhnSf_yes hq]
      rw [← luhnPQ, h9, luhnP_digit hl hd _ (by omega)] at hq
      have he : (luhnF (l ++ [48]) 0 + ((8 - n : Nat) : Int)) % 10 = 0 := by simpa using hq
      have : 8 - n = t := by omega
      rw [h9, this]
theorem luhnD_eq {l : List UInt8} (hl : l ≠ []) (hd : allF dig l = true) : luhnSf 9 l = luhnD l := by
  have h0 : 0 ≤ -(luhnF (l ++ [48]) 0 % 10) % 10 := by omega
  have hx : (48 + -(luhnF (l ++ [48]) 0 % 10) % 10).toNat = 48 + (-(luhnF (l ++ [48]) 0 % 10) % 10).toNat := by omega
  rw [luhnSf_eq hl hd (-(luhnF (l ++ [48]) 0 % 10) % 10).toNat (by omega) 9 (by omega) (by omega), luhnD, hx]
theorem prm_ne {c : Int} {l : List UInt8} (hc : ¬ c = 0) (h : prm c l = true) : l ≠ [] := by
  rintro rfl; rw [prm, if_neg hc, if_pos rfl] at h; exact absurd h (by decide)
theorem prm_dig {l : List UInt8} (h : prm 1 l = true) : allF dig l = true := by
  have hn := prm_ne (by decide) h
  rw [prm, if_neg (by decide), if_neg hn, if_pos rfl] at h; exact h
theorem prm_sgn {l : List UInt8} (h : prm 2 l = true) : allF sgn l = true := by
  have hn := prm_ne (by decide) h
  rw [prm, if_neg (by decide), if_neg hn, if_neg (by decide), if_pos rfl] at h; exact h
theorem addPQ {c : Int} {l : List UInt8} (h : prm c l = true) : addP c l = addQ c l := by
  unfold addP addQ
  by_cases h1 : c = 1
  · subst h1; rw [if_pos rfl, if_pos rfl, luhnD_eq (prm_ne (by decide) h) (prm_dig h)]
  · rw [if_neg h1, if_neg h1]
    by_cases h2 : c = 2
    · subst h2
      rw [if_pos rfl, if_pos rfl, mod97_eq]
      rw [allF_app, prm_sgn h]; rfl
    · rw [if_neg h2, if_neg h2]
theorem cmpPQ (c : Int) (l : List UInt8) : cmpP c l = cmpQ c l := by
  unfold cmpP cmpQ
  by_cases h1 : vld c = false
  · rw [if_pos h1, if_pos h1]
  rw [if_neg h1, if_neg h1]
  by_cases h2 : 65536 < l.length
  · rw [if_pos h2, if_pos h2]
  rw [if_neg h2, if_neg h2]
  by_cases h3 : prm c l = false
  · rw [if_pos h3, if_pos h3]
  rw [if_neg h3, if_neg h3, addPQ (by simpa using h3)]
end Go.Proofs.Ytpfldcfnbgdceaa
