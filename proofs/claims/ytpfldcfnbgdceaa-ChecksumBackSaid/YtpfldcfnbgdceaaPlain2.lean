/- The plain law of check sums, its consequences: what is completed holds; one wrong digit, letter or byte is noticed. Lists of bytes and numbers; no program in sight. -/
import Derived.Test.YtpfldcfnbgdceaaPlain
namespace Go.Proofs.Ytpfldcfnbgdceaa
set_option linter.unusedVariables false
open Go

theorem dig_sgn : ∀ l : List UInt8, allF dig l = true → allF sgn l = true
  | [], _ => rfl
  | c :: r, h => by
    simp only [allF, Bool.and_eq_true] at h ⊢
    exact ⟨by simp [sgn, h.1], dig_sgn r h.2⟩
/-! One of the first kind. -/
theorem luhn_holds {l : List UInt8} (hl : l ≠ []) (hd : allF dig l = true) : luhnP (l ++ [luhnD l]) = true := by
  have h0 : 0 ≤ -(luhnF (l ++ [48]) 0 % 10) % 10 := by omega
  have hx : (48 + -(luhnF (l ++ [48]) 0 % 10) % 10).toNat = 48 + (-(luhnF (l ++ [48]) 0 % 10) % 10).toNat := by omega
  rw [luhnD, hx, luhnP_digit hl hd _ (by omega)]
  simp only [beq_iff_eq]; omega
theorem luhnF_mid (u : UInt8) (b : List UInt8) : ∀ (a : List UInt8) (n : Int), luhnF (a ++ u :: b) n = luhnF (a ++ 48 :: b) n + if (b.length + 1) % 2 = 0 then dbl (val u.toNat 48) else val u.toNat 48
  | [], n => by
    simp only [List.nil_append, luhnF]
    rw [luhnF_add b, luhnF_add b (n + _)]
    have : dbl (val ((48 : UInt8).toNat : Int) 48) = 0 := by decide
    have h2 : val ((48 : UInt8).toNat : Int) 48 = 0 := by decide
    rw [this, h2]; split <;> omega
  | c :: r, n => by
    simp only [List.cons_append, luhnF, List.length_append, List.length_cons]
    rw [luhnF_mid u b r]
theorem luhn_tells {a b : List UInt8} {u v : UInt8} (hu : dig u.toNat = true) (hv : dig v.toNat = true) (hne : u ≠ v) (h : luhnP (a ++ u :: b) = true) : luhnP (a ++ v :: b) = false := by
  rcases hq : luhnP (a ++ v :: b)
  · rfl
  exfalso
  unfold luhnP at h hq
  simp only [Bool.and_eq_true, beq_iff_eq] at h hq
  have e1 := h.2; have e2 := hq.2
  rw [luhnF_mid] at e1 e2
  have hu := dig_yes hu; have hv := dig_yes hv
  have hn : (u.toNat : Int) ≠ v.toNat := fun e => hne (UInt8.toNat.inj (by omega))
  unfold dbl val at e1 e2
  by_cases hp : (b.length + 1) % 2 = 0
  · rw [if_pos hp] at e1 e2
    split at e1 <;> split at e2 <;> omega
  · rw [if_neg hp] at e1 e2; omega
/-! The second kind. -/
theorem mod97F_app : ∀ (a b : List UInt8) (n : Int), mod97F (a ++ b) n = mod97F b (mod97F a n)
  | [], _, _ => rfl
  | c :: r, b, n => by simp only [List.cons_append, mod97F]; exact mod97F_app r b _
theorem m97_inj {c n m : Int} (hn : 0 ≤ n) (hn' : n < 97) (hm : 0 ≤ m) (hm' : m < 97) (h : m97 c n = m97 c m) : n = m := by
  unfold m97 at h
  split at h
  · have h0 : 0 ≤ val c 48 := by unfold val; omega
    generalize val c 48 = v at h h0
    omega
  · have h0 : 0 ≤ val c 65 := by unfold val; omega
    generalize val c 65 = v at h h0
    omega
theorem m97_bd (c n : Int) : 0 ≤ m97 c n ∧ m97 c n < 97 := by unfold m97; split <;> omega
theorem mod97F_inj : ∀ (l : List UInt8) {n m : Int}, 0 ≤ n → n < 97 → 0 ≤ m → m < 97 → mod97F l n = mod97F l m → n = m
  | [], _, _, _, _, _, _, h => h
  | c :: r, n, m, hn, hn', hm, hm', h => by
    have h1 := m97_bd c.toNat n; have h2 := m97_bd c.toNat m
    exact m97_inj hn hn' hm hm' (mod97F_inj r h1.1 h1.2 h2.1 h2.2 h)
theorem mod97_two (l : List UInt8) (t : Int) (h0 : 0 ≤ t) (h1 : t < 99) : mod97F (l ++ twoD t) 0 = (mod97F (l ++ [48, 48]) 0 + t) % 97 := by
  rw [mod97F_app, mod97F_app]
  obtain ⟨hb0, hb1⟩ := mod97F_bd l 0 (by omega) (by omega)
  generalize mod97F l 0 = n at hb0 hb1
  have e1 : ((UInt8.ofNat (48 + t / 10).toNat).toNat : Int) = 48 + t / 10 := by rw [toNat_of (by omega)]; omega
  have e2 : ((UInt8.ofNat (48 + t % 10).toNat).toNat : Int) = 48 + t % 10 := by rw [toNat_of (by omega)]; omega
  have e3 : (((48 : UInt8).toNat : Nat) : Int) = 48 := by decide
  have v1 : (48 + t / 10 - 48) % 256 = t / 10 := by omega
  have v2 : (48 + t % 10 - 48) % 256 = t % 10 := by omega
  have v3 : ((48 : Int) - 48) % 256 = 0 := by decide
  simp only [twoD, mod97F, m97, e1, e2, e3, dig_mk (show (48 : Int) ≤ 48 + t / 10 by omega) (by omega), dig_mk (show (48 : Int) ≤ 48 + t % 10 by omega) (by omega), dig_mk (show (48 : Int) ≤ 48 by omega) (by omega), if_true, val, v1, v2, v3]
  omega
theorem twoD_dig (t : Int) (h0 : 0 ≤ t) (h1 : t < 99) : allF dig (twoD t) = true := by
  have e1 : ((UInt8.ofNat (48 + t / 10).toNat).toNat : Int) = 48 + t / 10 := by rw [toNat_of (by omega)]; omega
  have e2 : ((UInt8.ofNat (48 + t % 10).toNat).toNat : Int) = 48 + t % 10 := by rw [toNat_of (by omega)]; omega
  simp only [twoD, allF, e1, e2, dig_mk (show (48 : Int) ≤ 48 + t / 10 by omega) (by omega), dig_mk (show (48 : Int) ≤ 48 + t % 10 by omega) (by omega)]; rfl
theorem m97_holds {l : List UInt8} (hl : l ≠ []) (hs : allF sgn l = true) : m97P (l ++ twoD (98 - mod97F (l ++ [48, 48]) 0)) = true := by
  obtain ⟨hb0, hb1⟩ := mod97F_bd (l ++ [48, 48]) 0 (by omega) (by omega)
  have ht := twoD_dig (98 - mod97F (l ++ [48, 48]) 0) (by omega) (by omega)
  have hlen : 1 ≤ l.length := by cases l with
    | nil => exact absurd rfl hl
    | cons a b => simp
  have h2 : (twoD (98 - mod97F (l ++ [48, 48]) 0)).length = 2 := rfl
  unfold m97P
  rw [allF_app, hs, dig_sgn _ ht, decide_eq_true (by rw [List.length_append, h2]; omega), mod97_two _ _ (by omega) (by omega)]
  have hlast : last2 (l ++ twoD (98 - mod97F (l ++ [48, 48]) 0)) = twoD (98 - mod97F (l ++ [48, 48]) 0) := by
    unfold last2; rw [List.length_append, h2, Nat.add_sub_cancel, List.drop_append_of_le_length (Nat.le_refl _), List.drop_length, List.nil_append]
  rw [hlast, ht]
  simp only [Bool.and_self, Bool.true_and, beq_iff_eq]; omega
theorem m97_tells {a b : List UInt8} {u v : UInt8} (hne : m97 u.toNat (mod97F a 0) ≠ m97 v.toNat (mod97F a 0)) (h : m97P (a ++ u :: b) = true) : m97P (a ++ v :: b) = false := by
  rcases hq : m97P (a ++ v :: b)
  · rfl
  exfalso
  unfold m97P at h hq
  simp only [Bool.and_eq_true, beq_iff_eq] at h hq
  have e1 := h.2; have e2 := hq.2
  rw [mod97F_app] at e1 e2
  have h1 := m97_bd u.toNat (mod97F a 0); have h2 := m97_bd v.toNat (mod97F a 0)
  exact hne (mod97F_inj b h1.1 h1.2 h2.1 h2.2 (e1.trans e2.symm))
theorem m97_dig_ne {u v : UInt8} {n : Int} (hu : dig u.toNat = true) (hv : dig v.toNat = true) (hne : u ≠ v) : m97 u.toNat n ≠ m97 v.toNat n := by
  have hn : (u.toNat : Int) ≠ v.toNat := fun e => hne (UInt8.toNat.inj (by omega))
  unfold m97 val
  rw [if_pos hu, if_pos hv]
  have hu := dig_yes hu; have hv := dig_yes hv
  omega
theorem m97_cap_ne {u v : UInt8} {n : Int} (hu : cap u.toNat = true) (hv : cap v.toNat = true) (hne : u ≠ v) : m97 u.toNat n ≠ m97 v.toNat n := by
  have hn : (u.toNat : Int) ≠ v.toNat := fun e => hne (UInt8.toNat.inj (by omega))
  simp only [cap, Bool.and_eq_true, decide_eq_true_eq] at hu hv
  unfold m97 val
  rw [dig_mk0 (by omega), dig_mk0 (by omega), if_neg (by decide), if_neg (by decide)]
  omega
/-! The number of 32 bits. -/
theorem xor_inj {a b c : Int} (ha : 0 ≤ a) (ha' : a < 4294967296) (hb : 0 ≤ b) (hb' : b < 4294967296) (hc : 0 ≤ c) (hc' : c < 4294967296) (h : bits .xor .u32 a c = bits .xor .u32 b c) : a = b := by
  rw [u32_xor a c ha ha' hc hc', u32_xor b c hb hb' hc hc'] at h
  have h1 : a.toNat ^^^ c.toNat = b.toNat ^^^ c.toNat := by omega
  have h2 : a.toNat = b.toNat := by
    have := congrArg (· ^^^ c.toNat) h1
    simpa [Nat.xor_assoc] using this
  omega
theorem and1 {x : Int} (h0 : 0 ≤ x) (h1 : x < 4294967296) : bits .and .u32 x 1 = x % 2 := by
  rw [u32_and x 1 h0 h1 (by omega) (by omega)]
  have h : x.toNat &&& 1 = x.toNat % 2 := Nat.and_one_is_mod _
  have h15 : (1 : Int).toNat = 1 := rfl
  rw [h15, h]; omega
theorem xor_high {y : Int} (h0 : 0 ≤ y) (h1 : y < 2147483648) : 2147483648 ≤ bits .xor .u32 y 3988292384 := by
  rw [u32_xor y _ h0 (by omega) (by decide) (by decide)]
  have hp : (3988292384 : Int).toNat = 2147483648 + 1840808736 := rfl
  have hy : y.toNat < 2 ^ 31 := by omega
  have hb : (y.toNat ^^^ (3988292384 : Int).toNat).testBit 31 = true := by
    rw [Nat.testBit_xor, Nat.testBit_lt_two_pow hy]
    decide
  have := Nat.ge_two_pow_of_testBit hb
  omega
theorem crcBit_inj {x y : Int} (hx : 0 ≤ x) (hx' : x < 4294967296) (hy : 0 ≤ y) (hy' : y < 4294967296) (h : crcBit x = crcBit y) : x = y := by
  unfold crcBit at h
  rw [and1 hx hx', and1 hy hy'] at h
  have b1 := xor_high (y := x / 2) (by omega) (by omega)
  have b2 := xor_high (y := y / 2) (by omega) (by omega)
  by_cases h1 : x % 2 = 1
  · by_cases h2 : y % 2 = 1
    · rw [if_pos (by simpa using h1), if_pos (by simpa using h2)] at h
      have := xor_inj (by omega) (by omega) (by omega) (by omega) (by decide) (by decide) h
      omega
    · rw [if_pos (by simpa using h1), if_neg (by simpa using h2)] at h; omega
  · by_cases h2 : y % 2 = 1
    · rw [if_neg (by simpa using h1), if_pos (by simpa using h2)] at h; omega
    · rw [if_neg (by simpa using h1), if_neg (by simpa using h2)] at h; omega
theorem crcBits_inj : ∀ (n : Nat) {x y : Int}, 0 ≤ x → x < 4294967296 → 0 ≤ y → y < 4294967296 → crcBits n x = crcBits n y → x = y
  | 0, _, _, _, _, _, _, h => h
  | n + 1, _, _, hx, hx', hy, hy', h => crcBit_inj hx hx' hy hy' (crcBits_inj n (crcBit_bd hx hx').1 (crcBit_bd hx hx').2 (crcBit_bd hy hy').1 (crcBit_bd hy hy').2 h)
theorem crcF_app : ∀ (a b : List UInt8) (n : Int), crcF (a ++ b) n = crcF b (crcF a n)
  | [], _, _ => rfl
  | c :: r, b, n => by simp only [List.cons_append, crcF]; exact crcF_app r b _
theorem byte_bd (c : UInt8) : (0 : Int) ≤ c.toNat ∧ (c.toNat : Int) < 4294967296 := by have := c.toNat_lt; omega
theorem crcF_inj : ∀ (l : List UInt8) {x y : Int}, 0 ≤ x → x < 4294967296 → 0 ≤ y → y < 4294967296 → crcF l x = crcF l y → x = y
  | [], _, _, _, _, _, _, h => h
  | c :: r, x, y, hx, hx', hy, hy', h => by
    have a1 := u32_bd .xor x c.toNat; have a2 := u32_bd .xor y c.toNat
    have b1 := crcBits_bd 8 a1.1 a1.2; have b2 := crcBits_bd 8 a2.1 a2.2
    exact xor_inj hx hx' hy hy' (byte_bd c).1 (byte_bd c).2 (crcBits_inj 8 a1.1 a1.2 a2.1 a2.2 (crcF_inj r b1.1 b1.2 b2.1 b2.2 h))
theorem xor_comm (a b : Int) : bits .xor .u32 a b = bits .xor .u32 b a := by unfold bits; simp only [BitVec.xor_comm]
theorem crc_ne {a b : List UInt8} {u v : UInt8} (hne : u ≠ v) : crc (a ++ u :: b) ≠ crc (a ++ v :: b) := by
  intro h
  have hb : ∀ l, 0 ≤ crcF l 4294967295 ∧ crcF l 4294967295 < 4294967296 := fun l => crcF_bd l (by decide) (by decide)
  have h1 := xor_inj (hb _).1 (hb _).2 (hb _).1 (hb _).2 (by decide) (by decide) h
  rw [crcF_app, crcF_app] at h1
  have hx := crcF_bd a (x := 4294967295) (by decide) (by decide)
  generalize crcF a 4294967295 = x at h1 hx
  simp only [crcF] at h1
  have a1 := u32_bd .xor x u.toNat; have a2 := u32_bd .xor x v.toNat
  have b1 := crcBits_bd 8 a1.1 a1.2; have b2 := crcBits_bd 8 a2.1 a2.2
  have h2 := crcBits_inj 8 a1.1 a1.2 a2.1 a2.2 (crcF_inj b b1.1 b1.2 b2.1 b2.2 h1)
  rw [xor_comm x, xor_comm x] at h2
  have h3 := xor_inj (byte_bd u).1 (byte_bd u).2 (byte_bd v).1 (byte_bd v).2 hx.1 hx.2 h2
  exact hne (UInt8.toNat.inj (by omega))
theorem hexd_inj {n m : Int} (hn : 0 ≤ n) (hn' : n < 16) (hm : 0 ≤ m) (hm' : m < 16) (h : hexd n = hexd m) : n = m := by
  have hN : ∀ k : Int, 0 ≤ k → k < 16 → ((hexd k).toNat : Int) = if k < 10 then 48 + k else 87 + k := by
    intro k hk hk'
    unfold hexd
    split <;> (rw [toNat_of (by omega)]; omega)
  have := congrArg (fun u : UInt8 => (u.toNat : Int)) h
  simp only [hN n hn hn', hN m hm hm'] at this
  split at this <;> split at this <;> omega
theorem hexR_inj : ∀ (m : Nat) (x y : Nat), hexR m x = hexR m y → x % 2 ^ (4 * m) = y % 2 ^ (4 * m)
  | 0, x, y, _ => by simp [Nat.mod_one]
  | m + 1, x, y, h => by
    simp only [hexR, List.cons.injEq] at h
    have e : ∀ z : Nat, ((z : Int) / 2 ^ (4 * m) % 16) = ((z / 2 ^ (4 * m) % 16 : Nat) : Int) := fun z => by simp
    rw [e, e] at h
    have h1 := hexd_inj (by omega) (by omega) (by omega) (by omega) h.1
    have h2 := hexR_inj m x y h.2
    have hpp : 2 ^ (4 * (m + 1)) = 2 ^ (4 * m) * 16 := by rw [show 4 * (m + 1) = 4 * m + 4 by omega, Nat.pow_add]
    have h1' : x / 2 ^ (4 * m) % 16 = y / 2 ^ (4 * m) % 16 := by omega
    rw [hpp, Nat.mod_mul, Nat.mod_mul, h2, h1']
theorem hex8_inj {x y : Int} (hx : 0 ≤ x) (hx' : x < 4294967296) (hy : 0 ≤ y) (hy' : y < 4294967296) (h : hexR 8 x = hexR 8 y) : x = y := by
  obtain ⟨a, rfl⟩ := Int.eq_ofNat_of_zero_le hx
  obtain ⟨b, rfl⟩ := Int.eq_ofNat_of_zero_le hy
  have := hexR_inj 8 a b h
  have e : 2 ^ (4 * 8) = 4294967296 := by decide
  rw [e, Nat.mod_eq_of_lt (by omega), Nat.mod_eq_of_lt (by omega)] at this
  omega
theorem crc_holds (l : List UInt8) (hl : l ≠ []) : crcH (l ++ hexR 8 (crc l)) = true := by
  have h8 := hexR_len 8 (crc l)
  have hlen : 1 ≤ l.length := by cases l with
    | nil => exact absurd rfl hl
    | cons a b => simp
  unfold crcH
  rw [List.length_append, h8, Nat.add_sub_cancel, decide_eq_true (by omega), List.drop_left, List.take_left]
  simp
theorem crc_tells {a b : List UInt8} {u v : UInt8} (hne : u ≠ v) : crcH ((a ++ v :: b) ++ hexR 8 (crc (a ++ u :: b))) = false := by
  have h8 := hexR_len 8 (crc (a ++ u :: b))
  unfold crcH
  rw [List.length_append, h8, Nat.add_sub_cancel, List.drop_left, List.take_left]
  have : ¬ hexR 8 (crc (a ++ u :: b)) = hexR 8 (crc (a ++ v :: b)) := fun h => crc_ne hne (hex8_inj (crc_bd _).1 (crc_bd _).2 (crc_bd _).1 (crc_bd _).2 h)
  simp [this]
/-! The letter. -/
theorem let_holds (l : List UInt8) (hl : l ≠ []) (u : UInt8) : letH (l ++ [u]) = ((u.toNat : Int) == 65 + letF l 0 0) := by
  have hlen : 1 ≤ l.length := by cases l with
    | nil => exact absurd rfl hl
    | cons a b => simp
  unfold letH
  rw [List.length_append, List.length_singleton, Nat.add_sub_cancel, decide_eq_true (by omega), List.take_left]
  have : (l ++ [u]).getD l.length 0 = u := by simp [List.getD]
  rw [this]; simp
theorem back_holds {c : Int} {l : List UInt8} (hc : 0 ≤ c) (hc' : c ≤ 3) (hl : l ≠ []) (hd : allF dig l = true) : hldP c (l ++ addP c l) = true := by
  have : c = 0 ∨ c = 1 ∨ c = 2 ∨ c = 3 := by omega
  rcases this with rfl | rfl | rfl | rfl
  · rfl
  · exact luhn_holds hl hd
  · exact m97_holds hl (dig_sgn l hd)
  · exact crc_holds l hl
theorem cmp_digits {c : Int} {l : List UInt8} (hc : 0 ≤ c) (hc' : c ≤ 4) (hl : l ≠ []) (hd : allF dig l = true) (hn : l.length ≤ 65536) : cmpP c l = (l ++ addP c l, 0) := by
  have hv : vld c = true := by simp [vld, hc, hc']
  have hp : prm c l = true := by
    unfold prm
    rw [if_neg hl, hd, dig_sgn l hd]
    split
    · rfl
    · split
      · rfl
      · split <;> rfl
  unfold cmpP
  rw [hv, hp, if_neg (by decide), if_neg (by omega), if_neg (by decide)]
theorem cmp_signs {l : List UInt8} (hl : l ≠ []) (hd : allF sgn l = true) (hn : l.length ≤ 65536) : cmpP 2 l = (l ++ addP 2 l, 0) := by
  have hv : vld 2 = true := rfl
  have hp : prm 2 l = true := by rw [prm, if_neg (by decide), if_neg hl, if_neg (by decide), if_pos rfl, hd]
  unfold cmpP
  rw [hv, hp, if_neg (by decide), if_neg (by omega), if_neg (by decide)]
theorem split_at {l : List UInt8} {k : Nat} {u : UInt8} (hk : l[k]? = some u) : ∃ a b, l = a ++ u :: b ∧ a.length = k := by
  have hlt := (List.getElem?_eq_some_iff.1 hk).1
  have hu := (List.getElem?_eq_some_iff.1 hk).2
  refine ⟨l.take k, l.drop (k + 1), ?_, by rw [List.length_take]; omega⟩
  rw [← hu, ← List.drop_eq_getElem_cons hlt, List.take_append_drop]
theorem set_mid (a b : List UInt8) (u v : UInt8) : (a ++ u :: b).set a.length v = a ++ v :: b := by
  rw [List.set_append_right _ _ (Nat.le_refl _), Nat.sub_self]; rfl
theorem allF_mid {p : Int → Bool} {a b : List UInt8} {u : UInt8} (h : allF p (a ++ u :: b) = true) : p u.toNat = true := by
  rw [allF_app] at h; simp only [allF, Bool.and_eq_true] at h; exact h.2.1
theorem tells {c : Int} {l : List UInt8} {k : Nat} {u v : UInt8} (hc : 1 ≤ c) (hc' : c ≤ 3) (hd : allF dig l = true) (hk : l[k]? = some u) (hv : dig v.toNat = true) (hne : u ≠ v) :
    hldP c ((l ++ addP c l).set k v) = false := by
  obtain ⟨a, b, hab, hlen⟩ := split_at hk
  have hl : l ≠ [] := by rintro rfl; simp at hk
  have hu : dig u.toNat = true := by rw [hab] at hd; exact allF_mid hd
  have hh := back_holds (c := c) (by omega) hc' hl hd
  have hX : l ++ addP c l = a ++ u :: (b ++ addP c l) := by rw [hab]; simp
  have hset : (l ++ addP c l).set k v = a ++ v :: (b ++ addP c l) := by rw [hX, ← hlen, set_mid]
  rw [hset]
  rw [hX] at hh
  have : c = 1 ∨ c = 2 ∨ c = 3 := by omega
  rcases this with rfl | rfl | rfl
  · exact luhn_tells hu hv hne hh
  · exact m97_tells (m97_dig_ne hu hv hne) hh
  · have := crc_tells (a := a) (b := b) hne
    rw [← hab] at this
    simpa [hldP, addP] using this
theorem let_tells {l : List UInt8} {u : UInt8} {t : Int} (hl : l ≠ []) (h1 : 1 ≤ t) (h2 : t ≤ 16) (hu : (u.toNat : Int) = 65 + (letF l 0 0 + t) % 26) : hldP 4 (l ++ [u]) = false := by
  obtain ⟨hb0, hb1⟩ := letF_bd l 0 0 (by omega) (by omega)
  show letH (l ++ [u]) = false
  rw [let_holds l hl, hu]
  simp only [beq_eq_false_iff_ne]; omega
theorem letters_tell {l : List UInt8} {v : UInt8} (hs : allF sgn l = true) (hv : cap v.toNat = true) (hne : v ≠ 65) :
    m97P ((65 :: l) ++ addP 2 (65 :: l)) = true ∧ m97P (((65 :: l) ++ addP 2 (65 :: l)).set 0 v) = false := by
  have h65 : cap ((65 : UInt8).toNat) = true := by decide
  have hss : allF sgn (65 :: l) = true := by simp only [allF, hs]; decide
  have hh := m97_holds (l := 65 :: l) (by simp) hss
  refine ⟨hh, ?_⟩
  exact m97_tells (a := []) (m97_cap_ne h65 hv (fun e => hne e.symm)) hh
theorem addP_pos {c : Int} {l : List UInt8} (h1 : 1 ≤ c) (h4 : c ≤ 4) : 1 ≤ (addP c l).length := by
  have : c = 1 ∨ c = 2 ∨ c = 3 ∨ c = 4 := by omega
  rcases this with rfl | rfl | rfl | rfl
  · exact Nat.le_refl _
  · show 1 ≤ (twoD _).length; simp [twoD]
  · show 1 ≤ (hexR 8 _).length; rw [hexR_len]; omega
  · exact Nat.le_refl _
end Go.Proofs.Ytpfldcfnbgdceaa
