/- Walks of both Encodes. · Decoding an encoding gives the bytes: plain lists, no program. · The lines of messages: what is read out of a line that was written. Plain functions, no program in sight. · The reference's numbers out of texts. · A line, read: the plain law. · What is read out of bytes: the plain law. -/
import Derived.Test.YtklnakjmiljmhaaGreatDoorY17
import Derived.Test.YtklnakjmiljmhaaGreatDoorY13
import Derived.Test.YtklnakjmiljmhaaGreatDoorY14
import Derived.Test.YtklnakjmiljmhaaGreatDoorY18
import Derived.Lib.ItoaNum
import Derived.Lib.AtoiTie
import Derived.Lib.Split
import Derived.Test.YtklnakjmiljmhaaGreatDoorY01
import Derived.Test.YtklnakjmiljmhaaGreatDoorY12
namespace Go.Proofs.YtklnakjmiljmhaaGreatDoor
set_option linter.unusedVariables false
set_option linter.unusedSimpArgs false
set_option maxRecDepth 100000
open Go.RowKit
def encErr (c : Int) (l : List UInt8) : Int := if vldC c = false then 1 else if 65536 < l.length then 3 else 0
def encOut (c : Int) (l : List UInt8) : List UInt8 := if vldC c = false then [] else if 65536 < l.length then [] else encd c l
def EePost (c : Int) (l : List UInt8) (w : World) (e : Ending) (w' : World) : Prop := e = .returned (.tuple #[.string (bs (encOut c l)), .int .i64 (encErr c l)]) ∧ Below w.heap.size w w'
theorem EePost.bad {c : Int} {l : List UInt8} {w : World} (h : vldC c = false) : EePost c l w (.returned (.tuple #[.string ⟨#[]⟩, .int .i64 1])) w := by
  refine ⟨?_, Below.refl _ _⟩
  unfold encErr encOut; rw [if_pos h, if_pos h]; rfl
theorem EePost.long {c : Int} {l : List UInt8} {w : World} (h : vldC c = true) (h2 : 65536 < l.length) : EePost c l w (.returned (.tuple #[.string ⟨#[]⟩, .int .i64 3])) w := by
  refine ⟨?_, Below.refl _ _⟩
  unfold encErr encOut; rw [if_neg (by rw [h]; decide), if_pos h2, if_neg (by rw [h]; decide), if_pos h2]; rfl
theorem EePost.ok {c : Int} {l x : List UInt8} {w w' : World} (h : vldC c = true) (h2 : ¬ 65536 < l.length) (hx : x = encd c l) (hb : Below w.heap.size w w') : EePost c l w (.returned (.tuple #[.string (bs x), .int .i64 0])) w' := by
  refine ⟨?_, hb⟩
  unfold encErr encOut; rw [if_neg (by rw [h]; decide), if_neg h2, if_neg (by rw [h]; decide), if_neg h2, hx]
set_option maxHeartbeats 1000000 in
theorem Encode_any (c : Int) (v : Value) (l : List UInt8) (w : World) (hl : l.length ≤ 100000000) (hv : BIn w.heap.size w v l) : Calls Tryz.prog 66 #[.int .i64 c, v] w (EePost c l w) := by
  have V := fun w => cvalid_any c w
  have hv0 := hv
  obtain ⟨A, n, cc, rfl, rfl, -, -⟩ := hv0
  cases h : vldC c with
  | false =>
    rw [h] at V
    have HV := Lib.hid h; clear h
    go_enter Tryz.func66, Tryz.ntmps66
    go_wp2_with (go_at_call 93; refine (V _).mono ?_; rintro e w1 ⟨rfl, rfl⟩)
    go_ret2
    exact EePost.bad HV.out
  | true =>
    rw [h] at V
    have HV := Lib.hid h
    have hc : c = 1 ∨ c = 2 ∨ c = 3 ∨ c = 4 := by unfold vldC at h; simp at h; omega
    clear h
    by_cases hL : 65536 < l.length
    · have HL := Lib.hid hL
      go_enter Tryz.func66, Tryz.ntmps66
      go_wp2_with (go_at_call 93; refine (V _).mono ?_; rintro e w1 ⟨rfl, rfl⟩)
      go_ret2
      exact EePost.long HV.out HL.out
    · have HL := Lib.hid hL
      have D1 := encodeHex_any _ l w (by omega) hv
      have D2 := encodeBase64_any _ l w (by omega) hv
      have D3 := encodePercent_any _ l w (by omega) hv
      have D4 := encodeEscape_any _ l w (by omega) hv
      have HV2 := Lib.hid hv
      clear hv
      rcases hc with rfl | rfl | rfl | rfl
      · go_enter Tryz.func66, Tryz.ntmps66
        go_wp2_with (first | (go_at_call 93; refine (V _).mono ?_; rintro e w1 ⟨rfl, rfl⟩) | (go_at_call 99; refine D1.mono ?_; rintro e w1 ⟨rfl, hb⟩))
        go_ret2
        exact EePost.ok HV.out HL.out rfl hb
      · go_enter Tryz.func66, Tryz.ntmps66
        go_wp2_with (first | (go_at_call 93; refine (V _).mono ?_; rintro e w1 ⟨rfl, rfl⟩) | (go_at_call 100; refine D2.mono ?_; rintro e w1 ⟨rfl, hb⟩))
        go_ret2
        exact EePost.ok HV.out HL.out rfl hb
      · go_enter Tryz.func66, Tryz.ntmps66
        go_wp2_with (first | (go_at_call 93; refine (V _).mono ?_; rintro e w1 ⟨rfl, rfl⟩) | (go_at_call 101; refine D3.mono ?_; rintro e w1 ⟨rfl, hb⟩))
        go_ret2
        exact EePost.ok HV.out HL.out rfl hb
      · go_enter Tryz.func66, Tryz.ntmps66
        go_wp2_with (first | (go_at_call 93; refine (V _).mono ?_; rintro e w1 ⟨rfl, rfl⟩) | (go_at_call 102; refine D4.mono ?_; rintro e w1 ⟨rfl, hb⟩))
        go_ret2
        exact EePost.ok HV.out HL.out rfl hb
end Go.Proofs.YtklnakjmiljmhaaGreatDoor
namespace Go.Proofs.YtklnakjmiljmhaaGreatDoor
set_option linter.unusedVariables false
set_option linter.unusedSimpArgs false
set_option maxRecDepth 100000
open Go
theorem two_hex0 : ∀ n : Fin 256, twoB (hexd ((UInt8.ofNat n.val).toNat / 16 : Int)) (hexd ((UInt8.ofNat n.val).toNat % 16 : Int)) = some (UInt8.ofNat n.val) := by decide +kernel
theorem two_hex (v : UInt8) : twoB (hexd ((v.toNat : Int) / 16)) (hexd ((v.toNat : Int) % 16)) = some v := all_u8 (p := fun v => twoB (hexd ((v.toNat : Int) / 16)) (hexd ((v.toNat : Int) % 16)) = some v) two_hex0 v
theorem two_Hex0 : ∀ n : Fin 256, twoB (Hexd ((UInt8.ofNat n.val).toNat / 16 : Int)) (Hexd ((UInt8.ofNat n.val).toNat % 16 : Int)) = some (UInt8.ofNat n.val) := by decide +kernel
theorem two_Hex (v : UInt8) : twoB (Hexd ((v.toNat : Int) / 16)) (Hexd ((v.toNat : Int) % 16)) = some v := all_u8 (p := fun v => twoB (Hexd ((v.toNat : Int) / 16)) (Hexd ((v.toNat : Int) % 16)) = some v) two_Hex0 v
theorem back_hex : ∀ (l o : List UInt8), decHex (encF hexE l) o = some (o ++ l)
  | [], o => by simp [encF, decHex]
  | c :: r, o => by
    rw [encF, hexE]
    show (match twoB (hexd ((c.toNat : Int) / 16)) (hexd ((c.toNat : Int) % 16)) with | none => none | some c => decHex (encF hexE r) (o ++ [c])) = _
    rw [two_hex]
    show decHex (encF hexE r) (o ++ [c]) = _
    rw [back_hex r, List.append_assoc]; rfl
theorem pln_not37 (c : UInt8) (h : pln c.toNat = true) : c ≠ 37 := by
  rintro rfl; revert h; decide
theorem back_pct : ∀ (l o : List UInt8), decPct (encF pctE l) o = some (o ++ l)
  | [], o => by simp [encF, decPct]
  | c :: r, o => by
    rw [encF]
    by_cases h : pln c.toNat = true
    · rw [pctE, if_pos h]
      show decPct (c :: encF pctE r) o = _
      rw [decPct_own _ _ _ (pln_not37 c h), back_pct r, List.append_assoc]; rfl
    · rw [pctE, if_neg h]
      show decPct (37 :: Hexd ((c.toNat : Int) / 16) :: Hexd ((c.toNat : Int) % 16) :: encF pctE r) o = _
      rw [decPct_two]
      show (match twoB (Hexd ((c.toNat : Int) / 16)) (Hexd ((c.toNat : Int) % 16)) with | none => none | some x => decPct (encF pctE r) (o ++ [x])) = _
      rw [two_Hex]
      show decPct (encF pctE r) (o ++ [c]) = _
      rw [back_pct r, List.append_assoc]; rfl
theorem back_esc : ∀ (l o : List UInt8), decEsc (encF escE l) o = some (o ++ l)
  | [], o => by simp [encF, decEsc]
  | c :: r, o => by
    rw [encF]
    have fin : ∀ x : UInt8, x = c → decEsc (encF escE r) (o ++ [x]) = some (o ++ c :: r) := fun x hx => by rw [back_esc r, hx, List.append_assoc]; rfl
    unfold escE
    by_cases h1 : c = 10
    · rw [if_pos h1]
      show decEsc (92 :: 110 :: encF escE r) o = _
      rw [decEsc_esc]; unfold escO; rw [if_pos rfl]; exact fin _ h1.symm
    rw [if_neg h1]
    by_cases h2 : c = 13
    · rw [if_pos h2]
      show decEsc (92 :: 114 :: encF escE r) o = _
      rw [decEsc_esc]; unfold escO; rw [if_neg (by decide), if_pos rfl]; exact fin _ h2.symm
    rw [if_neg h2]
    by_cases h3 : c = 9
    · rw [if_pos h3]
      show decEsc (92 :: 116 :: encF escE r) o = _
      rw [decEsc_esc]; unfold escO; rw [if_neg (by decide), if_neg (by decide), if_pos rfl]; exact fin _ h3.symm
    rw [if_neg h3]
    by_cases h4 : c = 92
    · rw [if_pos h4]
      show decEsc (92 :: 92 :: encF escE r) o = _
      rw [decEsc_esc]; unfold escO; rw [if_neg (by decide), if_neg (by decide), if_neg (by decide), if_pos rfl]; exact fin _ h4.symm
    rw [if_neg h4]
    by_cases h5 : c.toNat < 32 ∨ 126 < c.toNat
    · rw [if_pos h5]
      show decEsc (92 :: 120 :: hexd ((c.toNat : Int) / 16) :: hexd ((c.toNat : Int) % 16) :: encF escE r) o = _
      rw [decEsc_esc]; unfold escO; rw [if_neg (by decide), if_neg (by decide), if_neg (by decide), if_neg (by decide), if_pos rfl]
      show (match twoB (hexd ((c.toNat : Int) / 16)) (hexd ((c.toNat : Int) % 16)) with | none => none | some x => decEsc (encF escE r) (o ++ [x])) = _
      rw [two_hex]; exact fin _ rfl
    · rw [if_neg h5]
      show decEsc (c :: encF escE r) o = _
      rw [decEsc_own _ _ _ h4]; exact fin _ rfl
theorem sgnV_B0 : ∀ n : Fin 64, sgnV ((sgnB (n.val : Int)).toNat : Int) = (n.val : Int) ∧ sgnB (n.val : Int) ≠ 61 := by decide +kernel
theorem sgnV_B (n : Int) (h0 : 0 ≤ n) (h1 : n < 64) : sgnV ((sgnB n).toNat : Int) = n ∧ sgnB n ≠ 61 := by
  have h := sgnV_B0 ⟨n.toNat, by omega⟩
  simp only [Int.toNat_of_nonneg h0] at h
  exact h
theorem grpF_dig (p : Nat) (n : Int) (r : List UInt8) (k : Nat) (B : Int) (h0 : 0 ≤ n) (h1 : n < 64) (hk : ¬ 4 - p ≤ k) : grpF p (sgnB n :: r) k B = grpF p r (k + 1) (B * 64 + n) := by
  rw [grpF, if_neg hk, (sgnV_B n h0 h1).1, if_neg (by omega)]
theorem grpF_61 (p : Nat) (r : List UInt8) (k : Nat) (B : Int) (hk : 4 - p ≤ k) : grpF p (61 :: r) k B = grpF p r (k + 1) (B * 64) := by rw [grpF, if_pos hk]
theorem u8_back (v : UInt8) (x : Int) (h : x = v.toNat) : UInt8.ofNat x.toNat = v := by subst h; simp
theorem back_b64 : ∀ (l o : List UInt8), decB64 (b64E l) o = some (o ++ l)
  | [], o => by simp [b64E, decB64]
  | [a], o => by
    have ha := a.toNat_lt
    rw [b64E, decB64_four _ _ _ _ _ _ [] rfl]
    have : grp true [sgnB ((a.toNat : Int) / 4), sgnB ((a.toNat : Int) % 4 * 16), 61, 61] = some [a] := by
      show grpF (padsOf 61 61 true) _ 0 0 = _
      rw [show padsOf 61 61 true = 2 from rfl, grpF_dig _ _ _ _ _ (by omega) (by omega) (by decide), grpF_dig _ _ _ _ _ (by omega) (by omega) (by decide), grpF_61 _ _ _ _ (by decide), grpF_61 _ _ _ _ (by decide), grpF, fin64]
      rw [if_pos (by simp only [Int.reducePow]; omega)]
      simp only [List.take, Nat.reduceSub]
      rw [u8_back a _ (by omega)]
    show (match grp true [sgnB ((a.toNat : Int) / 4), sgnB ((a.toNat : Int) % 4 * 16), 61, 61] with | none => none | some x => decB64 [] (o ++ x)) = _
    rw [this]; rfl
  | [a, b], o => by
    have ha := a.toNat_lt
    have hb := b.toNat_lt
    rw [b64E, decB64_four _ _ _ _ _ _ [] rfl]
    have hne := (sgnV_B ((b.toNat : Int) % 16 * 4) (by omega) (by omega)).2
    have : grp true [sgnB ((a.toNat : Int) / 4), sgnB ((a.toNat : Int) % 4 * 16 + (b.toNat : Int) / 16), sgnB ((b.toNat : Int) % 16 * 4), 61] = some [a, b] := by
      show grpF (padsOf _ 61 true) _ 0 0 = _
      rw [show padsOf (sgnB ((b.toNat : Int) % 16 * 4)) 61 true = 1 by simp [padsOf, hne], grpF_dig _ _ _ _ _ (by omega) (by omega) (by decide), grpF_dig _ _ _ _ _ (by omega) (by omega) (by decide), grpF_dig _ _ _ _ _ (by omega) (by omega) (by decide), grpF_61 _ _ _ _ (by decide), grpF, fin64]
      rw [if_pos (by simp only [Int.reducePow]; omega)]
      simp only [List.take, Nat.reduceSub]
      rw [u8_back a _ (by omega), u8_back b _ (by omega)]
    show (match grp true [sgnB ((a.toNat : Int) / 4), sgnB ((a.toNat : Int) % 4 * 16 + (b.toNat : Int) / 16), sgnB ((b.toNat : Int) % 16 * 4), 61] with | none => none | some x => decB64 [] (o ++ x)) = _
    rw [this]; rfl
  | a :: b :: c :: r, o => by
    have ha := a.toNat_lt
    have hb := b.toNat_lt
    have hc := c.toNat_lt
    rw [b64E, decB64_four _ _ _ _ _ _ (b64E r) rfl]
    have hne := (sgnV_B ((c.toNat : Int) % 64) (by omega) (by omega)).2
    have : ∀ last, grp last [sgnB ((a.toNat : Int) / 4), sgnB ((a.toNat : Int) % 4 * 16 + (b.toNat : Int) / 16), sgnB ((b.toNat : Int) % 16 * 4 + (c.toNat : Int) / 64), sgnB ((c.toNat : Int) % 64)] = some [a, b, c] := by
      intro last
      show grpF (padsOf _ _ last) _ 0 0 = _
      rw [show padsOf (sgnB ((b.toNat : Int) % 16 * 4 + (c.toNat : Int) / 64)) (sgnB ((c.toNat : Int) % 64)) last = 0 by simp [padsOf, hne], grpF_dig _ _ _ _ _ (by omega) (by omega) (by decide), grpF_dig _ _ _ _ _ (by omega) (by omega) (by decide), grpF_dig _ _ _ _ _ (by omega) (by omega) (by decide), grpF_dig _ _ _ _ _ (by omega) (by omega) (by decide), grpF, fin64]
      rw [if_pos (by simp only [Int.reducePow]; omega)]
      simp only [List.take, Nat.reduceSub]
      rw [u8_back a _ (by omega), u8_back b _ (by omega), u8_back c _ (by omega)]
    rw [this]
    show decB64 (b64E r) (o ++ [a, b, c]) = _
    rw [back_b64 r, List.append_assoc]; rfl
theorem back_all (c : Int) (l : List UInt8) : decd c (encd c l) = some l := by
  unfold decd encd
  by_cases h1 : c = 1
  · rw [if_pos h1, if_pos h1, back_hex]; rfl
  rw [if_neg h1, if_neg h1]
  by_cases h2 : c = 2
  · rw [if_pos h2, if_pos h2, back_b64]; rfl
  rw [if_neg h2, if_neg h2]
  by_cases h3 : c = 3
  · rw [if_pos h3, if_pos h3, back_pct]; rfl
  rw [if_neg h3, if_neg h3, back_esc]; rfl
theorem encF_len (f : UInt8 → List UInt8) (m : Nat) (hf : ∀ c, (f c).length ≤ m) : ∀ l, (encF f l).length ≤ m * l.length
  | [] => by simp [encF]
  | c :: r => by
    have := encF_len f m hf r
    have := hf c
    rw [encF, List.length_append, List.length_cons, Nat.mul_succ]; omega
theorem b64E_len : ∀ l, (b64E l).length ≤ 4 * l.length
  | [] => by simp [b64E]
  | [_] => by simp [b64E]
  | [_, _] => by simp [b64E]
  | a :: b :: c :: r => by
    have := b64E_len r
    simp only [b64E, List.length_cons]; omega
theorem encd_len (c : Int) (l : List UInt8) : (encd c l).length ≤ 4 * l.length := by
  unfold encd
  have h1 := encF_len hexE 2 (fun c => by simp [hexE]) l
  have h3 := encF_len pctE 3 (fun c => by unfold pctE; split <;> simp) l
  have h4 := encF_len escE 4 escE_len l
  have h2 := b64E_len l
  split
  · omega
  · split
    · exact h2
    · split <;> omega
end Go.Proofs.YtklnakjmiljmhaaGreatDoor
namespace Go.Proofs.YtklnakjmiljmhaaGreatDoor
set_option linter.unusedVariables false
set_option linter.unusedSimpArgs false
set_option maxRecDepth 100000
open Go
def numL (n : Int) : List UInt8 := Lib.decDigits n.toNat
def tailM (m : Ms) : List UInt8 := if m.kind = 3 then [] else 32 :: encF escE m.text
def lineM (m : Ms) : List UInt8 := wordM m.kind ++ 32 :: (numL m.id ++ 32 :: (numL m.time ++ 32 :: (m.who ++ tailM m)))
def fmtM : List Ms → List UInt8
  | [] => []
  | m :: r => lineM m ++ 10 :: fmtM r
theorem fmtM_app : ∀ a b : List Ms, fmtM (a ++ b) = fmtM a ++ fmtM b
  | [], b => rfl
  | m :: r, b => by rw [List.cons_append, fmtM, fmtM, fmtM_app r b]; simp
/-! Pieces between spaces. -/
theorem occ32 (s : List UInt8) (j : Nat) (h : j < s.length) : Lib.occAt s [32] j = (s[j] == 32) := by
  unfold Lib.occAt
  rw [List.drop_eq_getElem_cons h]
  simp [List.isPrefixOf]
  exact Bool.beq_comm
theorem index_at (x r : List UInt8) (hx : ∀ c ∈ x, c ≠ 32) : Lib.index (x ++ 32 :: r) [32] = x.length := by
  refine Lib.index_first (by simp) ?_ (fun j hj => ?_)
  · rw [occ32 _ _ (by simp)]; simp
  · rw [occ32 _ _ (by simp; omega), List.getElem_append_left hj]
    simpa using hx _ (List.getElem_mem hj)
theorem index_no (x : List UInt8) (hx : ∀ c ∈ x, c ≠ 32) : Lib.index x [32] = -1 := by
  refine Lib.index_none (fun j hj => ?_)
  rcases Nat.lt_or_ge j x.length with h | h
  · rw [occ32 _ _ h]; simpa using hx _ (List.getElem_mem h)
  · unfold Lib.occAt; rw [List.drop_eq_nil_of_le h]; rfl
theorem splitK_hit (k : Nat) (x r : List UInt8) (hx : ∀ c ∈ x, c ≠ 32) : Lib.splitK [32] 0 (k + 1) (x ++ 32 :: r) = x :: Lib.splitK [32] 0 k r := by
  rw [Lib.splitK, index_at x r hx, if_neg (by simp)]
  rw [show ((x.length : Int).toNat + 0) = x.length by simp, show ((x.length : Int).toNat + ([32] : List UInt8).length) = x.length + 1 by simp]
  rw [List.take_left', List.drop_append, List.drop_eq_nil_of_le (by omega)]
  · simp
  · rfl
theorem splitK_last (k : Nat) (x : List UInt8) (hx : ∀ c ∈ x, c ≠ 32) : Lib.splitK [32] 0 k x = [x] := by
  cases k with
  | zero => rfl
  | succ k => rw [Lib.splitK, index_no x hx]; rfl
/-- A byte that can stand in a word: no control byte, no space. -/
abbrev NoSp (x : List UInt8) : Prop := ∀ c ∈ x, 33 ≤ c.toNat ∧ c.toNat ≤ 126
theorem NoSp.ne {x : List UInt8} (h : NoSp x) : ∀ c ∈ x, c ≠ 32 := fun c hc e => by have := h c hc; rw [e] at this; revert this; decide
theorem NoSp.nl {x : List UInt8} (h : NoSp x) : ∀ c ∈ x, c ≠ 10 := fun c hc e => by have := h c hc; rw [e] at this; revert this; decide
theorem whoF_all : ∀ {l : List UInt8}, whoF l = true → NoSp l
  | [], _ => by simp [NoSp]
  | c :: r, h => by
    rw [whoF] at h
    simp only [Bool.and_eq_true, decide_eq_true_eq] at h
    intro x hx
    rcases List.mem_cons.1 hx with rfl | hx
    · exact h.1
    · exact whoF_all h.2 x hx
theorem wordM_sp (k : Int) : NoSp (wordM k) := by
  unfold wordM NoSp; split <;> (try split) <;> decide
theorem dig_sp (n : Nat) : NoSp (Lib.decDigits n) := by
  induction n using Nat.strongRecOn with
  | _ n ih =>
    rw [Lib.decDigits]
    split
    · intro c hc
      simp only [List.mem_singleton] at hc
      subst hc; rw [UInt8.toNat_ofNat']; omega
    · intro c hc
      rcases List.mem_append.1 hc with hc | hc
      · exact ih (n / 10) (by omega) c hc
      · simp only [List.mem_singleton] at hc
        subst hc; rw [UInt8.toNat_ofNat']; omega
theorem dig_digit (n : Nat) : ∀ c ∈ Lib.decDigits n, 48 ≤ c.toNat ∧ c.toNat ≤ 57 := by
  induction n using Nat.strongRecOn with
  | _ n ih =>
    rw [Lib.decDigits]
    split
    · intro c hc
      simp only [List.mem_singleton] at hc
      subst hc; rw [UInt8.toNat_ofNat']; omega
    · intro c hc
      rcases List.mem_append.1 hc with hc | hc
      · exact ih (n / 10) (by omega) c hc
      · simp only [List.mem_singleton] at hc
        subst hc; rw [UInt8.toNat_ofNat']; omega
/-- The number that digits spell. -/
def valF : List UInt8 → Nat → Nat
  | [], a => a
  | c :: r, a => valF r (a * 10 + (c.toNat - 48))
theorem valF_app : ∀ (a b : List UInt8) (n : Nat), valF (a ++ b) n = valF b (valF a n)
  | [], b, n => rfl
  | c :: r, b, n => by rw [List.cons_append, valF, valF, valF_app r b]
theorem valF_dec (n : Nat) : valF (Lib.decDigits n) 0 = n := by
  induction n using Nat.strongRecOn with
  | _ n ih =>
    rw [Lib.decDigits]
    split
    · show 0 * 10 + _ = n; rw [UInt8.toNat_ofNat']; omega
    · rw [valF_app, ih (n / 10) (by omega)]
      show n / 10 * 10 + _ = n; rw [UInt8.toNat_ofNat']; omega
theorem decFrom_val : ∀ (l : List UInt8) (a : Nat), (∀ c ∈ l, 48 ≤ c.toNat ∧ c.toNat ≤ 57) → Lib.decFrom a l = some (valF l a)
  | [], a, _ => rfl
  | c :: r, a, h => by
    have hc := h c (by simp)
    rw [Lib.decFrom, show Lib.digitVal c = some (c.toNat - 48) from if_pos hc]
    exact decFrom_val r _ (fun x hx => h x (by simp [hx]))
theorem dec_ne (n : Nat) : Lib.decDigits n ≠ [] := by
  rw [Lib.decDigits]; split <;> simp
theorem atoi_dec (n : Nat) : Lib.atoi (Lib.decDigits n) = some (n : Int) := by
  have h1 := dig_digit n
  have h2 := dec_ne n
  have h3 := decFrom_val (Lib.decDigits n) 0 h1
  rw [valF_dec] at h3
  cases hd : Lib.decDigits n with
  | nil => exact absurd hd h2
  | cons b r =>
    have hb := h1 b (by rw [hd]; simp)
    rw [hd] at h3
    rw [Lib.atoi, if_neg (by simp; rintro rfl; revert hb; decide), if_neg (by simp; rintro rfl; revert hb; decide)]
    rw [Lib.decNat, if_neg (by simp), h3]; rfl
theorem dec_len (n k : Nat) (h : n < 10 ^ (k + 1)) : (Lib.decDigits n).length ≤ k + 1 := by
  induction k generalizing n with
  | zero => rw [Lib.decDigits, dif_pos (by simpa using h)]; simp
  | succ k ih =>
    rw [Lib.decDigits]
    split
    · simp
    · rw [List.length_append]
      have := ih (n / 10) (by rw [Nat.pow_succ] at h; omega)
      simp; omega
theorem escE_nl (c x : UInt8) (hx : x ∈ escE c) : x ≠ 10 := by
  have h0 : ∀ n : Fin 256, ∀ x ∈ escE (UInt8.ofNat n.val), x ≠ 10 := by decide +kernel
  have := h0 ⟨c.toNat, c.toNat_lt⟩ x
  simp only [UInt8.ofNat_toNat] at this
  exact this hx
theorem encF_all {f : UInt8 → List UInt8} {p : UInt8 → Prop} (h : ∀ c x, x ∈ f c → p x) : ∀ (l : List UInt8) (x : UInt8), x ∈ encF f l → p x
  | [], x, hx => by simp [encF] at hx
  | c :: r, x, hx => by
    rw [encF] at hx
    rcases List.mem_append.1 hx with hx | hx
    · exact h c x hx
    · exact encF_all h r x hx
theorem lineM_nl (m : Ms) (hw : NoSp m.who) : ∀ c ∈ lineM m, c ≠ 10 := by
  intro c hc
  unfold lineM at hc
  rcases List.mem_append.1 hc with hc | hc
  · exact (wordM_sp _).nl c hc
  rcases List.mem_cons.1 hc with rfl | hc
  · decide
  rcases List.mem_append.1 hc with hc | hc
  · exact (dig_sp _).nl c hc
  rcases List.mem_cons.1 hc with rfl | hc
  · decide
  rcases List.mem_append.1 hc with hc | hc
  · exact (dig_sp _).nl c hc
  rcases List.mem_cons.1 hc with rfl | hc
  · decide
  rcases List.mem_append.1 hc with hc | hc
  · exact hw.nl c hc
  · unfold tailM at hc
    split at hc
    · simp at hc
    · rcases List.mem_cons.1 hc with rfl | hc
      · decide
      · exact encF_all escE_nl _ c hc
/-- The words of a line. -/
theorem words_line (m : Ms) (hw : NoSp m.who) : Lib.splitK [32] 0 4 (lineM m) = [wordM m.kind, numL m.id, numL m.time, m.who] ++ (if m.kind = 3 then [] else [encF escE m.text]) := by
  unfold lineM
  rw [splitK_hit 3 _ _ (wordM_sp _).ne, splitK_hit 2 (numL m.id) _ (dig_sp _).ne, splitK_hit 1 (numL m.time) _ (dig_sp _).ne]
  unfold tailM
  by_cases h : m.kind = 3
  · rw [if_pos h, if_pos h, List.append_nil, splitK_last 1 _ hw.ne]; rfl
  · rw [if_neg h, if_neg h, splitK_hit 0 _ _ hw.ne]; rfl
/-- The reference's cutting: k words, and what is left. -/
def cutW : Nat → List UInt8 → List UInt8 → List (List UInt8) × List UInt8
  | 0, _, s => ([], s)
  | _ + 1, a, [] => ([a], [])
  | k + 1, a, c :: r => if c = 32 then (a :: (cutW k [] r).1, (cutW k [] r).2) else cutW (k + 1) (a ++ [c]) r
theorem cutW_hit (k : Nat) : ∀ (x a r : List UInt8), (∀ c ∈ x, c ≠ 32) → cutW (k + 1) a (x ++ 32 :: r) = ((a ++ x) :: (cutW k [] r).1, (cutW k [] r).2)
  | [], a, r, _ => by rw [List.nil_append, cutW, if_pos rfl, List.append_nil]
  | c :: x, a, r, h => by
    rw [List.cons_append, cutW, if_neg (h c (by simp)), cutW_hit k x _ r (fun d hd => h d (by simp [hd]))]
    simp
theorem cutW_last (k : Nat) : ∀ (x a : List UInt8), (∀ c ∈ x, c ≠ 32) → cutW (k + 1) a x = ([a ++ x], [])
  | [], a, _ => by rw [cutW, List.append_nil]
  | c :: x, a, h => by
    rw [cutW, if_neg (h c (by simp)), cutW_last k x _ (fun d hd => h d (by simp [hd]))]
    simp
theorem cutW_line (m : Ms) (hw : NoSp m.who) : cutW 4 [] (lineM m) = ([wordM m.kind, numL m.id, numL m.time, m.who], if m.kind = 3 then [] else encF escE m.text) := by
  unfold lineM
  rw [cutW_hit 3 _ _ _ (wordM_sp _).ne, cutW_hit 2 (numL m.id) _ _ (dig_sp _).ne, cutW_hit 1 (numL m.time) _ _ (dig_sp _).ne]
  unfold tailM
  by_cases h : m.kind = 3
  · rw [if_pos h, if_pos h, List.append_nil, cutW_last 0 _ _ hw.ne]; simp only [List.nil_append]
  · rw [if_neg h, if_neg h, cutW_hit 0 _ _ _ hw.ne]; simp only [cutW, List.nil_append]
theorem wrongM_no {m : Ms} (h : wrongM m = false) : 1 ≤ m.kind ∧ m.kind ≤ 3 ∧ 1 ≤ m.id ∧ m.id ≤ 1073741824 ∧ NoSp m.who ∧ 1 ≤ m.who.length ∧ m.who.length ≤ 40 ∧ (m.kind = 3 → m.text = []) := by
  unfold wrongM at h
  simp only [Bool.or_eq_false_iff, decide_eq_false_iff_not, Bool.and_eq_false_iff, Bool.not_eq_false', beq_eq_false_iff_ne] at h
  obtain ⟨h1, h2, h3, h4, h5, h6⟩ := h
  unfold whoOK at h5
  simp only [Bool.and_eq_true, decide_eq_true_eq] at h5
  refine ⟨by omega, by omega, by omega, by omega, whoF_all h5.1, h5.2.1, h5.2.2, fun e => ?_⟩
  rcases h6 with h6 | h6
  · exact absurd e h6
  · simpa using h6
theorem lateM_no {m : Ms} (h : lateM m = false) : 0 ≤ m.time ∧ m.time ≤ 1099511627776 := by
  unfold lateM at h
  simp only [Bool.or_eq_false_iff, decide_eq_false_iff_not] at h
  omega
/-- Text lines: each with its line end, the last one may lack it. -/
def linesF : List UInt8 → List UInt8 → List (List UInt8)
  | [], a => if a = [] then [] else [a]
  | c :: r, a => if c = 10 then (a ++ [10]) :: linesF r [] else linesF r (a ++ [c])
theorem linesF_hit : ∀ (x a r : List UInt8), (∀ c ∈ x, c ≠ 10) → linesF (x ++ 10 :: r) a = (a ++ x ++ [10]) :: linesF r []
  | [], a, r, _ => by rw [List.nil_append, linesF, if_pos rfl, List.append_nil]
  | c :: x, a, r, h => by
    rw [List.cons_append, linesF, if_neg (h c (by simp)), linesF_hit x _ r (fun d hd => h d (by simp [hd]))]
    simp
theorem lines_fmt : ∀ (l : List Ms), (∀ m ∈ l, NoSp m.who) → linesF (fmtM l) [] = l.map fun m => lineM m ++ [10]
  | [], _ => rfl
  | m :: r, h => by
    rw [fmtM, linesF_hit _ _ _ (lineM_nl m (h m (by simp))), lines_fmt r (fun x hx => h x (by simp [hx]))]; rfl
end Go.Proofs.YtklnakjmiljmhaaGreatDoor
namespace Go.Proofs.YtklnakjmiljmhaaGreatDoor
set_option linter.unusedVariables false
set_option linter.unusedSimpArgs false
set_option maxRecDepth 100000
open Go.RowKit
def valG : List UInt8 → Nat → Option Nat
  | [], n => some n
  | c :: r, n => if 48 ≤ c.toNat ∧ c.toNat ≤ 57 then valG r (n * 10 + (c.toNat - 48)) else none
def valR (l : List UInt8) : Option Nat := if l.length = 0 ∨ 18 < l.length then none else valG l 0
def valV : Option Nat → Value
  | some n => .tuple #[.int .i64 (n : Int), .bool true]
  | none => .tuple #[.int .i64 0, .bool false]
theorem valG_dig : ∀ (l : List UInt8) (n : Nat), (∀ c ∈ l, 48 ≤ c.toNat ∧ c.toNat ≤ 57) → valG l n = some (valF l n) := by
  intro l
  induction l with
  | nil => intro n _; rfl
  | cons c r ih =>
    intro n h
    rw [valG, if_pos (h c (by simp)), ih _ (fun x hx => h x (by simp [hx])), valF]
theorem valR_dec (n : Nat) (h : n < 10 ^ 18) : valR (Lib.decDigits n) = some n := by
  have h1 : (Lib.decDigits n).length ≤ 18 := dec_len n 17 (by omega)
  have h2 : (Lib.decDigits n).length ≠ 0 := by intro e; exact dec_ne n (List.length_eq_zero_iff.1 e)
  rw [valR, if_neg (by omega), valG_dig _ _ (dig_digit n), valF_dec]
theorem valG_drop (s : ByteArray) (k : Nat) (h : k < s.size) (u : UInt8) (hu : u = s[k]) (n : Nat) : valG ((bl s).drop k) n = if 48 ≤ u.toNat ∧ u.toNat ≤ 57 then valG ((bl s).drop (k + 1)) (n * 10 + (u.toNat - 48)) else none := by
  have hk : k < (bl s).length := by rw [size_list]; exact h
  rw [List.drop_eq_getElem_cons hk, valG]
  subst hu
  rfl
theorem ret_val {a b : Option Nat} (h : a = b) : Ending.returned (valV a) = .returned (valV b) := by rw [h]
set_option maxHeartbeats 4000000 in
theorem value_ref (s : ByteArray) (w : World) (hs : s.size ≤ 1000000) : Calls Tryz.prog 70 #[.string s] w fun e w' => e = .returned (valV (valR (bl s))) ∧ w = w' := by
  by_cases h0 : s.size = 0 ∨ 18 < s.size
  · have HN := Lib.hid (show valR (bl s) = none by rw [valR, if_pos (by rw [size_list]; exact h0)])
    by_cases hz : s.size = 0
    · have d0 : ((s.size : Int) == 0) = true := by simp [hz]
      have d0n : (s.size == 0) = true := by simp [hz]
      clear h0
      go_enter Tryz.func70, Tryz.ntmps70
      go_wp2
      go_ret2
      exact ⟨(ret_val HN.out).symm, rfl⟩
    · have d0 : ((s.size : Int) == 0) = false := beq_eq_false_iff_ne.2 (by omega)
      have d0n : (s.size == 0) = false := beq_eq_false_iff_ne.2 (by omega)
      have d1 : decide ((18 : Int) < (s.size : Int)) = true := decide_eq_true (by omega)
      have d1n : decide (18 < s.size) = true := decide_eq_true (by omega)
      clear h0
      go_enter Tryz.func70, Tryz.ntmps70
      go_wp2
      go_ret2
      exact ⟨(ret_val HN.out).symm, rfl⟩
  have d0 : ((s.size : Int) == 0) = false := beq_eq_false_iff_ne.2 (by omega)
  have d0n : (s.size == 0) = false := beq_eq_false_iff_ne.2 (by omega)
  have d1 : decide ((18 : Int) < (s.size : Int)) = false := decide_eq_false (by omega)
  have d1n : decide (18 < s.size) = false := decide_eq_false (by omega)
  have HV := Lib.hid (show valR (bl s) = valG (bl s) 0 by rw [valR, if_neg (by rw [size_list]; exact h0)])
  have h18 : s.size ≤ 18 := by omega
  clear h0
  go_enter Tryz.func70, Tryz.ntmps70
  go_wp2
  go_loop [4, 5] (fun x v => ∃ k n : Nat, k ≤ s.size ∧ x = .int .i64 (n : Int) ∧ v = .int .i64 (k : Int) ∧ Hid (n < 10 ^ k) ∧ Hid (valG ((bl s).drop k) n = valG (bl s) 0)) (fun _ v => s.size - (intOf v).toNat)
  case atStart => exact ⟨0, 0, by omega, rfl, rfl, by show (0 : Nat) < _; decide, rfl⟩
  case round =>
    obtain ⟨k, n, hk, rfl, rfl, HB, HW⟩ := hrel
    by_cases hlt : k < s.size
    · have hd : decide ((k : Int) < (s.size : Int)) = true := decide_eq_true (by omega)
      have hdn : decide (k < s.size) = true := decide_eq_true hlt
      obtain ⟨u, c, hu, hcu, hc0, hc1, hix⟩ := idx_str Tryz.underlying9 s k hlt .i64 (k : Int) rfl
      by_cases h48 : c < 48
      · have h1 : decide (c < 48) = true := decide_eq_true h48
        have HN := Lib.hid (show valR (bl s) = none by rw [HV.out, ← HW.out, valG_drop s k hlt u hu.out, if_neg (by have := hcu.out; omega)])
        go_wp2
        go_ret2
        exact ⟨(ret_val HN.out).symm, rfl⟩
      · have h1 : decide (c < 48) = false := decide_eq_false h48
        by_cases h57 : 57 < c
        · have h2 : decide (57 < c) = true := decide_eq_true h57
          have HN := Lib.hid (show valR (bl s) = none by rw [HV.out, ← HW.out, valG_drop s k hlt u hu.out, if_neg (by have := hcu.out; omega)])
          go_wp2
          go_ret2
          exact ⟨(ret_val HN.out).symm, rfl⟩
        · have h2 : decide (57 < c) = false := decide_eq_false h57
          obtain ⟨d, hd'⟩ : ∃ d : Nat, u.toNat - 48 = d := ⟨_, rfl⟩
          have hcd : c = 48 + (d : Int) := by have := hcu.out; omega
          have hd9 : d ≤ 9 := by omega
          have HN := Lib.hid (show valG ((bl s).drop (k + 1)) (n * 10 + d) = valG (bl s) 0 by rw [← HW.out, valG_drop s k hlt u hu.out, if_pos (by have := hcu.out; omega), hd'])
          have HB2 := Lib.hid (show n * 10 + d < 10 ^ (k + 1) by have := HB.out; rw [Nat.pow_succ]; omega)
          have hnb : n * 10 + d < 1000000000000000000 := Nat.lt_of_lt_of_le HB2.out (Nat.le_trans (Nat.pow_le_pow_right (by omega) (show k + 1 ≤ 18 by omega)) (by decide))
          have hw1 : IntKind.i64.wrap ((n : Int) * 10) = (n : Int) * 10 := IntWalk.i64_in _ (by omega)
          have hw2 : IntKind.i64.wrap ((n : Int) * 10 + (d : Int)) = (n : Int) * 10 + (d : Int) := IntWalk.i64_in _ (by omega)
          have hw3 : IntKind.u8.wrap (c - 48) = (d : Int) := by rw [IntWalk.u8_in _ (by omega)]; omega
          have hw4 : IntKind.i64.wrap (d : Int) = (d : Int) := IntWalk.i64_in _ (by omega)
          clear hcd hd' hnb
          go_wp2
          go_round
          case rel => exact ⟨k + 1, n * 10 + d, by omega, by go_num, by go_num, HB2, HN⟩
          case measure => simp [intOf]; omega
    · have hd : decide ((k : Int) < (s.size : Int)) = false := decide_eq_false (by omega)
      have hdn : decide (k < s.size) = false := decide_eq_false hlt
      have HN := Lib.hid (show valR (bl s) = some n by rw [HV.out, ← HW.out, List.drop_eq_nil_of_le (by rw [size_list]; omega)]; rfl)
      go_wp2
      go_ret2
      exact ⟨(ret_val HN.out).symm, rfl⟩
end Go.Proofs.YtklnakjmiljmhaaGreatDoor
namespace Go.Proofs.YtklnakjmiljmhaaGreatDoor
set_option linter.unusedVariables false
set_option linter.unusedSimpArgs false
set_option maxRecDepth 100000
open Go.RowKit
def kindW (a : List UInt8) : Int := if a = wordM 3 then 3 else if a = wordM 2 then 2 else if a = wordM 1 then 1 else 0
/-- What 'line' of the reference reads: the message, and whether it is one. -/
def lineR (s : List UInt8) : Option Ms :=
  match cutW 4 [] s with
  | ([a, b, c, d], r) =>
    match valR b, valR c, decEsc r [] with
    | some i, some t, some x => if kindW a = 0 then none else some ⟨kindW a, (i : Int), d, (t : Int), x⟩
    | _, _, _ => none
  | _ => none
theorem kindW_word {k : Int} (h1 : 1 ≤ k) (h3 : k ≤ 3) : kindW (wordM k) = k := by
  have h : k = 1 ∨ k = 2 ∨ k = 3 := by omega
  rcases h with rfl | rfl | rfl <;> decide
theorem lineR_line (m : Ms) (hw : wrongM m = false) (hl : lateM m = false) : lineR (lineM m) = some m := by
  obtain ⟨k1, k3, i1, i2, hn, -, -, hx⟩ := wrongM_no hw
  obtain ⟨t1, t2⟩ := lateM_no hl
  have hid : valR (numL m.id) = some m.id.toNat := valR_dec _ (by omega)
  have htm : valR (numL m.time) = some m.time.toNat := valR_dec _ (by omega)
  have hE : decEsc (if m.kind = 3 then [] else encF escE m.text) [] = some m.text := by
    split
    · next h => rw [hx h]; rfl
    · rw [back_esc]; rfl
  unfold lineR
  rw [cutW_line m hn]
  simp only [hid, htm, hE, kindW_word k1 k3]
  rw [if_neg (by omega), Int.toNat_of_nonneg (by omega), Int.toNat_of_nonneg t1]
theorem cutW_len : ∀ (s : List UInt8) (k : Nat) (a : List UInt8), (cutW k a s).1.length ≤ k
  | s, 0, a => by cases s <;> simp [cutW]
  | [], k + 1, a => by simp [cutW]
  | c :: r, k + 1, a => by
    rw [cutW]
    split
    · have := cutW_len r k []
      simp; omega
    · exact cutW_len r (k + 1) (a ++ [c])
end Go.Proofs.YtklnakjmiljmhaaGreatDoor
namespace Go.Proofs.YtklnakjmiljmhaaGreatDoor
set_option linter.unusedVariables false
set_option linter.unusedSimpArgs false
set_option maxRecDepth 100000
open Go.RowKit
theorem who_sp {l : List Ms} (h : errM l = 0) : ∀ m ∈ l, NoSp m.who := fun m hm => (wrongM_no ((errM_ok.1 h).2.2.1 m hm)).2.2.2.2.1
theorem map_line_inj : ∀ (a b : List Ms), (∀ m ∈ a, wrongM m = false ∧ lateM m = false) → (∀ m ∈ b, wrongM m = false ∧ lateM m = false) → (a.map fun m => lineM m ++ [10]) = (b.map fun m => lineM m ++ [10]) → a = b
  | [], [], _, _, _ => rfl
  | [], _ :: _, _, _, h => by simp at h
  | _ :: _, [], _, _, h => by simp at h
  | x :: a, y :: b, ha, hb, h => by
    simp only [List.map_cons, List.cons.injEq] at h
    have h1 : lineM x = lineM y := List.append_cancel_right h.1
    have hx := ha x (by simp); have hy := hb y (by simp)
    have h2 := lineR_line x hx.1 hx.2
    rw [h1, lineR_line y hy.1 hy.2] at h2
    rw [Option.some.inj h2, map_line_inj a b (fun m hm => ha m (by simp [hm])) (fun m hm => hb m (by simp [hm])) h.2]
/-- Two lists of messages of the same lines are one. -/
theorem fmtM_inj {a b : List Ms} (ha : errM a = 0) (hb : errM b = 0) (h : fmtM a = fmtM b) : a = b := by
  have h1 := lines_fmt a (who_sp ha)
  rw [h, lines_fmt b (who_sp hb)] at h1
  have pa := errM_ok.1 ha; have pb := errM_ok.1 hb
  exact map_line_inj a b (fun m hm => ⟨pa.2.2.1 m hm, pa.2.2.2.1 m hm⟩) (fun m hm => ⟨pb.2.2.1 m hm, pb.2.2.2.1 m hm⟩) h1.symm
/-- The reference's reading, line by line, until the bytes end or there are too many. -/
def readF : List UInt8 → List UInt8 → List Ms → Option (List Ms)
  | [], _, out => some out
  | c :: r, cur, out =>
    if 300 < out.length then some out else if c = 10 then (match lineR cur with | none => none | some m => readF r [] (out ++ [m])) else readF r (cur ++ [c]) out
theorem readF_line : ∀ (x r cur : List UInt8) (out : List Ms), (∀ c ∈ x, c ≠ 10) → out.length ≤ 300 → ∀ m, lineR (cur ++ x) = some m → readF (x ++ 10 :: r) cur out = readF r [] (out ++ [m])
  | [], r, cur, out, _, ho, m, hm => by
    rw [List.append_nil] at hm
    rw [List.nil_append, readF, if_neg (by omega), if_pos rfl, hm]
  | c :: x, r, cur, out, hx, ho, m, hm => by
    rw [List.cons_append, readF, if_neg (by omega), if_neg (hx c (by simp))]
    exact readF_line x r (cur ++ [c]) out (fun d hd => hx d (by simp [hd])) ho m (by simpa using hm)
theorem readF_fmt : ∀ (l out : List Ms), (∀ m ∈ l, wrongM m = false ∧ lateM m = false) → out.length + l.length ≤ 300 → readF (fmtM l) [] out = some (out ++ l)
  | [], out, _, _ => by rw [fmtM, readF, List.append_nil]
  | m :: l, out, h, hn => by
    have hm := h m (by simp)
    simp only [List.length_cons] at hn
    rw [fmtM, readF_line (lineM m) _ [] out (lineM_nl m (wrongM_no hm.1).2.2.2.2.1) (by omega) m (by rw [List.nil_append]; exact lineR_line m hm.1 hm.2)]
    rw [readF_fmt l _ (fun x hx => h x (by simp [hx])) (by simp; omega)]
    simp
theorem readF_parse {l : List Ms} (h : errM l = 0) : readF (fmtM l) [] [] = some l := by
  have p := errM_ok.1 h
  exact readF_fmt l [] (fun m hm => ⟨p.2.2.1 m hm, p.2.2.2.1 m hm⟩) (by simp; exact p.1)
end Go.Proofs.YtklnakjmiljmhaaGreatDoor
