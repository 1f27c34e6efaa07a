/- The second coding: the values of its signs; groups of four signs, in plain words. -/
import Derived.Test.YtpfldcfnbgdceaaDoorCodC
import Derived.Test.YtpfldcfnbgdceaaDoorBits
namespace Go.Proofs.YtpfldcfnbgdceaaDoor
set_option linter.unusedVariables false
set_option linter.unusedSimpArgs false
set_option maxRecDepth 100000
open Go.RowKit
def sgnV (c : Int) : Int := if 65 ≤ c ∧ c ≤ 90 then c - 65 else if 97 ≤ c ∧ c ≤ 122 then c - 71 else if 48 ≤ c ∧ c ≤ 57 then c + 4 else if c = 43 then 62 else if c = 47 then 63 else -1
theorem sgnV_bd (c : Int) : -1 ≤ sgnV c ∧ sgnV c ≤ 63 := by
  unfold sgnV; split <;> (try split) <;> (try split) <;> (try split) <;> (try split) <;> omega
def signs : ByteArray := ⟨#[65, 66, 67, 68, 69, 70, 71, 72, 73, 74, 75, 76, 77, 78, 79, 80, 81, 82, 83, 84, 85, 86, 87, 88, 89, 90, 97, 98, 99, 100, 101, 102, 103, 104, 105, 106, 107, 108, 109, 110, 111, 112, 113, 114, 115, 116, 117, 118, 119, 120, 121, 122, 48, 49, 50, 51, 52, 53, 54, 55, 56, 57, 43, 47]⟩
theorem idx_sgn0 : ∀ n : Fin 256, Lib.indexByte signs.data.toList (UInt8.ofNat n.val) = sgnV ((UInt8.ofNat n.val).toNat : Int) := by decide +kernel
theorem idx_signs (c : Int) (v : UInt8) (h : Hid (c = v.toNat)) : Lib.indexByte signs.data.toList c.toNat.toUInt8 = sgnV c := by
  rw [u8_int c v h, h.out]
  exact all_u8 (p := fun v => Lib.indexByte signs.data.toList v = sgnV (v.toNat : Int)) idx_sgn0 v
def fin64 (p : Nat) (B : Int) : Option (List UInt8) :=
  if B % 256 ^ p = 0 then some ([UInt8.ofNat (B / 65536).toNat, UInt8.ofNat (B / 256 % 256).toNat, UInt8.ofNat (B % 256).toNat].take (3 - p)) else none
def grpF (p : Nat) : List UInt8 → Nat → Int → Option (List UInt8)
  | [], _, B => fin64 p B
  | c :: r, k, B => if 4 - p ≤ k then grpF p r (k + 1) (B * 64) else if sgnV c.toNat < 0 then none else grpF p r (k + 1) (B * 64 + sgnV c.toNat)
def padsOf (c d : UInt8) (last : Bool) : Nat := if last && d == 61 then (if c == 61 then 2 else 1) else 0
def grp (last : Bool) : List UInt8 → Option (List UInt8)
  | [a, b, c, d] => grpF (padsOf c d last) [a, b, c, d] 0 0
  | _ => none
def decB64 : List UInt8 → List UInt8 → Option (List UInt8)
  | [], o => some o
  | a :: b :: c :: d :: r, o => match grp r.isEmpty [a, b, c, d] with
    | none => none
    | some x => decB64 r (o ++ x)
  | _, _ => none
theorem sgn_case (c : Int) : (65 ≤ c ∧ c ≤ 90 ∧ sgnV c = c - 65) ∨ (97 ≤ c ∧ c ≤ 122 ∧ sgnV c = c - 97 + 26) ∨ (48 ≤ c ∧ c ≤ 57 ∧ sgnV c = c - 48 + 52) ∨ (c = 43 ∧ sgnV c = 62) ∨ (c = 47 ∧ sgnV c = 63) ∨
    (¬ (65 ≤ c ∧ c ≤ 90) ∧ ¬ (97 ≤ c ∧ c ≤ 122) ∧ ¬ (48 ≤ c ∧ c ≤ 57) ∧ c ≠ 43 ∧ c ≠ 47 ∧ sgnV c = -1) := by
  unfold sgnV
  split
  · left; omega
  · split
    · right; left; omega
    · split
      · right; right; left; omega
      · split
        · right; right; right; left; omega
        · split
          · right; right; right; right; left; omega
          · right; right; right; right; right; omega
theorem csign_ref (c : Int) (w : World) (h0 : 0 ≤ c) (h1 : c < 256) : Calls Tryd.prog 74 #[.int .u8 c] w fun e w' => e = .returned (.int .i64 (sgnV c)) ∧ w = w' := by
  rcases sgn_case c with ⟨a, b, h⟩ | ⟨a, b, h⟩ | ⟨a, b, h⟩ | ⟨a, h⟩ | ⟨a, h⟩ | ⟨a, b, d, e, f, h⟩
  iterate 3
    · have H := Lib.hid h; clear h
      go_enter Tryd.func74, Tryd.ntmps74
      go_wp2
      go_ret
      exact ⟨ret_int H.out.symm, rfl⟩
  iterate 2
    · have H := Lib.hid h; clear h
      subst a
      go_enter Tryd.func74, Tryd.ntmps74
      go_wp2
      go_ret
      exact ⟨rfl, rfl⟩
  · have H := Lib.hid h; clear h
    by_cases c1 : 48 ≤ c <;> by_cases c2 : 97 ≤ c <;> by_cases c3 : 65 ≤ c
    all_goals first
      | (exfalso; omega)
      | (go_enter Tryd.func74, Tryd.ntmps74
         go_wp2
         go_ret
         exact ⟨ret_int H.out.symm, rfl⟩)
end Go.Proofs.YtpfldcfnbgdceaaDoor
