/- Plain functions of the four codings, over lists of bytes; no program in sight. -/
import Derived.Test.YtpfldcfnbgdceaaDoorSum
namespace Go.Proofs.YtpfldcfnbgdceaaDoor
set_option linter.unusedVariables false
set_option linter.unusedSimpArgs false
set_option maxRecDepth 100000
open Go
def vldC (c : Int) : Bool := decide (1 ≤ c) && decide (c ≤ 4)
def ltr (c : Int) : Bool := (decide (97 ≤ c) && decide (c ≤ 122)) || (decide (65 ≤ c) && decide (c ≤ 90)) || (decide (48 ≤ c) && decide (c ≤ 57))
/-- The value of a hexadecimal digit, -1 for other bytes. -/
def hexv (c : Int) : Int := if 48 ≤ c ∧ c ≤ 57 then c - 48 else if 97 ≤ c ∧ c ≤ 102 then c - 97 + 10 else if 65 ≤ c ∧ c ≤ 70 then c - 65 + 10 else -1
theorem hexv_bd (c : Int) : -1 ≤ hexv c ∧ hexv c ≤ 15 := by unfold hexv; split <;> (try split) <;> (try split) <;> omega
/-- The byte of two digits. -/
def twoB (a b : UInt8) : Option UInt8 := if 0 ≤ hexv a.toNat ∧ 0 ≤ hexv b.toNat then some (UInt8.ofNat (hexv a.toNat * 16 + hexv b.toNat).toNat) else none
def Hexd (n : Int) : UInt8 := if n < 10 then UInt8.ofNat (48 + n.toNat) else UInt8.ofNat (55 + n.toNat)
def encF (f : UInt8 → List UInt8) : List UInt8 → List UInt8
  | [] => []
  | c :: r => f c ++ encF f r
def hexE (c : UInt8) : List UInt8 := [hexd ((c.toNat : Int) / 16), hexd ((c.toNat : Int) % 16)]
def pln (c : Int) : Bool := ltr c || (c == 45 || (c == 46 || (c == 95 || c == 126)))
def pctE (c : UInt8) : List UInt8 := if pln c.toNat = true then [c] else [37, Hexd ((c.toNat : Int) / 16), Hexd ((c.toNat : Int) % 16)]
def escE (c : UInt8) : List UInt8 :=
  if c = 10 then [92, 110] else if c = 13 then [92, 114] else if c = 9 then [92, 116] else if c = 92 then [92, 92] else
    if c.toNat < 32 ∨ 126 < c.toNat then [92, 120, hexd ((c.toNat : Int) / 16), hexd ((c.toNat : Int) % 16)] else [c]
/-- A sign of the second coding. -/
def sgnB (n : Int) : UInt8 := if n < 26 then UInt8.ofNat (65 + n.toNat) else if n < 52 then UInt8.ofNat (71 + n.toNat) else if n < 62 then UInt8.ofNat (n.toNat - 4) else if n = 62 then 43 else 47
def b64E : List UInt8 → List UInt8
  | [] => []
  | [a] => [sgnB ((a.toNat : Int) / 4), sgnB ((a.toNat : Int) % 4 * 16), 61, 61]
  | [a, b] => [sgnB ((a.toNat : Int) / 4), sgnB ((a.toNat : Int) % 4 * 16 + (b.toNat : Int) / 16), sgnB ((b.toNat : Int) % 16 * 4), 61]
  | a :: b :: c :: r => sgnB ((a.toNat : Int) / 4) :: sgnB ((a.toNat : Int) % 4 * 16 + (b.toNat : Int) / 16) :: sgnB ((b.toNat : Int) % 16 * 4 + (c.toNat : Int) / 64) :: sgnB ((c.toNat : Int) % 64) :: b64E r
def encd (c : Int) (l : List UInt8) : List UInt8 := if c = 1 then encF hexE l else if c = 2 then b64E l else if c = 3 then encF pctE l else encF escE l
/-! Decoding: what has been read stands in front. -/
def decHex : List UInt8 → List UInt8 → Option (List UInt8)
  | [], o => some o
  | [_], _ => none
  | a :: b :: r, o => match twoB a b with
    | none => none
    | some c => decHex r (o ++ [c])
def decPct : List UInt8 → List UInt8 → Option (List UInt8)
  | [], o => some o
  | c :: r, o => if c = 37 then
      match r with
      | a :: b :: r' => match twoB a b with
        | none => none
        | some x => decPct r' (o ++ [x])
      | _ => none
    else decPct r (o ++ [c])
def decEsc : List UInt8 → List UInt8 → Option (List UInt8)
  | [], o => some o
  | c :: r, o => if c = 92 then
      match r with
      | [] => none
      | d :: r' => if d = 110 then decEsc r' (o ++ [10]) else if d = 114 then decEsc r' (o ++ [13]) else if d = 116 then decEsc r' (o ++ [9]) else if d = 92 then decEsc r' (o ++ [92])
        else if d = 120 then
          match r' with
          | a :: b :: r'' => match twoB a b with
            | none => none
            | some x => decEsc r'' (o ++ [x])
          | _ => none
        else none
    else decEsc r (o ++ [c])
theorem hexv_case (c : Int) : (48 ≤ c ∧ c ≤ 57 ∧ hexv c = c - 48) ∨ (97 ≤ c ∧ c ≤ 102 ∧ hexv c = c - 97 + 10) ∨ (65 ≤ c ∧ c ≤ 70 ∧ hexv c = c - 65 + 10) ∨ (¬ (48 ≤ c ∧ c ≤ 57) ∧ ¬ (97 ≤ c ∧ c ≤ 102) ∧ ¬ (65 ≤ c ∧ c ≤ 70) ∧ hexv c = -1) := by
  unfold hexv
  split
  · left; omega
  · split
    · right; left; omega
    · split
      · right; right; left; omega
      · right; right; right; omega
/-- What 'two' hands back: the byte of the digits at a place, and whether they are such. -/
def twoV (l : List UInt8) (k : Nat) : Int := match l.drop k with
  | a :: b :: _ => (hexv a.toNat * 16 + hexv b.toNat) % 256
  | _ => 0
def twoO (l : List UInt8) (k : Nat) : Bool := match l.drop k with
  | a :: b :: _ => decide (0 ≤ hexv a.toNat) && decide (0 ≤ hexv b.toNat)
  | _ => false
end Go.Proofs.YtpfldcfnbgdceaaDoor
