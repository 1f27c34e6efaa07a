/- Walks: the reader of patterns at one text: its number. -/
import Derived.Test.YtoaibhacognbjaaGreatDoorY12
import Derived.LoopN
import Derived.Lib.AsciiSet
import Derived.Test.YtoaibhacognbjaaGreatDoorY24
import Derived.Deep.WholeRow
namespace Go.Proofs.YtoaibhacognbjaaGreatDoor
set_option linter.unusedVariables false
set_option linter.unusedSimpArgs false
set_option maxRecDepth 100000
open Go.RowKit
def digT : ByteArray := ⟨#[48, 49, 50, 51, 52, 53, 54, 55, 56, 57]⟩
theorem setCells_at : (Lib.setCells digT.data.toList)[50]? = some (.bool true) ∧ (Lib.setCells digT.data.toList)[125]? = some (.bool false) ∧ (Lib.setCells digT.data.toList).size = 256 := ⟨by rfl, by rfl, by rfl⟩
theorem foldOne : ∀ (l : List UInt8) (a : Array Value), (∀ (i : Nat) (v : Value), a[i]? = some v → v.oneCell' = true) → ∀ (i : Nat) (v : Value), (l.foldl (fun a c => a.setIfInBounds c.toNat (.bool true)) a)[i]? = some v → v.oneCell' = true
  | [], _, h => h
  | c :: r, a, h => foldOne r _ fun i v hv => by
    rw [Array.getElem?_setIfInBounds] at hv
    split at hv
    · split at hv
      · injection hv with hv; rw [← hv]; rfl
      · cases hv
    · exact h i v hv
theorem setOne (l : List UInt8) : (Lib.setCells l).all (·.oneCell') = true := by
  rw [Array.all_eq_true]
  intro i hi
  refine foldOne l (Array.replicate 256 (.bool false)) (fun j v hj => ?_) i _ (Array.getElem?_eq_getElem hi)
  rw [Array.getElem?_replicate] at hj
  split at hj
  · injection hj with hj; rw [← hj]; rfl
  · cases hj
end Go.Proofs.YtoaibhacognbjaaGreatDoor
