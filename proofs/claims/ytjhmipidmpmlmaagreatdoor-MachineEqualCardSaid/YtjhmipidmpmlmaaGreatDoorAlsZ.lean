/- Several blocks that are made one behind the other. -/
import Derived.Test.YtjhmipidmpmlmaaGreatDoorY11
namespace Go.Proofs.YtjhmipidmpmlmaaGreatDoor
set_option linter.unusedVariables false
set_option linter.unusedSimpArgs false
set_option maxRecDepth 100000
open Go.RowKit
def allocs (w : World) : List (Array Value × TypeId) → World
  | [] => w
  | o :: r => allocs (w.alloc (.cells o.1 o.2)) r
theorem allocs_size : ∀ (os : List (Array Value × TypeId)) (w : World), (allocs w os).heap.size = w.heap.size + os.length
  | [], w => rfl
  | o :: r, w => by rw [allocs, allocs_size r]; simp; omega
theorem allocs_below : ∀ (os : List (Array Value × TypeId)) (w : World), Below w.heap.size w (allocs w os)
  | [], w => Below.refl _ _
  | o :: r, w => by
    rw [allocs]
    have h1 : Below w.heap.size w (w.alloc (.cells o.1 o.2)) := (Below.refl _ _).alloc (Nat.le_refl _) _
    exact h1.trans ((allocs_below r _).mono (by simp))
theorem allocs_get : ∀ (os : List (Array Value × TypeId)) (w : World) (i : Nat) (h : i < os.length), (allocs w os).heap[w.heap.size + i]? = some (.cells os[i].1 os[i].2 (0, 0))
  | o :: r, w, 0, h => by
    rw [allocs, (allocs_below r _).block _ (by simp)]
    exact heap_alloc_new w (.cells o.1 o.2)
  | o :: r, w, i + 1, h => by
    have := allocs_get r (w.alloc (.cells o.1 o.2)) i (by simpa using h)
    rw [allocs]
    have e : (w.alloc (.cells o.1 o.2)).heap.size + i = w.heap.size + (i + 1) := by simp; omega
    rw [e] at this
    exact this
theorem allocs_at {os : List (Array Value × TypeId)} {w : World} (i : Nat) {cs : Array Value} {T : TypeId} (h : os[i]? = some (cs, T)) : (allocs w os).heap[w.heap.size + i]? = some (.cells cs T (0, 0)) := by
  obtain ⟨hi, e⟩ := List.getElem?_eq_some_iff.1 h
  rw [allocs_get os w i hi, e]
end Go.Proofs.YtjhmipidmpmlmaaGreatDoor
