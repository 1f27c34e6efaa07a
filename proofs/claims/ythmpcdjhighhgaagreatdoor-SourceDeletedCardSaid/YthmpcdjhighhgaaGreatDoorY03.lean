/- A range over an iterator that writes a box of its own between two rounds (strings.Lines): the law, for bodies that go on or return. No program in sight. -/
import Derived.RangeFuncNested
import Derived.RangeFuncBound
import Derived.RangeFuncCalls
import Derived.RangeFuncLeaves
import Derived.Shelf.Abstract
import Derived.Shelf.RegionOpen
import Derived.WalkKit
import Derived.OwnWalkIn
import Derived.TacticsInMore
import Derived.LoopNIn
import Derived.LoopIn
import Derived.Test.YthmpcdjhighhgaaGreatDoorY02
namespace Go.Proofs.YthmpcdjhighhgaaGreatDoor
set_option linter.unusedVariables false
set_option linter.unusedSimpArgs false
set_option maxRecDepth 100000
open Go.RowKit
section
variable {F : Fence} {n : Nat} {P : Program} {α : Type}
/-- What such an iterator promises: whatever the rounds keep, where a store into box b leaves it so. -/
def BoxSeq (F : Fence) (n : Nat) (P : Program) (g : Nat) (lb : Array Value) (encs : α → Array Value) (b : Nat) (S Sp : List α → Prop) (N : Nat) (w : World) : Prop :=
  ∀ (l : Nat) (J Jx : List α → World → Prop) (W : World), Below w.heap.size w W → (∀ s A, J s A → J s A.drew) → (∀ s A v, J s A → J s (A.setCell ⟨b, 0, none⟩ v)) →
    (∀ pre x W1, J pre W1 → pre.length < N → YieldAt F (n - 1) P l (encs x) W1 fun e W' => (e = .returned (.bool true) ∧ J (pre ++ [x]) W' ∧ W'.heap[b]? = W1.heap[b]?) ∨ (e = .returned (.bool false) ∧ Jx (pre ++ [x]) W')) →
    J [] W → CallsIn F n P g (#[.func (.yield l) #[] #[]] ++ lb) W fun e W' => (∃ v, e = .returned v) ∧ ((∃ xs, S xs ∧ J xs W') ∨ (∃ pre, Sp pre ∧ Jx pre W'))
/-- Where a round's body may end: it goes on, or it returns. -/
def BoxPost (B b : Nat) (I Ix : World → Prop) (W : World) : Exit → Act → World → Prop
  | .normal, _, W' => KeepsFrom B W W' ∧ W'.heap[b]? = W.heap[b]? ∧ I W'
  | .ret, _, W' => KeepsFrom B W W' ∧ Ix W'
  | _, _, _ => False
theorem wp_rangeBox {g : Operand} {ps : Array Tmp} {assign body : Code} {Q : Exit → Act → World → Prop} {a : Act} {w : World} (hro : F.round = none) (h1 : 1 ≤ n) {gf : Nat} {lb : Array Value} (hg : a.eval g = .func (.func gf) #[] lb) (hFg : F.fn gf)
    (eg : ∀ args w, (callFunc gf args).run P w = .ok (.enter gf args) w) {encs : α → Array Value} {b : Nat} {S Sp : List α → Prop} {N : Nat} (hb : b < w.heap.size) (hseq : BoxSeq F (n - 1) P gf lb encs b S Sp N w) (hps : ∀ x, (encs x).size = ps.size)
    (I Ix : List α → World → Prop) (hI : OwnFrom w.heap.size I) (hIx : OwnFrom w.heap.size Ix) (hIs : ∀ s A v, I s A → I s (A.setCell ⟨b, 0, none⟩ v)) (h0 : I [] w) (a₁ : α → Act)
    (hassign : ∀ (l : Nat) (x : α) (W : World) (K : Act → World → Prop), K (a₁ x) W → assign.wpIn (F.inRound l) (n - 1 - 1) P (Exit.then K (fun _ _ _ => False)) { tmps := (ps.zip (encs x)).foldl (fun t (p, v) => t.setIfInBounds p v) a.tmps, defers := [] } W)
    (hbody : ∀ (l : Nat) (pre : List α) (x : α) (W : World), I pre W → pre.length < N → w.heap.size ≤ W.heap.size → body.wpIn (F.inRound l) (n - 1 - 1) P (BoxPost w.heap.size b (I (pre ++ [x])) (Ix (pre ++ [x])) W) (a₁ x) W)
    (hdone : ∀ (D : Nat) (xs : List α) (W : World), w.heap.size ≤ D → S xs → I xs W → W.heap[D]? = some (.deferred (some [])) → Q .normal { a with defers := { target := .collected D, args := #[] } :: a.defers } W)
    (hstop : ∀ (D : Nat) (pre : List α) (W : World), w.heap.size ≤ D → Sp pre → Ix pre W → W.heap[D]? = some (.deferred (some [])) → Code.ret.wpIn F n P Q { a with defers := { target := .collected D, args := #[] } :: a.defers } W) :
    (Code.rangeFunc g ps assign body).wpIn F n P Q a w := by
  refine wpIn_rangeFunc fun fn hfn => ?_
  rw [hro]
  let B := w.heap.size
  let rc : LoopState → Option Code → Loop := fun st pe => { state := st, pending := pe, fn := fn, tmps := a.tmps, params := ps, assign := assign, body := body, defers := B }
  let W1 := (w.alloc (.deferred (some []))).alloc (.loop (rc .ready none))
  have hL : W1.heap[B + 1]? = some (.loop (rc .ready none)) := by
    have h := World.alloc_heap_new (w.alloc (.deferred (some []))) (.loop (rc .ready none))
    rwa [World.size_alloc] at h
  have hD : W1.heap[B]? = some (.deferred (some [])) := (Below.heap_alloc _ _ _ (by simp [B])).trans (World.alloc_heap_new w _)
  have hbel : Below w.heap.size w W1 := ((Below.refl _ w).alloc (Nat.le_refl _) _).alloc (by simp) _
  have hk1 : ∀ {A : World} (o' : Obj) (st : LoopState) (pe : Option Code), A.heap[B + 1]? = some (.loop (rc st pe)) → A.heap[B]? = some (.deferred (some [])) → (A.putObj (B + 1) o').heap[B + 1]? = some o' ∧ (A.putObj (B + 1) o').heap[B]? = some (.deferred (some [])) ∧ (A.putObj (B + 1) o').heap[b]? = A.heap[b]? := fun o' st pe h1 h2 =>
    ⟨World.putObj_heap_same (Array.getElem?_eq_some_iff.1 h1).1, (World.putObj_heap_other (by omega)).trans h2, World.putObj_heap_other (by omega)⟩
  refine ⟨B + 1, [{ target := .collected B, args := #[] }], W1, { target := .fn (.func gf) lb, args := #[.func (.yield (B + 1)) #[] #[]] }, W1, gf, #[.func (.yield (B + 1)) #[] #[]] ++ lb, W1, run_enterLoop_outer _ _ _ _ _, ?_, ?_, ?_, fun _ => h1, ?_⟩
  · simp only [resolve, hg]
    simp [go_sem]
  · intro f' hf'; simp [Target.leads] at hf'; subst hf'; exact hFg
  · simp [invoke, go_sem, eg]
  refine (hseq (B + 1) (fun pre W => I pre W ∧ W.heap[B + 1]? = some (.loop (rc .ready none)) ∧ W.heap[B]? = some (.deferred (some [])) ∧ B ≤ W.heap.size)
    (fun pre W => Ix pre W ∧ W.heap[B + 1]? = some (.loop (rc .done (some .ret))) ∧ W.heap[B]? = some (.deferred (some []))) W1 hbel ?_ ?_ ?_ ⟨?_, hL, hD, by simp [W1, B]; omega⟩).mono ?_
  · rintro s A ⟨hi, hl, hd, hs⟩
    exact ⟨hI s A A.drew none hi ⟨rfl, rfl, rfl, Nat.le_refl _, fun _ _ _ => rfl⟩ (fun r e => by cases e), hl, hd, hs⟩
  · rintro s A v ⟨hi, hl, hd, hs⟩
    exact ⟨hIs s A v hi, (Below.heap_setCell _ _ _ _ (by dsimp only [B]; omega)).trans hl, (Below.heap_setCell _ _ _ _ (by dsimp only [B]; omega)).trans hd, by simpa [World.setCell] using hs⟩
  · rintro pre x W ⟨hi, hl, hd, hs⟩ hlen
    have hy := run_yield (P := P) (args := encs x) hl (hps x)
    refine ⟨fn, _, assign, body, hy, roundIn_of_wpIn hfn (hassign _ x W _ ⟨_, run_beginRound hl rfl, ?_⟩)⟩
    obtain ⟨hl2, hd2, hb2⟩ := hk1 (.loop { rc .ready none with state := .busy }) _ _ hl hd
    refine wpIn_mono (hbody _ pre x _ (hI.putObj _ hi (by omega) hl rfl) hlen (by simpa using hs)) ?_
    intro e a3 W3 hp
    cases e with
    | normal =>
      obtain ⟨q1, q2, q3⟩ := hp
      have hl3 := q1.same _ _ (by omega) hl2 rfl
      have hd3 := q1.same _ _ (Nat.le_refl _) hd2 rfl
      obtain ⟨hl4, hd4, hb4⟩ := hk1 (.loop (rc .ready none)) .busy none hl3 hd3
      exact ⟨_, _, run_endRound (P := P) none hl3, .inl ⟨rfl, ⟨hI.putObj _ q3 (by omega) hl3 rfl, hl4, hd4, Nat.le_of_lt (Array.getElem?_eq_some_iff.1 hd4).1⟩, (hb4.trans q2).trans hb2⟩⟩
    | ret =>
      obtain ⟨q1, q3⟩ := hp
      have hl3 := q1.same _ _ (by omega) hl2 rfl
      have hd3 := q1.same _ _ (Nat.le_refl _) hd2 rfl
      obtain ⟨hl4, hd4, hb4⟩ := hk1 (.loop (rc .done (some .ret))) .busy none hl3 hd3
      exact ⟨_, _, run_endRound (P := P) (some .ret) hl3, .inr ⟨rfl, hIx.putObj _ q3 (by omega) hl3 rfl, hl4, hd4⟩⟩
    | exit id => exact hp.elim
    | goto t => exact hp.elim
    | panic ch => exact hp.elim
    | outgrown => exact hp.elim
  · exact hI.alloc _ (hI.alloc _ h0)
  · rintro e W2 ⟨⟨v, rfl⟩, ⟨xs, hS, hi, hl, hd, -⟩ | ⟨pre, hSp, hi, hl, hd⟩⟩
    · exact ⟨none, _, run_endLoop (P := P) hl (by simp [rc]), hdone B xs _ (Nat.le_refl _) hS (hI.putObj _ hi (by omega) hl rfl) (hk1 _ _ _ hl hd).2.1⟩
    · exact ⟨some .ret, _, run_endLoop (P := P) hl (by simp [rc]), hstop B pre _ (Nat.le_refl _) hSp (hIx.putObj _ hi (by omega) hl rfl) (hk1 _ _ _ hl hd).2.1⟩
end
end Go.Proofs.YthmpcdjhighhgaaGreatDoor
