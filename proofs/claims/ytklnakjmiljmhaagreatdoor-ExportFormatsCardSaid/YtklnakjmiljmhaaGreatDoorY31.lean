/- maps.Values over a map of messages, as it is ranged over. -/
import Derived.RangeFuncMany
import Derived.RangeFuncLeaves
import Derived.Sort.MapsRangeIn
import Derived.WalkKit
import Derived.OwnWalkIn
import Derived.TacticsInMore
import Derived.RegionIn
import Derived.LoopNIn
import Derived.LoopIn
import Derived.Shelf.Abstract
import Derived.Test.YtklnakjmiljmhaaGreatDoorY02
import Derived.Test.YtklnakjmiljmhaaGreatDoorY20
import Derived.Test.YtklnakjmiljmhaaGreatDoorY09
namespace Go.Proofs.YtklnakjmiljmhaaGreatDoor
set_option linter.unusedVariables false
set_option linter.unusedSimpArgs false
set_option maxRecDepth 100000
open Go.RowKit Go.Shelf
open Go.Maps (Keyed)
attribute [local go_sem] Oper.semAt_some
def encA (m : Ms) : Value := .agg (encM m).toArray
/-- A map of the call's own holds at each number what f says. -/
def SaysM (F : Lit → Option Value) (f : Int → Option Ms) : Prop := ∀ x, F (.int .i64 x) = (f x).map encA
theorem SaysM.put {F : Lit → Option Value} {f : Int → Option Ms} (h : SaysM F f) (k : Int) (v : Option Ms) : SaysM (updV F (.int .i64 k) (v.map encA)) (fun x => if x = k then v else f x) := by
  intro x
  unfold updV
  by_cases e : x = k
  · subst e; rw [if_pos (by simp [Lit.sameKey])]; simp
  · rw [if_neg (by simp [Lit.sameKey, e])]; simp only [if_neg e]; exact h x
/-- These are the values, each once. -/
def ValsOf (f : Int → Option Ms) (xs : List Ms) : Prop := (xs.map (·.id)).Nodup ∧ ∀ m, m ∈ xs ↔ f m.id = some m
/-- What has come, and what is to come. -/
structure Come (f : Int → Option Ms) (left : Lit → Bool) (ps : List Ms) : Prop where
  nd : (ps.map (·.id)).Nodup
  are : ∀ m ∈ ps, f m.id = some m ∧ left (.int .i64 m.id) = false
  all : ∀ k m, f k = some m → left (.int .i64 k) = false → m ∈ ps
theorem Come.step {f : Int → Option Ms} {left : Lit → Bool} {ps : List Ms} (h : Come f left ps) (hk : ∀ k m, f k = some m → m.id = k) {m : Ms} (hm : f m.id = some m) (hl : left (.int .i64 m.id) = true) : Come f (fun z => left z && !z.sameKey (.int .i64 m.id)) (ps ++ [m]) := by
  refine ⟨?_, fun x hx => ?_, fun k x hf hx => ?_⟩
  · rw [List.map_append, List.nodup_append]
    refine ⟨h.nd, by simp, fun a ha b hb e => ?_⟩
    simp at hb
    obtain ⟨y, hy, rfl⟩ := List.mem_map.1 ha
    have := (h.are y hy).2
    rw [e, hb, hl] at this; cases this
  · rcases List.mem_append.1 hx with hx | hx
    · obtain ⟨h1, h2⟩ := h.are x hx
      exact ⟨h1, by rw [h2]; rfl⟩
    · simp at hx; subst hx
      exact ⟨hm, by simp [Lit.sameKey]⟩
  · by_cases e : k = m.id
    · subst e
      rw [hm] at hf; cases hf; simp
    · have : left (.int .i64 k) = false := by
        have h2 : (Lit.int .i64 k).sameKey (.int .i64 m.id) = false := by simp [Lit.sameKey, e]
        simpa [h2] using hx
      exact List.mem_append_left _ (h.all k x hf this)
theorem Come.vals {f : Int → Option Ms} {left : Lit → Bool} {ps : List Ms} (h : Come f left ps) (hl : ∀ kl, left kl = false) : ValsOf f ps :=
  ⟨h.nd, fun m => ⟨fun hm => (h.are m hm).1, fun hf => h.all m.id m hf (hl _)⟩⟩
theorem values_in (F : Fence) (n : Nat) (h : F.fn 40) (hro : F.round = none) (mb : Option Nat) (w : World) :
    CallsIn F n Tryz.prog 40 #[.map mb] w fun e w' => e = .returned (.func (.func 75) #[] #[.pointer (some ⟨w.heap.size, 0, none⟩)]) ∧ w' = w.alloc (.cells #[.map mb] 74) := by
  refine callsIn_of_wp Tryz.func40 rfl h ?_ hro
  simp only [Tryz.ntmps40, List.size_toArray, List.length_cons, List.length_nil, Nat.reduceAdd, Nat.reduceSub, Array.replicate_succ, Array.replicate_zero, List.push_toArray, List.append_toArray, List.nil_append, List.cons_append]
  gi_wp2
  go_ret
  exact ⟨rfl, rfl⟩
theorem ranges_cnt {P : Program} {k : TypeId} {R : Value → Option (DataW Value × List MemPlace)} {w : World} {b r n : Nat} {D : DataW Value} {left : Lit → Bool} {cnt : Nat} (h : w.ranges P k R b r n D left cnt) : cnt ≤ n := by
  obtain ⟨es, clock, since, seen, c0, -, -, hs, -, -, -, hc, -⟩ := h
  have : (leftOf es seen).size ≤ es.size := by unfold leftOf; exact Array.size_filter_le
  omega
set_option maxRecDepth 100000 in
set_option maxHeartbeats 2000000 in
theorem values_seq (n Bm b nn : Nat) (hn : 1 ≤ n) (f : Int → Option Ms) (Fm : Lit → Option Value) (hS : SaysM Fm f) (hk : ∀ k m, f k = some m → m.id = k) (w : World) (hB : Bm < w.heap.size) (hm : w.cell? ⟨Bm, 0, none⟩ = some (.map (some b))) (hmv : MV Tryz.prog 3 b nn Fm w) :
    SeqStopsK Fence.wide n Tryz.prog 75 #[.pointer (some ⟨Bm, 0, none⟩)] (fun m : Ms => #[encA m]) KeepsWalks (fun xs => ValsOf f xs ∧ xs.length ≤ nn) (fun _ => True) nn w := fun l J Jx W hW hJ hJx hY h0 => by
  have hm' := (hW.cell (p := ⟨Bm, 0, none⟩) hB).trans hm
  have hmv' := hmv.kept (hW.block b hmv.lt)
  clear hm hmv hW
  obtain ⟨D, hown, hD⟩ := hmv'
  have K : Keyed Tryz.prog 3 := Maps.int_keyed Tryz.underlying3
  refine callsIn_of_wp Tryz.func75 rfl trivial ?_ rfl
  simp only [Tryz.ntmps75, List.size_toArray, List.length_cons, List.length_nil, Nat.reduceAdd, Nat.reduceSub, Array.replicate_succ, Array.replicate_zero, List.push_toArray, List.append_toArray, List.nil_append, List.cons_append]
  gi_wp2_with (first
    | (gi_at_range; refine wpListIn_range_own _ rfl _ 74 rfl 3 43 K Tryz.underlying74 _ b nn _ rfl hown ?_; intro w0 hrg0 hg0 hs0)
    | gi_in)
  try go_frame
  gi_loopw [4] (fun _ wr => ∃ (left : Lit → Bool) (cnt : Nat) (ps : List Ms), wr.ranges Tryz.prog 3 heldR b W.heap.size nn D left cnt ∧ ps.length + cnt ≤ nn ∧ Come f left ps ∧ J ps wr) (fun _ wr => wr.rangeLeft b W.heap.size)
  case atStart =>
    refine ⟨_, _, [], hrg0, by simpa using ranges_cnt hrg0, ⟨by simp, fun m hm => (by cases hm), fun k m hf hl => ?_⟩, hJ [] W w0 none h0 hg0 (fun r e => by cases e)⟩
    rw [(hD (.int .i64 k) trivial).2, hS k, hf] at hl; cases hl
  case round =>
    obtain ⟨left, cnt, ps, hrg, hcs, hC, hJs⟩ := hrel
    gi_wp2_with (first
      | (gi_at_next; refine wpListIn_next_ranges _ rfl _ rfl 3 K heldR (Value.int .i64) (fun v : Value => v) (fun key kl hk => by obtain ⟨x, hx, _⟩ := Maps.keyOf_int_inv Tryz.underlying3 hk; exact ⟨x, hx⟩) (fun v y hv => ⟨v, rfl⟩) b W.heap.size nn D left cnt rfl hrg ?_ ?_)
      | gi_in)
    · intro hc0 hl0
      gi_wp2
      go_end0
      exact ⟨⟨_, rfl⟩, .inl ⟨ps, ⟨hC.vals hl0, by omega⟩, hJs⟩⟩
    · intro x c kl yd yp w2 cnt2 hkey hlk hv hat hrg2 hlt hg2 hs2 hen
      obtain ⟨x', ex, rfl, _⟩ := Maps.keyOf_int_inv Tryz.underlying3 hkey
      obtain rfl : x = x' := by simpa using ex
      obtain ⟨m, hf, rfl⟩ : ∃ m, f x = some m ∧ c = encA m := by
        have h1 := hat (.lit (.bool false))
        rw [(hD (.int .i64 x) trivial).1, hS x, (heldR_inv hv).1] at h1
        cases hf : f x with
        | none => rw [hf] at h1; cases h1
        | some m => rw [hf] at h1; simp only [Option.map_some] at h1; injection h1 with h1; exact ⟨m, rfl, h1.symm⟩
      obtain rfl := hk x m hf
      have hJ2 : J ps w2 := hJ ps wr w2 (some W.heap.size) hJs hg2 (fun r e => by cases e; exact ⟨Nat.le_refl _, hrg.iter_walk⟩)
      have hC2 := hC.step hk hf hlk
      obtain ⟨m1, m2, m3, m4, m5⟩ := m
      obtain ⟨fn, tmps, assign, body, hy, hR⟩ := hY ps ⟨m1, m2, m3, m4, m5⟩ (w2.alloc (.cells #[.int .i64 m1, .int .i64 m2, .string (bs m3), .int .i64 m4, .string (bs m5)] 43)) (hJ _ _ _ none hJ2 (World.grownBy_alloc w2 _ none) (fun r e => by cases e)) (by omega)
      dsimp only [encA, encM] at hy hen ⊢
      clear hs2
      gi_wp2
      refine hR.mono ?_
      rintro e W3 (⟨rfl, hJ3, hk3⟩ | ⟨rfl, hJx3⟩)
      · gi_wp2
        have hrg3 := (hrg2.alloc (.cells #[.int .i64 m1, .int .i64 m2, .string (bs m3), .int .i64 m4, .string (bs m5)] 43)).of_walks hk3
        go_roundw
        case rel => exact ⟨_, cnt2, ps ++ [⟨m1, m2, m3, m4, m5⟩], hrg3, by simp; omega, hC2, hJ3⟩
        case measure => rw [hrg3.left_eq, hrg.left_eq]; exact hlt
      · gi_wp2
        refine bodyPost_ret (results_none rfl _ _ _) rfl ?_
        exact ⟨⟨_, rfl⟩, .inr ⟨_, trivial, hJx3⟩⟩
end Go.Proofs.YtklnakjmiljmhaaGreatDoor
