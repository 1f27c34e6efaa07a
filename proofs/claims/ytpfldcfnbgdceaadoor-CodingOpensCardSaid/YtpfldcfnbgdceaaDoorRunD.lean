/- The order of runs: the walk of the comparing closure, and the sort's contract at it. -/
import Derived.Deep.RegionHeld3
import Derived.Test.YtpfldcfnbgdceaaDoorRunB
import Derived.Test.YtpfldcfnbgdceaaDoorSort
namespace Go.Proofs.YtpfldcfnbgdceaaDoor
set_option linter.unusedVariables false
set_option linter.unusedSimpArgs false
set_option maxRecDepth 100000
open Go.RowKit
def cmpI (a b : Int) : Int := if a < b then -1 else if b < a then 1 else 0
def cfR (x y : Rn) : Int := if cmpI x.2.1 y.2.1 = 0 then cmpI x.1 y.1 else cmpI x.2.1 y.2.1
theorem nan_any (a : Int) (w : World) : Calls Tryd.prog 66 #[.int .i64 a] w fun e w' => e = .returned (.bool false) ∧ w = w' := by
  go_enter Tryd.func66, Tryd.ntmps66
  go_wp2
  go_ret
  exact ⟨rfl, rfl⟩
theorem cmp_any (a b : Int) (w : World) : Calls Tryd.prog 49 #[.int .i64 a, .int .i64 b] w fun e w' => e = .returned (.int .i64 (cmpI a b)) ∧ w = w' := by
  unfold cmpI
  by_cases h1 : a < b
  · rw [if_pos h1]
    go_enter Tryd.func49, Tryd.ntmps49
    go_wp2_with (go_at_call 66; refine (nan_any _ _).mono ?_; rintro e w1 ⟨rfl, rfl⟩)
    go_ret
    exact ⟨rfl, rfl⟩
  · rw [if_neg h1]
    by_cases h2 : b < a
    · rw [if_pos h2]
      go_enter Tryd.func49, Tryd.ntmps49
      go_wp2_with (go_at_call 66; refine (nan_any _ _).mono ?_; rintro e w1 ⟨rfl, rfl⟩)
      go_ret
      exact ⟨rfl, rfl⟩
    · rw [if_neg h2]
      go_enter Tryd.func49, Tryd.ntmps49
      go_wp2_with (go_at_call 66; refine (nan_any _ _).mono ?_; rintro e w1 ⟨rfl, rfl⟩)
      go_ret
      exact ⟨rfl, rfl⟩
theorem or_any (a b : Int) (w : World) (g : Nat) (h0 : w.cell? ⟨g, 0, none⟩ = some (.int .i64 a)) (h1 : w.cell? ⟨g, 1, none⟩ = some (.int .i64 b)) (c : Nat) :
    Calls Tryd.prog 48 #[.slice (some ⟨g, 0, none⟩) 2 c] w fun e w' => e = .returned (.int .i64 (if a = 0 then b else a)) ∧ w = w' := by
  by_cases ha : a = 0
  · rw [if_pos ha]
    subst ha
    go_enter Tryd.func48, Tryd.ntmps48
    go_wp2
    go_loopw [8] (fun i wr => (i = .int .i64 0 ∨ i = .int .i64 1 ∨ (i = .int .i64 2 ∧ b = 0)) ∧ w = wr) (fun i _ => (2 - intOf i).toNat)
    case atStart => exact ⟨.inl rfl, rfl⟩
    case round =>
      obtain ⟨hi, rfl⟩ := hrel
      rcases hi with rfl | rfl | ⟨rfl, hb⟩
      · go_wp2
        go_roundw
        case rel => exact ⟨.inr (.inl rfl), by first | rfl | trivial⟩
        case measure => simp [intOf]
      · by_cases hb : b = 0
        · subst hb
          go_wp2
          go_roundw
          case rel => exact ⟨.inr (.inr ⟨rfl, by first | rfl | trivial⟩), by first | rfl | trivial⟩
          case measure => simp [intOf]
        · go_wp2
          go_ret
          exact ⟨rfl, rfl⟩
      · subst hb
        go_wp2
        go_ret
        exact ⟨rfl, rfl⟩
  · rw [if_neg ha]
    go_enter Tryd.func48, Tryd.ntmps48
    go_wp2
    go_loopw [8] (fun i wr => i = .int .i64 0 ∧ w = wr) (fun i _ => 0)
    case atStart => exact ⟨rfl, rfl⟩
    case round =>
      obtain ⟨rfl, rfl⟩ := hrel
      go_wp2
      go_ret
      exact ⟨rfl, rfl⟩
set_option maxHeartbeats 1000000 in
theorem less_any (x y : Rn) (W : World) : Calls Tryd.prog 47 #[.agg (encR x).toArray, .agg (encR y).toArray] W fun e w' => e = .returned (.int .i64 (cfR x y)) ∧ ∃ q os', w' = Sort.grow (W.drewN q) os' := by
  obtain ⟨xc, xf, xt⟩ := x
  obtain ⟨yc, yf, yt⟩ := y
  unfold encR cfR
  simp only
  generalize (xc : Int) = c1
  generalize (xf : Int) = f1
  generalize (xt : Int) = t1
  generalize (yc : Int) = c2
  generalize (yf : Int) = f2
  generalize (yt : Int) = t2
  obtain ⟨r1, hr1⟩ : ∃ r, cmpI f1 f2 = r := ⟨_, rfl⟩
  obtain ⟨r2, hr2⟩ : ∃ r, cmpI c1 c2 = r := ⟨_, rfl⟩
  have C1 := fun w => cmp_any f1 f2 w
  have C2 := fun w => cmp_any c1 c2 w
  rw [hr1] at C1
  rw [hr2] at C2
  rw [hr1, hr2]
  have OR := fun w g h0 h1 c => or_any r1 r2 w g h0 h1 c
  obtain ⟨r, hr⟩ : ∃ r, (if r1 = 0 then r2 else r1) = r := ⟨_, rfl⟩
  rw [hr] at OR ⊢
  have HO := Lib.hid OR
  clear hr1 hr2 hr OR
  go_enter Tryd.func47, Tryd.ntmps47
  go_wp2_with fail
  go_region_held3 (fun w' => w'.cell? ⟨W.heap.size, 1, none⟩ = some (.int .i64 f1) ∧ w'.cell? ⟨W.heap.size + 1, 1, none⟩ = some (.int .i64 f2) ∧ w'.cell? ⟨W.heap.size, 0, none⟩ = some (.int .i64 c1) ∧ w'.cell? ⟨W.heap.size + 1, 0, none⟩ = some (.int .i64 c2))
    (first | go_keep | (refine ⟨?_, ?_, ?_, ?_⟩ <;> go_simp))
    (first
      | (go_at_call 49; (first | (with_reducible show Calls _ _ #[Value.int IntKind.i64 f1, Value.int IntKind.i64 f2] _ _; refine (C1 _).mono ?_) | (with_reducible show Calls _ _ #[Value.int IntKind.i64 c1, Value.int IntKind.i64 c2] _ _; refine (C2 _).mono ?_)); rintro e w1 ⟨rfl, rfl⟩)
      | (go_at_call 48; refine (HO.out _ _ (by go_simp) (by go_simp) _).mono ?_; rintro e w1 ⟨rfl, rfl⟩))
  all_goals
    go_wp2
    go_ret
    refine ⟨rfl, 1, #[.cells #[.int .i64 c1, .int .i64 f1, .int .i64 t1] 48, .cells #[.int .i64 c2, .int .i64 f2, .int .i64 t2] 48, .cells #[.int .i64 r1, .int .i64 r2] 3], ?_⟩
    show ((W.drew.alloc _).alloc _).alloc _ = _
    rw [Sort.alloc_eq_grow, Sort.alloc_eq_grow, Sort.alloc_eq_grow, Sort.grow_grow, Sort.grow_grow]
    rfl
theorem cmpLays (blk off size : Nat) (w : World) : CmpLays Tryd.prog 47 #[] encR 3 cfR blk off size w := fun _ _ _ _ x y => less_any x y _
/-- The order of runs. -/
def ltR (x y : Rn) : Bool := decide (x.2.1 < y.2.1) || (decide (x.2.1 = y.2.1) && decide (x.1 < y.1))
theorem ltOf_cfR (x y : Rn) : ltOf cfR x y = ltR x y := by
  unfold ltOf cfR ltR cmpI
  rw [Bool.eq_iff_iff]
  simp only [decide_eq_true_eq, Bool.or_eq_true, Bool.and_eq_true]
  split <;> (try split) <;> (try split) <;> omega
theorem swoR : Sort.SWO (ltOf cfR) where
  irrefl x := by rw [ltOf_cfR]; simp [ltR]
  trans x y z h1 h2 := by rw [ltOf_cfR] at *; simp [ltR] at *; omega
  ntrans x y z h1 h2 := by rw [ltOf_cfR] at *; simp [ltR] at *; omega
theorem sort_raw (blk cap : Nat) (d : Array Rn) (w : World) (hH : Sort.HoldsK encR 3 w blk 0 d) (hblk : blk < w.heap.size) (hsz : d.size < 4611686018427387904) :
    Calls Tryd.prog 46 #[.slice (some ⟨blk, 0, none⟩) d.size cap, .func (.func 47) #[] #[]] w fun e w' =>
      e = .returned (.tuple #[]) ∧ ∃ d' n os, Sort.PermIn 0 d.size d d' ∧ Sort.SortedIn (ltOf cfR) 0 d.size d' ∧ w' = sortWorldK encR 3 w blk 0 n d' os :=
  AnyQ.slices_SortFunc Tryd.sortRun 3 Tryd.isAgg48 Tryd.sizeOf48 encR (fun _ => rfl) (fun x v hv => by simp [encR] at hv; rcases hv with rfl | rfl | rfl <;> rfl) cfR swoR 47 #[] blk 0 cap d w (enters_of Tryd.func47 (by kernel_rfl) rfl) (cmpLays blk 0 d.size w) hH hblk hsz
end Go.Proofs.YtpfldcfnbgdceaaDoor
