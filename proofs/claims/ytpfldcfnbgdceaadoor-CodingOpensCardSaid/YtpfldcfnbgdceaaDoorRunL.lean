/- The law's comparison of runs. -/
import Derived.Test.YtpfldcfnbgdceaaDoorRunK
namespace Go.Proofs.YtpfldcfnbgdceaaDoor
set_option linter.unusedVariables false
set_option linter.unusedSimpArgs false
set_option maxRecDepth 100000
open Go.RowKit
set_option maxHeartbeats 1000000 in
theorem same_runs (va vb : Value) (o : List Rn) (w : World) (ha : RC va o w) (hb : RC vb o w) (ho : o.length ≤ 1000000) :
    Calls Tryd.prog 19 #[va, vb] w fun e w' => e = .returned (.bool true) ∧ Below w.heap.size w w' := by
  obtain ⟨A1, c1, rfl, ha⟩ := ha
  obtain ⟨A2, c2, rfl, hb⟩ := hb
  have HA := Lib.hid ha
  have HB := Lib.hid hb
  clear ha hb
  go_enter Tryd.func19, Tryd.ntmps19
  go_wp2
  go_loopw [5] (fun v wr => ∃ k : Nat, k ≤ o.length ∧ v = .int .i64 (k : Int) ∧ Below w.heap.size w wr) (fun v _ => o.length - (intOf v).toNat)
  case atStart => exact ⟨0, by omega, rfl, Below.refl _ _⟩
  case round =>
    obtain ⟨k, hk, rfl, hbel⟩ := hrel
    by_cases hlt : k < o.length
    · have hd : decide ((k : Int) < o.length) = true := decide_eq_true (by omega)
      have hdn : decide (k < o.length) = true := decide_eq_true hlt
      obtain ⟨g1, rfl, hg1, HC1⟩ := HA.out.resolve_left (by intro e; rw [e] at hlt; simp at hlt)
      obtain ⟨g2, rfl, hg2, HC2⟩ := HB.out.resolve_left (by intro e; rw [e] at hlt; simp at hlt)
      obtain ⟨a0, a1, a2⟩ := HC1 k hlt
      obtain ⟨b0, b1, b2⟩ := HC2 k hlt
      have q1 : ∀ j, wr.cell? ⟨g1, j, none⟩ = w.cell? ⟨g1, j, none⟩ := fun j => World.cell?_of_block (hbel.block g1 hg1)
      have q2 : ∀ j, wr.cell? ⟨g2, j, none⟩ = w.cell? ⟨g2, j, none⟩ := fun j => World.cell?_of_block (hbel.block g2 hg2)
      rw [← q1] at a0 a1 a2
      rw [← q2] at b0 b1 b2
      clear q1 q2
      replace a0 : wr.cell? ⟨g1, k * 3, none⟩ = some (.int .i64 (o[k].1 : Int)) := a0
      replace b0 : wr.cell? ⟨g2, k * 3, none⟩ = some (.int .i64 (o[k].1 : Int)) := b0
      clear HC1 HC2 HA HB
      go_wp2
      go_still (by kernel_rfl)
      go_wp2
      go_roundw
      case rel => exact ⟨k + 1, by omega, by go_num, hbel.drew⟩
      case measure => simp [intOf]; omega
    · have hd : decide ((k : Int) < o.length) = false := decide_eq_false (by omega)
      have hdn : decide (k < o.length) = false := decide_eq_false hlt
      go_wp2
      go_ret
      exact ⟨rfl, hbel⟩
end Go.Proofs.YtpfldcfnbgdceaaDoor
