/- Chapter 18's example. -/
import Derived.Test.YthmpcdjhighhgaaGreatDoorArcIZ
namespace Go.Proofs.YthmpcdjhighhgaaGreatDoor
set_option linter.unusedVariables false
set_option linter.unusedSimpArgs false
set_option maxRecDepth 100000
open Go.RowKit
set_option maxHeartbeats 4000000 in
theorem awake18_any (w : World) : Calls Tryz.prog 7 #[] w fun e w' => e = .returned (.bool true) ∧ Below w.heap.size w w' := by
  have kc := fun (w : World) (C : Array Value) (n c : Nat) => Lib.run_convert_bytes_const (P := Tryz.prog) w 30 5 C n c Tryz.underlying30 Tryz.underlying5
  go_enter Tryz.func7, Tryz.ntmps7
  go_wp2_with fail
  have hbA := (Below.refl w.heap.size w).alloc (Nat.le_refl _) (.cells #[.int .u8 120] 5 (1, 2))
  have rA := heap_alloc_new w (.cells #[.int .u8 120] 5 (1, 2))
  have hzA : (w.alloc (.cells #[.int .u8 120] 5 (1, 2))).heap.size = w.heap.size + 1 := by simp
  generalize (w.alloc (.cells #[.int .u8 120] 5 (1, 2))) = WA at *
  rw [← hzA]
  have hbB := (Below.refl WA.heap.size WA).alloc (Nat.le_refl _) (.cells #[.string ⟨#[97]⟩, .slice (some ⟨w.heap.size, 0, none⟩) 1 1] 55)
  have rB := heap_alloc_new WA (.cells #[.string ⟨#[97]⟩, .slice (some ⟨w.heap.size, 0, none⟩) 1 1] 55)
  have hzB : (WA.alloc (.cells #[.string ⟨#[97]⟩, .slice (some ⟨w.heap.size, 0, none⟩) 1 1] 55)).heap.size = WA.heap.size + 1 := by simp
  generalize (WA.alloc (.cells #[.string ⟨#[97]⟩, .slice (some ⟨w.heap.size, 0, none⟩) 1 1] 55)) = WB at *
  have hbw : Below w.heap.size w WB := hbA.trans (hbB.mono (by omega))
  have c0 : WB.cell? ⟨WA.heap.size, 0, none⟩ = some (.string ⟨#[97]⟩) := by rw [cell_of_row _ _ _ _ _ _ rB]; rfl
  have c1 : WB.cell? ⟨WA.heap.size, 1, none⟩ = some (.slice (some ⟨w.heap.size, 0, none⟩) 1 1) := by rw [cell_of_row _ _ _ _ _ _ rB]; rfl
  have c2 : WB.cell? ⟨w.heap.size, 0, none⟩ = some (.int .u8 120) := by rw [cell_of_row _ _ _ _ _ _ ((hbB.block w.heap.size (by omega)).trans rA)]; rfl
  refine (format1_any WA.heap.size 1 ⟨w.heap.size, 0, none⟩ 1 WB (by omega) (by omega) (by omega) (by show w.heap.size < _; omega) c0 c1 c2).mono ?_
  rintro e w1 ⟨u, rfl, ho1, hb1⟩
  obtain ⟨gu, cu, rfl, hgu, hcu, hat⟩ : ∃ gu cu, u = .slice (some ⟨gu, 0, none⟩) 12 cu ∧ gu < w1.heap.size ∧ 12 ≤ cu ∧ ArcAt w1.heap.size ⟨gu, 0, none⟩ w1 := by
    have hbi := BIn.of_OB ho1
    rcases ho1.2 with ⟨-, h⟩ | ⟨gu, cap, cur, e, -, hr, hn, -⟩
    · simp [arcB] at h
    · refine ⟨gu, cap, e, (Array.getElem?_eq_some_iff.1 hr).1, hn, (Array.getElem?_eq_some_iff.1 hr).1, fun j hj => ?_⟩
      rw [e] at hbi
      obtain ⟨A, n, c, he, -, -, h⟩ := hbi
      injection he with he1 he2 he3
      rcases h with h | ⟨ad, h, -, hc⟩
      · subst he2; exact absurd h (by decide)
      · rw [h] at he1
        injection he1 with he1
        subst he1
        exact hc j hj
  have hbw1 := hbw.trans (hb1.mono hbw.size)
  have CC := Contents_any ⟨#[115]⟩ 2 (some ⟨gu, 0, none⟩) 12 cu 1 (by decide) (by decide) [⟨arcB, 0, ⟨#[]⟩, 0⟩, ⟨[120], 0, ⟨#[97]⟩, 0⟩] w1 (by simp)
    (fun w' h => srcValid2_any ⟨#[115]⟩ ⟨gu, 0, none⟩ cu w' (by decide) (by decide) hcu (hat.up h))
    (fun w' h => contents2_any ⟨#[115]⟩ ⟨gu, 0, none⟩ cu w' hcu (hat.up h))
  have HC := Lib.hid CC
  have HB1 := Lib.hid hbw1
  clear CC hbw1 hb1 hbw hbA hbB rA rB hzA hzB c0 c1 c2 kc ho1
  go_wp2_with fail
  refine HC.out.mono ?_
  rintro e w2 ⟨v, o, rfl, hown, hol, hpw, hcs, hb2⟩
  obtain ⟨x1, x2, rfl⟩ : ∃ x1 x2, o = [x1, x2] := by
    match o, hol with
    | [a, b], _ => exact ⟨a, b, rfl⟩
  have hp2 := (hcs 1 (by simp) (by simp)).2.2
  obtain ⟨A2, c2, rfl, hc2, hcell⟩ := OR.cells encCt_E hown
  obtain ⟨g, hA, hBg, hg, hm⟩ := hcell.resolve_left (by simp)
  subst hA
  have m2 : w2.cell? ⟨g, 2, none⟩ = some (.slice x2.A x2.n x2.c) := (hm 1 (by simp) 0 (by decide)).1
  have m3 : w2.cell? ⟨g, 3, none⟩ = some (.slice (some ⟨x2.g, 0, none⟩) 1 1) := (hm 1 (by simp) 1 (by decide)).1
  obtain ⟨⟨p0, p1, p2⟩, -⟩ := (show PlIn w2 x2.g 1 ⟨#[97]⟩ 0 from hp2).cells
  have HE := Lib.hid (HB1.out.trans (hb2.mono HB1.out.size))
  clear hm hcell hown hpw hcs hp2 hb2
  go_wp2_with fail
  go_ret
  exact ⟨rfl, HE.out⟩
end Go.Proofs.YthmpcdjhighhgaaGreatDoor
