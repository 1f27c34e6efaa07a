/- What a list of matches that came in is; the law ScanCovers from what the shell tells of its arguments. -/
import Derived.Test.YtoaibhacognbjaaGreatDoorY32
import Derived.Test.YtoaibhacognbjaaGreatDoorY34
namespace Go.Proofs.YtoaibhacognbjaaGreatDoor
set_option linter.unusedVariables false
set_option linter.unusedSimpArgs false
set_option maxRecDepth 100000
open Go.RowKit Go.Deep
instance mtInh : Inhabited Mt := ⟨⟨0, 0, 0⟩⟩
theorem matches_came {w : World} {v : Value} (hv : Came Tryz.prog w 54 v) : ∃ l, MtIn w v l := by
  obtain ⟨H, enc, base, spare, held, fuel, x, r, b0, h1, h2, h3⟩ := hv
  obtain ⟨A0, n0, c0, rfl⟩ := Go.WideShapes.okWide_slice Tryz.underlying54 h3
  have h : DataW.trod enc Tryz.prog w base spare held fuel 54 [.slice A0 n0 c0] = some x := by simpa [Value.cells] using h1
  rcases open_slice Tryz.underlying54 h with ⟨he, -⟩ | ⟨a, len, cap, m, n, D, Pl, he, hb, hl, hm, hmm, rfl, hi⟩
  · injection he with he _
    rw [he]
    exact ⟨[], none, 0, rfl, ⟨Nat.le_refl _, by decide⟩, .inl rfl⟩
  · injection he with he _
    rw [he]
    have hlm : len ≤ m := by rw [hmm]; split <;> omega
    have h3 : Tryz.prog.cellsOf 61 = 3 := by kernel_rfl
    have c1 : Tryz.prog.cellsOf 3 = 1 := by kernel_rfl
    obtain ⟨M, hM⟩ := choose_lt (α := Mt) (n := len) (p := fun i e => w.cell? (a.add (i * 3)) = some (.int .i64 e.k) ∧ w.cell? (a.add (i * 3 + 1)) = some (.int .i64 e.f) ∧ w.cell? (a.add (i * 3 + 2)) = some (.int .i64 e.t)) (fun i him => by
      obtain ⟨cs', h1, h2⟩ := hi i (by omega)
      rw [h3] at h1
      obtain ⟨-, hlen, hcell⟩ := World.cells?_some h1
      obtain ⟨ys, n', -, hy, -, hyl, hf⟩ := DataW.trod_struct Tryz.underlying61 h2
      have f0 : DataW.trod enc Tryz.prog w base spare held n' 3 ((cs'.drop 0).take (Tryz.prog.cellsOf 3)) = ys[0]? := hf 0 _ rfl
      have f1 : DataW.trod enc Tryz.prog w base spare held n' 3 ((cs'.drop 1).take (Tryz.prog.cellsOf 3)) = ys[1]? := hf 1 _ rfl
      have f2 : DataW.trod enc Tryz.prog w base spare held n' 3 ((cs'.drop 2).take (Tryz.prog.cellsOf 3)) = ys[2]? := hf 2 _ rfl
      rw [c1] at f0 f1 f2
      match ys, hyl with
      | [y0, y1, y2], _ =>
        obtain ⟨k0, e0, -, w0⟩ := DataW.trod_int Tryz.underlying3 (f0.trans rfl)
        obtain ⟨k1, e1, -, w1⟩ := DataW.trod_int Tryz.underlying3 (f1.trans rfl)
        obtain ⟨k2, e2, -, w2⟩ := DataW.trod_int Tryz.underlying3 (f2.trans rfl)
        refine ⟨⟨k0, k1, k2⟩, ?_, ?_, ?_⟩
        · have := hcell 0 (by omega)
          rw [add_add, Nat.add_zero] at this
          rw [this, take_oneZ e0]
        · have := hcell 1 (by omega)
          rw [add_add] at this
          rw [this, take_oneZ e1]
        · have := hcell 2 (by omega)
          rw [add_add] at this
          rw [this, take_oneZ e2])
    refine ⟨(List.range len).map M, some a, cap, by simp, ⟨by simpa using hl, by unfold maxLen at hm; omega⟩, ?_⟩
    by_cases h0 : len = 0
    · left; rw [h0]; rfl
    · right
      have h00 := (hM 0 (by omega)).1
      obtain ⟨g, f, spot⟩ := a
      obtain rfl := spot_none h00 (by simp)
      refine ⟨g, f, rfl, World.block_lt_of_cell? w _ h00, fun i hil => ?_⟩
      have hil' : i < len := by simpa using hil
      have hg : ((List.range len).map M)[i] = M i := by simp
      rw [hg]
      obtain ⟨q0, q1, q2⟩ := hM i hil'
      rw [Addr.add_lit] at q0 q1 q2
      exact ⟨q0, by rw [Nat.add_assoc]; exact q1, by rw [Nat.add_assoc]; exact q2⟩
theorem covers_came (v : Value) (p : Int) (w : World) (hl : Came Tryz.prog w 54 v) (hv : VrOK w) : Calls Tryz.prog 5 #[v, .int .i64 p] w fun e w' => e = .returned (.bool true) ∧ Below w.heap.size w w' := by
  obtain ⟨l, hm⟩ := matches_came hl
  exact covers_law v l p w hm hv
end Go.Proofs.YtoaibhacognbjaaGreatDoor
