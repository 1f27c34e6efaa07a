/- A strings.Builder: WriteString. -/
import Derived.Lib.AppendStr
import Derived.Test.YtpfldcfnbgdceaaDoorBuilder
namespace Go.Proofs.YtpfldcfnbgdceaaDoor
set_option linter.unusedVariables false
set_option linter.unusedSimpArgs false
set_option maxRecDepth 100000
open Go.RowKit
theorem builder_str (b : Nat) (l : List UInt8) (s : ByteArray) (w : World) (h : IsB b l w) (hlen : l.length ≤ 1000000000) (hs : s.size ≤ 1000000) :
    Calls Tryd.prog 56 #[.pointer (some ⟨b, 0, none⟩), .string s] w fun e w' => e = .returned (.tuple #[.int .i64 s.size, .nilIface]) ∧ IsB b (l ++ bl s) w' ∧ Below b w w' := by
  obtain ⟨i0, hi, hz0, hz1, hz2⟩ := info_parts info_u8
  obtain ⟨h, hBw⟩ := h
  go_enter Tryd.func56, Tryd.ntmps56
  go_wp2_with (go_at_call 70; refine (copy_any b b _ _ h).mono ?_)
  rintro e w1 ⟨rfl, h1, hb1⟩
  obtain ⟨hB, v, hbk, hown, hne⟩ := h1
  have c0 : w1.cell? ⟨b, 0, none⟩ = some (.pointer (some ⟨b, 0, none⟩)) := by rw [Lib.cell_of_heap hbk]; rfl
  have c1 : w1.cell? ⟨b, 1, none⟩ = some v := by rw [Lib.cell_of_heap hbk]; rfl
  have hlb : (Lib.byteCells l).length = l.length := Lib.byteCells_length l
  have HLB := Lib.hid hlb; clear hlb
  go_wp2_with (at_builtin; refine Lib.wpList_append_own_string _ rfl _ _ 23 9 rfl b 5 i0 Tryd.underlying23 Tryd.underlying9 hi hz0 hz1 hz2 _ _ _ rfl hown s rfl ?c1 ?c2 (Nat.le_trans hBw hb1.size) ?_)
  case c1 => have := HLB.out; unfold maxLen; omega
  case c2 => have := HLB.out; omega
  intro v' w2 hown' hgrow _
  have hlt : b < w1.heap.size := by
    rcases Nat.lt_or_ge b w1.heap.size with h' | h'
    · exact h'
    · simp [Array.getElem?_eq_none h'] at hbk
  have hb2 : w2.heap[b]? = some (.cells #[.pointer (some ⟨b, 0, none⟩), v] 71 (0, 0)) := by
    rw [hgrow.block b hlt (fun e => hne e.symm)]
    exact hbk
  have d0 : w2.cell? ⟨b, 0, none⟩ = some (.pointer (some ⟨b, 0, none⟩)) := by rw [Lib.cell_of_heap hb2]; rfl
  have d1 : w2.cell? ⟨b, 1, none⟩ = some v := by rw [Lib.cell_of_heap hb2]; rfl
  have f1 : w2.frozen? ⟨b, 1, none⟩ = false := Lib.frozen_of_heap hb2 1
  obtain ⟨A, n, cap, rfl⟩ : ∃ A n cap, v' = .slice A n cap := by
    rcases hown'.2 with ⟨h0, _⟩ | ⟨g, cap, cur, hv, _⟩
    · exact ⟨_, _, _, h0⟩
    · exact ⟨_, _, _, hv⟩
  go_wp2
  go_ret2
  have hbelow : Below b w (w2.setCell ⟨b, 1, none⟩ (.slice A n cap)) :=
    (hb1.grown hgrow (Nat.le_trans hBw hb1.size) (fun k hk => (hown.lt k hk).1)).setCell (p := ⟨b, 1, none⟩) hB _
  refine ⟨rfl, ⟨Or.inr ?_, Nat.le_trans hBw hbelow.size⟩, hbelow⟩
  have hx : Lib.byteCells l ++ Lib.strCells s = Lib.byteCells (l ++ bl s) := by simp [Lib.byteCells, Lib.strCells, bl]
  exact Lib.BuilderAt.put (T := 71) (e := 5) hB hb2 (bs' := Lib.byteCells (l ++ bl s)) (by rw [← hx, List.length_append, show (Lib.strCells s).length = s.size by simp [Lib.strCells]]; exact hown') (by decide)
end Go.Proofs.YtpfldcfnbgdceaaDoor
