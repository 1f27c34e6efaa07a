/- Archives: the entries of the example. -/
import Derived.Test.YthmpcdjhighhgaaGreatDoorArcGZ
namespace Go.Proofs.YthmpcdjhighhgaaGreatDoor
set_option linter.unusedVariables false
set_option linter.unusedSimpArgs false
set_option maxRecDepth 100000
open Go.RowKit
/-- What hands back the example's entry. -/
def EntP (w : World) (e : Ending) (w' : World) : Prop := ∃ u A c', e = .returned (.tuple #[u, .int .i64 0]) ∧ OR 55 2 encEn w.heap.size u [⟨⟨#[97]⟩, A, 1, c'⟩] w' ∧ OB 5 w.heap.size (.slice A 1 c') [120] w' ∧ Below w.heap.size w w'
theorem Parse1_any (ad : Addr) (c : Nat) (w : World) (hc : 12 ≤ c) (ha : ArcAt w.heap.size ad w) : Calls Tryz.prog 35 #[.slice (some ad) 12 c] w (EntP w) := by
  have P := parse1_any ad c w hc ha
  go_enter Tryz.func35, Tryz.ntmps35
  go_wp2_with fail
  refine P.mono ?_
  rintro e w1 ⟨u, A, c', rfl, h1, h2, h3⟩
  have HE := Lib.hid (And.intro h1 (And.intro h2 h3))
  clear h1 h2 h3 P
  go_wp2_with fail
  go_ret2
  exact ⟨u, A, c', rfl, HE.out⟩
set_option maxHeartbeats 2000000 in
theorem Walk1_any (ad : Addr) (c : Nat) (w : World) (hc : 12 ≤ c) (ha : ArcAt w.heap.size ad w) : Calls Tryz.prog 22 #[.slice (some ad) 12 c] w (EntP w) := by
  have P := Parse1_any ad c w hc ha
  go_enter Tryz.func22, Tryz.ntmps22
  go_wp2_with fail
  refine P.mono ?_
  rintro e w1 ⟨u, A, c', rfl, ho, hd, hb⟩
  obtain ⟨A1, c1, rfl, hc1, hcell⟩ := OR.cells encEn_E ho
  obtain ⟨g, hA, hBg, hg, hm⟩ := hcell.resolve_left (by simp)
  subst hA
  obtain ⟨gd, rfl, hgd, hcd⟩ : ∃ gd, A = some ⟨gd, 0, none⟩ ∧ gd < w1.heap.size ∧ 1 ≤ c' := by
    rcases hd.2 with ⟨-, h⟩ | ⟨gd, cap, cur, e, -, hr, hn, -⟩
    · simp at h
    · injection e with e1 e2 e3
      exact ⟨gd, e1, (Array.getElem?_eq_some_iff.1 hr).1, by rw [e3]; simpa using hn⟩
  have e0 : w1.cell? ⟨g, 0, none⟩ = some (.string ⟨#[97]⟩) := by simpa [encEn] using (hm 0 (by simp) 0 (by decide)).1
  have e1 : w1.cell? ⟨g, 1, none⟩ = some (.slice (some ⟨gd, 0, none⟩) 1 c') := by simpa [encEn] using (hm 0 (by simp) 1 (by decide)).1
  have hbW := (Below.refl w1.heap.size w1).alloc (Nat.le_refl _) (.cells #[.slice none 0 0, .int .i64 65536] 86)
  have hK := walk1_any w1.heap.size g c1 ⟨gd, 0, none⟩ c' (w1.alloc (.cells #[.slice none 0 0, .int .i64 65536] 86)) hg (by simpa using hc1) hcd (heap_alloc_new w1 _) ((hbW.cell (p := ⟨g, 0, none⟩) hg).trans e0) ((hbW.cell (p := ⟨g, 1, none⟩) hg).trans e1)
  have HX := Lib.hid (And.intro ho (And.intro hd hb))
  have HBW := Lib.hid hbW
  have HK := Lib.hid hK
  clear P ho hd hb hcell hm e0 e1 hbW hK
  go_wp2_with fail
  refine HK.out.mono ?_
  rintro e w2 ⟨rfl, ⟨v, hrow, ho2⟩, hb2⟩
  have c0 : w2.cell? ⟨w1.heap.size, 0, none⟩ = some v := by rw [cell_of_row _ _ _ _ _ _ hrow]; rfl
  have hb12 : Below w1.heap.size w1 w2 := HBW.out.trans hb2
  have hbz := HX.out.2.2.size
  have HE := Lib.hid (show OR 55 2 encEn w.heap.size v [⟨⟨#[97]⟩, some ⟨gd, 0, none⟩, 1, c'⟩] w2 ∧ OB 5 w.heap.size (.slice (some ⟨gd, 0, none⟩) 1 c') [120] w2 ∧ Below w.heap.size w w2 from ⟨OR.mono ho2 hbz, HX.out.2.1.after hb12, HX.out.2.2.trans (hb12.mono hbz)⟩)
  clear hb2 hb12 ho2 hrow
  go_wp2_with fail
  go_ret2
  exact ⟨v, _, c', rfl, HE.out⟩
end Go.Proofs.YthmpcdjhighhgaaGreatDoor
