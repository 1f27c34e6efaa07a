/- Sources: an archive, by the example. -/
import Derived.Test.YthmpcdjhighhgaaGreatDoorArcHZ
namespace Go.Proofs.YthmpcdjhighhgaaGreatDoor
set_option linter.unusedVariables false
set_option linter.unusedSimpArgs false
set_option maxRecDepth 100000
open Go.RowKit
theorem ArcAt.up {w w' : World} {ad : Addr} (h : ArcAt w.heap.size ad w) (hb : Below w.heap.size w w') : ArcAt w'.heap.size ad w' := ⟨Nat.lt_of_lt_of_le h.1 hb.size, (h.later hb).2⟩
set_option maxHeartbeats 2000000 in
theorem srcValid2_any (nm : ByteArray) (ad : Addr) (c : Nat) (w : World) (hnm : srcOK (bl nm) = true) (hns : nm.size ≤ 1000000) (hc : 12 ≤ c) (ha : ArcAt w.heap.size ad w) :
    Calls Tryz.prog 12 #[.agg #[.string nm, .int .i64 2, .slice none 0 0, .slice none 0 0, .slice (some ad) 12 c]] w fun e w' => e = .returned (.int .i64 0) ∧ Below w.heap.size w w' := by
  have hb0 : Below w.heap.size w (w.alloc (.cells #[.string nm, .int .i64 2, .slice none 0 0, .slice none 0 0, .slice (some ad) 12 c] 40)) := (Below.refl _ _).alloc (Nat.le_refl _) _
  have HP := Lib.hid (fun (w' : World) (h : Below w.heap.size w w') => Walk1_any ad c w' hc (ha.up h))
  have HN := Lib.hid hnm
  have hrow : (w.alloc (.cells #[.string nm, .int .i64 2, .slice none 0 0, .slice none 0 0, .slice (some ad) 12 c] 40)).heap[w.heap.size]? = some (.cells #[.string nm, .int .i64 2, .slice none 0 0, .slice none 0 0, .slice (some ad) 12 c] 40 (0, 0)) := heap_alloc_new w _
  have HR := Lib.hid hrow
  have HB0 := Lib.hid hb0
  have hsz0 : (w.alloc (.cells #[.string nm, .int .i64 2, .slice none 0 0, .slice none 0 0, .slice (some ad) 12 c] 40)).heap.size = w.heap.size + 1 := by simp
  have HS0 := Lib.hid hsz0
  clear hnm hrow hb0 hsz0
  go_enter Tryz.func12, Tryz.ntmps12
  go_wp2_with fail
  refine (srcNamed_any nm _ hns).mono ?_
  rintro e w1 ⟨rfl, hb1⟩
  rw [HN.out]
  have hr1 := (hb1.block w.heap.size (by have := HS0.out; omega)).trans HR.out
  have c0 : w1.cell? ⟨w.heap.size, 0, none⟩ = some (.string nm) := by rw [cell_of_row _ _ _ _ _ _ hr1]; rfl
  have c1 : w1.cell? ⟨w.heap.size, 1, none⟩ = some (.int .i64 2) := by rw [cell_of_row _ _ _ _ _ _ hr1]; rfl
  have c2 : w1.cell? ⟨w.heap.size, 2, none⟩ = some (.slice none 0 0) := by rw [cell_of_row _ _ _ _ _ _ hr1]; rfl
  have c3 : w1.cell? ⟨w.heap.size, 3, none⟩ = some (.slice none 0 0) := by rw [cell_of_row _ _ _ _ _ _ hr1]; rfl
  have c4 : w1.cell? ⟨w.heap.size, 4, none⟩ = some (.slice (some ad) 12 c) := by rw [cell_of_row _ _ _ _ _ _ hr1]; rfl
  have HR1 := Lib.hid hr1
  have HB1 := Lib.hid (HB0.out.trans (hb1.mono HB0.out.size))
  clear hb1 hr1
  go_wp2_with fail
  refine (srcRight_any nm 2 (some ad) 12 c w1 (by decide) (by decide)).mono ?_
  rintro e w2 ⟨rfl, hb2⟩
  have hr2 := (hb2.block w.heap.size (Array.getElem?_eq_some_iff.1 HR1.out).1).trans HR1.out
  clear c0 c1 c2 c3 c4
  have c1 : w2.cell? ⟨w.heap.size, 1, none⟩ = some (.int .i64 2) := by rw [cell_of_row _ _ _ _ _ _ hr2]; rfl
  have c4 : w2.cell? ⟨w.heap.size, 4, none⟩ = some (.slice (some ad) 12 c) := by rw [cell_of_row _ _ _ _ _ _ hr2]; rfl
  have HB2 := Lib.hid (HB1.out.trans (hb2.mono HB1.out.size))
  clear hb2 hr2
  go_wp2_with fail
  refine (HP.out _ HB2.out).mono ?_
  rintro e w3 ⟨v, Av, cv, rfl, -, -, hb3⟩
  clear c1 c4
  go_wp2_with fail
  go_ret
  exact ⟨rfl, HB2.out.trans (hb3.mono HB2.out.size)⟩
theorem ArcAt.bin {w : World} {ad : Addr} {c : Nat} (h : ArcAt w.heap.size ad w) (hc : 12 ≤ c) : BIn w.heap.size w (.slice (some ad) 12 c) arcB := ⟨_, 12, c, rfl, rfl, hc, .inr ⟨ad, rfl, h.1, h.2⟩⟩
set_option maxHeartbeats 8000000 in
theorem contents2_any (nm : ByteArray) (ad : Addr) (c : Nat) (w : World) (hc : 12 ≤ c) (ha : ArcAt w.heap.size ad w) :
    Calls Tryz.prog 13 #[.agg #[.string nm, .int .i64 2, .slice none 0 0, .slice none 0 0, .slice (some ad) 12 c]] w (CtPost [⟨arcB, 0, ⟨#[]⟩, 0⟩, ⟨[120], 0, ⟨#[97]⟩, 0⟩] w) := by
  obtain ⟨i0, hi, hz0, hz1, hz2⟩ := info_parts info_ct
  have hb0 : Below w.heap.size w (w.alloc (.cells #[.string nm, .int .i64 2, .slice none 0 0, .slice none 0 0, .slice (some ad) 12 c] 40)) := (Below.refl _ _).alloc (Nat.le_refl _) _
  have HA := Lib.hid ha
  clear ha
  go_enter Tryz.func13, Tryz.ntmps13
  go_wp2_with fail
  refine (single_any _ arcB ⟨#[]⟩ 0 _ ((HA.out.up hb0).bin hc) (by decide)).mono ?_
  rintro e w1 ⟨A1, n1, c1, g1, rfl, ho1, hg1, hp1, hb1⟩
  obtain ⟨x1, hx1⟩ : ∃ x : CtV, x = ⟨A1, n1, c1, g1⟩ := ⟨_, rfl⟩
  have hW0 : w.heap.size ≤ (w.alloc (.cells #[.string nm, .int .i64 2, .slice none 0 0, .slice none 0 0, .slice (some ad) 12 c] 40)).heap.size := hb0.size
  have hbA := (Below.refl w1.heap.size w1).alloc (Nat.le_refl _) (.cells #[.slice A1 n1 c1, .slice (some ⟨g1, 0, none⟩) 1 1] 43)
  have hct1 : CtIn w.heap.size (w1.alloc (.cells #[.slice A1 n1 c1, .slice (some ⟨g1, 0, none⟩) 1 1] 43)) x1 ⟨arcB, 0, ⟨#[]⟩, 0⟩ := by
    rw [hx1]
    exact (show CtIn w.heap.size w1 ⟨A1, n1, c1, g1⟩ ⟨arcB, 0, ⟨#[]⟩, 0⟩ from ⟨obMono ho1 hW0, Nat.le_trans hW0 hg1, hp1⟩).later hbA
  have hcc : ∀ j, j < 2 → (w1.alloc (.cells #[.slice A1 n1 c1, .slice (some ⟨g1, 0, none⟩) 1 1] 43)).cell? ⟨w1.heap.size, j, none⟩ = (encCt x1)[j]? := fun j hj => by
    rw [World.cell?_alloc_mark, hx1]; simp [encCt]
  have hbw := (hb0.trans (hb1.mono hW0)).trans (hbA.mono (Nat.le_trans hW0 hb1.size))
  have hn0 := OR.nil_ (enc := encCt) (n := 2) 43 w.heap.size (w1.alloc (.cells #[.slice A1 n1 c1, .slice (some ⟨g1, 0, none⟩) 1 1] 43))
  have hrow : w1.heap[w.heap.size]? = some (.cells #[.string nm, .int .i64 2, .slice none 0 0, .slice none 0 0, .slice (some ad) 12 c] 40 (0, 0)) := (hb1.block _ (by simp)).trans (heap_alloc_new w _)
  have hrow2 := (hbA.block _ (Array.getElem?_eq_some_iff.1 hrow).1).trans hrow
  have HX1 := Lib.hid hx1
  have HC1 := Lib.hid hct1
  have HBW := Lib.hid hbw
  have HRW := Lib.hid hrow2
  have hsz2 := hbw.size
  clear hx1 hct1 hbw hrow hrow2 ho1 hg1 hp1 hb1 hbA hb0 hW0
  go_wp2_with (at_builtin; go_loud (refine app_oneG encCt_E Tryz.underlying34 hi hz0 hz1 hz2 rfl (by decide) _ _ _ w1.heap.size _ [] x1 w.heap.size rfl rfl rfl rfl hcc hn0 (by simp) hsz2 ?_); intro v2 w2 hown2 hg2; have hb2 : Below w.heap.size w w2 := HBW.out.grown hg2 hsz2 (fun k hk => by cases hk); have hrow2 := (hg2.block _ (Array.getElem?_eq_some_iff.1 HRW.out).1 (fun e => by cases e)).trans HRW.out; have c4 : w2.cell? ⟨w.heap.size, 4, none⟩ = some (.slice (some ad) 12 c) := (by rw [cell_of_row _ _ _ _ _ _ hrow2]; rfl); clear hrow2)
  have hct2 : CtIn w.heap.size w2 x1 ⟨arcB, 0, ⟨#[]⟩, 0⟩ := HC1.out.grown hn0 hg2
  have W2 := Walk1_any ad c w2 hc (HA.out.up hb2)
  have HC2 := Lib.hid hct2
  have HO2 := Lib.hid hown2
  have HB2 := Lib.hid hb2
  have HW2 := Lib.hid W2
  clear hct2 hown2 hb2 W2 HC1 hcc hn0 HBW HRW
  go_wp2_with fail
  refine HW2.out.mono ?_
  rintro e w3 ⟨u3, A3, c3, rfl, ho3, hd3, hb3⟩
  obtain ⟨A4, c4', rfl, hc4, hcell⟩ := OR.cells encEn_E ho3
  obtain ⟨g, hA, hBg, hg, hm⟩ := hcell.resolve_left (by simp)
  subst hA
  have e0 : w3.cell? ⟨g, 0, none⟩ = some (.string ⟨#[97]⟩) := by simpa [encEn] using (hm 0 (by simp) 0 (by decide)).1
  have e1 : w3.cell? ⟨g, 1, none⟩ = some (.slice A3 1 c3) := by simpa [encEn] using (hm 0 (by simp) 1 (by decide)).1
  have HC3 := Lib.hid (HC2.out.later hb3)
  have HO3 := Lib.hid (OR.later HO2.out hb3)
  have HB3 := Lib.hid (HB2.out.trans (hb3.mono HB2.out.size))
  have HD3 := Lib.hid hd3
  have HZ23 := Lib.hid hb3.size
  clear ho3 hd3 hb3 hcell hm HW2 HC2 HO2 c4
  go_wp2_with fail
  refine wp_loop_rounds 2 ?_
  rw [rounds_succ]
  go_wp2_with fail
  have hbB := (Below.refl w3.heap.size w3).alloc (Nat.le_refl _) (.cells #[.string ⟨#[97]⟩, .slice A3 1 c3] 55)
  refine (single_any _ [120] ⟨#[97]⟩ 0 _ ((BIn.of_OB HD3.out).later hbB) (by decide)).mono ?_
  rintro e w5 ⟨A5, n5, c5, g5, rfl, ho5, hg5, hp5, hb5⟩
  obtain ⟨x2, hx2⟩ : ∃ x : CtV, x = ⟨A5, n5, c5, g5⟩ := ⟨_, rfl⟩
  have hzB : w3.heap.size + 1 = (w3.alloc (.cells #[.string ⟨#[97]⟩, .slice A3 1 c3] 55)).heap.size := by simp
  have hz3 : w.heap.size ≤ w3.heap.size := HB3.out.size
  have hW0 : w.heap.size ≤ (w3.alloc (.cells #[.string ⟨#[97]⟩, .slice A3 1 c3] 55)).heap.size := by omega
  have hbC := (Below.refl w5.heap.size w5).alloc (Nat.le_refl _) (.cells #[.slice A5 n5 c5, .slice (some ⟨g5, 0, none⟩) 1 1] 43)
  have hct2 : CtIn w.heap.size (w5.alloc (.cells #[.slice A5 n5 c5, .slice (some ⟨g5, 0, none⟩) 1 1] 43)) x2 ⟨[120], 0, ⟨#[97]⟩, 0⟩ := by
    rw [hx2]
    exact (show CtIn w.heap.size w5 ⟨A5, n5, c5, g5⟩ ⟨[120], 0, ⟨#[97]⟩, 0⟩ from ⟨obMono ho5 hW0, Nat.le_trans hW0 hg5, hp5⟩).later hbC
  have hcc : ∀ j, j < 2 → (w5.alloc (.cells #[.slice A5 n5 c5, .slice (some ⟨g5, 0, none⟩) 1 1] 43)).cell? ⟨w5.heap.size, j, none⟩ = (encCt x2)[j]? := fun j hj => by
    rw [World.cell?_alloc_mark, hx2]; simp [encCt]
  have hb35 : Below w3.heap.size w3 w5 := hbB.trans (hb5.mono hbB.size)
  have hb36 := hb35.trans (hbC.mono hb35.size)
  have hct1 := HC3.out.later hb36
  have hown := OR.later HO3.out hb36
  have hbw := HB3.out.trans (hb36.mono hz3)
  have hsz6 := hbw.size
  have hne : x1.g ≠ x2.g := by
    have h1 := (Array.getElem?_eq_some_iff.1 (show w3.heap[x1.g]? = _ from HC3.out.2.2)).1
    rw [hx2]
    show x1.g ≠ g5
    omega
  have HNE := Lib.hid hne
  have HCA := Lib.hid hct1
  have HCB := Lib.hid hct2
  have HBW := Lib.hid hbw
  clear hct1 hct2 hbw hb36 hb35 hbC hbB hx2 ho5 hg5 hp5 hb5 hW0 hzB hne e0 e1
  go_wp2_with (at_builtin; go_loud (refine app_oneG encCt_E Tryz.underlying34 hi hz0 hz1 hz2 rfl (by decide) _ _ _ w5.heap.size _ ([] ++ [x1]) x2 w.heap.size rfl rfl rfl rfl hcc hown (by simp) hsz6 ?_); intro v6 w6 hown6 hg6)
  have HE := Lib.hid (show OR 43 2 encCt w.heap.size v6 [x1, x2] w6 ∧ CtIn w.heap.size w6 x1 ⟨arcB, 0, ⟨#[]⟩, 0⟩ ∧ CtIn w.heap.size w6 x2 ⟨[120], 0, ⟨#[97]⟩, 0⟩ ∧ Below w.heap.size w w6 from ⟨hown6, HCA.out.grown hown hg6, HCB.out.grown hown hg6, HBW.out.grown hg6 hsz6 (fun k hk => (World.ownsRow.lt hown k hk).1)⟩)
  clear hown6 hg6 hown hcc HCA HCB HBW
  rw [rounds_succ]
  go_wp2_with fail
  go_ret2
  refine ⟨v6, [x1, x2], rfl, HE.out.1, rfl, by simp; exact HNE.out, fun i h h2 => ?_, HE.out.2.2.2⟩
  match i, h, h2 with
  | 0, _, _ => exact HE.out.2.1
  | 1, _, _ => exact HE.out.2.2.1
end Go.Proofs.YthmpcdjhighhgaaGreatDoor
