/- Archives: parsing the example. -/
import Derived.Test.YthmpcdjhighhgaaGreatDoorArcEZ
namespace Go.Proofs.YthmpcdjhighhgaaGreatDoor
set_option linter.unusedVariables false
set_option linter.unusedSimpArgs false
set_option maxRecDepth 100000
open Go.RowKit
set_option maxHeartbeats 2000000 in
theorem parse0_any (ad : Addr) (c : Nat) (w : World) (hc : 1 ≤ c) : Calls Tryz.prog 74 #[.slice (some ad) 1 c] w fun e w' => e = .returned (.tuple #[.slice none 0 0, .bool false]) ∧ Below w.heap.size w w' := by
  go_enter Tryz.func74, Tryz.ntmps74
  go_wp2_with fail
  have hp : RdS w.heap.size (some ad) 1 c false (w.alloc (.cells #[.slice (some ad) 1 c, .bool false] 205)) := heap_alloc_new w _
  have hb0 : Below w.heap.size w (w.alloc (.cells #[.slice (some ad) 1 c, .bool false] 205)) := (Below.refl _ _).alloc (Nat.le_refl _) _
  refine (take4_bad w.heap.size w.heap.size ad c _ (Nat.le_refl _) hp).mono ?_
  rintro e w1 ⟨⟨g, rfl, hg⟩, hb1⟩
  have hcv : (convert 30 9 (.slice (some ⟨g, 0, none⟩) 4 4)).run Tryz.prog w1 = .ok (.string ⟨#[0, 0, 0, 0]⟩) w1 := run_convert_bytes_back w1 30 9 5 ⟨g, 0, none⟩ 4 [0, 0, 0, 0] Tryz.underlying30 Tryz.underlying5 Tryz.underlying9 (fun j hj => by
    have h4 : j < 4 := hj
    rw [Addr.add_lit, cell_of_row _ _ _ _ _ _ hg]
    rcases (show j = 0 ∨ j = 1 ∨ j = 2 ∨ j = 3 by omega) with rfl | rfl | rfl | rfl <;> rfl)
  have HB := Lib.hid (hb0.trans hb1)
  clear hb0 hb1 hg hp
  go_wp2_with fail
  go_ret2
  exact ⟨rfl, HB.out⟩
/-- An entry in memory. -/
structure EnV where
  name : ByteArray
  A : Option Addr
  n : Nat
  c : Nat
def encEn (x : EnV) : List Value := [.string x.name, .slice x.A x.n x.c]
theorem encEn_E : EncS encEn 2 := ⟨by decide, fun _ => rfl, fun x u hu => by
  unfold encEn at hu
  simp at hu
  rcases hu with rfl | rfl <;> rfl⟩
theorem info_en : (Tryz.prog.info? 55).map (fun i => (i.zero, i.size, i.bytes)) = some (some (.agg #[.string ⟨#[]⟩, .slice none 0 0]), 2, 40) := by kernel_rfl
/-- The example's bytes lie at an address. -/
def ArcAt (B : Nat) (ad : Addr) (w : World) : Prop := ad.block < B ∧ ∀ j (h : j < arcB.length), w.cell? (ad.add j) = some (.int .u8 arcB[j].toNat)
theorem ArcAt.later {B : Nat} {ad : Addr} {w w' : World} (h : ArcAt B ad w) (hb : Below B w w') : ArcAt B ad w' := ⟨h.1, fun j hj => (World.cell?_of_block (by rw [Reads_block]; exact hb.block _ h.1)).trans (h.2 j hj)⟩
set_option maxHeartbeats 4000000 in
theorem parse1_any (ad : Addr) (c : Nat) (w : World) (hc : 12 ≤ c) (ha : ArcAt w.heap.size ad w) : Calls Tryz.prog 74 #[.slice (some ad) 12 c] w fun e w' =>
    ∃ u A c', e = .returned (.tuple #[u, .bool true]) ∧ OR 55 2 encEn w.heap.size u [⟨⟨#[97]⟩, A, 1, c'⟩] w' ∧ OB 5 w.heap.size (.slice A 1 c') [120] w' ∧ Below w.heap.size w w' := by
  have HA := Lib.hid (fun W (h : Below w.heap.size w W) => ha.later h)
  have HAB := Lib.hid ha.1
  clear ha
  obtain ⟨i0, hi, hz0, hz1, hz2⟩ := info_parts info_en
  go_enter Tryz.func74, Tryz.ntmps74
  go_wp2_with fail
  have hp : RdS w.heap.size (some ad) 12 c false (w.alloc (.cells #[.slice (some ad) 12 c, .bool false] 205)) := heap_alloc_new w _
  have hb0 : Below w.heap.size w (w.alloc (.cells #[.slice (some ad) 12 c, .bool false] 205)) := (Below.refl _ _).alloc (Nat.le_refl _) _
  refine (take_ok w.heap.size w.heap.size ad 12 c 4 _ (Nat.le_refl _) hp (by omega) hc (by omega)).mono ?_
  rintro e w1 ⟨rfl, ⟨A1, c1, hr1, hA1, hc1⟩, hb1⟩
  obtain rfl := hA1 (by omega)
  have hb01 := hb0.trans hb1
  have hcv : (convert 30 9 (.slice (some ad) 4 c)).run Tryz.prog w1 = .ok (.string ⟨#[65, 82, 67, 49]⟩) w1 := run_convert_bytes_back w1 30 9 5 ad c [65, 82, 67, 49] Tryz.underlying30 Tryz.underlying5 Tryz.underlying9 (fun j hj => by
    have h4 : j < 4 := hj
    have := (HA.out w1 hb01).2 j (by show j < 12; omega)
    rw [this]
    rcases (show j = 0 ∨ j = 1 ∨ j = 2 ∨ j = 3 by omega) with rfl | rfl | rfl | rfl <;> rfl)
  have HB1 := Lib.hid hb01
  clear hb0 hb1 hb01 hp
  go_wp2_with fail
  refine (take_ok w.heap.size w.heap.size (ad.add 4) 8 c1 1 _ (Nat.le_refl _) hr1 (by omega) hc1 (by omega)).mono ?_
  rintro e w2 ⟨rfl, ⟨A2, c2, hr2, hA2, hc2⟩, hb2⟩
  obtain rfl := hA2 (by omega)
  have hb12 := HB1.out.trans hb2
  have n4 : w2.cell? ⟨ad.block, ad.off + 4, none⟩ = some (.int .u8 1) := (HA.out w2 hb12).2 4 (by decide)
  have HB2 := Lib.hid hb12
  clear hcv hb2 hb12 HB1 hr1
  go_wp2_with fail
  refine wp_loop_rounds 2 ?_
  rw [rounds_succ]
  go_wp2_with fail
  refine (take_ok w.heap.size w.heap.size ((ad.add 4).add 1) 7 c2 1 _ (Nat.le_refl _) hr2 (by omega) hc2 (by omega)).mono ?_
  rintro e w3 ⟨rfl, ⟨A3, c3, hr3, hA3, hc3⟩, hb3⟩
  obtain rfl := hA3 (by omega)
  have hb13 := HB2.out.trans hb3
  have n5 : w3.cell? ⟨ad.block, ad.off + 5, none⟩ = some (.int .u8 1) := (HA.out w3 hb13).2 5 (by decide)
  have HB3 := Lib.hid hb13
  clear n4 hb3 hb13 HB2 hr2
  go_wp2_with fail
  refine (take_ok w.heap.size w.heap.size (((ad.add 4).add 1).add 1) 6 c3 1 _ (Nat.le_refl _) hr3 (by omega) hc3 (by omega)).mono ?_
  rintro e w4 ⟨rfl, ⟨A4, c4, hr4, hA4, hc4⟩, hb4⟩
  obtain rfl := hA4 (by omega)
  have hb14 := HB3.out.trans hb4
  have hcv : (convert 30 9 (.slice (some ⟨ad.block, ad.off + 6, none⟩) 1 c3)).run Tryz.prog w4 = .ok (.string ⟨#[97]⟩) w4 := run_convert_bytes_back w4 30 9 5 ⟨ad.block, ad.off + 6, none⟩ c3 [97] Tryz.underlying30 Tryz.underlying5 Tryz.underlying9 (fun j hj => by
    obtain rfl : j = 0 := by simp at hj; omega
    exact (HA.out w4 hb14).2 6 (by decide))
  have hda : ∀ W, Below w.heap.size w4 W → ∀ j (h : j < [(0 : UInt8), 0, 1, 0, 120].length), W.cell? (((((ad.add 4).add 1).add 1).add 1).add j) = some (.int .u8 ([(0 : UInt8), 0, 1, 0, 120])[j].toNat) := fun W hW j hj => by
    have h5 : j < 5 := hj
    have := (HA.out W (hb14.trans hW)).2 (7 + j) (by show 7 + j < 12; omega)
    rw [Addr.add_add, Addr.add_add, Addr.add_add, Addr.add_add]
    rw [show 4 + (1 + (1 + (1 + j))) = 7 + j by omega, this]
    rcases (show j = 0 ∨ j = 1 ∨ j = 2 ∨ j = 3 ∨ j = 4 by omega) with rfl | rfl | rfl | rfl | rfl <;> rfl
  have D := data1_any w.heap.size w.heap.size ((((ad.add 4).add 1).add 1).add 1) c4 w4 (Nat.le_refl _) hb14.size hr4 hc4 hda (by rw [Reads_block, Reads_block, Reads_block, Reads_block]; exact HAB.out)
  have HD := Lib.hid D
  have HB4 := Lib.hid hb14
  clear n5 hb4 hb14 HB3 hr3 hr4 hda D
  go_wp2_with fail
  refine HD.out.mono ?_
  rintro e w5 ⟨u, rfl, hu, ⟨A5, c5, hr5⟩, hb5⟩
  obtain ⟨A6, c6, rfl⟩ : ∃ A6 c6, u = .slice A6 1 c6 := by
    rcases hu.2 with ⟨-, h0⟩ | ⟨g6, c6, -, e6, -⟩
    · simp at h0
    · exact ⟨_, _, e6⟩
  have hb15 := HB4.out.trans hb5
  have r51 := hr5.cells.1.2
  have hn0 := OR.nil_ (enc := encEn) (n := 2) 55 w.heap.size (w5.alloc (.cells #[.string ⟨#[97]⟩, .slice A6 1 c6] 55))
  have hcc : ∀ j, j < 2 → (w5.alloc (.cells #[.string ⟨#[97]⟩, .slice A6 1 c6] 55)).cell? ⟨w5.heap.size, j, none⟩ = (encEn ⟨⟨#[97]⟩, A6, 1, c6⟩)[j]? := fun j hj => by
    rw [World.cell?_alloc_mark]; simp [encEn]
  have hb16 := hb15.alloc hb15.size (.cells #[.string ⟨#[97]⟩, .slice A6 1 c6] 55)
  have hr6 := (Below.heap_alloc w5 (.cells #[.string ⟨#[97]⟩, .slice A6 1 c6] 55) w.heap.size (Array.getElem?_eq_some_iff.1 hr5).1).trans hr5
  have hu6 := hu.after ((Below.refl w5.heap.size w5).alloc (Nat.le_refl _) (.cells #[.string ⟨#[97]⟩, .slice A6 1 c6] 55))
  have HB5 := Lib.hid hb16
  have HR5 := Lib.hid hr6
  have HU := Lib.hid hu6
  clear hcv HD HB4 hb15 hb5 hr5 hu hb16 hr6 hu6
  go_wp2_with (at_builtin; go_loud (refine app_oneG encEn_E Tryz.underlying56 hi hz0 hz1 hz2 rfl (by decide) _ _ _ w5.heap.size _ [] ⟨⟨#[97]⟩, A6, 1, c6⟩ w.heap.size rfl rfl rfl rfl hcc hn0 (by simp) HB5.out.size ?_); intro v6 w6 hown6 hg6; obtain ⟨A7, c7, rfl, hc7, hcell7⟩ := OR.cells encEn_E hown6)
  have hz6 := hg6.size
  have HB6 := Lib.hid (HB5.out.grown hg6 HB5.out.size (fun k hk => by cases hk))
  have HR6 := Lib.hid ((hg6.block _ (Array.getElem?_eq_some_iff.1 HR5.out).1 (fun e => by cases e)).trans HR5.out)
  have r60 := (show RdS w.heap.size A5 0 c5 false w6 from HR6.out).cells
  obtain ⟨⟨q60, q61⟩, -, -⟩ := r60
  obtain ⟨g7, hA7, hBg7, hg7, hm7⟩ := hcell7.resolve_left (by simp)
  have e70 := (hm7 0 (by simp) 0 (by decide)).1
  have e71 := (hm7 0 (by simp) 1 (by decide)).1
  replace e70 : w6.cell? ⟨g7, 0, none⟩ = some (.string ⟨#[97]⟩) := by simpa [encEn] using e70
  replace e71 : w6.cell? ⟨g7, 1, none⟩ = some (.slice A6 1 c6) := by simpa [encEn] using e71
  subst hA7
  have HOWN := Lib.hid hown6
  clear hm7 hcell7 hown6
  rw [rounds_succ]
  go_wp2_with fail
  refine (valid1_any g7 c7 A6 c6 w6 (by simpa using hc7) hg7 e70 e71).mono ?_
  rintro e w7 ⟨rfl, hb7⟩
  have hE : OR 55 2 encEn w.heap.size (.slice (some ⟨g7, 0, none⟩) 1 c7) [⟨⟨#[97]⟩, A6, 1, c6⟩] w7 ∧ OB 5 w.heap.size (.slice A6 1 c6) [120] w7 ∧ Below w.heap.size w w7 := by
    refine ⟨OR.later HOWN.out hb7, OB.keep HU.out (fun k hk => ?_), HB6.out.trans (hb7.mono HB6.out.size)⟩
    have h1 := (HU.out.lt k hk).2
    exact (hb7.block k (Nat.lt_of_lt_of_le h1 hz6)).trans (hg6.block k h1 (fun e => by cases e))
  have HE := Lib.hid hE
  clear hE hb7 e70 e71 q60 q61
  go_wp2_with fail
  go_ret2
  exact ⟨_, A6, c6, rfl, HE.out.1, HE.out.2.1, HE.out.2.2⟩
end Go.Proofs.YthmpcdjhighhgaaGreatDoor
