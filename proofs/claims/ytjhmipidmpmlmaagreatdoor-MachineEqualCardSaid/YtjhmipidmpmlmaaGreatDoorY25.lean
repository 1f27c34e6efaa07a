/- Walk: law06.awake. · The law MachineSmall: the call returns true, for every tape. -/
import Derived.Test.YtjhmipidmpmlmaaGreatDoorY24
import Derived.Test.YtjhmipidmpmlmaaGreatDoorY22
import Derived.Lib.SmallJoins
import Derived.Test.YtjhmipidmpmlmaaGreatDoorY19
import Derived.Test.YtjhmipidmpmlmaaGreatDoorY03
namespace Go.Proofs.YtjhmipidmpmlmaaGreatDoor
set_option linter.unusedVariables false
set_option linter.unusedSimpArgs false
set_option maxRecDepth 100000
open Go.RowKit
theorem awake06 (w : World) (hvr : VrOK w) : Calls Tryz.prog 11 #[] w fun e w' => e = .returned (.bool true) ∧ Below w.heap.size w w' := by
  have HVR := Lib.hid hvr
  clear hvr
  go_enter Tryz.func11, Tryz.ntmps11
  go_wp2_with fail
  refine (parse_AB w HVR.out).mono ?_
  rintro e w1 ⟨x, rfl, hit, hb1⟩
  obtain ⟨g1, v1, rfl, hg1, hg2, hg3⟩ := id hit
  have H1 := Lib.hid (And.intro hit hb1)
  clear hit hb1 hg1 hg2 hg3
  go_wp2_with fail
  refine calls_named fun W1 hW1 => ?_
  have hbW : Below w1.heap.size w1 W1 := by rw [hW1]; exact (Below.refl _ _).alloc (Nat.le_refl _) _
  have hbw : Below w.heap.size w W1 := H1.out.2.trans (hbW.mono H1.out.2.size)
  have hitW := H1.out.1.keep (KeepF.of_below (fp := []) hbW) (fun k hk => by cases hk)
  obtain ⟨vs, hvs, hnd⟩ := hitW.nd
  have hcp := compile_any ndAB vs W1 hnd (HVR.out.later hbw)
  rw [← hvs] at hcp
  have HCP := Lib.hid hcp
  have HB := Lib.hid hbw
  clear hW1 hbW hbw hitW hvs hnd hcp
  refine HCP.out.mono ?_
  rintro e w2 hpost
  obtain ⟨hb2, rv, rfl, hup⟩ := cm_AB hpost
  clear hpost
  obtain ⟨ve, va, rfl, he, ha⟩ := id hup.mc
  obtain ⟨Ae, ce, rfl, hce1, hce2⟩ := he.form
  obtain ⟨Aa, ca, rfl, hca1, hca2⟩ := ha.form
  have H2 := Lib.hid (And.intro hup.mc (HB.out.trans (hb2.mono HB.out.size)))
  have l1 : mcAB.ed.length = 3 := rfl
  have l2 : mcAB.ac.length = 3 := rfl
  rw [l1, l2] at H2
  rw [l1, l2]
  have hvd : Vld mcAB := ⟨canon_AB.len, canon_AB.srt, canon_AB.to⟩
  have hsm : McSm mcAB := ⟨by decide, by decide, by decide⟩
  have HA := Lib.hid fun (W : World) (vb : Value) (bs : List Nat) (h : Below w2.heap.size w2 W) (hb : ByIn W vb bs) (h1 : bs.length ≤ 900000) (h2 : ∀ b ∈ bs, b < 256) => accepts_any _ vb mcAB bs W (H2.out.1.later h) hvd hsm (by decide) (by decide) hb h1 h2
  clear hb2 hup he ha hce1 hca1 l1 l2 hvd hsm
  have hcv := Go.Joins.run_convert_bytes_const_at (P := Tryz.prog) (w2.alloc (.cells #[.slice Ae 3 ce, .slice Aa 3 ca] 34)) 49 5 #[.int .u8 98, .int .u8 97] 2 2 (w2.heap.size + 1) (by simp) Tryz.underlying49 Tryz.underlying5
  go_wp2_with fail
  refine calls_named fun W3 hW3 => ?_
  have hbW3 : Below w2.heap.size w2 W3 := by rw [hW3]; exact ((Below.refl _ _).alloc (Nat.le_refl _) _).alloc (by simp) _
  have hbox : W3.heap[w2.heap.size]? = some (.cells #[.slice Ae 3 ce, .slice Aa 3 ca] 34 (0, 0)) := by rw [hW3, old_alloc _ _ _ (by simp)]; exact heap_alloc_new w2 _
  have hz3 : W3.heap.size = w2.heap.size + 2 := by rw [hW3]; simp
  have hby : ByIn W3 (.slice (some ⟨w2.heap.size + 1, 0, none⟩) 2 2) [98, 97] := by
    have hr : W3.heap[w2.heap.size + 1]? = some (.cells #[.int .u8 98, .int .u8 97] 5 (2, 3)) := by rw [hW3]; simpa using heap_alloc_new (w2.alloc (.cells #[.slice Ae 3 ce, .slice Aa 3 ca] 34)) (.cells #[.int .u8 98, .int .u8 97] 5 (2, 3))
    refine ⟨_, 2, rfl, by simp, .inr ⟨w2.heap.size + 1, 0, rfl, by omega, fun i hi => ?_⟩⟩
    rw [cell_of_row _ _ _ _ _ _ hr]
    match i, hi with
    | 0, _ => rfl
    | 1, _ => rfl
  have hac := HA.out W3 _ [98, 97] hbW3 hby (by decide) (by decide)
  rw [show acF mcAB [98, 97] 0 = true by decide] at hac
  have HAC := Lib.hid hac
  have H3 := Lib.hid (And.intro hbW3 hbox)
  clear hW3 hbW3 hbox hby hac hcv
  refine HAC.out.mono ?_
  rintro e w4 ⟨rfl, hb4⟩
  have hz4 := hb4.size
  have hbox := (hb4.block w2.heap.size (by omega)).trans H3.out.2
  obtain ⟨x0, x1⟩ : w4.cell? ⟨w2.heap.size, 0, none⟩ = some (.slice Ae 3 ce) ∧ w4.cell? ⟨w2.heap.size, 1, none⟩ = some (.slice Aa 3 ca) := by
    constructor <;> (rw [cell_of_row _ _ _ _ _ _ hbox]; rfl)
  have hws : w2.heap.size < w4.heap.size := by omega
  have H4 := Lib.hid (H3.out.1.trans (hb4.mono (by omega)))
  clear hb4 hbox
  have hcv := Go.Joins.run_convert_bytes_const_at (P := Tryz.prog) w4 49 5 #[.int .u8 98] 1 1 w4.heap.size rfl Tryz.underlying49 Tryz.underlying5
  go_wp2_with fail
  refine calls_named fun W5 hW5 => ?_
  have hbW5 : Below w4.heap.size w4 W5 := by rw [hW5]; exact (Below.refl _ _).alloc (Nat.le_refl _) _
  have hby : ByIn W5 (.slice (some ⟨w4.heap.size, 0, none⟩) 1 1) [98] := by
    have hr : W5.heap[w4.heap.size]? = some (.cells #[.int .u8 98] 5 (1, 2)) := by rw [hW5]; exact heap_alloc_new w4 _
    refine ⟨_, 1, rfl, by simp, .inr ⟨w4.heap.size, 0, rfl, by rw [hW5]; simp, fun i hi => ?_⟩⟩
    rw [cell_of_row _ _ _ _ _ _ hr]
    match i, hi with
    | 0, _ => rfl
  have hb25 := H4.out.trans (hbW5.mono H4.out.size)
  have hac := HA.out W5 _ [98] hb25 hby (by decide) (by decide)
  rw [show acF mcAB [98] 0 = false by decide] at hac
  have HAC2 := Lib.hid hac
  have H5 := Lib.hid (H2.out.2.trans (hb25.mono H2.out.2.size))
  clear hW5 hbW5 hby hac hb25 hcv x0 x1
  refine HAC2.out.mono ?_
  rintro e w6 ⟨rfl, hb6⟩
  have H6 := Lib.hid (H5.out.trans (hb6.mono H5.out.size))
  clear hb6
  go_wp2_with fail
  go_ret
  exact ⟨rfl, H6.out⟩
end Go.Proofs.YtjhmipidmpmlmaaGreatDoor
namespace Go.Proofs.YtjhmipidmpmlmaaGreatDoor
set_option linter.unusedVariables false
set_option linter.unusedSimpArgs false
set_option maxRecDepth 100000
open Go.RowKit
/-- A machine that stays whatever is written below. -/
theorem McUp.fr {B b : Nat} {w W : World} {v : Value} {m : Mc} (h : McUp B w v m) (hb : b < B) (hf : Fr b w W) : McIn W v m :=
  h W ⟨hf.os, hf.tape, hf.output, hf.size, fun k hk hn => hf.block k hk (fun e => hn (by injection e with e; simp; omega)), fun k hk => by cases hk⟩
/-- Two machines in their boxes, and the tape. -/
structure SmI (b : Nat) (w0 : World) (k1 k2 : Nat) (v1 v2 v3 v4 : Value) (m1 m2 : Mc) (w : World) : Prop where
  tp : TapeOK b w
  fr : Fr b w0 w
  l1 : b < k1 ∧ k1 < w0.heap.size
  l2 : b < k2 ∧ k2 < w0.heap.size
  b1 : w.heap[k1]? = some (.cells #[v1, v2] 34 (0, 0))
  b2 : w.heap[k2]? = some (.cells #[v3, v4] 34 (0, 0))
  i1 : ∀ W, Fr b w0 W → McIn W (.agg #[v1, v2]) m1
  i2 : ∀ W, Fr b w0 W → McIn W (.agg #[v3, v4]) m2
section
variable {b : Nat} {w0 w w' : World} {k1 k2 : Nat} {v1 v2 v3 v4 : Value} {m1 m2 : Mc}
theorem SmI.next (h : SmI b w0 k1 k2 v1 v2 v3 v4 m1 m2 w) (hf : Fr b w w') (ht : TapeOK b w') : SmI b w0 k1 k2 v1 v2 v3 v4 m1 m2 w' := by
  have hz := h.fr.size
  have h1 := h.l1
  have h2 := h.l2
  exact ⟨ht, h.fr.trans hf, h1, h2, (hf.block k1 (by omega) (fun e => by injection e with e; omega)).trans h.b1, (hf.block k2 (by omega) (fun e => by injection e with e; omega)).trans h.b2, h.i1, h.i2⟩
theorem SmI.later (h : SmI b w0 k1 k2 v1 v2 v3 v4 m1 m2 w) (hb : Below w.heap.size w w') : SmI b w0 k1 k2 v1 v2 v3 v4 m1 m2 w' := h.next (Fr.of_below hb) (h.tp.below hb)
theorem SmI.store (h : SmI b w0 k1 k2 v1 v2 v3 v4 m1 m2 w) {g j : Nat} {x : Value} (hg : w0.heap.size ≤ g) : SmI b w0 k1 k2 v1 v2 v3 v4 m1 m2 (w.setCell ⟨g, j, none⟩ x) := by
  have h1 := h.l1
  have h2 := h.l2
  have hs : ∀ k, k < w0.heap.size → (w.setCell ⟨g, j, none⟩ x).heap[k]? = w.heap[k]? := fun k hk => Below.heap_setCell _ _ _ _ (by show k ≠ g; omega)
  exact ⟨h.tp.keep fun k hk => hs k (by omega), ⟨h.fr.os, h.fr.tape, h.fr.output, by simpa [World.setCell] using h.fr.size, fun k hk hne => (hs k hk).trans (h.fr.block k hk hne)⟩, h1, h2, (hs k1 h1.2).trans h.b1, (hs k2 h2.2).trans h.b2, h.i1, h.i2⟩
theorem SmI.cells (h : SmI b w0 k1 k2 v1 v2 v3 v4 m1 m2 w) : (w.cell? ⟨k1, 0, none⟩ = some v1 ∧ w.cell? ⟨k1, 1, none⟩ = some v2) ∧ (w.cell? ⟨k2, 0, none⟩ = some v3 ∧ w.cell? ⟨k2, 1, none⟩ = some v4) ∧ k1 < w.heap.size ∧ k2 < w.heap.size := by
  have hz := h.fr.size
  have h1 := h.l1
  have h2 := h.l2
  refine ⟨⟨?_, ?_⟩, ⟨?_, ?_⟩, by omega, by omega⟩
  · rw [cell_of_row _ _ _ _ _ _ h.b1]; rfl
  · rw [cell_of_row _ _ _ _ _ _ h.b1]; rfl
  · rw [cell_of_row _ _ _ _ _ _ h.b2]; rfl
  · rw [cell_of_row _ _ _ _ _ _ h.b2]; rfl
end
theorem mc_form {w : World} {v : Value} {m : Mc} (h : McIn w v m) : ∃ Ae ce Aa ca, v = .agg #[.slice Ae m.ed.length ce, .slice Aa m.ac.length ca] := by
  obtain ⟨ve, va, rfl, he, ha⟩ := h
  obtain ⟨Ae, ce, rfl, -⟩ := he.form
  obtain ⟨Aa, ca, rfl, -⟩ := ha.form
  exact ⟨Ae, ce, Aa, ca, rfl⟩
set_option maxHeartbeats 4000000 in
theorem small_law (A : Option Addr) (n c : Nat) (w : World) (ht : TapeArg A n w) (hv : VrOK w) :
    Calls Tryz.prog 6 #[.slice A n c] w fun e w' => e = .returned (.bool true) ∧ Below w.heap.size w w' := by
  have h0 := tape_new (c := c) ht
  have hb0 := (Below.refl w.heap.size w).alloc (Nat.le_refl _) (.cells #[.slice A n c, .int .i64 0] 25)
  have hz0 : (w.alloc (.cells #[.slice A n c, .int .i64 0] 25)).heap.size = w.heap.size + 1 := by simp
  generalize hw0 : w.alloc (.cells #[.slice A n c, .int .i64 0] 25) = w0 at h0 hb0 hz0
  have HW0 := Lib.hid hw0
  have HV := Lib.hid hv
  clear hv ht
  go_enter Tryz.func6, Tryz.ntmps6
  go_wp2_with fail
  refine (own_any w.heap.size w0 h0).mono ?_
  rintro e w1 ⟨rv, m, rfl, hup, hvd, hsm, hml, ht1, hf1⟩
  obtain ⟨Ae, ce, Aa, ca, rfl⟩ := mc_form (hup w1 (kf_bel (Below.refl _ _)))
  have HF1 := Lib.hid (And.intro (hb0.trans (hf1.below (Nat.le_refl _) hb0.size)) (And.intro ht1 (show w.heap.size < w1.heap.size by have := hf1.size; omega)))
  have HM := Lib.hid (And.intro hvd (And.intro hsm hml))
  have HUP := Lib.hid hup
  obtain ⟨n1, hn1⟩ : ∃ k, m.ed.length = k := ⟨_, rfl⟩
  obtain ⟨k1, hk1⟩ : ∃ k, m.ac.length = k := ⟨_, rfl⟩
  rw [hn1, hk1] at HUP ⊢
  have HN1 := Lib.hid hn1
  have HZ0 := Lib.hid hz0
  clear hup hvd hsm hml ht1 hf1 h0 hb0 hw0 HW0 hn1 hk1 hz0
  go_wp2_with fail
  refine calls_named fun W1 hW1 => ?_
  have hbW1 : Below w1.heap.size w1 W1 := by rw [hW1]; exact (Below.refl _ _).alloc (Nat.le_refl _) _
  have hB1 : W1.heap[w1.heap.size]? = some (.cells #[.slice Ae n1 ce, .slice Aa k1 ca] 34 (0, 0)) := by rw [hW1]; exact heap_alloc_new w1 _
  have hzW1 : W1.heap.size = w1.heap.size + 1 := by rw [hW1]; simp
  have HFW1 := Lib.hid (HF1.out.1.trans (hbW1.mono HF1.out.1.size))
  have HL1 := Lib.hid (mleast_any _ m W1 (HUP.out W1 (kf_bel hbW1)) HM.out.1 HM.out.2.1 HM.out.2.2.1 (by have := HM.out.2.2.2; omega) (HV.out.later HFW1.out))
  have HS1 := Lib.hid (And.intro hB1 (And.intro hzW1 hbW1))
  clear hW1 hbW1 hB1 hzW1
  refine HL1.out.mono ?_
  rintro e w2 ⟨rv2, m2, rfl, hup2, hb2, hle2⟩
  obtain ⟨Ae2, ce2, Aa2, ca2, rfl⟩ := mc_form (hup2 w2 (kf_bel (Below.refl _ _)))
  obtain ⟨hvd2, h12⟩ := leOK_vld hle2
  have HM2 := Lib.hid (And.intro hvd2 (And.intro hle2.2.2 (And.intro h12 (And.intro hle2.2.1 hle2))))
  have HUP2 := Lib.hid hup2
  obtain ⟨n2, hn2⟩ : ∃ k, m2.ed.length = k := ⟨_, rfl⟩
  obtain ⟨k2, hk2⟩ : ∃ k, m2.ac.length = k := ⟨_, rfl⟩
  rw [hn2, hk2] at HUP2 ⊢
  have HN2 := Lib.hid hn2
  have HF2 := Lib.hid (And.intro hb2 (HFW1.out.trans (hb2.mono HFW1.out.size)))
  clear hup2 hb2 hle2 hvd2 h12 hn2 hk2 HL1
  go_wp2_with fail
  refine calls_named fun W2 hW2 => ?_
  have hbW2 : Below w2.heap.size w2 W2 := by rw [hW2]; exact (Below.refl _ _).alloc (Nat.le_refl _) _
  have hB2 : W2.heap[w2.heap.size]? = some (.cells #[.slice Ae2 n2 ce2, .slice Aa2 k2 ca2] 34 (0, 0)) := by rw [hW2]; exact heap_alloc_new w2 _
  have hzW2 : W2.heap.size = w2.heap.size + 1 := by rw [hW2]; simp
  have HFW2 := Lib.hid (HF2.out.2.trans (hbW2.mono HF2.out.2.size))
  have HL2 := Lib.hid (mleast_any _ m2 W2 (HUP2.out W2 (kf_bel hbW2)) HM2.out.1 HM2.out.2.1 HM2.out.2.2.1 (by have := HM.out.2.2.2; have := HM2.out.2.2.2.1; omega) (HV.out.later HFW2.out))
  have HS2 := Lib.hid (And.intro hB2 (And.intro hzW2 hbW2))
  clear hW2 hbW2 hB2 hzW2
  refine HL2.out.mono ?_
  rintro e w3 ⟨rv3, m3, rfl, hup3, hb3, hle3⟩
  obtain rfl : m2 = m3 := least_twice HM2.out.2.2.2.2 hle3
  obtain ⟨Ae3, ce3, Aa3, ca3, rfl⟩ := mc_form (hup3 w3 (kf_bel (Below.refl _ _)))
  have HUP3 := Lib.hid hup3
  obtain ⟨k3, hk3⟩ : ∃ k, m2.ac.length = k := ⟨_, rfl⟩
  rw [HN2.out, hk3] at HUP3 ⊢
  have HF3 := Lib.hid (And.intro hb3 (HFW2.out.trans (hb3.mono HFW2.out.size)))
  have hz23 : w2.heap.size < w3.heap.size := by have := hb3.size; have := HS2.out.2.1; omega
  have hz13 : w1.heap.size < w3.heap.size := by have := HF2.out.1.size; have := HS1.out.2.1; omega
  have hz12 : w1.heap.size < w2.heap.size := by have := HF2.out.1.size; have := HS1.out.2.1; omega
  have hB2 : w3.heap[w2.heap.size]? = some (.cells #[.slice Ae2 n2 ce2, .slice Aa2 k2 ca2] 34 (0, 0)) := (hb3.block _ (by rw [HS2.out.2.1]; omega)).trans HS2.out.1
  have hB1 : w3.heap[w1.heap.size]? = some (.cells #[.slice Ae n1 ce, .slice Aa k1 ca] 34 (0, 0)) := (hb3.block _ (by rw [HS2.out.2.1]; omega)).trans ((HS2.out.2.2.block _ hz12).trans ((HF2.out.1.block _ (by rw [HS1.out.2.1]; omega)).trans HS1.out.1))
  obtain ⟨y0, y1⟩ : w3.cell? ⟨w2.heap.size, 0, none⟩ = some (.slice Ae2 n2 ce2) ∧ w3.cell? ⟨w2.heap.size, 1, none⟩ = some (.slice Aa2 k2 ca2) := by constructor <;> (rw [cell_of_row _ _ _ _ _ _ hB2]; rfl)
  have HZ := Lib.hid (And.intro hz12 (And.intro hz13 (And.intro hz23 (And.intro hB1 hB2))))
  clear hup3 hb3 hle3 hk3 HL2 hB1 hB2 hz12 hz13
  go_wp2_with fail
  refine calls_named fun W3 hW3 => ?_
  have hbW3 : Below w3.heap.size w3 W3 := by rw [hW3]; exact (Below.refl _ _).alloc (Nat.le_refl _) _
  have HFW3 := Lib.hid (HF3.out.2.trans (hbW3.mono HF3.out.2.size))
  have hi2 : McIn W3 (.agg #[.slice Ae2 n2 ce2, .slice Aa2 k2 ca2]) m2 := HUP2.out W3 (kf_bel (HS2.out.2.2.trans ((HF3.out.1.mono (by rw [HS2.out.2.1]; omega)).trans (hbW3.mono (by omega)))))
  have hi3 : McIn W3 (.agg #[.slice Ae3 n2 ce3, .slice Aa3 k3 ca3]) m2 := HUP3.out W3 (kf_bel hbW3)
  have hsame := rsame_any _ _ m2 m2 W3 hi2 hi3 HM2.out.1 HM2.out.1 HM2.out.2.1 HM2.out.2.1 ⟨HM2.out.2.2.1, by have := HM.out.2.2.2; have := HM2.out.2.2.2.1; omega⟩ ⟨HM2.out.2.2.1, by have := HM.out.2.2.2; have := HM2.out.2.2.2.1; omega⟩
  rw [show decide (m2 = m2) = true from decide_eq_true rfl] at hsame
  have HSA := Lib.hid hsame
  have HB3 := Lib.hid hbW3
  clear hW3 hbW3 hi2 hi3 hsame y0 y1 hz23
  refine HSA.out.mono ?_
  rintro e w4 ⟨rfl, hb4⟩
  have hb34 : Below w3.heap.size w3 w4 := HB3.out.trans (hb4.mono HB3.out.size)
  have hF4 := HFW3.out.trans (hb4.mono HFW3.out.size)
  have hS4 : SmI w.heap.size w4 w1.heap.size w2.heap.size (.slice Ae n1 ce) (.slice Aa k1 ca) (.slice Ae2 n2 ce2) (.slice Aa2 k2 ca2) m m2 w4 := by
    have h34 := hb34.size
    have hz := HZ.out
    have hlt := HF1.out.2.2
    have f12 : Below w1.heap.size w1 w2 := HS1.out.2.2.trans (HF2.out.1.mono HS1.out.2.2.size)
    have f23 : Below w2.heap.size w2 w3 := HS2.out.2.2.trans (HF3.out.1.mono HS2.out.2.2.size)
    have f24 : Below w2.heap.size w2 w4 := f23.trans (hb34.mono f23.size)
    have f14 : Below w1.heap.size w1 w4 := f12.trans (f24.mono f12.size)
    refine ⟨HF1.out.2.1.below f14, Fr.refl _ _, ⟨hlt, by omega⟩, ⟨by omega, by omega⟩, (hb34.block _ hz.2.1).trans hz.2.2.2.1, (hb34.block _ hz.2.2.1).trans hz.2.2.2.2, fun W hf => ?_, fun W hf => ?_⟩
    · exact McUp.fr HUP.out (b := w.heap.size) (by have := HZ0.out; omega) ((Fr.of_below f14).trans hf)
    · exact McUp.fr HUP2.out (b := w.heap.size) (by have := HS1.out.2.1; omega) ((Fr.of_below f24).trans hf)
  obtain ⟨⟨x0, x1⟩, ⟨y0, y1⟩, l1, l2⟩ := hS4.cells
  have HS4 := Lib.hid hS4
  have HF4 := Lib.hid hF4
  have hnn : n2 ≤ n1 := by have := HM2.out.2.2.2.1; rw [HN1.out, HN2.out] at this; exact this
  have hdl : decide ((n1 : Int) < (n2 : Int)) = false := decide_eq_false (by omega)
  have hdln : decide (n1 < n2) = false := decide_eq_false (by omega)
  have HAC := Lib.hid (fun u => leOK_lang HM2.out.2.2.2.2 u)
  clear hb4 hb34 hF4 hS4 hnn HSA HB3 HFW3 HFW2 HFW1 HUP HUP2 HUP3
  go_wp2_with fail
  clear x0 x1 y0 y1 l1 l2 hdl hdln
  go_loopw [9, 10, 11] (fun v9 v10 v11 wr => ∃ i : Nat, i ≤ 5 ∧ v9 = .int .i64 (i : Int) ∧ Hid (SmI w.heap.size w4 w1.heap.size w2.heap.size (.slice Ae n1 ce) (.slice Aa k1 ca) (.slice Ae2 n2 ce2) (.slice Aa2 k2 ca2) m m2 wr)) (fun v9 _ _ _ => 5 - (intOf v9).toNat)
  case atStart => exact ⟨0, by omega, rfl, HS4⟩
  case round =>
    obtain ⟨i, hi, rfl, HS⟩ := hrel
    by_cases hlt : i < 5
    · have hd : decide ((i : Int) < 5) = true := decide_eq_true (by omega)
      have hdn : decide (i < 5) = true := decide_eq_true hlt
      go_wp2_with fail
      refine (next_any w.heap.size 5 wr (by decide) (by decide) HS.out.tp).mono ?_
      rintro e w5 ⟨r, rfl, hr1, hr2, ht5, hf5⟩
      obtain ⟨q, rfl⟩ : ∃ c : Nat, r = (c : Int) := ⟨r.toNat, by omega⟩
      have HS5 := Lib.hid (HS.out.next hf5 ht5)
      have hq5 : q < 5 := by omega
      clear hr1 hr2 ht5 hf5
      go_wp2_with fail
      refine (bytes_any w.heap.size q w5 (by omega) HS5.out.tp).mono ?_
      rintro e w6 ⟨v, l, rfl, hl, hob, ht6, hf6⟩
      have HS6 := Lib.hid (HS5.out.next hf6 ht6)
      obtain ⟨Ab, cb, rfl, hcb, -⟩ := OBs.form hob
      rw [hl] at hob ⊢
      have HOB := Lib.hid (And.intro hl hob)
      clear ht6 hf6 hl hob hcb
      by_cases h2 : 2 < i
      · have hd2 : decide (2 < (i : Int)) = true := decide_eq_true (by omega)
        have hd2n : decide (2 < i) = true := decide_eq_true h2
        go_wp2_with fail
        go_loopw [11] (fun v11 wr' => ∃ (k : Nat) (l' : List UInt8), k ≤ q ∧ v11 = .int .i64 (k : Int) ∧ Hid (SmI w.heap.size w4 w1.heap.size w2.heap.size (.slice Ae n1 ce) (.slice Aa k1 ca) (.slice Ae2 n2 ce2) (.slice Aa2 k2 ca2) m m2 wr' ∧ l'.length = q ∧ OB 5 w5.heap.size (.slice Ab q cb) l' wr')) (fun v _ => q - (intOf v).toNat)
        case atStart => exact ⟨0, l, by omega, rfl, HS6.out, HOB.out.1, HOB.out.2⟩
        case round =>
          obtain ⟨k, l', hk, rfl, HR⟩ := hrel
          by_cases hkq : k < q
          · have hd3 : decide ((k : Int) < (q : Int)) = true := decide_eq_true (by omega)
            have hd3n : decide (k < q) = true := decide_eq_true hkq
            have hk0 : decide ((0 : Int) ≤ (k : Int)) = true := decide_eq_true (by omega)
            go_wp2_with fail
            refine (next_any w.heap.size 256 wr (by decide) (by decide) HR.out.1.tp).mono ?_
            rintro e w7 ⟨r, rfl, hr1, hr2, ht7, hf7⟩
            obtain ⟨x, rfl⟩ : ∃ c : Nat, r = (c : Int) := ⟨r.toNat, by omega⟩
            have hx : x < 256 := by omega
            have hob7 : OB 5 w5.heap.size (.slice Ab q cb) l' w7 := HR.out.2.2.fr hf7 (by have := HS5.out.tp.lt; omega)
            obtain ⟨A', c', e', -, hg⟩ := OBs.form hob7
            injection e' with e1 e2 e3
            subst e1 e3
            obtain ⟨g, rfl, hg1, hg2, hg3⟩ := hg (by rw [HR.out.2.1]; omega)
            obtain ⟨hk1, hk2⟩ := hg3 k (by rw [HR.out.2.1]; exact hkq)
            have hxw : IntKind.u8.wrap (x : Int) = (x : Int) := by rw [IntWalk.u8_in _ (by omega)]
            have HR7 := Lib.hid (And.intro (HR.out.1.next hf7 ht7) (And.intro HR.out.2.1 hob7))
            have HG := Lib.hid hg1
            clear hr1 hr2 ht7 hf7 hob7 hg3 hg1 e2
            go_wp2_with fail
            go_roundw
            case measure => simp [intOf]; omega
            case rel => exact ⟨k + 1, l'.set k (UInt8.ofNat x), by omega, by go_num, HR7.out.1.store (by have := HS.out.fr.size; have := HS5.out.fr.size; have := HG.out; omega), by rw [List.length_set]; exact HR7.out.2.1, OBs.set HR7.out.2.2 k (UInt8.ofNat x) (x : Int) (by simp [UInt8.toNat_ofNat']; omega)⟩
          · obtain rfl : k = q := by omega
            have hd3 : decide ((k : Int) < (k : Int)) = false := decide_eq_false (by omega)
            have hd3n : decide (k < k) = false := decide_eq_false (by omega)
            have HY := Lib.hid HR.out
            have hbs := OBs.reads HY.out.2.2
            obtain ⟨bs, hbe⟩ : ∃ bs, l'.map UInt8.toNat = bs := ⟨_, rfl⟩
            rw [hbe] at hbs
            have hbl : bs.length ≤ 900000 := by rw [← hbe, List.length_map, HY.out.2.1]; omega
            have hby : ∀ b ∈ bs, b < 256 := fun b hb => by rw [← hbe] at hb; obtain ⟨u, -, rfl⟩ := List.mem_map.1 hb; exact u.toNat_lt
            obtain ⟨z, hz⟩ : ∃ z, acF m bs 0 = z := ⟨_, rfl⟩
            have hA1 : ∀ d : BelT wr.heap.size wr, Calls Tryz.prog 25 #[.agg #[.slice Ae n1 ce, .slice Aa k1 ca], .slice Ab k cb] d.val fun e w' => e = .returned (.bool z) ∧ Below d.val.heap.size d.val w' := fun d => hz ▸ accepts_any _ _ m bs d.val (HY.out.1.i1 _ (HY.out.1.fr.then (d.property.mono HY.out.1.fr.size))) HM.out.1 HM.out.2.1 HM.out.2.2.1 (by have := HM.out.2.2.2; omega) (hbs.later d.property) hbl hby
            have hA2 : ∀ d : BelT wr.heap.size wr, Calls Tryz.prog 25 #[.agg #[.slice Ae2 n2 ce2, .slice Aa2 k2 ca2], .slice Ab k cb] d.val fun e w' => e = .returned (.bool z) ∧ Below d.val.heap.size d.val w' := fun d => (HAC.out bs).trans hz ▸ accepts_any _ _ m2 bs d.val (HY.out.1.i2 _ (HY.out.1.fr.then (d.property.mono HY.out.1.fr.size))) HM2.out.1 HM2.out.2.1 HM2.out.2.2.1 (by have := HM.out.2.2.2; have := HM2.out.2.2.2.1; omega) (hbs.later d.property) hbl hby
            have hcl := fun d : BelT wr.heap.size wr => (HY.out.1.later d.property).cells
            have hd0 : ∀ d : BelT wr.heap.size wr, d.val.cell? ⟨w1.heap.size, 0, none⟩ = some (.slice Ae n1 ce) := fun d => (hcl d).1.1
            have hd1 : ∀ d : BelT wr.heap.size wr, d.val.cell? ⟨w1.heap.size, 1, none⟩ = some (.slice Aa k1 ca) := fun d => (hcl d).1.2
            have he0 : ∀ d : BelT wr.heap.size wr, d.val.cell? ⟨w2.heap.size, 0, none⟩ = some (.slice Ae2 n2 ce2) := fun d => (hcl d).2.1.1
            have he1 : ∀ d : BelT wr.heap.size wr, d.val.cell? ⟨w2.heap.size, 1, none⟩ = some (.slice Aa2 k2 ca2) := fun d => (hcl d).2.1.2
            have hf0 : ∀ d : BelT wr.heap.size wr, w1.heap.size < d.val.heap.size := fun d => (hcl d).2.2.1
            have hf1 : ∀ d : BelT wr.heap.size wr, w2.heap.size < d.val.heap.size := fun d => (hcl d).2.2.2
            have HA1 := Lib.hid hA1
            have HA2 := Lib.hid hA2
            clear hbs hbe hbl hby hz hA1 hA2 hcl
            go_wp2_with fail
            refine wp_region_below (Below.refl wr.heap.size wr) (by kernel_rfl) (by kernel_rfl) ?_
            repeat (go_big_quiet_step (fail))
            go_big_quiet_step ((go_at_call 25; exact Calls.below_of (Nat.le_refl _) (HA1.out _)))
            repeat (go_big_quiet_step (fail))
            go_big_quiet_step ((go_at_call 25; exact Calls.below_of (Nat.le_refl _) (HA2.out _)))
            repeat (go_big_quiet_step (fail))
            refine wpQuiet_nil ?_
            intro w9 hw'
            have hw9 : Below wr.heap.size wr w9 := by obtain ⟨d9, rfl⟩ := hw'; exact d9.property
            have HS9 := Lib.hid (HY.out.1.later hw9)
            clear hw' hd0 hd1 he0 he1 hf0 hf1 hw9
            go_wp2_with fail
            go_roundw
            case measure => simp [intOf]; omega
            case rel => exact ⟨i + 1, by omega, by go_num, HS9⟩
      · have hd2 : decide (2 < (i : Int)) = false := decide_eq_false (by omega)
        have hd2n : decide (2 < i) = false := decide_eq_false h2
        have HY := Lib.hid (And.intro HS6.out HOB.out)
        have hbs := OBs.reads HY.out.2.2
        obtain ⟨bs, hbe⟩ : ∃ bs, l.map UInt8.toNat = bs := ⟨_, rfl⟩
        rw [hbe] at hbs
        have hbl : bs.length ≤ 900000 := by rw [← hbe, List.length_map, HY.out.2.1]; omega
        have hby : ∀ b ∈ bs, b < 256 := fun b hb => by rw [← hbe] at hb; obtain ⟨u, -, rfl⟩ := List.mem_map.1 hb; exact u.toNat_lt
        obtain ⟨z, hz⟩ : ∃ z, acF m bs 0 = z := ⟨_, rfl⟩
        have hA1 : ∀ d : BelT w6.heap.size w6, Calls Tryz.prog 25 #[.agg #[.slice Ae n1 ce, .slice Aa k1 ca], .slice Ab q cb] d.val fun e w' => e = .returned (.bool z) ∧ Below d.val.heap.size d.val w' := fun d => hz ▸ accepts_any _ _ m bs d.val (HY.out.1.i1 _ (HY.out.1.fr.then (d.property.mono HY.out.1.fr.size))) HM.out.1 HM.out.2.1 HM.out.2.2.1 (by have := HM.out.2.2.2; omega) (hbs.later d.property) hbl hby
        have hA2 : ∀ d : BelT w6.heap.size w6, Calls Tryz.prog 25 #[.agg #[.slice Ae2 n2 ce2, .slice Aa2 k2 ca2], .slice Ab q cb] d.val fun e w' => e = .returned (.bool z) ∧ Below d.val.heap.size d.val w' := fun d => (HAC.out bs).trans hz ▸ accepts_any _ _ m2 bs d.val (HY.out.1.i2 _ (HY.out.1.fr.then (d.property.mono HY.out.1.fr.size))) HM2.out.1 HM2.out.2.1 HM2.out.2.2.1 (by have := HM.out.2.2.2; have := HM2.out.2.2.2.1; omega) (hbs.later d.property) hbl hby
        have hcl := fun d : BelT w6.heap.size w6 => (HY.out.1.later d.property).cells
        have hd0 : ∀ d : BelT w6.heap.size w6, d.val.cell? ⟨w1.heap.size, 0, none⟩ = some (.slice Ae n1 ce) := fun d => (hcl d).1.1
        have hd1 : ∀ d : BelT w6.heap.size w6, d.val.cell? ⟨w1.heap.size, 1, none⟩ = some (.slice Aa k1 ca) := fun d => (hcl d).1.2
        have he0 : ∀ d : BelT w6.heap.size w6, d.val.cell? ⟨w2.heap.size, 0, none⟩ = some (.slice Ae2 n2 ce2) := fun d => (hcl d).2.1.1
        have he1 : ∀ d : BelT w6.heap.size w6, d.val.cell? ⟨w2.heap.size, 1, none⟩ = some (.slice Aa2 k2 ca2) := fun d => (hcl d).2.1.2
        have hf0 : ∀ d : BelT w6.heap.size w6, w1.heap.size < d.val.heap.size := fun d => (hcl d).2.2.1
        have hf1 : ∀ d : BelT w6.heap.size w6, w2.heap.size < d.val.heap.size := fun d => (hcl d).2.2.2
        have HA1 := Lib.hid hA1
        have HA2 := Lib.hid hA2
        clear hbs hbe hbl hby hz hA1 hA2 hcl
        go_wp2_with fail
        refine wp_region_below (Below.refl w6.heap.size w6) (by kernel_rfl) (by kernel_rfl) ?_
        repeat (go_big_quiet_step (fail))
        go_big_quiet_step ((go_at_call 25; exact Calls.below_of (Nat.le_refl _) (HA1.out _)))
        repeat (go_big_quiet_step (fail))
        go_big_quiet_step ((go_at_call 25; exact Calls.below_of (Nat.le_refl _) (HA2.out _)))
        repeat (go_big_quiet_step (fail))
        refine wpQuiet_nil ?_
        intro w9 hw'
        have hw9 : Below w6.heap.size w6 w9 := by obtain ⟨d9, rfl⟩ := hw'; exact d9.property
        have HS9 := Lib.hid (HY.out.1.later hw9)
        clear hw' hd0 hd1 he0 he1 hf0 hf1 hw9
        go_wp2_with fail
        go_roundw
        case measure => simp [intOf]; omega
        case rel => exact ⟨i + 1, by omega, by go_num, HS9⟩
    · obtain rfl : i = 5 := by omega
      have hd : decide ((5 : Int) < 5) = false := by decide
      have hdn : decide (5 < 5) = false := by decide
      have hbf : Below w.heap.size w wr := HF4.out.trans (HS.out.fr.below (Nat.le_refl _) HF4.out.size)
      have HBF := Lib.hid hbf
      clear hbf
      go_wp2_with fail
      refine (awake06 wr (HV.out.later HBF.out)).mono ?_
      rintro e w8 ⟨rfl, hb8⟩
      have HB8 := Lib.hid (HBF.out.trans (hb8.mono HBF.out.size))
      clear hb8
      go_wp2_with fail
      go_ret
      exact ⟨rfl, HB8.out⟩
end Go.Proofs.YtjhmipidmpmlmaaGreatDoor
