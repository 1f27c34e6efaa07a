/- Walk: law06.awake. · The law MachineSmall: the call returns true, for every tape. -/
import Derived.Test.YtjhmipidmpmlmaaGreatDoorY27
import Derived.Test.YtjhmipidmpmlmaaGreatDoorY20
import Derived.Lib.SmallJoins
import Derived.Test.YtjhmipidmpmlmaaGreatDoorY26
import Derived.Test.YtjhmipidmpmlmaaGreatDoorY19
import Derived.Test.YtjhmipidmpmlmaaGreatDoorY03
namespace Go.Proofs.YtjhmipidmpmlmaaGreatDoor
set_option linter.unusedVariables false
set_option linter.unusedSimpArgs false
set_option maxRecDepth 100000
open Go.RowKit
theorem awake06 (w : World) (hvr : VrOK w) : Calls Tryz.prog 11 #[] w fun e w' => e = .returned (.bool true) ∧ Below w.heap.size w w' := by
 have HVR := Lib.hid hvr;clear hvr
 go_enter Tryz.func11, Tryz.ntmps11
 go_wp2_with fail;refine (parse_AB w HVR.out).mono ?_;rintro e w1 ⟨x, rfl, hit, hb1⟩;obtain ⟨g1, v1, rfl, hg1, hg2, hg3⟩ := id hit;have H1 := Lib.hid (And.intro hit hb1);clear hit hb1 hg1 hg2 hg3;go_wp2_with fail;refine calls_named fun W1 hW1 => ?_;have hbW : Below w1.heap.size w1 W1 := by rw [hW1]; exact (Below.refl _ _).alloc (Nat.le_refl _) _
 have hbw : Below w.heap.size w W1 := H1.out.2.trans (hbW.mono H1.out.2.size);have hitW := H1.out.1.keep (KeepF.of_below (fp := []) hbW) (fun k hk => by cases hk)
 obtain ⟨vs, hvs, hnd⟩ := hitW.nd;have hcp := compile_any ndAB vs W1 hnd (HVR.out.later hbw);rw [← hvs] at hcp;have HCP := Lib.hid hcp;have HB := Lib.hid hbw;clear hW1 hbW hbw hitW hvs hnd hcp;refine HCP.out.mono ?_;rintro e w2 hpost;obtain ⟨hb2, rv, rfl, hup⟩ := cm_AB hpost;clear hpost;obtain ⟨ve, va, rfl, he, ha⟩ := id hup.mc;obtain ⟨Ae, ce, rfl, hce1, hce2⟩ := he.form;obtain ⟨Aa, ca, rfl, hca1, hca2⟩ := ha.form;have H2 := Lib.hid (And.intro hup.mc (HB.out.trans (hb2.mono HB.out.size)));have l1 : mcAB.ed.length = 3 := rfl;have l2 : mcAB.ac.length = 3 := rfl;rw [l1, l2] at H2;rw [l1, l2];have hvd : Vld mcAB := ⟨canon_AB.len, canon_AB.srt, canon_AB.to⟩;have hsm : McSm mcAB := ⟨by decide, by decide, by decide⟩
 have HA := Lib.hid fun (W : World) (vb : Value) (bs : List Nat) (h : Below w2.heap.size w2 W) (hb : ByIn W vb bs) (h1 : bs.length ≤ 900000) (h2 : ∀ b ∈ bs, b < 256) => accepts_any _ vb mcAB bs W (H2.out.1.later h) hvd hsm (by decide) (by decide) hb h1 h2
 clear hb2 hup he ha hce1 hca1 l1 l2 hvd hsm;have hcv := Go.Joins.run_convert_bytes_const_at (P := Tryz.prog) (w2.alloc (.cells #[.slice Ae 3 ce, .slice Aa 3 ca] 34)) 49 5 #[.int .u8 98, .int .u8 97] 2 2 (w2.heap.size + 1) (by simp) Tryz.underlying49 Tryz.underlying5
 go_wp2_with fail;refine calls_named fun W3 hW3 => ?_;have hbW3 : Below w2.heap.size w2 W3 := by rw [hW3]; exact ((Below.refl _ _).alloc (Nat.le_refl _) _).alloc (by simp) _
 have hbox : W3.heap[w2.heap.size]? = some (.cells #[.slice Ae 3 ce, .slice Aa 3 ca] 34 (0, 0)) := by rw [hW3, old_alloc _ _ _ (by simp)]; exact heap_alloc_new w2 _
 have hz3 : W3.heap.size = w2.heap.size + 2 := by rw [hW3]; simp
 have hby : ByIn W3 (.slice (some ⟨w2.heap.size + 1, 0, none⟩) 2 2) [98, 97] := by
  have hr : W3.heap[w2.heap.size + 1]? = some (.cells #[.int .u8 98, .int .u8 97] 5 (2, 3)) := by rw [hW3]; simpa using heap_alloc_new (w2.alloc (.cells #[.slice Ae 3 ce, .slice Aa 3 ca] 34)) (.cells #[.int .u8 98, .int .u8 97] 5 (2, 3))
  refine ⟨_, 2, rfl, by simp, .inr ⟨w2.heap.size + 1, 0, rfl, by omega, fun i hi => ?_⟩⟩
  rw [cell_of_row _ _ _ _ _ _ hr]
  match i, hi with
  | 0, _ => rfl
  | 1, _ => rfl
 have hac := HA.out W3 _ [98, 97] hbW3 hby (by decide) (by decide)
 rw [show acF mcAB [98, 97] 0 = true by decide] at hac
 have HAC := Lib.hid hac;have H3 := Lib.hid (And.intro hbW3 hbox);clear hW3 hbW3 hbox hby hac hcv;refine HAC.out.mono ?_;rintro e w4 ⟨rfl, hb4⟩;have hz4 := hb4.size;have hbox := (hb4.block w2.heap.size (by omega)).trans H3.out.2
 obtain ⟨x0, x1⟩ : w4.cell? ⟨w2.heap.size, 0, none⟩ = some (.slice Ae 3 ce) ∧ w4.cell? ⟨w2.heap.size, 1, none⟩ = some (.slice Aa 3 ca) := by
  constructor <;> (rw [cell_of_row _ _ _ _ _ _ hbox]; rfl)
 have hws : w2.heap.size < w4.heap.size := by omega
 have H4 := Lib.hid (H3.out.1.trans (hb4.mono (by omega)))
 clear hb4 hbox;have hcv := Go.Joins.run_convert_bytes_const_at (P := Tryz.prog) w4 49 5 #[.int .u8 98] 1 1 w4.heap.size rfl Tryz.underlying49 Tryz.underlying5;go_wp2_with fail;refine calls_named fun W5 hW5 => ?_;have hbW5 : Below w4.heap.size w4 W5 := by rw [hW5]; exact (Below.refl _ _).alloc (Nat.le_refl _) _
 have hby : ByIn W5 (.slice (some ⟨w4.heap.size, 0, none⟩) 1 1) [98] := by
  have hr : W5.heap[w4.heap.size]? = some (.cells #[.int .u8 98] 5 (1, 2)) := by rw [hW5]; exact heap_alloc_new w4 _
  refine ⟨_, 1, rfl, by simp, .inr ⟨w4.heap.size, 0, rfl, by rw [hW5]; simp, fun i hi => ?_⟩⟩
  rw [cell_of_row _ _ _ _ _ _ hr]
  match i, hi with
  | 0, _ => rfl
 have hb25 := H4.out.trans (hbW5.mono H4.out.size);have hac := HA.out W5 _ [98] hb25 hby (by decide) (by decide)
 rw [show acF mcAB [98] 0 = false by decide] at hac
 have HAC2 := Lib.hid hac;have H5 := Lib.hid (H2.out.2.trans (hb25.mono H2.out.2.size));clear hW5 hbW5 hby hac hb25 hcv x0 x1;refine HAC2.out.mono ?_;rintro e w6 ⟨rfl, hb6⟩;have H6 := Lib.hid (H5.out.trans (hb6.mono H5.out.size));clear hb6;go_wp2_with fail;go_ret;exact ⟨rfl, H6.out⟩
structure SmI (b : Nat) (w0 : World) (k1 k2 : Nat) (v1 v2 v3 v4 : Value) (m1 m2 : Mc) (w : World) : Prop where
 tp : TapeOK b w
 fr : Fr b w0 w
 l1 : b < k1 ∧ k1 < w0.heap.size
 l2 : b < k2 ∧ k2 < w0.heap.size
 b1 : w.heap[k1]? = some (.cells #[v1, v2] 34 (0, 0))
 b2 : w.heap[k2]? = some (.cells #[v3, v4] 34 (0, 0))
 i1 : ∀ W, Fr b w0 W → McIn W (.agg #[v1, v2]) m1
 i2 : ∀ W, Fr b w0 W → McIn W (.agg #[v3, v4]) m2
section
variable {b : Nat} {w0 w w' : World} {k1 k2 : Nat} {v1 v2 v3 v4 : Value} {m1 m2 : Mc}
end
theorem mc_form {w : World} {v : Value} {m : Mc} (h : McIn w v m) : ∃ Ae ce Aa ca, v = .agg #[.slice Ae m.ed.length ce, .slice Aa m.ac.length ca] := by
 obtain ⟨ve, va, rfl, he, ha⟩ := h;obtain ⟨Ae, ce, rfl, -⟩ := he.form;obtain ⟨Aa, ca, rfl, -⟩ := ha.form;exact ⟨Ae, ce, Aa, ca, rfl⟩
end Go.Proofs.YtjhmipidmpmlmaaGreatDoor
